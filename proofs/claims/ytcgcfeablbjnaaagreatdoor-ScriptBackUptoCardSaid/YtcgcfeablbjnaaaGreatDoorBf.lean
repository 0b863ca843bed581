/- Parts of the proof that ScriptBack returns true for every input of bulk at most 1048576. -/
import Derived.Test.YtcgcfeablbjnaaaGreatDoorBd
import Derived.Test.YtcgcfeablbjnaaaGreatDoorBa
import Derived.Deep.RegionLaw
import Derived.Lib.QuietBelow
set_option linter.unusedSimpArgs false
set_option linter.unusedVariables false
set_option maxRecDepth 100000
set_option maxHeartbeats 8000000
namespace Go.Proofs.YtcgcfeablbjnaaaGreatDoor
open Go.RowKit Go.BigFrame
def TapeK (τ : Option Addr × Nat × List Int) (w : World) (g n p : Nat) : Prop := ∃ (A : Option Addr) (c : Nat) (l : List Int), l.length = n ∧ Blk w g 150 #[.slice A n c, iv p] ∧ Rd w g A (l.map iv) ∧ τ = (A, c, l)
section
variable {τ : Option Addr × Nat × List Int}
theorem TapeK.lt {w : World} {g n p : Nat} (h : TapeK τ w g n p) : g < w.heap.size := by obtain ⟨_, _, _, _, hb, _, _⟩ := h; exact hb.lt
theorem TapeK.keep {w w' : World} {g n p : Nat} (h : TapeK τ w g n p) (hk : ∀ i, i ≤ g → w'.heap[i]? = w.heap[i]?) : TapeK τ w' g n p := by
 obtain ⟨A, c, l, h1, hb, hr, he⟩ := h
 exact ⟨A, c, l, h1, (hk g (Nat.le_refl _)).trans hb, hr.keep fun q hq => World.cell?_of_block (hk q.block (by omega)), he⟩
theorem TapeK.below {w w' : World} {g n p : Nat} (h : TapeK τ w g n p) {B : Nat} (hb : Below B w w') (hg : g < B) : TapeK τ w' g n p := h.keep fun i hi => hb.block i (by omega)
theorem TapeK.grown {w w' : World} {g n p : Nat} (h : TapeK τ w g n p) {row : Option Nat} (hg : w.grownBy w' row) (hr : ∀ k, row = some k → g < k) : TapeK τ w' g n p :=
 h.keep fun i hi => hg.block i (by have := h.lt; omega) (fun e => by have := hr i e.symm; omega)
theorem TapeK.alloc {w : World} {g n p : Nat} (h : TapeK τ w g n p) (o : Obj) : TapeK τ (w.alloc o) g n p := h.keep fun i hi => Below.heap_alloc w o i (by have := h.lt; omega)
theorem TapeK.drew {w : World} {g n p : Nat} (h : TapeK τ w g n p) : TapeK τ w.drew g n p := h
theorem TapeK.drewN {w : World} {g n p : Nat} (h : TapeK τ w g n p) (k : Nat) : TapeK τ (w.drewN k) g n p := h
theorem TapeK.set {w : World} {g n p : Nat} (h : TapeK τ w g n p) {q : Addr} (hp : g < q.block) (u : Value) : TapeK τ (w.setCell q u) g n p := h.keep fun i hi => Below.heap_setCell w q u i (by omega)
theorem TapeK.gr {w w' : World} {g n p : Nat} {S : Nat → Prop} (h : TapeK τ w g n p) (k : Gr S w w') (hS : ∀ i, S i → g < i) : TapeK τ w' g n p := h.keep fun i hi => k.block i (by have := h.lt; omega) fun hs => by have := hS i hs; omega
end
theorem knew_any (A : Option Addr) (c : Nat) (l : List Int) (w : World) (hr : Rd w w.heap.size A (l.map iv)) :
 Calls Tryz.prog 43 #[.slice A l.length c] w fun e w' => e = .returned (.pointer (some ⟨w.heap.size, 0, none⟩)) ∧ TapeK (A, c, l) w' w.heap.size l.length 0 ∧ w.grownBy w' none ∧ w'.heap.size = w.heap.size + 1 := by
 go_enter Tryz.func43, Tryz.ntmps43
 go_wp2_with fail
 go_ret
 exact ⟨rfl, ⟨A, c, l, rfl, Blk.new _ _ _, hr.alloc (Nat.le_refl _) _, rfl⟩, World.grownBy_alloc w _ _, by simp⟩
theorem tmod_emod (v n : Int) (hn : 1 ≤ n) : (v.tmod n + n) % n = v % n := by
 have h := emod_of_tmod v n hn
 have hlt := Int.tmod_lt_of_pos v (show 0 < n by omega)
 have hgt := Int.lt_tmod_of_pos v (show 0 < n by omega)
 rw [← h]
 split
 ·rw [Int.emod_eq_of_lt (by omega) (by omega)]
 ·rw [Int.add_emod_right, Int.emod_eq_of_lt (by omega) hlt]
theorem kmod_any (v n : Int) (w : World) (h1 : 1 ≤ n) (h2 : n ≤ 1000000000000) :
 Calls Tryz.prog 80 #[.int .i64 v, .int .i64 n] w fun e w' => e = .returned (.int .i64 (v % n)) ∧ w = w' := by
 have hlt := Int.tmod_lt_of_pos v (show 0 < n by omega)
 have hgt := Int.lt_tmod_of_pos v (show 0 < n by omega)
 have HE := Lib.hid (tmod_emod v n h1)
 go_enter Tryz.func80, Tryz.ntmps80
 go_wp2_with fail
 go_ret
 exact ⟨za8 (by rw [← HE.out]; rfl), rfl⟩
theorem knext_any {τ : Option Addr × Nat × List Int} (g n p : Nat) (m : Int) (w : World) (h1 : 1 ≤ m) (h2 : m ≤ 1000000000) (hp : p ≤ 100000000) (hn : n ≤ 100000000) (ht : TapeK τ w g n p) :
 Calls Tryz.prog 45 #[.pointer (some ⟨g, 0, none⟩), .int .i64 m] w fun e w' => ∃ r p' : Nat, (r : Int) < m ∧ p' ≤ p + 1 ∧ (0 < n → p' = p + 1) ∧ e = .returned (.int .i64 r) ∧ TapeK τ w' g n p' ∧ w.grownBy w' (some g) ∧ w'.heap.size = w.heap.size := by
 obtain ⟨A, c, l, hl, hb, hr, rfl⟩ := ht
 have HB := Lib.hid hb
 have HR := Lib.hid hr
 have HL := Lib.hid hl
 have c0 : w.cell? ⟨g, 0, none⟩ = some (.slice A n c) := hb.cell 0
 have c1 : w.cell? ⟨g, 1, none⟩ = some (iv p) := hb.cell 1
 have f1 := hb.free 1
 clear hb hr hl
 by_cases hn0 : n = 0
 ·subst hn0
  go_enter Tryz.func45, Tryz.ntmps45
  go_wp2_with fail
  go_ret
  exact ⟨0, p, by omega, by omega, by omega, rfl, ⟨A, c, l, HL.out, HB.out, HR.out, rfl⟩, World.grownBy.refl w _, rfl⟩
 ·have b0 : ((n : Int) == 0) = false := beq_eq_false_iff_ne.2 (by omega)
  have hpos : 1 ≤ n := by omega
  clear hn0
  have hq : p % n < l.length := by rw [HL.out]; exact Nat.mod_lt _ (by omega)
  obtain ⟨ad, hade, hadb, hc⟩ := HR.out (p % n) (iv l[p % n]) (by simp [hq])
  subst hade
  have m0 : (0 : Int) ≤ (p : Int) % (n : Int) := Int.emod_nonneg _ (by omega)
  have m1 : (p : Int) % (n : Int) < (n : Int) := Int.emod_lt_of_pos _ (by omega)
  have m2 : ((p : Int) % (n : Int)).toNat = p % n := by omega
  have m3 : p % n < n := Nat.mod_lt _ (by omega)
  have q0 : (0 : Int) ≤ (p : Int) / (n : Int) := Int.ediv_nonneg (by omega) (by omega)
  have q1 : (p : Int) / (n : Int) ≤ (p : Int) := Int.ediv_le_self _ (by omega)
  go_enter Tryz.func45, Tryz.ntmps45
  go_wp2_with fail
  go_quiet (fail)
  go_wp2_with fail
  have HB1 := Lib.hid (HB.out.drewN nq)
  have HR1 := Lib.hid (HR.out.drewN nq)
  have HG1 := Lib.hid (show w.grownBy (w.drewN nq) (some g) from grown_drewN (World.grownBy.refl w _) nq)
  have HS1 := Lib.hid (show (w.drewN nq).heap.size = w.heap.size from rfl)
  clear c0 c1 f1 hc
  generalize w.drewN nq = W1 at *
  have c0 : W1.cell? ⟨g, 0, none⟩ = some (.slice (some ad) n c) := HB1.out.cell 0
  have c1 : W1.cell? ⟨g, 1, none⟩ = some (iv p) := HB1.out.cell 1
  have f1 := HB1.out.free 1
  go_quiet (fail)
  obtain ⟨qq, hqq⟩ : ∃ qq : Int, qq = (p : Int) / (n : Int) := ⟨_, rfl⟩
  rw [← hqq] at q0 q1
  go_wp2_with fail
  try rw [← hqq]
  clear hqq
  have HB2 := Lib.hid (show Blk ((W1.drewN nq).setCell ⟨g, 1, none⟩ (.int .i64 ((p : Int) + 1))) g 150 #[.slice (some ad) n c, iv ((p + 1 : Nat) : Int)] from (HB1.out.drewN nq).put 1 _)
  have HR2 := Lib.hid (show Rd ((W1.drewN nq).setCell ⟨g, 1, none⟩ (.int .i64 ((p : Int) + 1))) g (some ad) (l.map iv) from (HR1.out.drewN nq).keep fun q hq => World.cell?_of_block (Below.heap_setCell _ _ _ _ (by show q.block ≠ g; omega)))
  have HG2 := Lib.hid (show w.grownBy ((W1.drewN nq).setCell ⟨g, 1, none⟩ (.int .i64 ((p : Int) + 1))) (some g) from only_set (grown_drewN HG1.out nq) (.inl rfl) _)
  have HS2 := Lib.hid (show ((W1.drewN nq).setCell ⟨g, 1, none⟩ (.int .i64 ((p : Int) + 1))).heap.size = w.heap.size by rw [← HS1.out]; simp [World.setCell, World.drewN])
  clear c0 c1 f1
  generalize (W1.drewN nq).setCell ⟨g, 1, none⟩ (.int .i64 ((p : Int) + 1)) = W2 at *
  refine (kmod_any _ _ _ (by omega) (by omega)).mono ?_
  rintro e w3 ⟨rfl, rfl⟩
  have v0 := Int.emod_nonneg l[p % n] (show (1073741824 : Int) ≠ 0 by omega)
  have v1 := Int.emod_lt_of_pos l[p % n] (show (0 : Int) < 1073741824 by omega)
  generalize l[p % n] % 1073741824 = vv at *
  go_wp2_with fail
  refine (kmod_any _ _ _ (by omega) (by omega)).mono ?_
  rintro e w4 ⟨rfl, rfl⟩
  obtain ⟨r, hr⟩ : ∃ r : Nat, (vv + qq * 7) % m = (r : Int) := ⟨((vv + qq * 7) % m).toNat, by have := Int.emod_nonneg (vv + qq * 7) (show m ≠ 0 by omega); omega⟩
  have hrm : (r : Int) < m := by rw [← hr]; exact Int.emod_lt_of_pos _ (by omega)
  rw [hr]
  clear hr
  go_wp2_with fail
  go_ret
  exact ⟨r, p + 1, hrm, by omega, by omega, rfl, ⟨some ad, c, l, HL.out, HB2.out, HR2.out, rfl⟩, HG2.out, HS2.out⟩
theorem krange_any {τ : Option Addr × Nat × List Int} (g n p : Nat) (lo hi : Int) (w : World) (h1 : lo ≤ hi) (h2 : -1000000 ≤ lo) (h3 : hi ≤ 1000000) (hp : p ≤ 100000000) (hn : n ≤ 100000000) (ht : TapeK τ w g n p) :
 Calls Tryz.prog 46 #[.pointer (some ⟨g, 0, none⟩), .int .i64 lo, .int .i64 hi] w fun e w' => ∃ (r : Int) (p' : Nat), lo ≤ r ∧ r ≤ hi ∧ p' ≤ p + 1 ∧ (0 < n → p' = p + 1) ∧ e = .returned (.int .i64 r) ∧ TapeK τ w' g n p' ∧ w.grownBy w' (some g) ∧ w'.heap.size = w.heap.size := by
 go_enter Tryz.func46, Tryz.ntmps46
 go_wp2_with fail
 refine (knext_any g n p _ _ (by omega) (by omega) hp hn ht).mono ?_
 rintro e w' ⟨r, p', hr, hp', hpe, rfl, ht', hg, hs⟩
 have HPE := Lib.hid hpe
 clear hpe
 go_wp2_with fail
 go_ret
 exact ⟨lo + r, p', by omega, by omega, hp', HPE.out, rfl, ht', hg, hs⟩
theorem kyes_any {τ : Option Addr × Nat × List Int} (g n p : Nat) (m : Int) (w : World) (h1 : 1 ≤ m) (h2 : m ≤ 1000000000) (hp : p ≤ 100000000) (hn : n ≤ 100000000) (ht : TapeK τ w g n p) :
 Calls Tryz.prog 47 #[.pointer (some ⟨g, 0, none⟩), .int .i64 m] w fun e w' => ∃ (b : Bool) (p' : Nat), p' ≤ p + 1 ∧ (0 < n → p' = p + 1) ∧ e = .returned (.bool b) ∧ TapeK τ w' g n p' ∧ w.grownBy w' (some g) ∧ w'.heap.size = w.heap.size := by
 go_enter Tryz.func47, Tryz.ntmps47
 go_wp2_with fail
 refine (knext_any g n p _ _ (by omega) (by omega) hp hn ht).mono ?_
 rintro e w' ⟨r, p', hr, hp', hpe, rfl, ht', hg, hs⟩
 have HPE := Lib.hid hpe
 clear hpe
 go_wp2_with fail
 go_ret
 exact ⟨_, p', hp', HPE.out, rfl, ht', hg, hs⟩
theorem kbetween_any (v lo hi : Int) (w : World) (h1 : lo ≤ hi) (h2 : -1000000 ≤ lo) (h3 : hi ≤ 1000000) :
 Calls Tryz.prog 44 #[.int .i64 v, .int .i64 lo, .int .i64 hi] w fun e w' => e = .returned (.int .i64 (lo + v % (hi - lo + 1))) ∧ w = w' := by
 go_enter Tryz.func44, Tryz.ntmps44
 go_wp2_with fail
 refine (kmod_any _ _ _ (by omega) (by omega)).mono ?_
 rintro e w4 ⟨rfl, rfl⟩
 have v0 := Int.emod_nonneg v (show hi - lo + 1 ≠ 0 by omega)
 have v1 := Int.emod_lt_of_pos v (show (0 : Int) < hi - lo + 1 by omega)
 go_wp2_with fail
 go_ret
 exact ⟨rfl, rfl⟩
end Go.Proofs.YtcgcfeablbjnaaaGreatDoor
namespace Go.Proofs.YtcgcfeablbjnaaaGreatDoor
open Go.RowKit
def CfgFresh (B : Nat) (h : CfgH) : Prop := ∀ ad : Addr, (h.az = some ad ∨ h.ac = some ad ∨ h.at_ = some ad ∨ h.av = some ad ∨ h.ar = some ad ∨ h.ao = some ad) → B ≤ ad.block
theorem rd_ownN {w : World} {A : Option Addr} {xs : List Value} {base : Nat} {e : TypeId} {m n c : Nat} (h : w.ownsRow base e m (.slice A n c) n xs) : Rd w w.heap.size A xs := by
 by_cases hn : 0 < n
 ·obtain ⟨g, rfl, hg, hc⟩ := rows_of_own h hn
  intro j u hu
  refine ⟨_, rfl, hg, ?_⟩
  rw [show (⟨g, 0, none⟩ : Addr).add j = ⟨g, j, none⟩ by cases j <;> simp [Addr.add]]
  exact hc j u hu
 ·have h0 : xs = [] := by
   have := h.1
   rw [show n = 0 by omega] at this
   exact List.eq_nil_of_length_eq_zero (by simpa using this)
  subst h0
  exact Rd.nil
structure RowD where
 e : TypeId
 s : Nat
 v : Value
 n : Nat
 xs : List Value
def Disj (a b : RowD) : Prop := ∀ g, a.v.ownBlock = some g → b.v.ownBlock ≠ some g
theorem Disj.symm {a b : RowD} (h : Disj a b) : Disj b a := fun g h1 h2 => h g h2 h1
structure OwnAll (w : World) (base : Nat) (rs : List RowD) : Prop where
 own : ∀ r ∈ rs, w.ownsRow base r.e r.s r.v r.n r.xs
 dis : rs.Pairwise Disj
section
variable {w w' : World} {base : Nat} {rs : List RowD}
theorem OwnAll.block (H : OwnAll w base rs) (h : ∀ r ∈ rs, ∀ g, r.v.ownBlock = some g → w'.heap[g]? = w.heap[g]?) : OwnAll w' base rs := ⟨fun r hr => own_block (H.own r hr) (h r hr), H.dis⟩
theorem OwnAll.alloc (H : OwnAll w base rs) (o : Obj) : OwnAll (w.alloc o) base rs := ⟨fun r hr => (H.own r hr).alloc o, H.dis⟩
theorem OwnAll.drew (H : OwnAll w base rs) : OwnAll w.drew base rs := ⟨H.own, H.dis⟩
theorem OwnAll.drewN (H : OwnAll w base rs) (k : Nat) : OwnAll (w.drewN k) base rs := ⟨H.own, H.dis⟩
theorem OwnAll.grown (H : OwnAll w base rs) {g : Nat} {t : TypeId} {cs : Array Value} (hb : Blk w g t cs) (ht : ∀ r ∈ rs, r.e ≠ t) (hg : w.grownBy w' (some g)) : OwnAll w' base rs :=
 H.block fun r hr k hk => hg.block k ((H.own r hr).lt k hk).2 (fun e => own_ne (H.own r hr) hb (by
  intro cur fz h
  injection h with _ h
  exact ht r hr h.symm) (by rw [hk, ← e]))
theorem OwnAll.set (H : OwnAll w base rs) {p : Addr} {t : TypeId} {cs : Array Value} (hb : Blk w p.block t cs) (ht : ∀ r ∈ rs, r.e ≠ t) (u : Value) : OwnAll (w.setCell p u) base rs :=
 H.block fun r hr k hk => Below.heap_setCell w p u k (by
  rintro rfl
  exact own_ne (H.own r hr) hb (by
   intro cur fz h
   injection h with _ h
   exact ht r hr h.symm) hk.symm)
theorem OwnAll.app {pre post : List RowD} {r : RowD} {v' : Value} {n' N : Nat} {xs' : List Value} (H : OwnAll w base (pre ++ r :: post)) (hg : w.grownBy w' r.v.ownBlock) (ho : w'.ownsRow base r.e r.s v' n' xs') (hat : v'.ownBlock = r.v.ownBlock ∨ v'.ownBlock = some N) (hN : w.heap.size ≤ N) :
 OwnAll w' base (pre ++ ⟨r.e, r.s, v', n', xs'⟩ :: post) := by
 have hd := H.dis
 rw [List.pairwise_append, List.pairwise_cons] at hd
 obtain ⟨d1, ⟨d2, d3⟩, d4⟩ := hd
 have hnew : ∀ x ∈ pre ++ r :: post, Disj x r → Disj x ⟨r.e, r.s, v', n', xs'⟩ := by
  intro x hx hxr g h1 h2
  rcases hat with h | h
  ·exact hxr g h1 (h.symm.trans h2)
  ·rw [h] at h2
   injection h2 with h2
   have := ((H.own x hx).lt g h1).2
   omega
 have hoth : ∀ x ∈ pre ++ r :: post, Disj x r → w'.ownsRow base x.e x.s x.v x.n x.xs := fun x hx hxr => own_block (H.own x hx) fun g h1 => hg.block g ((H.own x hx).lt g h1).2 (fun e => hxr g h1 e.symm)
 refine ⟨?_, ?_⟩
 ·intro x hx
  rcases List.mem_append.1 hx with hx | hx
  ·exact hoth x (List.mem_append_left _ hx) (d4 x hx r (by simp))
  ·rcases List.mem_cons.1 hx with rfl | hx
   ·exact ho
   ·exact hoth x (List.mem_append_right _ (List.mem_cons_of_mem _ hx)) (d2 x hx).symm
 ·rw [List.pairwise_append, List.pairwise_cons]
  refine ⟨d1, ⟨fun x hx => ?_, d3⟩, fun x hx y hy => ?_⟩
  ·exact (hnew x (List.mem_append_right _ (List.mem_cons_of_mem _ hx)) (d2 x hx).symm).symm
  ·rcases List.mem_cons.1 hy with rfl | hy
   ·exact hnew x (List.mem_append_left _ hx) (d4 x hx r (by simp))
   ·exact d4 x hx y (List.mem_cons_of_mem _ hy)
end
structure Cv6 where
 z : Value
 c : Value
 t : Value
 v : Value
 r : Value
 o : Value
def cfgRows (c : CfgD) (v : Cv6) : List RowD := [⟨113, 1, v.z, c.zones.length, c.zones.map iv⟩, ⟨115, 2, v.c, c.cells.length, c.cells.flatMap pairCells⟩, ⟨118, 7, v.t, c.tens.length, c.tens.flatMap TenD.cells⟩, ⟨120, 2, v.v, c.vers.length, c.vers.flatMap pairCells⟩, ⟨3, 1, v.r, c.reps.length, c.reps.map iv⟩, ⟨3, 1, v.o, c.obs.length, c.obs.map iv⟩]
def cfgArr (c : CfgD) (v : Cv6) : Array Value := #[iv c.regions, v.z, v.c, v.t, v.v, v.r, v.o, iv c.blast, iv c.lease, iv c.bake]
structure CfgB (w : World) (base g : Nat) (c : CfgD) (v : Cv6) : Prop where
 blk : Blk w g 36 (cfgArr c v)
 own : OwnAll w base (cfgRows c v)
theorem zbj (c : CfgD) (v : Cv6) (t : TypeId) (h : t ≠ 113 ∧ t ≠ 115 ∧ t ≠ 118 ∧ t ≠ 120 ∧ t ≠ 3) : ∀ r ∈ cfgRows c v, r.e ≠ t := by
 obtain ⟨h1, h2, h3, h4, h5⟩ := h
 intro r hr
 simp only [cfgRows, List.mem_cons, List.not_mem_nil, or_false] at hr
 rcases hr with rfl | rfl | rfl | rfl | rfl | rfl
 ·exact h1.symm
 ·exact h2.symm
 ·exact h3.symm
 ·exact h4.symm
 ·exact h5.symm
 ·exact h5.symm
section
variable {w w' : World} {base g : Nat} {c : CfgD} {v : Cv6}
theorem CfgB.alloc (H : CfgB w base g c v) (o : Obj) : CfgB (w.alloc o) base g c v := ⟨H.blk.alloc o, H.own.alloc o⟩
theorem CfgB.drew (H : CfgB w base g c v) : CfgB w.drew base g c v := ⟨H.blk, H.own.drew⟩
theorem CfgB.drewN (H : CfgB w base g c v) (k : Nat) : CfgB (w.drewN k) base g c v := ⟨H.blk, H.own.drewN k⟩
theorem CfgB.grown (H : CfgB w base g c v) {k : Nat} {t : TypeId} {cs : Array Value} (hb : Blk w k t cs) (hk : k ≠ g) (ht : t ≠ 113 ∧ t ≠ 115 ∧ t ≠ 118 ∧ t ≠ 120 ∧ t ≠ 3) (hg : w.grownBy w' (some k)) : CfgB w' base g c v :=
 ⟨H.blk.grown hg (by simp; omega), H.own.grown hb (zbj c v t ht) hg⟩
theorem CfgB.ne (H : CfgB w base g c v) {r : RowD} (hr : r ∈ cfgRows c v) : some g ≠ r.v.ownBlock := own_ne (H.own.own r hr) H.blk (by
 intro cur fz h
 injection h with _ h
 exact zbj c v 36 (by decide) r hr h.symm)
theorem CfgB.put (H : Blk w g 36 (cfgArr c v)) (HO : OwnAll w base (cfgRows c v)) : CfgB w base g c v := ⟨H, HO⟩
theorem rows_set {rs : List RowD} {cs : Array Value} (H : OwnAll w base rs) (hb : Blk w g 36 cs) (i : Nat) (u : Value) (ht : ∀ r ∈ rs, r.e ≠ 36) : OwnAll (w.setCell ⟨g, i, none⟩ u) base rs := H.set (p := ⟨g, i, none⟩) hb ht u
theorem CfgB.addZ (H : CfgB w base g c v) {x : Int} {u : Value} {N : Nat} (hg : w.grownBy w' v.z.ownBlock) (ho : w'.ownsRow base 113 1 u (c.zones.length + 1) (c.zones.map iv ++ [iv x])) (hat : u.ownBlock = v.z.ownBlock ∨ u.ownBlock = some N) (hN : w.heap.size ≤ N) :
 CfgB (w'.setCell ⟨g, 1, none⟩ u) base g { c with zones := c.zones ++ [x] } { v with z := u } := by
 have hb := H.blk.grown hg (H.ne (r := ⟨113, 1, v.z, c.zones.length, c.zones.map iv⟩) (by simp [cfgRows]))
 refine ⟨hb.put 1 u, ?_⟩
 have := OwnAll.app (pre := []) (r := ⟨113, 1, v.z, c.zones.length, c.zones.map iv⟩) H.own hg ho hat hN
 have h2 := rows_set this hb 1 u (fun r hr => zbj { c with zones := c.zones ++ [x] } { v with z := u } _ (by decide) r (by simpa [cfgRows] using hr))
 simpa [cfgRows] using h2
theorem CfgB.addC (H : CfgB w base g c v) {x : (Int × Int)} {u : Value} {N : Nat} (hg : w.grownBy w' v.c.ownBlock) (ho : w'.ownsRow base 115 2 u (c.cells.length + 1) (c.cells.flatMap pairCells ++ pairCells x)) (hat : u.ownBlock = v.c.ownBlock ∨ u.ownBlock = some N) (hN : w.heap.size ≤ N) :
 CfgB (w'.setCell ⟨g, 2, none⟩ u) base g { c with cells := c.cells ++ [x] } { v with c := u } := by
 have hb := H.blk.grown hg (H.ne (r := ⟨115, 2, v.c, c.cells.length, c.cells.flatMap pairCells⟩) (by simp [cfgRows]))
 refine ⟨hb.put 2 u, ?_⟩
 have := OwnAll.app (pre := [⟨113, 1, v.z, c.zones.length, c.zones.map iv⟩]) (r := ⟨115, 2, v.c, c.cells.length, c.cells.flatMap pairCells⟩) H.own hg ho hat hN
 have h2 := rows_set this hb 2 u (fun r hr => zbj { c with cells := c.cells ++ [x] } { v with c := u } _ (by decide) r (by simpa [cfgRows] using hr))
 simpa [cfgRows] using h2
theorem CfgB.addT (H : CfgB w base g c v) {x : TenD} {u : Value} {N : Nat} (hg : w.grownBy w' v.t.ownBlock) (ho : w'.ownsRow base 118 7 u (c.tens.length + 1) (c.tens.flatMap TenD.cells ++ x.cells)) (hat : u.ownBlock = v.t.ownBlock ∨ u.ownBlock = some N) (hN : w.heap.size ≤ N) :
 CfgB (w'.setCell ⟨g, 3, none⟩ u) base g { c with tens := c.tens ++ [x] } { v with t := u } := by
 have hb := H.blk.grown hg (H.ne (r := ⟨118, 7, v.t, c.tens.length, c.tens.flatMap TenD.cells⟩) (by simp [cfgRows]))
 refine ⟨hb.put 3 u, ?_⟩
 have := OwnAll.app (pre := [⟨113, 1, v.z, c.zones.length, c.zones.map iv⟩, ⟨115, 2, v.c, c.cells.length, c.cells.flatMap pairCells⟩]) (r := ⟨118, 7, v.t, c.tens.length, c.tens.flatMap TenD.cells⟩) H.own hg ho hat hN
 have h2 := rows_set this hb 3 u (fun r hr => zbj { c with tens := c.tens ++ [x] } { v with t := u } _ (by decide) r (by simpa [cfgRows] using hr))
 simpa [cfgRows] using h2
theorem CfgB.addR (H : CfgB w base g c v) {x : Int} {u : Value} {N : Nat} (hg : w.grownBy w' v.r.ownBlock) (ho : w'.ownsRow base 3 1 u (c.reps.length + 1) (c.reps.map iv ++ [iv x])) (hat : u.ownBlock = v.r.ownBlock ∨ u.ownBlock = some N) (hN : w.heap.size ≤ N) :
 CfgB (w'.setCell ⟨g, 5, none⟩ u) base g { c with reps := c.reps ++ [x] } { v with r := u } := by
 have hb := H.blk.grown hg (H.ne (r := ⟨3, 1, v.r, c.reps.length, c.reps.map iv⟩) (by simp [cfgRows]))
 refine ⟨hb.put 5 u, ?_⟩
 have := OwnAll.app (pre := [⟨113, 1, v.z, c.zones.length, c.zones.map iv⟩, ⟨115, 2, v.c, c.cells.length, c.cells.flatMap pairCells⟩, ⟨118, 7, v.t, c.tens.length, c.tens.flatMap TenD.cells⟩, ⟨120, 2, v.v, c.vers.length, c.vers.flatMap pairCells⟩]) (r := ⟨3, 1, v.r, c.reps.length, c.reps.map iv⟩) H.own hg ho hat hN
 have h2 := rows_set this hb 5 u (fun r hr => zbj { c with reps := c.reps ++ [x] } { v with r := u } _ (by decide) r (by simpa [cfgRows] using hr))
 simpa [cfgRows] using h2
theorem CfgB.setR (H : CfgB w base g c v) {l : List Int} {u : Value} {N : Nat} (hg : w.grownBy w' v.r.ownBlock) (ho : w'.ownsRow base 3 1 u l.length (l.map iv)) (hat : u.ownBlock = v.r.ownBlock ∨ u.ownBlock = some N) (hN : w.heap.size ≤ N) :
 CfgB (w'.setCell ⟨g, 5, none⟩ u) base g { c with reps := l } { v with r := u } := by
 have hb := H.blk.grown hg (H.ne (r := ⟨3, 1, v.r, c.reps.length, c.reps.map iv⟩) (by simp [cfgRows]))
 refine ⟨hb.put 5 u, ?_⟩
 have := OwnAll.app (pre := [⟨113, 1, v.z, c.zones.length, c.zones.map iv⟩, ⟨115, 2, v.c, c.cells.length, c.cells.flatMap pairCells⟩, ⟨118, 7, v.t, c.tens.length, c.tens.flatMap TenD.cells⟩, ⟨120, 2, v.v, c.vers.length, c.vers.flatMap pairCells⟩]) (r := ⟨3, 1, v.r, c.reps.length, c.reps.map iv⟩) H.own hg ho hat hN
 have h2 := rows_set this hb 5 u (fun r hr => zbj { c with reps := l } { v with r := u } _ (by decide) r (by simpa [cfgRows] using hr))
 simpa [cfgRows] using h2
theorem CfgB.setV (H : CfgB w base g c v) {l : List (Int × Int)} {u : Value} {N : Nat} (hg : w.grownBy w' v.v.ownBlock) (ho : w'.ownsRow base 120 2 u l.length (l.flatMap pairCells)) (hat : u.ownBlock = v.v.ownBlock ∨ u.ownBlock = some N) (hN : w.heap.size ≤ N) :
 CfgB (w'.setCell ⟨g, 4, none⟩ u) base g { c with vers := l } { v with v := u } := by
 have hb := H.blk.grown hg (H.ne (r := ⟨120, 2, v.v, c.vers.length, c.vers.flatMap pairCells⟩) (by simp [cfgRows]))
 refine ⟨hb.put 4 u, ?_⟩
 have := OwnAll.app (pre := [⟨113, 1, v.z, c.zones.length, c.zones.map iv⟩, ⟨115, 2, v.c, c.cells.length, c.cells.flatMap pairCells⟩, ⟨118, 7, v.t, c.tens.length, c.tens.flatMap TenD.cells⟩]) (r := ⟨120, 2, v.v, c.vers.length, c.vers.flatMap pairCells⟩) H.own hg ho hat hN
 have h2 := rows_set this hb 4 u (fun r hr => zbj { c with vers := l } { v with v := u } _ (by decide) r (by simpa [cfgRows] using hr))
 simpa [cfgRows] using h2
theorem CfgB.rowZ (H : CfgB w base g c v) : w.ownsRow base 113 1 v.z c.zones.length (c.zones.map iv) := H.own.own _ (List.Mem.head _)
theorem CfgB.rowC (H : CfgB w base g c v) : w.ownsRow base 115 2 v.c c.cells.length (c.cells.flatMap pairCells) := H.own.own ⟨115, 2, v.c, c.cells.length, c.cells.flatMap pairCells⟩ (by simp [cfgRows])
theorem CfgB.rowT (H : CfgB w base g c v) : w.ownsRow base 118 7 v.t c.tens.length (c.tens.flatMap TenD.cells) := H.own.own ⟨118, 7, v.t, c.tens.length, c.tens.flatMap TenD.cells⟩ (by simp [cfgRows])
theorem CfgB.rowV (H : CfgB w base g c v) : w.ownsRow base 120 2 v.v c.vers.length (c.vers.flatMap pairCells) := H.own.own ⟨120, 2, v.v, c.vers.length, c.vers.flatMap pairCells⟩ (by simp [cfgRows])
theorem CfgB.rowR (H : CfgB w base g c v) : w.ownsRow base 3 1 v.r c.reps.length (c.reps.map iv) := H.own.own ⟨3, 1, v.r, c.reps.length, c.reps.map iv⟩ (by simp [cfgRows])
theorem CfgB.rowO (H : CfgB w base g c v) : w.ownsRow base 3 1 v.o c.obs.length (c.obs.map iv) := H.own.own ⟨3, 1, v.o, c.obs.length, c.obs.map iv⟩ (by simp [cfgRows])
theorem memC (c : CfgD) (v : Cv6) : (⟨115, 2, v.c, c.cells.length, c.cells.flatMap pairCells⟩ : RowD) ∈ cfgRows c v := by simp [cfgRows]
theorem CfgB.neC (H : CfgB w base g c v) : some g ≠ v.c.ownBlock := H.ne (memC c v)
theorem memT (c : CfgD) (v : Cv6) : (⟨118, 7, v.t, c.tens.length, c.tens.flatMap TenD.cells⟩ : RowD) ∈ cfgRows c v := by simp [cfgRows]
theorem CfgB.neT (H : CfgB w base g c v) : some g ≠ v.t.ownBlock := H.ne (memT c v)
theorem memR (c : CfgD) (v : Cv6) : (⟨3, 1, v.r, c.reps.length, c.reps.map iv⟩ : RowD) ∈ cfgRows c v := by simp [cfgRows]
theorem etZone : ElemT Tryz.prog 31 113 (.agg #[.int .i64 0]) 1 8 := ElemT.mk' Tryz.underlying31 (by kernel_rfl) rfl (by decide)
theorem etCell : ElemT Tryz.prog 32 115 (.agg #[.int .i64 0, .int .i64 0]) 2 16 := ElemT.mk' Tryz.underlying32 (by kernel_rfl) rfl (by decide)
theorem etTen : ElemT Tryz.prog 33 118 (.agg #[.int .i64 0, .int .i64 0, .int .i64 0, .int .i64 0, .int .i64 0, .int .i64 0, .bool false]) 7 56 := ElemT.mk' Tryz.underlying33 (by kernel_rfl) rfl (by decide)
theorem own_baseA {w : World} {base : Nat} {e : TypeId} {size n c : Nat} {A : Option Addr} {xs : List Value} (h : w.ownsRow base e size (.slice A n c) n xs) {ad : Addr} (ha : A = some ad) : base ≤ ad.block := by
 subst ha
 exact (h.lt ad.block rfl).1
theorem CfgB.done (H : CfgB w base g c v) : ∃ h : CfgH, cfgArr c v = cfgV c h ∧ CfgAt w w.heap.size c h ∧ CfgFresh base h := by
 obtain ⟨a1, c1, e1⟩ := zas H.rowZ
 obtain ⟨a2, c2, e2⟩ := zas H.rowC
 obtain ⟨a3, c3, e3⟩ := zas H.rowT
 obtain ⟨a4, c4, e4⟩ := zas H.rowV
 obtain ⟨a5, c5, e5⟩ := zas H.rowR
 obtain ⟨a6, c6, e6⟩ := zas H.rowO
 refine ⟨⟨a1, c1, a2, c2, a3, c3, a4, c4, a5, c5, a6, c6⟩, ?_, ⟨?_, ?_, ?_, ?_, ?_, ?_⟩, fun ad had => ?_⟩
 ·simp only [cfgArr, cfgV, e1, e2, e3, e4, e5, e6]
 ·have := H.rowZ; rw [e1] at this; exact rd_ownN this
 ·have := H.rowC; rw [e2] at this; exact rd_ownN this
 ·have := H.rowT; rw [e3] at this; exact rd_ownN this
 ·have := H.rowV; rw [e4] at this; exact rd_ownN this
 ·have := H.rowR; rw [e5] at this; exact rd_ownN this
 ·have := H.rowO; rw [e6] at this; exact rd_ownN this
 ·rcases had with h | h | h | h | h | h
  ·have := H.rowZ; rw [e1] at this; exact own_baseA this h
  ·have := H.rowC; rw [e2] at this; exact own_baseA this h
  ·have := H.rowT; rw [e3] at this; exact own_baseA this h
  ·have := H.rowV; rw [e4] at this; exact own_baseA this h
  ·have := H.rowR; rw [e5] at this; exact own_baseA this h
  ·have := H.rowO; rw [e6] at this; exact own_baseA this h
end
end Go.Proofs.YtcgcfeablbjnaaaGreatDoor
namespace Go.Proofs.YtcgcfeablbjnaaaGreatDoor
open Go.RowKit Go.BigFrame
variable {τ : TapeP}
set_option maxRecDepth 100000
attribute [local go_sem ↓] Go.wp_at_zero Go.wp_at_succ
structure TenOk (regions : Int) (t : TenD) : Prop where
 load : 1 ≤ t.load ∧ t.load ≤ 65536
 shadow : 0 ≤ t.shadow ∧ t.shadow ≤ t.load
 prio : 0 ≤ t.prio ∧ t.prio ≤ 9
 lag : -1 ≤ t.lag ∧ t.lag ≤ 1000
 allowed : 1 ≤ t.allowed ∧ t.allowed < 2 ^ regions.toNat
 group : 0 ≤ t.group ∧ t.group ≤ 32
structure CfgOk (c : CfgD) : Prop where
 regions : 1 ≤ c.regions ∧ c.regions ≤ 4
 zones : 1 ≤ c.zones.length ∧ c.zones.length ≤ 8
 cells : 1 ≤ c.cells.length ∧ c.cells.length ≤ 16
 vers : 1 ≤ c.vers.length ∧ c.vers.length ≤ 30
 reps : 1 ≤ c.reps.length ∧ c.reps.length ≤ 5 ∧ c.reps.length % 2 = 1
 obs : 1 ≤ c.obs.length ∧ c.obs.length ≤ 9
 tens : c.tens.length ≤ 32
 blast : 1 ≤ c.blast ∧ c.blast ≤ 16
 lease : 1 ≤ c.lease ∧ c.lease ≤ 1000
 bake : 0 ≤ c.bake ∧ c.bake ≤ 10000
 zoneR : ∀ x ∈ c.zones, 0 ≤ x ∧ x < c.regions
 cellZ : ∀ x ∈ c.cells, (0 ≤ x.1 ∧ x.1 < c.zones.length) ∧ 1 ≤ x.2 ∧ x.2 ≤ 4194304
 repZ : ∀ x ∈ c.reps, 0 ≤ x ∧ x < c.zones.length
 obsZ : ∀ x ∈ c.obs, 0 ≤ x ∧ x < c.zones.length
 ver : ∀ x ∈ c.vers, 0 ≤ x.1 ∧ x.1 ≤ x.2 ∧ x.2 ≤ 30
 ver0 : ∀ x, c.vers[0]? = some x → x.1 = 0
 ten : ∀ x ∈ c.tens, TenOk c.regions x
structure MillCfg (c : CfgD) : Prop where
 ok : CfgOk c
 tens : 2 ≤ c.tens.length ∧ c.tens.length ≤ 8
 cell0 : ∃ x, c.cells[0]? = some x ∧ x.1 = 0
 zone0 : c.zones[0]? = some 0
 reps : c.reps.length = 3
def CfgRetF (M : CfgD → Prop) (B : Nat) (e : Ending) (w' : World) : Prop := ∃ (c : CfgD) (h : CfgH), M c ∧ e = .returned (.agg (cfgV c h)) ∧ CfgAt w' w'.heap.size c h ∧ CfgFresh B h
def CfgRet (M : CfgD → Prop) (e : Ending) (w' : World) : Prop := ∃ (c : CfgD) (h : CfgH), M c ∧ e = .returned (.agg (cfgV c h)) ∧ CfgAt w' w'.heap.size c h
structure McI (τ : TapeP) (w : World) (g g4 : Nat) (c : CfgD) (v : Cv6) (wr : World) : Prop where
 tape : TapeX τ wr g
 res : Blk wr w.heap.size 36 #[.int .i64 0, .slice none 0 0, .slice none 0 0, .slice none 0 0, .slice none 0 0, .slice none 0 0, .slice none 0 0, .int .i64 0, .int .i64 0, .int .i64 0]
 cfg : CfgB wr (w.heap.size + 1) g4 c v
 gr : Gr (fun i => i = g) w wr
 hg : g < w.heap.size
 h4 : w.heap.size < g4
theorem TapeX.gr {S : Nat → Prop} {w w' : World} {g : Nat} (h : TapeX τ w g) (k : Gr S w w') (hS : ∀ i, S i → g < i) : TapeX τ w' g := h.keep fun i hi => k.block i (by have := h.lt; omega) fun hs => by have := hS i hs; omega
section
variable {w wr wx : World} {g g4 : Nat} {c : CfgD} {v : Cv6}
theorem McI.grown (H : McI τ w g g4 c v wr) (hg : wr.grownBy wx (some g)) (ht : TapeX τ wx g) : McI τ w g g4 c v wx := by
 obtain ⟨_, _, _, _, hb, _⟩ := H.tape
 exact ⟨ht, H.res.grown hg (by have := H.hg; simp; omega), H.cfg.grown hb (by have := H.hg; have := H.h4; omega) (by decide) hg, H.gr.grown hg (fun k hk => .inl (Option.some.inj hk).symm), H.hg, H.h4⟩
theorem McI.alloc (H : McI τ w g g4 c v wr) (o : Obj) : McI τ w g g4 c v (wr.alloc o) := ⟨H.tape.alloc o, H.res.alloc o, H.cfg.alloc o, H.gr.alloc o, H.hg, H.h4⟩
theorem McI.drew (H : McI τ w g g4 c v wr) : McI τ w g g4 c v wr.drew := ⟨H.tape, H.res, H.cfg.drew, H.gr.drew, H.hg, H.h4⟩
theorem McI.drewN (H : McI τ w g g4 c v wr) (k : Nat) : McI τ w g g4 c v (wr.drewN k) := ⟨H.tape, H.res, H.cfg.drewN k, H.gr.drewN k, H.hg, H.h4⟩
theorem McI.app (H : McI τ w g g4 c v wr) {r : RowD} (hr : r ∈ cfgRows c v) {c' : CfgD} {v' : Cv6} {i : Nat} {u : Value} (hg : wr.grownBy wx r.v.ownBlock) (hc : CfgB (wx.setCell ⟨g4, i, none⟩ u) (w.heap.size + 1) g4 c' v') : McI τ w g g4 c' v' (wx.setCell ⟨g4, i, none⟩ u) := by
 have hlt : ∀ k, r.v.ownBlock = some k → w.heap.size + 1 ≤ k := fun k hk => ((H.cfg.own.own r hr).lt k hk).1
 have h1 := H.hg
 have h2 := H.h4
 exact ⟨(H.tape.grown hg (fun k hk => by have := hlt k hk; omega)).set (by show g < g4; omega) u, (H.res.grown hg (fun e => by have := hlt _ e.symm; omega)).far (by show w.heap.size ≠ g4; omega) u, hc, (H.gr.grown hg (fun k hk => .inr (by have := hlt k hk; omega))).set (.inr (by show w.heap.size ≤ g4; omega)) u, H.hg, H.h4⟩
theorem McI.cs (H : McI τ w g g4 c v wr) : wr.cell? ⟨g4, 0, none⟩ = some (iv c.regions) ∧ wr.cell? ⟨g4, 1, none⟩ = some v.z ∧ wr.cell? ⟨g4, 2, none⟩ = some v.c ∧ wr.cell? ⟨g4, 3, none⟩ = some v.t ∧ wr.cell? ⟨g4, 4, none⟩ = some v.v ∧ wr.cell? ⟨g4, 5, none⟩ = some v.r ∧ wr.cell? ⟨g4, 6, none⟩ = some v.o :=
 ⟨H.cfg.blk.cell 0, H.cfg.blk.cell 1, H.cfg.blk.cell 2, H.cfg.blk.cell 3, H.cfg.blk.cell 4, H.cfg.blk.cell 5, H.cfg.blk.cell 6⟩
theorem McI.fin (H : McI τ w g g4 c v wr) (K : Gr (fun i => i = w.heap.size) wr wx) : ∃ h : CfgH, cfgArr c v = cfgV c h ∧ (CfgAt wx wx.heap.size c h ∧ CfgFresh w.heap.size h) ∧ TapeX τ wx g ∧ Gr (fun i => i = g) w wx := by
 have h4 := H.h4
 have hB : CfgB wx (w.heap.size + 1) g4 c v := ⟨H.cfg.blk.gr K (by show g4 ≠ w.heap.size; omega), H.cfg.own.block fun r hr k hk => K.block k ((H.cfg.own.own r hr).lt k hk).2 (by
  have := ((H.cfg.own.own r hr).lt k hk).1
  show k ≠ w.heap.size
  omega)⟩
 obtain ⟨h, e, hC, hF⟩ := hB.done
 exact ⟨h, e, ⟨hC, fun ad had => Nat.le_of_succ_le (hF ad had)⟩, H.tape.gr K (by have := H.hg; rintro i rfl; exact this), H.gr.trans' K (by rintro i rfl; exact .inr (Nat.le_refl _))⟩
theorem McI.f (H : McI τ w g g4 c v wr) (i : Nat) : wr.frozen? ⟨g4, i, none⟩ = false := H.cfg.blk.free i
end
def IsGo (P : Program) (f : FuncId) : Prop := ∀ args w, (callFunc f args).run P w = .ok (.enter f args) w
theorem isGo_of {P : Program} {f : FuncId} {fn : Func} (hf : P.funcs[f]? = some fn) (hn : (fn.name == "runtime.NumGoroutine") = false) (hb : fn.body.isNone = false) : IsGo P f := fun args w => by
 simp [callFunc, go_sem, hf]
 rw [if_neg (by simpa using hn), if_neg (by cases h : fn.body <;> simp_all)]
theorem zb3 {P : Program} {f : FuncId} (hgo : IsGo P f) {ops : Array Oper} {o : Oper} {a : Act} {w : World} {K : Act → World → Prop} {Q : Exit → Act → World → Prop} {E : Prop} (hgd : o.guard = none) (xs : List Operand) (tys : Array TypeId)
 (ho : o.op = .call { callee := .value (.func f), args := xs.toArray, argTypes := tys }) (vs : Array Value) (hv : (xs.map a.eval).toArray = vs) (h : Calls P f vs w fun e w' => ∃ v, e = .returned v ∧ K (a.put o.dst v) w') :
 if Region.wanted o (yielded ops a.tmps) = true then Oper.wp P o a w K Q else E := by
 have hw : Region.wanted o (yielded ops a.tmps) = true := by simp [Region.wanted, hgd]
 rw [if_pos hw]
 subst hv
 unfold Oper.wp execOp
 have hg := hgo (xs.map a.eval).toArray w
 simp [ho, resolve, invoke, go_sem]
 rw [hg]
 simp only [Oper.upon]
 refine h.mono ?_
 rintro e w' ⟨v, rfl, hk⟩
 exact hk
theorem goMRange : IsGo Tryz.prog 36 := isGo_of Tryz.func36 (by kernel_rfl) (by kernel_rfl)
theorem goMNext : IsGo Tryz.prog 16 := isGo_of Tryz.func16 (by kernel_rfl) (by kernel_rfl)
theorem le_alloc {n : Nat} {w : World} (h : n ≤ w.heap.size) (o : Obj) : n + 1 ≤ (w.alloc o).heap.size := by simp; omega
theorem ten_cells (x : TenD) : ∀ u ∈ x.cells, u.oneCell' = true := by simp [TenD.cells, Value.oneCell']
theorem two_cells (a b : Int) : ∀ u ∈ [Value.int .i64 a, Value.int .i64 b], u.oneCell' = true := by simp [Value.oneCell']
theorem own_newN (w : World) (e : TypeId) (s n : Nat) (cs : Array Value) (base g : Nat) (hb : base ≤ w.heap.size) (hg : g = w.heap.size) (hcs : cs.size = n * s) (hn : n ≤ 1000000) : (w.alloc (.cells cs e)).ownsRow base e s (.slice (some ⟨g, 0, none⟩) n n) n cs.toList := by
 subst hg
 exact ⟨by simpa using hcs, .inr ⟨w.heap.size, n, cs, rfl, hb, Blk.new w e cs, Nat.le_refl _, by simp only [maxLen]; omega, hcs, List.take_of_length_le (by rw [Array.length_toList, hcs]; exact Nat.le_refl _)⟩⟩
def mc0 (R BL LE : Int) (BA V1 V2 : Nat) : CfgD := ⟨R, [], [], [], [(0, 2), (0, 1 + V1), (V2, 2)], [], [0], BL, LE, BA⟩
structure Mc1 (i : Nat) (Z : List Int) (C : List (Int × Int)) : Prop where
 zl : Z.length = i
 z : ∀ x ∈ Z, 0 ≤ x ∧ x < i
 z0 : 0 < i → Z[0]? = some 0
 c : ∀ x ∈ C, (0 ≤ x.1 ∧ x.1 < i) ∧ 8 ≤ x.2 ∧ x.2 ≤ 30
 cl : i ≤ C.length ∧ C.length ≤ 2 * i
 c0 : ∀ x, C[0]? = some x → x.1 = 0
theorem Mc1.zone {i : Nat} {Z : List Int} {C : List (Int × Int)} (h : Mc1 i Z C) : (Z ++ [(i : Int)]).length = i + 1 ∧ (∀ x ∈ Z ++ [(i : Int)], 0 ≤ x ∧ x < (i + 1 : Nat)) ∧ (Z ++ [(i : Int)])[0]? = some 0 := by
 refine ⟨by simp [h.zl], fun x hx => ?_, ?_⟩
 ·rcases List.mem_append.1 hx with hx | hx
  ·have := h.z x hx; omega
  ·have : x = i := by simpa using hx
   omega
 ·by_cases hi : 0 < i
  ·rw [List.getElem?_append_left (by rw [h.zl]; exact hi)]
   exact h.z0 hi
  ·have : Z = [] := List.eq_nil_of_length_eq_zero (by rw [h.zl]; omega)
   subst this
   have : i = 0 := by omega
   subst this
   rfl
theorem mill_ok {i BA V1 V2 r0 : Nat} {BL LE : Int} {Z : List Int} {C : List (Int × Int)} {T : List TenD} (hi : 2 ≤ i) (hi3 : i ≤ 3) (b0 : 1 ≤ BL) (b1 : BL ≤ 2) (l0 : 2 ≤ LE) (l1 : LE ≤ 8) (hBA : BA < 5) (h1 : V1 < 2) (h2 : V2 < 2) (hm : Mc1 i Z C) (ht : ∀ x ∈ T, TenOk i x) (t0 : 2 ≤ T.length) (t1 : T.length ≤ 8) (hr : r0 < i) :
 MillCfg { mc0 i BL LE BA V1 V2 with zones := Z, cells := C, tens := T, reps := [(r0 : Int), (i : Int) - 1, (i : Int) - 1] } := by
 have hzl := hm.zl
 have hcl := hm.cl
 refine ⟨⟨⟨?_, ?_⟩, ⟨?_, ?_⟩, ⟨?_, ?_⟩, ⟨?_, ?_⟩, ⟨?_, ?_, by simp⟩, ⟨?_, ?_⟩, ?_, ⟨?_, ?_⟩, ⟨?_, ?_⟩, ⟨?_, ?_⟩, hm.z, ?_, ?_, ?_, ?_, ?_, ht⟩, ⟨t0, t1⟩, ?_, hm.z0 (by omega), rfl⟩
 all_goals try (simp only [mc0, List.length_cons, List.length_nil]; omega)
 ·intro x hx
  have := hm.c x hx
  exact ⟨⟨this.1.1, by show x.1 < (Z.length : Int); omega⟩, by omega, by omega⟩
 ·intro x hx
  simp only [List.mem_cons, List.not_mem_nil, or_false] at hx
  show 0 ≤ x ∧ x < (Z.length : Int)
  omega
 ·intro x hx
  simp only [mc0, List.mem_cons, List.not_mem_nil, or_false] at hx
  show 0 ≤ x ∧ x < (Z.length : Int)
  omega
 ·intro x hx
  simp only [mc0, List.mem_cons, List.not_mem_nil, or_false] at hx
  rcases hx with rfl | rfl | rfl <;> simp only [] <;> omega
 ·intro x hx
  simp only [mc0, List.getElem?_cons_zero, Option.some.injEq] at hx
  subst hx
  rfl
 ·cases hC : C with
  | nil => rw [hC] at hcl; simp at hcl; omega
  | cons y l => exact ⟨y, rfl, hm.c0 y (by rw [hC]; rfl)⟩
def McT (w : World) (g g4 : Nat) (c : CfgD) (i q k : Nat) (wr : World) : Prop := ∃ (T : List TenD) (v : Cv6), T.length + k = q ∧ (∀ x ∈ T, TenOk i x) ∧ McI τ w g g4 { c with tens := T } v wr
theorem mconfig_any (g : Nat) (w : World) (ht : TapeX τ w g) :
 Calls Tryz.prog 37 #[.pointer (some ⟨g, 0, none⟩)] w fun e w' => CfgRetF MillCfg w.heap.size e w' ∧ TapeX τ w' g ∧ Gr (fun i => i = g) w w' := by
 have hgl := ht.lt
 have HT := Lib.hid ht
 clear ht
 go_enter Tryz.func37, Tryz.ntmps37
 go_wp2_with fail
 refine (zch g _ _ _ (by omega) (by omega) (by omega) (by exact HT.out.alloc _)).mono ?_
 rintro e w1 ⟨R, hR0, hR1, rfl, ht1, hg1, hs1⟩
 have HI1 := Lib.hid (show TapeX τ w1 g ∧ Blk w1 w.heap.size 36 _ ∧ Gr (fun i => i = g) w w1 from ⟨ht1, (Blk.new w _ _).grown hg1 (by simp; omega), ((Gr.refl _ w).alloc _).grown hg1 (by simp)⟩)
 have hz1 : w1.heap.size = w.heap.size + 1 := by rw [hs1]; simp
 have HZ1 := Lib.hid hz1
 clear ht1 hg1 hs1 hz1
 go_wp2_with fail
 refine (zch g _ _ _ (by omega) (by omega) (by omega) (by exact HI1.out.1)).mono ?_
 rintro e w2 ⟨BL, hB0, hB1, rfl, ht2, hg2, hs2⟩
 have HI2 := Lib.hid (show TapeX τ w2 g ∧ Blk w2 w.heap.size 36 _ ∧ Gr (fun i => i = g) w w2 from ⟨ht2, HI1.out.2.1.grown hg2 (by simp; omega), HI1.out.2.2.grown hg2 (by simp)⟩)
 have HZ2 := Lib.hid (hs2.trans HZ1.out)
 clear ht2 hg2 hs2
 go_wp2_with fail
 refine (zch g _ _ _ (by omega) (by omega) (by omega) (by exact HI2.out.1)).mono ?_
 rintro e w3 ⟨LE, hL0, hL1, rfl, ht3, hg3, hs3⟩
 have HI3 := Lib.hid (show TapeX τ w3 g ∧ Blk w3 w.heap.size 36 _ ∧ Gr (fun i => i = g) w w3 from ⟨ht3, HI2.out.2.1.grown hg3 (by simp; omega), HI2.out.2.2.grown hg3 (by simp)⟩)
 have HZ3 := Lib.hid (hs3.trans HZ2.out)
 clear ht3 hg3 hs3
 go_wp2_with fail
 refine (zdd g _ _ (by omega) (by omega) (by exact HI3.out.1)).mono ?_
 rintro e w4 ⟨BA, hBA, rfl, ht4, hg4, hs4⟩
 have HI4 := Lib.hid (show TapeX τ w4 g ∧ Blk w4 w.heap.size 36 _ ∧ Gr (fun i => i = g) w w4 from ⟨ht4, HI3.out.2.1.grown hg4 (by simp; omega), HI3.out.2.2.grown hg4 (by simp)⟩)
 have HZ4 := Lib.hid (hs4.trans HZ3.out)
 clear ht4 hg4 hs4
 go_wp2_with fail
 refine (zdd g _ _ (by omega) (by omega) (by exact HI4.out.1)).mono ?_
 rintro e w5 ⟨V1, hV1, rfl, ht5, hg5, hs5⟩
 have HI5 := Lib.hid (show TapeX τ w5 g ∧ Blk w5 w.heap.size 36 _ ∧ Gr (fun i => i = g) w w5 from ⟨ht5, HI4.out.2.1.grown hg5 (by simp; omega), HI4.out.2.2.grown hg5 (by simp)⟩)
 have HZ5 := Lib.hid (hs5.trans HZ4.out)
 clear ht5 hg5 hs5
 go_wp2_with fail
 refine (zdd g _ _ (by omega) (by omega) (by exact HI5.out.1)).mono ?_
 rintro e w6 ⟨V2, hV2, rfl, ht6, hg6, hs6⟩
 have HI6 := Lib.hid (show TapeX τ w6 g ∧ Blk w6 w.heap.size 36 _ ∧ Gr (fun i => i = g) w w6 from ⟨ht6, HI5.out.2.1.grown hg6 (by simp; omega), HI5.out.2.2.grown hg6 (by simp)⟩)
 have HZ6 := Lib.hid (hs6.trans HZ5.out)
 clear ht6 hg6 hs6
 go_wp2_with fail
 have HM := Lib.hid (show McI τ w g (w6.heap.size + 1 + 1) (mc0 R BL LE BA V1 V2) ⟨.slice none 0 0, .slice none 0 0, .slice none 0 0, .slice (some ⟨w6.heap.size, 0, none⟩) 3 3, .slice none 0 0, .slice (some ⟨w6.heap.size + 1, 0, none⟩) 1 1⟩ (((w6.alloc (.cells #[.int .i64 0, .int .i64 2, .int .i64 0, .int .i64 (1 + V1), .int .i64 V2, .int .i64 2] 120)).alloc (.cells #[.int .i64 0] 3)).alloc (.cells #[.int .i64 R, .slice none 0 0, .slice none 0 0, .slice none 0 0, .slice (some ⟨w6.heap.size, 0, none⟩) 3 3, .slice none 0 0, .slice (some ⟨w6.heap.size + 1, 0, none⟩) 1 1, .int .i64 BL, .int .i64 LE, .int .i64 BA] 36)) from by
  have hz := HZ6.out
  refine ⟨((HI6.out.1.alloc _).alloc _).alloc _, ((HI6.out.2.1.alloc _).alloc _).alloc _, ⟨Blk.newAt _ _ _ _ (by simp), ⟨?_, ?_⟩⟩, ((HI6.out.2.2.alloc _).alloc _).alloc _, hgl, by omega⟩
  ·intro r hr
   simp only [cfgRows, mc0, List.mem_cons, List.not_mem_nil, or_false] at hr
   rcases hr with rfl | rfl | rfl | rfl | rfl | rfl
   ·exact World.ownsRow_nil _ _ _ _
   ·exact World.ownsRow_nil _ _ _ _
   ·exact World.ownsRow_nil _ _ _ _
   ·exact ((own_newN w6 120 2 3 #[.int .i64 0, .int .i64 2, .int .i64 0, .int .i64 (1 + V1), .int .i64 V2, .int .i64 2] _ _ (by omega) rfl rfl (by omega)).alloc _).alloc _
   ·exact World.ownsRow_nil _ _ _ _
   ·exact (own_newN _ 3 1 1 #[.int .i64 0] _ _ (by simp; omega) (by simp) rfl (by omega)).alloc _
  ·simp [cfgRows, Disj, Value.ownBlock])
 generalize ((w6.alloc (.cells #[.int .i64 0, .int .i64 2, .int .i64 0, .int .i64 (1 + V1), .int .i64 V2, .int .i64 2] 120)).alloc (.cells #[.int .i64 0] 3)).alloc _ = W0 at *
 generalize w6.heap.size + 1 + 1 = g4 at *
 clear HI1 HI2 HI3 HI4 HI5 HI6 HZ1 HZ2 HZ3 HZ4 HZ5 HZ6
 obtain ⟨R, rfl⟩ : ∃ R' : Nat, R = R' := ⟨R.toNat, by omega⟩
 go_loopw [4] (fun s4 wr => ∃ (i : Nat) (Z : List Int) (C : List (Int × Int)) (v : Cv6), i ≤ R ∧ s4 = .int .i64 i ∧ Mc1 i Z C ∧ McI τ w g g4 { mc0 R BL LE BA V1 V2 with zones := Z, cells := C } v wr) (fun s4 _ => R - (intOf s4).toNat)
 case atStart => exact ⟨0, [], [], _, by omega, rfl, ⟨rfl, by simp, by omega, by simp, by simp, by simp⟩, HM.out⟩
 case round =>
  obtain ⟨i, Z, C, v, hi, rfl, hm1, hI⟩ := hrel
  have HM1 := Lib.hid hm1
  have HI := Lib.hid hI
  obtain ⟨k0, k1, k2, k3, k4, k5, k6⟩ := hI.cs
  have k1f := hI.f 1
  have HZL := Lib.hid hm1.zl
  have hzl : Z.length ≤ 3 := by have := hm1.zl; omega
  clear hm1 hI
  simp only [mc0] at k0
  by_cases hlt : i < R
  ·have d0 : decide (i < R) = true := decide_eq_true hlt
   go_wp2_with (at_builtin; refine zcn etZone rfl _ _ rfl (w.heap.size + 1) _ Z.length _ rfl (by exact HI.out.cfg.rowZ) #[.int .i64 i] rfl (by simp [Value.oneCell']) rfl (by omega) (by omega) (by have := HI.out.gr.size; have := HI.out.cfg.blk.lt; have := HI.out.h4; omega) ?_; intro v2 w2 hown2 hg2 hat2; obtain ⟨A2, c2, rfl⟩ := zas hown2; have HI2 := Lib.hid (HI.out.app (List.Mem.head _) hg2 (HI.out.cfg.addZ (x := (i : Int)) hg2 hown2 hat2 (Nat.le_succ _))); have j1 : w2.cell? ⟨g4, 1, none⟩ = some v.z := (HI.out.cfg.blk.grown hg2 (HI.out.cfg.ne (List.Mem.head _))).cell 1; have j1f := (HI.out.cfg.blk.grown hg2 (HI.out.cfg.ne (List.Mem.head _))).free 1; clear hown2 hg2 hat2)
   have HZN := Lib.hid HM1.out.zone
   refine (zch g _ _ _ (by omega) (by omega) (by omega) (by exact HI2.out.tape)).mono ?_
   rintro e w3 ⟨q, hq0, hq1, rfl, ht3, hg3, hs3⟩
   have HI3 := Lib.hid (HI2.out.grown hg3 ht3)
   clear ht3 hg3 hs3 j1 j1f k0 k1 k2 k3 k4 k5 k6 k1f
   obtain ⟨q, rfl⟩ : ∃ q' : Nat, q = q' := ⟨q.toNat, by omega⟩
   obtain ⟨wo, rfl⟩ : ∃ wo : World, wo = wr := ⟨_, rfl⟩
   go_wp2_with fail
   go_loopw [5] (fun s5 wr => ∃ (k : Nat) (C' : List (Int × Int)) (v : Cv6), s5 = .int .i64 k ∧ k ≤ q ∧ C'.length + k = C.length + q ∧ (∀ x ∈ C', (0 ≤ x.1 ∧ x.1 < (i + 1 : Nat)) ∧ 8 ≤ x.2 ∧ x.2 ≤ 30) ∧ (∀ x, C'[0]? = some x → x.1 = 0) ∧ McI τ w g g4 { mc0 R BL LE BA V1 V2 with zones := Z ++ [(i : Int)], cells := C' } v wr) (fun s5 _ => (intOf s5).toNat)
   case atStart => exact ⟨q, C, _, rfl, by omega, rfl, fun x hx => ⟨⟨(HM1.out.c x hx).1.1, by have := (HM1.out.c x hx).1.2; omega⟩, (HM1.out.c x hx).2⟩, HM1.out.c0, HI3.out⟩
   case round =>
    obtain ⟨k, C', v', rfl, hk2, hlen, hall, hc0, hI⟩ := hrel
    have HLEN := Lib.hid hlen
    have HALL := Lib.hid hall
    have HC0 := Lib.hid hc0
    have HI4 := Lib.hid hI
    have hc6 : C'.length ≤ 8 := by have := HM1.out.cl; omega
    obtain ⟨k0, k1, k2, k3, k4, k5, k6⟩ := hI.cs
    have k2f := hI.f 2
    clear hlen hall hc0 hI
    by_cases hk : 0 < k
    ·have d1 : decide (0 < k) = true := decide_eq_true hk
     have d1' : decide ((0 : Int) < (k : Int)) = true := decide_eq_true (by omega)
     go_wp2_with fail
     have A9 : C'.length + 1 ≤ 10000000 := by omega
     have A10 : 16 ≤ 1000 := by omega
     have tok1 : True := trivial
     go_region_law (first | (have _t := tok1; refine zb3 goMRange (by rfl) _ _ (by rfl) #[.pointer (some ⟨g, 0, none⟩), .int .i64 8, .int .i64 30] (by rfl) ((zch g 8 30 _ (by omega) (by omega) (by omega) (by exact HI4.out.tape)).mono ?_); rintro e w5 ⟨z, hz0, hz1, rfl, ht5, hg5, hs5⟩; refine ⟨_, rfl, ?_⟩; have HI5 := Lib.hid (HI4.out.drew.grown hg5 ht5); have l2 : w5.cell? ⟨g4, 2, none⟩ = some v'.c := HI5.out.cs.2.2.1; have A4 := Lib.hid (fun o => HI5.out.cfg.rowC.alloc o); have A8 : ∀ u ∈ [Value.int .i64 (i : Int), Value.int .i64 z], u.oneCell' = true := two_cells _ _; have A11 := Lib.hid (fun o => le_alloc HI5.out.gr.size o); have hl5 : g4 < w5.heap.size := HI5.out.cfg.blk.lt; clear ht5 hg5 hs5 tok1) | (refine step_app etCell rfl (.tmp 47) (.tmp 52) rfl (w.heap.size + 1) v'.c C'.length (C'.flatMap pairCells) rfl (A4.out _) ⟨w5.heap.size, 0, none⟩ 1 1 [.int .i64 i, .int .i64 z] rfl rfl (zbk w5 _ _) A8 A9 A10 (A11.out _) ?_; intro v6 w6 hown6 hg6 hat6; obtain ⟨A6, c6, rfl⟩ := zas hown6; have HB6 := Lib.hid ((HI5.out.cfg.blk.alloc _).grown hg6 HI5.out.cfg.neC); have j2 : w6.cell? ⟨g4, 2, none⟩ = some v'.c := HB6.out.cell 2; have j2f := HB6.out.free 2))
     all_goals
      have HI7 := Lib.hid ((HI5.out.alloc _).app (memC _ _) hg6 ((HI5.out.alloc _).cfg.addC (x := ((i : Int), z)) hg6 hown6 hat6 (Nat.le_refl _)))
      clear hown6 hg6 hat6 HB6 j2 j2f
      go_wp2_with fail
      go_roundw
      case rel =>
       refine ⟨k - 1, C' ++ [((i : Int), z)], _, congrArg _ (by omega), by omega, by have := HLEN.out; rw [List.length_append]; simp only [List.length_cons, List.length_nil]; omega, ?_, ?_, HI7.out⟩
       ·intro x hx
        rcases List.mem_append.1 hx with hx | hx
        ·exact HALL.out x hx
        ·obtain rfl : x = ((i : Int), z) := by simpa using hx
         exact ⟨⟨by show (0 : Int) ≤ i; omega, by show (i : Int) < (i + 1 : Nat); omega⟩, hz0, hz1⟩
       ·intro x hx
        cases hC : C' with
        | nil =>
          rw [hC] at hx
          have hC0 : C.length = 0 := by have := HLEN.out; rw [hC] at this; simp at this; have := HM1.out.cl; omega
          have hi0 : i = 0 := by have := HM1.out.cl; omega
          obtain rfl : ((i : Int), z) = x := by simpa using hx
          show (i : Int) = 0
          omega
        | cons y l =>
          rw [hC] at hx
          exact HC0.out x (by rw [hC]; simpa using hx)
      case measure => simp [intOf]; omega
    ·have d1 : decide (0 < k) = false := decide_eq_false hk
     have d1' : decide ((0 : Int) < (k : Int)) = false := decide_eq_false (by omega)
     go_wp2_with fail
     go_roundw
     case rel =>
      refine ⟨i + 1, Z ++ [(i : Int)], C', v', hlt, by go_num, ⟨HZN.out.1, HZN.out.2.1, fun _ => HZN.out.2.2, HALL.out, by have := HLEN.out; have := HM1.out.cl; omega, HC0.out⟩, HI4.out⟩
     case measure => simp [intOf]; omega
  ·have d0 : decide (i < R) = false := decide_eq_false hlt
   obtain rfl : i = R := by omega
   go_wp2_with fail
   refine (zch g _ _ _ (by omega) (by omega) (by omega) (by exact HI.out.tape)).mono ?_
   rintro e w3 ⟨q, hq0, hq1, rfl, ht3, hg3, hs3⟩
   have HI3 := Lib.hid (HI.out.grown hg3 ht3)
   clear ht3 hg3 hs3 k0 k1 k2 k3 k4 k5 k6 k1f
   obtain ⟨q, rfl⟩ : ∃ q' : Nat, q = q' := ⟨q.toNat, by omega⟩
   obtain ⟨wo, rfl⟩ : ∃ wo : World, wo = wr := ⟨_, rfl⟩
   go_wp2_with fail
   go_loopw [6] (fun s6 wr => ∃ k : Nat, s6 = .int .i64 k ∧ k ≤ q ∧ McT w g g4 { mc0 i BL LE BA V1 V2 with zones := Z, cells := C } i q k wr) (fun s6 _ => (intOf s6).toNat)
   case atStart => exact ⟨q, rfl, by omega, [], _, by simp, by simp, HI3.out⟩
   case round =>
    obtain ⟨k, rfl, hkq, T, v', hlen, hall, hI⟩ := hrel
    have HLEN := Lib.hid hlen
    have HALL := Lib.hid hall
    have HI4 := Lib.hid hI
    have hT8 : T.length ≤ 8 := by omega
    clear hlen hall hI
    by_cases hk : 0 < k
    ·have d1 : decide (0 < k) = true := decide_eq_true hk
     have d1' : decide ((0 : Int) < (k : Int)) = true := decide_eq_true (by omega)
     go_wp2_with fail
     refine (zch g _ _ _ (by omega) (by omega) (by omega) (by exact HI4.out.tape)).mono ?_
     rintro e w5 ⟨n, hn0, hn1, rfl, ht5, hg5, hs5⟩
     have HI5 := Lib.hid (HI4.out.grown hg5 ht5)
     clear ht5 hg5 hs5
     have hi23 : i = 2 ∨ i = 3 := by omega
     have s1 : IntKind.i64.wrap (n + 1) = n + 1 := IntWalk.i64_in _ (by omega)
     have A9 : T.length + 1 ≤ 10000000 := by omega
     rcases hi23 with rfl | rfl
     ·go_wp2_with fail
      refine zcs (S := fun w' => Blk w' g4 36 (cfgArr { mc0 (2 : Nat) BL LE BA V1 V2 with zones := Z, cells := C, tens := T } v')) 19 (by kernel_rfl) (tailOk (by kernel_rfl)) HI5.out.drew.cfg.blk (fun TO hHeld => ?_)
      refine zaf (i := 0) (v := ?_) TO rfl (by decide) (by decide +kernel) (by decide +kernel) (fun _ _ _ h => h) ?_ hHeld ?_
      rotate_left
      focus (first | (refine Or.inl ⟨by rfl, ?_⟩; intro w hSw; have k0 : w.cell? ⟨g4, 0, none⟩ = some (.int .i64 2) := hSw.cell 0; have k3 : w.cell? ⟨g4, 3, none⟩ = some v'.t := hSw.cell 3; clear hSw; go_simp; first | done | with_reducible rfl) | exact Or.inr ⟨by rfl, rfl⟩)
      try simp only [Act.put, List.setIfInBounds_toArray, List.set_cons_zero, List.set_cons_succ]
      refine zaf (i := 1) (v := ?_) TO rfl (by decide) (by decide +kernel) (by decide +kernel) (fun _ _ _ h => h) ?_ hHeld ?_
      rotate_left
      focus (first | (refine Or.inl ⟨by rfl, ?_⟩; intro w hSw; have k0 : w.cell? ⟨g4, 0, none⟩ = some (.int .i64 2) := hSw.cell 0; have k3 : w.cell? ⟨g4, 3, none⟩ = some v'.t := hSw.cell 3; clear hSw; go_simp; first | done | with_reducible rfl) | exact Or.inr ⟨by rfl, rfl⟩)
      try simp only [Act.put, List.setIfInBounds_toArray, List.set_cons_zero, List.set_cons_succ]
      refine zaf (i := 2) (v := ?_) TO rfl (by decide) (by decide +kernel) (by decide +kernel) (fun _ _ _ h => h) ?_ hHeld ?_
      rotate_left
      focus (first | (refine Or.inl ⟨by rfl, ?_⟩; intro w hSw; have k0 : w.cell? ⟨g4, 0, none⟩ = some (.int .i64 2) := hSw.cell 0; have k3 : w.cell? ⟨g4, 3, none⟩ = some v'.t := hSw.cell 3; clear hSw; go_simp; first | done | with_reducible rfl) | exact Or.inr ⟨by rfl, rfl⟩)
      try simp only [Act.put, List.setIfInBounds_toArray, List.set_cons_zero, List.set_cons_succ]
      refine zaf (i := 3) (v := ?_) TO rfl (by decide) (by decide +kernel) (by decide +kernel) (fun _ _ _ h => h) ?_ hHeld ?_
      rotate_left
      focus (first | (refine Or.inl ⟨by rfl, ?_⟩; intro w hSw; have k0 : w.cell? ⟨g4, 0, none⟩ = some (.int .i64 2) := hSw.cell 0; have k3 : w.cell? ⟨g4, 3, none⟩ = some v'.t := hSw.cell 3; clear hSw; go_simp; first | done | with_reducible rfl) | exact Or.inr ⟨by rfl, rfl⟩)
      try simp only [Act.put, List.setIfInBounds_toArray, List.set_cons_zero, List.set_cons_succ]
      refine zaf (i := 4) (v := ?_) TO rfl (by decide) (by decide +kernel) (by decide +kernel) (fun _ _ _ h => h) ?_ hHeld ?_
      rotate_left
      focus (first | (refine Or.inl ⟨by rfl, ?_⟩; intro w hSw; have k0 : w.cell? ⟨g4, 0, none⟩ = some (.int .i64 2) := hSw.cell 0; have k3 : w.cell? ⟨g4, 3, none⟩ = some v'.t := hSw.cell 3; clear hSw; go_simp; first | done | with_reducible rfl) | exact Or.inr ⟨by rfl, rfl⟩)
      try simp only [Act.put, List.setIfInBounds_toArray, List.set_cons_zero, List.set_cons_succ]
      refine zaf (i := 5) (v := ?_) TO rfl (by decide) (by decide +kernel) (by decide +kernel) (fun _ _ _ h => h) ?_ hHeld ?_
      rotate_left
      focus (first | (refine Or.inl ⟨by rfl, ?_⟩; intro w hSw; have k0 : w.cell? ⟨g4, 0, none⟩ = some (.int .i64 2) := hSw.cell 0; have k3 : w.cell? ⟨g4, 3, none⟩ = some v'.t := hSw.cell 3; clear hSw; go_simp; first | done | with_reducible rfl) | exact Or.inr ⟨by rfl, rfl⟩)
      try simp only [Act.put, List.setIfInBounds_toArray, List.set_cons_zero, List.set_cons_succ]
      refine zaf (i := 7) (v := ?_) TO rfl (by decide) (by decide +kernel) (by decide +kernel) (fun _ _ _ h => h) ?_ hHeld ?_
      rotate_left
      focus (first | (refine Or.inl ⟨by rfl, ?_⟩; intro w hSw; have k0 : w.cell? ⟨g4, 0, none⟩ = some (.int .i64 2) := hSw.cell 0; have k3 : w.cell? ⟨g4, 3, none⟩ = some v'.t := hSw.cell 3; clear hSw; go_simp; first | done | with_reducible rfl) | exact Or.inr ⟨by rfl, rfl⟩)
      try simp only [Act.put, List.setIfInBounds_toArray, List.set_cons_zero, List.set_cons_succ]
      refine zaf (i := 9) (v := ?_) TO rfl (by decide) (by decide +kernel) (by decide +kernel) (fun _ _ _ h => h) ?_ hHeld ?_
      rotate_left
      focus (first | (refine Or.inl ⟨by rfl, ?_⟩; intro w hSw; have k0 : w.cell? ⟨g4, 0, none⟩ = some (.int .i64 2) := hSw.cell 0; have k3 : w.cell? ⟨g4, 3, none⟩ = some v'.t := hSw.cell 3; clear hSw; go_simp; first | done | with_reducible rfl) | exact Or.inr ⟨by rfl, rfl⟩)
      try simp only [Act.put, List.setIfInBounds_toArray, List.set_cons_zero, List.set_cons_succ]
      refine zaf (i := 11) (v := ?_) TO rfl (by decide) (by decide +kernel) (by decide +kernel) (fun _ _ _ h => h) ?_ hHeld ?_
      rotate_left
      focus (first | (refine Or.inl ⟨by rfl, ?_⟩; intro w hSw; have k0 : w.cell? ⟨g4, 0, none⟩ = some (.int .i64 2) := hSw.cell 0; have k3 : w.cell? ⟨g4, 3, none⟩ = some v'.t := hSw.cell 3; clear hSw; go_simp; first | done | with_reducible rfl) | exact Or.inr ⟨by rfl, rfl⟩)
      try simp only [Act.put, List.setIfInBounds_toArray, List.set_cons_zero, List.set_cons_succ]
      refine zaf (i := 12) (v := ?_) TO rfl (by decide) (by decide +kernel) (by decide +kernel) (fun _ _ _ h => h) ?_ hHeld ?_
      rotate_left
      focus (first | (refine Or.inl ⟨by rfl, ?_⟩; intro w hSw; have k0 : w.cell? ⟨g4, 0, none⟩ = some (.int .i64 2) := hSw.cell 0; have k3 : w.cell? ⟨g4, 3, none⟩ = some v'.t := hSw.cell 3; clear hSw; go_simp; first | done | with_reducible rfl) | exact Or.inr ⟨by rfl, rfl⟩)
      try simp only [Act.put, List.setIfInBounds_toArray, List.set_cons_zero, List.set_cons_succ]
      refine zaf (i := 13) (v := ?_) TO rfl (by decide) (by decide +kernel) (by decide +kernel) (fun _ _ _ h => h) ?_ hHeld ?_
      rotate_left
      focus (first | (refine Or.inl ⟨by rfl, ?_⟩; intro w hSw; have k0 : w.cell? ⟨g4, 0, none⟩ = some (.int .i64 2) := hSw.cell 0; have k3 : w.cell? ⟨g4, 3, none⟩ = some v'.t := hSw.cell 3; clear hSw; go_simp; first | done | with_reducible rfl) | exact Or.inr ⟨by rfl, rfl⟩)
      try simp only [Act.put, List.setIfInBounds_toArray, List.set_cons_zero, List.set_cons_succ]
      refine zaf (i := 14) (v := ?_) TO rfl (by decide) (by decide +kernel) (by decide +kernel) (fun _ _ _ h => h) ?_ hHeld ?_
      rotate_left
      focus (first | (refine Or.inl ⟨by rfl, ?_⟩; intro w hSw; have k0 : w.cell? ⟨g4, 0, none⟩ = some (.int .i64 2) := hSw.cell 0; have k3 : w.cell? ⟨g4, 3, none⟩ = some v'.t := hSw.cell 3; clear hSw; go_simp; first | done | with_reducible rfl) | exact Or.inr ⟨by rfl, rfl⟩)
      try simp only [Act.put, List.setIfInBounds_toArray, List.set_cons_zero, List.set_cons_succ]
      refine zaf (i := 15) (v := ?_) TO rfl (by decide) (by decide +kernel) (by decide +kernel) (fun _ _ _ h => h) ?_ hHeld ?_
      rotate_left
      focus (first | (refine Or.inl ⟨by rfl, ?_⟩; intro w hSw; have k0 : w.cell? ⟨g4, 0, none⟩ = some (.int .i64 2) := hSw.cell 0; have k3 : w.cell? ⟨g4, 3, none⟩ = some v'.t := hSw.cell 3; clear hSw; go_simp; first | done | with_reducible rfl) | exact Or.inr ⟨by rfl, rfl⟩)
      try simp only [Act.put, List.setIfInBounds_toArray, List.set_cons_zero, List.set_cons_succ]
      refine zbg (i := 6) (by decide +kernel) rfl (by decide) (fun K hK => ?_)
      refine zb3 goMNext (by rfl) _ _ (by rfl) #[.pointer (some ⟨g, 0, none⟩), .int .i64 (n + 1)] (by rfl) ((zdd g (n + 1) _ (by omega) (by omega) HI5.out.drew.tape).mono ?_)
      rintro e w6 ⟨sh, hsh, rfl, ht, hg, hs⟩
      refine ⟨_, rfl, ?_⟩
      have HI6 := Lib.hid (HI5.out.drew.grown hg ht)
      refine hK.out _ _ (HI6.out.cfg.blk) (fun hHeld => ?_)
      clear hK K
      try simp only [Act.put, List.setIfInBounds_toArray, List.set_cons_zero, List.set_cons_succ]
      clear ht hg hs
      refine zbg (i := 8) (by decide +kernel) rfl (by decide) (fun K hK => ?_)
      refine zb3 goMNext (by rfl) _ _ (by rfl) #[.pointer (some ⟨g, 0, none⟩), .int .i64 4] (by rfl) ((zdd g 4 _ (by omega) (by omega) HI6.out.tape).mono ?_)
      rintro e w7 ⟨pr, hpr, rfl, ht, hg, hs⟩
      refine ⟨_, rfl, ?_⟩
      have HI7 := Lib.hid (HI6.out.grown hg ht)
      refine hK.out _ _ (HI7.out.cfg.blk) (fun hHeld => ?_)
      clear hK K
      try simp only [Act.put, List.setIfInBounds_toArray, List.set_cons_zero, List.set_cons_succ]
      clear ht hg hs
      refine zbg (i := 10) (by decide +kernel) rfl (by decide) (fun K hK => ?_)
      refine zb3 goMRange (by rfl) _ _ (by rfl) #[.pointer (some ⟨g, 0, none⟩), .int .i64 (-1), .int .i64 2] (by rfl) ((zch g (-1) 2 _ (by omega) (by omega) (by omega) HI7.out.tape).mono ?_)
      rintro e w8 ⟨la, hla0, hla1, rfl, ht, hg, hs⟩
      refine ⟨_, rfl, ?_⟩
      have HI8 := Lib.hid (HI7.out.grown hg ht)
      refine hK.out _ _ (HI8.out.cfg.blk) (fun hHeld => ?_)
      clear hK K
      try simp only [Act.put, List.setIfInBounds_toArray, List.set_cons_zero, List.set_cons_succ]
      clear ht hg hs
      refine zaf (i := 16) (v := ?_) TO rfl (by decide) (by decide +kernel) (by decide +kernel) (fun _ _ _ h => h) ?_ hHeld ?_
      rotate_left
      focus (first | (refine Or.inl ⟨by rfl, ?_⟩; intro wS hSw; clear hSw; go_simp; first | done | with_reducible rfl) | exact Or.inr ⟨by rfl, rfl⟩)
      try simp only [Act.put, List.setIfInBounds_toArray, List.set_cons_zero, List.set_cons_succ]
      refine zbg (i := 17) (by decide +kernel) rfl (by decide) (fun K hK => ?_)
      go_simp
      refine hK.out _ _ ((HI8.out.alloc _).cfg.blk) (fun hHeld => ?_)
      clear hK K
      try simp only [Act.put, List.setIfInBounds_toArray, List.set_cons_zero, List.set_cons_succ]
      refine zbg (i := 18) (by decide +kernel) rfl (by decide) (fun K hK => ?_)
      refine step_app etTen (by rfl) (.tmp 64) (.tmp 80) (by rfl) (w.heap.size + 1) v'.t T.length (T.flatMap TenD.cells) (by rfl) (HI8.out.alloc _).cfg.rowT ⟨w8.heap.size, 0, none⟩ 1 1 (TenD.cells ⟨n, sh, pr, la, 3, 0, false⟩) (by rfl) (by rfl) (zbk w8 _ _) (ten_cells _) A9 (by omega) (le_alloc HI8.out.gr.size _) ?_
      intro v9 w9 hown9 hg9 hat9
      obtain ⟨A9', c9, rfl⟩ := zas hown9
      refine hK.out _ _ ((HI8.out.alloc _).cfg.blk.grown hg9 HI8.out.cfg.neT) (fun hHeld => ?_)
      clear hK K
      try simp only [Act.put, List.setIfInBounds_toArray, List.set_cons_zero, List.set_cons_succ]
      have HI9 := Lib.hid ((HI8.out.alloc _).app (memT _ _) hg9 ((HI8.out.alloc _).cfg.addT (x := ⟨n, sh, pr, la, 3, 0, false⟩) hg9 hown9 hat9 (Nat.le_refl _)))
      have j3f := hHeld.free 3
      have j3 : w9.cell? ⟨g4, 3, none⟩ = some v'.t := hHeld.cell 3
      clear hown9 hg9 hat9 hHeld
      refine heldQ_tail (by kernel_rfl) (by kernel_rfl) rfl ?_
      simp only [List.drop_succ_cons, List.drop_zero]
      go_wp2_with fail
      go_roundw
      case rel =>
       refine ⟨k - 1, by omega, by omega, T ++ [⟨n, sh, pr, la, 3, 0, false⟩], _, by have := HLEN.out; rw [List.length_append]; simp only [List.length_cons, List.length_nil]; omega, ?_, HI9.out⟩
       intro x hx
       rcases List.mem_append.1 hx with hx | hx
       ·exact HALL.out x hx
       ·obtain rfl : x = ⟨n, sh, pr, la, 3, 0, false⟩ := by simpa using hx
        exact ⟨⟨by show 1 ≤ n; omega, by show n ≤ 65536; omega⟩, ⟨by show (0 : Int) ≤ sh; omega, by show (sh : Int) ≤ n; omega⟩, ⟨by show (0 : Int) ≤ pr; omega, by show (pr : Int) ≤ 9; omega⟩, ⟨hla0, by show la ≤ 1000; omega⟩, by simp, by simp⟩
      case measure => simp [intOf]; omega
     ·go_wp2_with fail
      refine zcs (S := fun w' => Blk w' g4 36 (cfgArr { mc0 (3 : Nat) BL LE BA V1 V2 with zones := Z, cells := C, tens := T } v')) 19 (by kernel_rfl) (tailOk (by kernel_rfl)) HI5.out.drew.cfg.blk (fun TO hHeld => ?_)
      refine zaf (i := 0) (v := ?_) TO rfl (by decide) (by decide +kernel) (by decide +kernel) (fun _ _ _ h => h) ?_ hHeld ?_
      rotate_left
      focus (first | (refine Or.inl ⟨by rfl, ?_⟩; intro w hSw; have k0 : w.cell? ⟨g4, 0, none⟩ = some (.int .i64 3) := hSw.cell 0; have k3 : w.cell? ⟨g4, 3, none⟩ = some v'.t := hSw.cell 3; clear hSw; go_simp; first | done | with_reducible rfl) | exact Or.inr ⟨by rfl, rfl⟩)
      try simp only [Act.put, List.setIfInBounds_toArray, List.set_cons_zero, List.set_cons_succ]
      refine zaf (i := 1) (v := ?_) TO rfl (by decide) (by decide +kernel) (by decide +kernel) (fun _ _ _ h => h) ?_ hHeld ?_
      rotate_left
      focus (first | (refine Or.inl ⟨by rfl, ?_⟩; intro w hSw; have k0 : w.cell? ⟨g4, 0, none⟩ = some (.int .i64 3) := hSw.cell 0; have k3 : w.cell? ⟨g4, 3, none⟩ = some v'.t := hSw.cell 3; clear hSw; go_simp; first | done | with_reducible rfl) | exact Or.inr ⟨by rfl, rfl⟩)
      try simp only [Act.put, List.setIfInBounds_toArray, List.set_cons_zero, List.set_cons_succ]
      refine zaf (i := 2) (v := ?_) TO rfl (by decide) (by decide +kernel) (by decide +kernel) (fun _ _ _ h => h) ?_ hHeld ?_
      rotate_left
      focus (first | (refine Or.inl ⟨by rfl, ?_⟩; intro w hSw; have k0 : w.cell? ⟨g4, 0, none⟩ = some (.int .i64 3) := hSw.cell 0; have k3 : w.cell? ⟨g4, 3, none⟩ = some v'.t := hSw.cell 3; clear hSw; go_simp; first | done | with_reducible rfl) | exact Or.inr ⟨by rfl, rfl⟩)
      try simp only [Act.put, List.setIfInBounds_toArray, List.set_cons_zero, List.set_cons_succ]
      refine zaf (i := 3) (v := ?_) TO rfl (by decide) (by decide +kernel) (by decide +kernel) (fun _ _ _ h => h) ?_ hHeld ?_
      rotate_left
      focus (first | (refine Or.inl ⟨by rfl, ?_⟩; intro w hSw; have k0 : w.cell? ⟨g4, 0, none⟩ = some (.int .i64 3) := hSw.cell 0; have k3 : w.cell? ⟨g4, 3, none⟩ = some v'.t := hSw.cell 3; clear hSw; go_simp; first | done | with_reducible rfl) | exact Or.inr ⟨by rfl, rfl⟩)
      try simp only [Act.put, List.setIfInBounds_toArray, List.set_cons_zero, List.set_cons_succ]
      refine zaf (i := 4) (v := ?_) TO rfl (by decide) (by decide +kernel) (by decide +kernel) (fun _ _ _ h => h) ?_ hHeld ?_
      rotate_left
      focus (first | (refine Or.inl ⟨by rfl, ?_⟩; intro w hSw; have k0 : w.cell? ⟨g4, 0, none⟩ = some (.int .i64 3) := hSw.cell 0; have k3 : w.cell? ⟨g4, 3, none⟩ = some v'.t := hSw.cell 3; clear hSw; go_simp; first | done | with_reducible rfl) | exact Or.inr ⟨by rfl, rfl⟩)
      try simp only [Act.put, List.setIfInBounds_toArray, List.set_cons_zero, List.set_cons_succ]
      refine zaf (i := 5) (v := ?_) TO rfl (by decide) (by decide +kernel) (by decide +kernel) (fun _ _ _ h => h) ?_ hHeld ?_
      rotate_left
      focus (first | (refine Or.inl ⟨by rfl, ?_⟩; intro w hSw; have k0 : w.cell? ⟨g4, 0, none⟩ = some (.int .i64 3) := hSw.cell 0; have k3 : w.cell? ⟨g4, 3, none⟩ = some v'.t := hSw.cell 3; clear hSw; go_simp; first | done | with_reducible rfl) | exact Or.inr ⟨by rfl, rfl⟩)
      try simp only [Act.put, List.setIfInBounds_toArray, List.set_cons_zero, List.set_cons_succ]
      refine zaf (i := 7) (v := ?_) TO rfl (by decide) (by decide +kernel) (by decide +kernel) (fun _ _ _ h => h) ?_ hHeld ?_
      rotate_left
      focus (first | (refine Or.inl ⟨by rfl, ?_⟩; intro w hSw; have k0 : w.cell? ⟨g4, 0, none⟩ = some (.int .i64 3) := hSw.cell 0; have k3 : w.cell? ⟨g4, 3, none⟩ = some v'.t := hSw.cell 3; clear hSw; go_simp; first | done | with_reducible rfl) | exact Or.inr ⟨by rfl, rfl⟩)
      try simp only [Act.put, List.setIfInBounds_toArray, List.set_cons_zero, List.set_cons_succ]
      refine zaf (i := 9) (v := ?_) TO rfl (by decide) (by decide +kernel) (by decide +kernel) (fun _ _ _ h => h) ?_ hHeld ?_
      rotate_left
      focus (first | (refine Or.inl ⟨by rfl, ?_⟩; intro w hSw; have k0 : w.cell? ⟨g4, 0, none⟩ = some (.int .i64 3) := hSw.cell 0; have k3 : w.cell? ⟨g4, 3, none⟩ = some v'.t := hSw.cell 3; clear hSw; go_simp; first | done | with_reducible rfl) | exact Or.inr ⟨by rfl, rfl⟩)
      try simp only [Act.put, List.setIfInBounds_toArray, List.set_cons_zero, List.set_cons_succ]
      refine zaf (i := 11) (v := ?_) TO rfl (by decide) (by decide +kernel) (by decide +kernel) (fun _ _ _ h => h) ?_ hHeld ?_
      rotate_left
      focus (first | (refine Or.inl ⟨by rfl, ?_⟩; intro w hSw; have k0 : w.cell? ⟨g4, 0, none⟩ = some (.int .i64 3) := hSw.cell 0; have k3 : w.cell? ⟨g4, 3, none⟩ = some v'.t := hSw.cell 3; clear hSw; go_simp; first | done | with_reducible rfl) | exact Or.inr ⟨by rfl, rfl⟩)
      try simp only [Act.put, List.setIfInBounds_toArray, List.set_cons_zero, List.set_cons_succ]
      refine zaf (i := 12) (v := ?_) TO rfl (by decide) (by decide +kernel) (by decide +kernel) (fun _ _ _ h => h) ?_ hHeld ?_
      rotate_left
      focus (first | (refine Or.inl ⟨by rfl, ?_⟩; intro w hSw; have k0 : w.cell? ⟨g4, 0, none⟩ = some (.int .i64 3) := hSw.cell 0; have k3 : w.cell? ⟨g4, 3, none⟩ = some v'.t := hSw.cell 3; clear hSw; go_simp; first | done | with_reducible rfl) | exact Or.inr ⟨by rfl, rfl⟩)
      try simp only [Act.put, List.setIfInBounds_toArray, List.set_cons_zero, List.set_cons_succ]
      refine zaf (i := 13) (v := ?_) TO rfl (by decide) (by decide +kernel) (by decide +kernel) (fun _ _ _ h => h) ?_ hHeld ?_
      rotate_left
      focus (first | (refine Or.inl ⟨by rfl, ?_⟩; intro w hSw; have k0 : w.cell? ⟨g4, 0, none⟩ = some (.int .i64 3) := hSw.cell 0; have k3 : w.cell? ⟨g4, 3, none⟩ = some v'.t := hSw.cell 3; clear hSw; go_simp; first | done | with_reducible rfl) | exact Or.inr ⟨by rfl, rfl⟩)
      try simp only [Act.put, List.setIfInBounds_toArray, List.set_cons_zero, List.set_cons_succ]
      refine zaf (i := 14) (v := ?_) TO rfl (by decide) (by decide +kernel) (by decide +kernel) (fun _ _ _ h => h) ?_ hHeld ?_
      rotate_left
      focus (first | (refine Or.inl ⟨by rfl, ?_⟩; intro w hSw; have k0 : w.cell? ⟨g4, 0, none⟩ = some (.int .i64 3) := hSw.cell 0; have k3 : w.cell? ⟨g4, 3, none⟩ = some v'.t := hSw.cell 3; clear hSw; go_simp; first | done | with_reducible rfl) | exact Or.inr ⟨by rfl, rfl⟩)
      try simp only [Act.put, List.setIfInBounds_toArray, List.set_cons_zero, List.set_cons_succ]
      refine zaf (i := 15) (v := ?_) TO rfl (by decide) (by decide +kernel) (by decide +kernel) (fun _ _ _ h => h) ?_ hHeld ?_
      rotate_left
      focus (first | (refine Or.inl ⟨by rfl, ?_⟩; intro w hSw; have k0 : w.cell? ⟨g4, 0, none⟩ = some (.int .i64 3) := hSw.cell 0; have k3 : w.cell? ⟨g4, 3, none⟩ = some v'.t := hSw.cell 3; clear hSw; go_simp; first | done | with_reducible rfl) | exact Or.inr ⟨by rfl, rfl⟩)
      try simp only [Act.put, List.setIfInBounds_toArray, List.set_cons_zero, List.set_cons_succ]
      refine zbg (i := 6) (by decide +kernel) rfl (by decide) (fun K hK => ?_)
      refine zb3 goMNext (by rfl) _ _ (by rfl) #[.pointer (some ⟨g, 0, none⟩), .int .i64 (n + 1)] (by rfl) ((zdd g (n + 1) _ (by omega) (by omega) HI5.out.drew.tape).mono ?_)
      rintro e w6 ⟨sh, hsh, rfl, ht, hg, hs⟩
      refine ⟨_, rfl, ?_⟩
      have HI6 := Lib.hid (HI5.out.drew.grown hg ht)
      refine hK.out _ _ (HI6.out.cfg.blk) (fun hHeld => ?_)
      clear hK K
      try simp only [Act.put, List.setIfInBounds_toArray, List.set_cons_zero, List.set_cons_succ]
      clear ht hg hs
      refine zbg (i := 8) (by decide +kernel) rfl (by decide) (fun K hK => ?_)
      refine zb3 goMNext (by rfl) _ _ (by rfl) #[.pointer (some ⟨g, 0, none⟩), .int .i64 4] (by rfl) ((zdd g 4 _ (by omega) (by omega) HI6.out.tape).mono ?_)
      rintro e w7 ⟨pr, hpr, rfl, ht, hg, hs⟩
      refine ⟨_, rfl, ?_⟩
      have HI7 := Lib.hid (HI6.out.grown hg ht)
      refine hK.out _ _ (HI7.out.cfg.blk) (fun hHeld => ?_)
      clear hK K
      try simp only [Act.put, List.setIfInBounds_toArray, List.set_cons_zero, List.set_cons_succ]
      clear ht hg hs
      refine zbg (i := 10) (by decide +kernel) rfl (by decide) (fun K hK => ?_)
      refine zb3 goMRange (by rfl) _ _ (by rfl) #[.pointer (some ⟨g, 0, none⟩), .int .i64 (-1), .int .i64 2] (by rfl) ((zch g (-1) 2 _ (by omega) (by omega) (by omega) HI7.out.tape).mono ?_)
      rintro e w8 ⟨la, hla0, hla1, rfl, ht, hg, hs⟩
      refine ⟨_, rfl, ?_⟩
      have HI8 := Lib.hid (HI7.out.grown hg ht)
      refine hK.out _ _ (HI8.out.cfg.blk) (fun hHeld => ?_)
      clear hK K
      try simp only [Act.put, List.setIfInBounds_toArray, List.set_cons_zero, List.set_cons_succ]
      clear ht hg hs
      refine zaf (i := 16) (v := ?_) TO rfl (by decide) (by decide +kernel) (by decide +kernel) (fun _ _ _ h => h) ?_ hHeld ?_
      rotate_left
      focus (first | (refine Or.inl ⟨by rfl, ?_⟩; intro wS hSw; clear hSw; go_simp; first | done | with_reducible rfl) | exact Or.inr ⟨by rfl, rfl⟩)
      try simp only [Act.put, List.setIfInBounds_toArray, List.set_cons_zero, List.set_cons_succ]
      refine zbg (i := 17) (by decide +kernel) rfl (by decide) (fun K hK => ?_)
      go_simp
      refine hK.out _ _ ((HI8.out.alloc _).cfg.blk) (fun hHeld => ?_)
      clear hK K
      try simp only [Act.put, List.setIfInBounds_toArray, List.set_cons_zero, List.set_cons_succ]
      refine zbg (i := 18) (by decide +kernel) rfl (by decide) (fun K hK => ?_)
      refine step_app etTen (by rfl) (.tmp 64) (.tmp 80) (by rfl) (w.heap.size + 1) v'.t T.length (T.flatMap TenD.cells) (by rfl) (HI8.out.alloc _).cfg.rowT ⟨w8.heap.size, 0, none⟩ 1 1 (TenD.cells ⟨n, sh, pr, la, 7, 0, false⟩) (by rfl) (by rfl) (zbk w8 _ _) (ten_cells _) A9 (by omega) (le_alloc HI8.out.gr.size _) ?_
      intro v9 w9 hown9 hg9 hat9
      obtain ⟨A9', c9, rfl⟩ := zas hown9
      refine hK.out _ _ ((HI8.out.alloc _).cfg.blk.grown hg9 HI8.out.cfg.neT) (fun hHeld => ?_)
      clear hK K
      try simp only [Act.put, List.setIfInBounds_toArray, List.set_cons_zero, List.set_cons_succ]
      have HI9 := Lib.hid ((HI8.out.alloc _).app (memT _ _) hg9 ((HI8.out.alloc _).cfg.addT (x := ⟨n, sh, pr, la, 7, 0, false⟩) hg9 hown9 hat9 (Nat.le_refl _)))
      have j3f := hHeld.free 3
      have j3 : w9.cell? ⟨g4, 3, none⟩ = some v'.t := hHeld.cell 3
      clear hown9 hg9 hat9 hHeld
      refine heldQ_tail (by kernel_rfl) (by kernel_rfl) rfl ?_
      simp only [List.drop_succ_cons, List.drop_zero]
      go_wp2_with fail
      go_roundw
      case rel =>
       refine ⟨k - 1, by omega, by omega, T ++ [⟨n, sh, pr, la, 7, 0, false⟩], _, by have := HLEN.out; rw [List.length_append]; simp only [List.length_cons, List.length_nil]; omega, ?_, HI9.out⟩
       intro x hx
       rcases List.mem_append.1 hx with hx | hx
       ·exact HALL.out x hx
       ·obtain rfl : x = ⟨n, sh, pr, la, 7, 0, false⟩ := by simpa using hx
        exact ⟨⟨by show 1 ≤ n; omega, by show n ≤ 65536; omega⟩, ⟨by show (0 : Int) ≤ sh; omega, by show (sh : Int) ≤ n; omega⟩, ⟨by show (0 : Int) ≤ pr; omega, by show (pr : Int) ≤ 9; omega⟩, ⟨hla0, by show la ≤ 1000; omega⟩, by simp, by simp⟩
      case measure => simp [intOf]; omega
    ·have d1 : decide (0 < k) = false := decide_eq_false hk
     have d1' : decide ((0 : Int) < (k : Int)) = false := decide_eq_false (by omega)
     obtain rfl : k = 0 := by omega
     obtain ⟨vz, vc, vt, vv, vr, vo⟩ := v'
     obtain ⟨az, kz, hz⟩ := zas HI4.out.cfg.rowZ
     obtain ⟨ac, kc, hc⟩ := zas HI4.out.cfg.rowC
     obtain ⟨at', kt, ht⟩ := zas HI4.out.cfg.rowT
     obtain ⟨av, kv, hv⟩ := zas HI4.out.cfg.rowV
     obtain ⟨ao, ko, ho⟩ := zas HI4.out.cfg.rowO
     obtain ⟨ar, kr, hr⟩ := zas HI4.out.cfg.rowR
     dsimp only at hz hc ht hv ho hr
     subst hz hc ht hv ho hr
     go_wp2_with fail
     have hiR : (i : Int) ≤ 3 := by omega
     have s2 : IntKind.i64.wrap ((i : Int) - 1) = (i : Int) - 1 := IntWalk.i64_in _ (by omega)
     refine zcs (S := fun w' => Blk w' g4 36 (cfgArr { mc0 i BL LE BA V1 V2 with zones := Z, cells := C, tens := T } _)) 11 (by kernel_rfl) (tailOk (by kernel_rfl)) HI4.out.drew.cfg.blk (fun TO hHeld => ?_)
     refine zaf (i := 0) (v := ?_) TO rfl (by decide) (by decide +kernel) (by decide +kernel) (fun _ _ _ h => h) ?_ hHeld ?_
     rotate_left
     focus (first | (refine Or.inl ⟨by rfl, ?_⟩; intro w hSw; have k0 : w.cell? ⟨g4, 0, none⟩ = some (.int .i64 i) := hSw.cell 0; clear hSw; go_simp; first | done | with_reducible rfl) | exact Or.inr ⟨by rfl, rfl⟩)
     try simp only [Act.put, List.setIfInBounds_toArray, List.set_cons_zero, List.set_cons_succ]
     refine zaf (i := 1) (v := ?_) TO rfl (by decide) (by decide +kernel) (by decide +kernel) (fun _ _ _ h => h) ?_ hHeld ?_
     rotate_left
     focus (first | (refine Or.inl ⟨by rfl, ?_⟩; intro w hSw; have k0 : w.cell? ⟨g4, 0, none⟩ = some (.int .i64 i) := hSw.cell 0; clear hSw; go_simp; first | done | with_reducible rfl) | exact Or.inr ⟨by rfl, rfl⟩)
     try simp only [Act.put, List.setIfInBounds_toArray, List.set_cons_zero, List.set_cons_succ]
     refine zaf (i := 2) (v := ?_) TO rfl (by decide) (by decide +kernel) (by decide +kernel) (fun _ _ _ h => h) ?_ hHeld ?_
     rotate_left
     focus (first | (refine Or.inl ⟨by rfl, ?_⟩; intro w hSw; have k0 : w.cell? ⟨g4, 0, none⟩ = some (.int .i64 i) := hSw.cell 0; clear hSw; go_simp; first | done | with_reducible rfl) | exact Or.inr ⟨by rfl, rfl⟩)
     try simp only [Act.put, List.setIfInBounds_toArray, List.set_cons_zero, List.set_cons_succ]
     refine zaf (i := 4) (v := ?_) TO rfl (by decide) (by decide +kernel) (by decide +kernel) (fun _ _ _ h => h) ?_ hHeld ?_
     rotate_left
     focus (first | (refine Or.inl ⟨by rfl, ?_⟩; intro w hSw; have k0 : w.cell? ⟨g4, 0, none⟩ = some (.int .i64 i) := hSw.cell 0; clear hSw; go_simp; first | done | with_reducible rfl) | exact Or.inr ⟨by rfl, rfl⟩)
     try simp only [Act.put, List.setIfInBounds_toArray, List.set_cons_zero, List.set_cons_succ]
     refine zaf (i := 5) (v := ?_) TO rfl (by decide) (by decide +kernel) (by decide +kernel) (fun _ _ _ h => h) ?_ hHeld ?_
     rotate_left
     focus (first | (refine Or.inl ⟨by rfl, ?_⟩; intro w hSw; have k0 : w.cell? ⟨g4, 0, none⟩ = some (.int .i64 i) := hSw.cell 0; clear hSw; go_simp; first | done | with_reducible rfl) | exact Or.inr ⟨by rfl, rfl⟩)
     try simp only [Act.put, List.setIfInBounds_toArray, List.set_cons_zero, List.set_cons_succ]
     refine zaf (i := 6) (v := ?_) TO rfl (by decide) (by decide +kernel) (by decide +kernel) (fun _ _ _ h => h) ?_ hHeld ?_
     rotate_left
     focus (first | (refine Or.inl ⟨by rfl, ?_⟩; intro w hSw; have k0 : w.cell? ⟨g4, 0, none⟩ = some (.int .i64 i) := hSw.cell 0; clear hSw; go_simp; first | done | with_reducible rfl) | exact Or.inr ⟨by rfl, rfl⟩)
     try simp only [Act.put, List.setIfInBounds_toArray, List.set_cons_zero, List.set_cons_succ]
     refine zaf (i := 7) (v := ?_) TO rfl (by decide) (by decide +kernel) (by decide +kernel) (fun _ _ _ h => h) ?_ hHeld ?_
     rotate_left
     focus (first | (refine Or.inl ⟨by rfl, ?_⟩; intro w hSw; have k0 : w.cell? ⟨g4, 0, none⟩ = some (.int .i64 i) := hSw.cell 0; clear hSw; go_simp; first | done | with_reducible rfl) | exact Or.inr ⟨by rfl, rfl⟩)
     try simp only [Act.put, List.setIfInBounds_toArray, List.set_cons_zero, List.set_cons_succ]
     refine zaf (i := 8) (v := ?_) TO rfl (by decide) (by decide +kernel) (by decide +kernel) (fun _ _ _ h => h) ?_ hHeld ?_
     rotate_left
     focus (first | (refine Or.inl ⟨by rfl, ?_⟩; intro w hSw; have k0 : w.cell? ⟨g4, 0, none⟩ = some (.int .i64 i) := hSw.cell 0; clear hSw; go_simp; first | done | with_reducible rfl) | exact Or.inr ⟨by rfl, rfl⟩)
     try simp only [Act.put, List.setIfInBounds_toArray, List.set_cons_zero, List.set_cons_succ]
     refine zaf (i := 9) (v := ?_) TO rfl (by decide) (by decide +kernel) (by decide +kernel) (fun _ _ _ h => h) ?_ hHeld ?_
     rotate_left
     focus (first | (refine Or.inl ⟨by rfl, ?_⟩; intro w hSw; have k0 : w.cell? ⟨g4, 0, none⟩ = some (.int .i64 i) := hSw.cell 0; clear hSw; go_simp; first | done | with_reducible rfl) | exact Or.inr ⟨by rfl, rfl⟩)
     try simp only [Act.put, List.setIfInBounds_toArray, List.set_cons_zero, List.set_cons_succ]
     refine zbg (i := 3) (by decide +kernel) rfl (by decide) (fun K hK => ?_)
     refine zb3 goMNext (by rfl) _ _ (by rfl) #[.pointer (some ⟨g, 0, none⟩), .int .i64 i] (by rfl) ((zdd g i _ (by omega) (by omega) HI4.out.drew.tape).mono ?_)
     rintro e w6 ⟨r0, hr0, rfl, ht, hg, hs⟩
     refine ⟨_, rfl, ?_⟩
     have HI6 := Lib.hid (HI4.out.drew.grown hg ht)
     refine hK.out _ _ (HI6.out.cfg.blk) (fun hHeld => ?_)
     clear hK K
     try simp only [Act.put, List.setIfInBounds_toArray, List.set_cons_zero, List.set_cons_succ]
     clear ht hg hs
     refine zbg (i := 10) (by decide +kernel) rfl (by decide) (fun K hK => ?_)
     go_simp
     refine hK.out _ _ ((HI6.out.alloc _).cfg.blk) (fun hHeld => ?_)
     clear hK K
     try simp only [Act.put, List.setIfInBounds_toArray, List.set_cons_zero, List.set_cons_succ]
     have hz6 : w.heap.size + 1 ≤ w6.heap.size := by have := HI6.out.gr.size; have := HI6.out.cfg.blk.lt; have := HI6.out.h4; omega
     have HI7 := Lib.hid (HI6.out.app (memR _ _) (World.grownBy_alloc w6 (.cells #[.int .i64 r0, .int .i64 ((i : Int) - 1), .int .i64 ((i : Int) - 1)] 3) _) (HI6.out.cfg.setR (l := [(r0 : Int), (i : Int) - 1, (i : Int) - 1]) (World.grownBy_alloc w6 _ _) (own_newN w6 3 1 3 #[.int .i64 r0, .int .i64 ((i : Int) - 1), .int .i64 ((i : Int) - 1)] (w.heap.size + 1) w6.heap.size hz6 rfl rfl (by omega)) (.inr rfl) (Nat.le_refl _)))
     have j5f := hHeld.free 5
     have j5 : (w6.alloc (.cells #[.int .i64 r0, .int .i64 ((i : Int) - 1), .int .i64 ((i : Int) - 1)] 3)).cell? ⟨g4, 5, none⟩ = some (.slice ar 0 kr) := hHeld.cell 5
     clear hHeld
     refine heldQ_tail (by kernel_rfl) (by kernel_rfl) rfl ?_
     simp only [List.drop_succ_cons, List.drop_zero]
     go_upto_region 16 with (fail)
     clear j5 j5f
     generalize (w6.alloc (.cells #[.int .i64 r0, .int .i64 ((i : Int) - 1), .int .i64 ((i : Int) - 1)] 3)).setCell ⟨g4, 5, none⟩ (.slice (some ⟨w6.heap.size, 0, none⟩) 3 3) = W7 at *
     have c0 : W7.cell? ⟨g4, 0, none⟩ = some (.int .i64 i) := HI7.out.cfg.blk.cell 0
     have c1 : W7.cell? ⟨g4, 1, none⟩ = some (.slice az Z.length kz) := HI7.out.cfg.blk.cell 1
     have c2 : W7.cell? ⟨g4, 2, none⟩ = some (.slice ac C.length kc) := HI7.out.cfg.blk.cell 2
     have c3 : W7.cell? ⟨g4, 3, none⟩ = some (.slice at' T.length kt) := HI7.out.cfg.blk.cell 3
     have c4 : W7.cell? ⟨g4, 4, none⟩ = some (.slice av 3 kv) := HI7.out.cfg.blk.cell 4
     have c5 : W7.cell? ⟨g4, 5, none⟩ = some (.slice (some ⟨w6.heap.size, 0, none⟩) 3 3) := HI7.out.cfg.blk.cell 5
     have c6 : W7.cell? ⟨g4, 6, none⟩ = some (.slice ao 1 ko) := HI7.out.cfg.blk.cell 6
     have c7 : W7.cell? ⟨g4, 7, none⟩ = some (.int .i64 BL) := HI7.out.cfg.blk.cell 7
     have c8 : W7.cell? ⟨g4, 8, none⟩ = some (.int .i64 LE) := HI7.out.cfg.blk.cell 8
     have c9 : W7.cell? ⟨g4, 9, none⟩ = some (.int .i64 BA) := HI7.out.cfg.blk.cell 9
     have rr0 : W7.cell? ⟨w.heap.size, 0, none⟩ = some (.int .i64 0) := HI7.out.res.cell 0
     have f0 := HI7.out.res.free 0
     have r1 : W7.cell? ⟨w.heap.size, 1, none⟩ = some (.slice none 0 0) := HI7.out.res.cell 1
     have f1 := HI7.out.res.free 1
     have r2 : W7.cell? ⟨w.heap.size, 2, none⟩ = some (.slice none 0 0) := HI7.out.res.cell 2
     have f2 := HI7.out.res.free 2
     have r3 : W7.cell? ⟨w.heap.size, 3, none⟩ = some (.slice none 0 0) := HI7.out.res.cell 3
     have f3 := HI7.out.res.free 3
     have r4 : W7.cell? ⟨w.heap.size, 4, none⟩ = some (.slice none 0 0) := HI7.out.res.cell 4
     have f4 := HI7.out.res.free 4
     have r5 : W7.cell? ⟨w.heap.size, 5, none⟩ = some (.slice none 0 0) := HI7.out.res.cell 5
     have f5 := HI7.out.res.free 5
     have r6 : W7.cell? ⟨w.heap.size, 6, none⟩ = some (.slice none 0 0) := HI7.out.res.cell 6
     have f6 := HI7.out.res.free 6
     have r7 : W7.cell? ⟨w.heap.size, 7, none⟩ = some (.int .i64 0) := HI7.out.res.cell 7
     have f7 := HI7.out.res.free 7
     have r8 : W7.cell? ⟨w.heap.size, 8, none⟩ = some (.int .i64 0) := HI7.out.res.cell 8
     have f8 := HI7.out.res.free 8
     have r9 : W7.cell? ⟨w.heap.size, 9, none⟩ = some (.int .i64 0) := HI7.out.res.cell 9
     have f9 := HI7.out.res.free 9
     go_wp2_with fail
     have HK := Lib.hid (((((((((((Gr.refl (fun i => i = w.heap.size) W7).set (p := ⟨w.heap.size, 0, none⟩) (.inl rfl) (.int .i64 i)).set (p := ⟨w.heap.size, 1, none⟩) (.inl rfl) (.slice az Z.length kz)).set (p := ⟨w.heap.size, 2, none⟩) (.inl rfl) (.slice ac C.length kc)).set (p := ⟨w.heap.size, 3, none⟩) (.inl rfl) (.slice at' T.length kt)).set (p := ⟨w.heap.size, 4, none⟩) (.inl rfl) (.slice av 3 kv)).set (p := ⟨w.heap.size, 5, none⟩) (.inl rfl) (.slice (some ⟨w6.heap.size, 0, none⟩) 3 3)).set (p := ⟨w.heap.size, 6, none⟩) (.inl rfl) (.slice ao 1 ko)).set (p := ⟨w.heap.size, 7, none⟩) (.inl rfl) (.int .i64 BL)).set (p := ⟨w.heap.size, 8, none⟩) (.inl rfl) (.int .i64 LE)).set (p := ⟨w.heap.size, 9, none⟩) (.inl rfl) (.int .i64 BA))
     obtain ⟨h, hE, hC, hT, hG⟩ := HI7.out.fin HK.out
     refine bodyPost_ret (v := .agg #[.int .i64 i, .slice az Z.length kz, .slice ac C.length kc, .slice at' T.length kt, .slice av 3 kv, .slice (some ⟨w6.heap.size, 0, none⟩) 3 3, .slice ao 1 ko, .int .i64 BL, .int .i64 LE, .int .i64 BA]) (by simp [results, Tryz.results37, go_sem, *]) rfl ⟨⟨_, h, ?_, congrArg (fun a => Ending.returned (.agg a)) hE, hC⟩, hT, hG⟩
     exact mill_ok (by omega) (by omega) hB0 hB1 hL0 hL1 (by omega) (by omega) (by omega) HM1.out HALL.out (by have := HLEN.out; omega) (by have := HLEN.out; omega) (by omega)
end Go.Proofs.YtcgcfeablbjnaaaGreatDoor
namespace Go.Proofs.YtcgcfeablbjnaaaGreatDoor
open Go.RowKit
def inB (n lo hi : Int) : Bool := decide (lo ≤ n) && decide (n ≤ hi)
theorem inB_iff {n lo hi : Int} : inB n lo hi = true ↔ lo ≤ n ∧ n ≤ hi := by simp [inB]
def uT (k : Int) : Bool := inB k 1 8
def uC (k : Int) : Bool := inB k 1 2 || inB k 5 6 || inB k 9 11
def uC' (k : Int) : Bool := inB k 4 4
def uO (k : Int) : Bool := inB k 1 1
def uR (k : Int) : Bool := inB k 13 13
def uE (k : Int) : Bool := inB k 2 3
def uW (k : Int) : Bool := inB k 2 2
def uV (k : Int) : Bool := inB k 2 2 || inB k 10 12
def uB (k : Int) : Bool := inB k 8 8 || inB k 13 13
def uM (k : Int) : Bool := inB k 9 9
def uN (k : Int) : Bool := inB k 16 16
def placesD (e : EnD) (tn cn rn : Int) : Bool :=
 (uT e.kind == (e.tenant != -1)) && (!uT e.kind || inB e.tenant 0 (tn - 1)) &&
 (!uC e.kind || inB e.cell 0 (cn - 1)) && (!uC' e.kind || inB e.cell (-1) (cn - 1)) && (uC e.kind || uC' e.kind || e.cell == -1) &&
 (!uO e.kind || (inB e.other (-1) (cn - 1) && e.other != e.cell)) && (!uR e.kind || inB e.other 0 (rn - 1)) && (uO e.kind || uR e.kind || e.other == -1)
def numbersD (e : EnD) (vn : Int) : Bool :=
 (if uE e.kind then inB e.epoch 1 1048576 else e.epoch == 0) &&
 (if uW e.kind then inB e.lo 0 1073741824 && inB e.hi 0 1073741824 else (e.lo == 0 && e.hi == 0)) &&
 (if uV e.kind then inB e.n 0 (vn - 1) else if uB e.kind then inB e.n 0 1 else if uM e.kind then inB e.n 1 3 else if uN e.kind then inB e.n 0 1073741824 else e.n == 0)
def rightD (e : EnD) (tn cn rn vn : Int) : Bool := inB e.kind 1 16 && inB e.tick 0 1073741824 && placesD e tn cn rn && numbersD e vn
def validE (c : CfgD) (e : EnD) : Bool := rightD e (min c.tens.length 32) (min c.cells.length 16) (min c.regions 4) (min c.vers.length 30)
def CfgD.mayB (c : CfgD) (t k : Int) : Bool := decide (0 ≤ t) && decide (t < c.tens.length) && hasB ((c.tens[t.toNat]?).map TenD.allowed |>.getD 0) (c.regionOf k)
def CfgD.apartB (c : CfgD) (a b : Int) : Bool := decide (0 ≤ c.regionOf a) && decide (0 ≤ c.regionOf b) && (c.regionOf a != c.regionOf b)
def togB (c : CfgD) (a b : Int) : Bool := decide (0 ≤ a) && decide (0 ≤ b) && !c.apartB a b
instance : Inhabited WinD := ⟨⟨0, 0, 0, 0, 0⟩⟩
instance : Inhabited TsD := ⟨⟨false, false, 0, 0, 0, 0, 0, default⟩⟩
instance : Inhabited CsD := ⟨⟨0, 0, 0, 0⟩⟩
instance : Inhabited TenD := ⟨⟨0, 0, 0, 0, 0, 0, false⟩⟩
def StD.ten (s : StD) (i : Int) : TsD := s.tens.getD i.toNat default
def StD.cel (s : StD) (i : Int) : CsD := s.cells.getD i.toNat default
def StD.setT (s : StD) (i : Int) (t : TsD) : StD := { s with tens := s.tens.set i.toNat t }
def StD.setC (s : StD) (i : Int) (x : CsD) : StD := { s with cells := s.cells.set i.toNat x }
def frozenB (c : CfgD) (s : StD) (k : Int) : Bool := hasB s.evac (c.regionOf k)
def openB (s : StD) (x : CsD) : Bool := !hasB s.proven x.running || !hasB s.proven x.wanted
def addAt (l : List Int) (i n : Int) : List Int := if 0 ≤ i ∧ i < l.length then l.set i.toNat (l.getD i.toNat 0 + n) else l
def bookOne (l : List Int) (t : TsD) (d : TenD) : List Int :=
 if t.placed then addAt (addAt (if t.shed then l else addAt (addAt l t.home d.load) t.target d.load) t.standby d.shadow) t.next d.shadow else l
def bookAll : List Int → List TsD → List TenD → List Int
 | l, t :: ts, d :: ds => bookAll (bookOne l t d) ts ds
 | l, _, _ => l
def bookedD (c : CfgD) (s : StD) : List Int := bookAll (List.replicate c.cells.length 0) s.tens c.tens
def overD (c : CfgD) (s : StD) : List Int := (List.range c.cells.length).filterMap fun i => if (c.cells.getD i (0, 0)).2 < (bookedD c s).getD i 0 then some (i : Int) else none
abbrev Res := Int × StD
def no (e : Int) : Res := (e, StD.zero)
def fitD (c : CfgD) (s : StD) : Res := if (overD c s).length > 0 then no 10 else (0, s)
def placeD (c : CfgD) (s : StD) (e : EnD) : Res :=
 if (s.ten e.tenant).placed then no 4
 else if (s.cel e.cell).mode ≠ 1 ∨ 0 ≤ e.other ∧ (s.cel e.other).mode ≠ 1 then no 6
 else if frozenB c s e.cell = true ∨ 0 ≤ e.other ∧ frozenB c s e.other = true then no 12
 else if c.mayB e.tenant e.cell = false ∨ 0 ≤ e.other ∧ (c.mayB e.tenant e.other = false ∨ togB c e.cell e.other = true) then no 11
 else fitD c (s.setT e.tenant { s.ten e.tenant with placed := true, home := e.cell, standby := e.other })
def grantedD (c : CfgD) (s : StD) (e : EnD) : Int :=
 let t := s.ten e.tenant
 let x := s.cel e.cell
 if x.mode = 3 ∨ x.mode = 2 ∧ e.cell ≠ t.home then 6
 else if e.cell = t.home ∧ e.epoch ≠ t.epoch ∧ e.epoch ≠ t.epoch + 1 ∨ e.cell ≠ t.home ∧ e.epoch ≠ t.epoch + 1 then 7
 else if e.n ≠ x.running ∨ x.running ≠ x.wanted then 8
 else if e.lo < e.tick ∨ e.tick + c.lease < e.lo ∨ e.hi ≤ e.lo ∨ c.lease < e.hi - e.lo ∨ e.lo < t.win.hi then 9
 else if e.cell ≠ t.home ∧ e.tick < t.win.hi then 9 else 0
def grantT (t : TsD) (e : EnD) : TsD :=
 let t1 := { t with win := ⟨e.cell, e.epoch, e.n, e.lo, e.hi⟩, epoch := e.epoch }
 if e.cell = t.home then t1 else if e.cell = t.standby then { t1 with home := e.cell, standby := -1, next := -1, target := -1, shed := false } else { t1 with home := e.cell, target := -1 }
def grantD (c : CfgD) (s : StD) (e : EnD) : Res :=
 let t := s.ten e.tenant
 if t.placed = false ∨ t.shed = true ∧ e.cell ≠ t.standby then no 4
 else if e.cell ≠ t.home ∧ e.cell ≠ t.standby ∧ e.cell ≠ t.target then no 5
 else if grantedD c s e ≠ 0 then no (grantedD c s e)
 else fitD c (s.setT e.tenant (grantT t e))
def cutW (w : WinD) (tick : Int) : WinD := { w with hi := min w.hi (tick + 1), lo := min w.lo (min w.hi (tick + 1)) }
def cutD (s : StD) (e : EnD) : Res :=
 let t := s.ten e.tenant
 if t.placed = false then no 4 else if e.epoch ≠ t.epoch then no 7 else (0, s.setT e.tenant { t with win := cutW t.win e.tick })
def standbyD (c : CfgD) (s : StD) (e : EnD) : Res :=
 let t := s.ten e.tenant
 if t.placed = false then no 4
 else if e.cell < 0 then fitD c (s.setT e.tenant { t with next := e.cell })
 else if e.cell = t.home ∨ e.cell = t.standby ∨ e.cell = t.target then no 5
 else if (s.cel e.cell).mode ≠ 1 then no 6
 else if frozenB c s e.cell = true then no 12
 else if c.mayB e.tenant e.cell = false ∨ togB c e.cell t.home = true ∨ togB c e.cell t.target = true then no 11
 else fitD c (s.setT e.tenant { t with next := e.cell })
def readyD (s : StD) (e : EnD) : Res :=
 let t := s.ten e.tenant
 if t.placed = false then no 4 else if e.cell ≠ t.next then no 5 else if (s.cel e.cell).mode = 3 then no 6 else (0, s.setT e.tenant { t with standby := e.cell, next := -1 })
def migrateD (c : CfgD) (s : StD) (e : EnD) : Res :=
 let t := s.ten e.tenant
 if t.placed = false ∨ t.shed = true ∨ 0 ≤ t.target then no 4
 else if e.cell = t.home ∨ e.cell = t.standby ∨ e.cell = t.next then no 5
 else if (s.cel e.cell).mode ≠ 1 then no 6
 else if frozenB c s e.cell = true then no 12
 else if c.mayB e.tenant e.cell = false ∨ togB c e.cell t.standby = true ∨ togB c e.cell t.next = true then no 11
 else fitD c (s.setT e.tenant { t with target := e.cell })
def abandonD (s : StD) (e : EnD) : Res :=
 let t := s.ten e.tenant
 if t.placed = false ∨ t.target < 0 then no 4 else (0, s.setT e.tenant { t with target := -1 })
def shedD (c : CfgD) (s : StD) (e : EnD) : Res :=
 let t := s.ten e.tenant
 if e.n = 1 then
  if t.placed = false ∨ t.shed = true then no 4 else if e.tick < t.win.hi then no 9 else (0, s.setT e.tenant { t with shed := true, target := -1 })
 else if t.shed = false then no 4 else if (s.cel t.home).mode = 3 then no 6 else fitD c (s.setT e.tenant { t with shed := false })
def modeD (s : StD) (e : EnD) : Res := if (s.cel e.cell).mode = e.n then no 4 else (0, s.setC e.cell { s.cel e.cell with mode := e.n, since := e.tick })
def othersD (s : StD) (k : Int) : Nat := ((List.range s.cells.length).filter fun (i : Nat) => (((i : Nat) : Int) != k) && openB s (s.cells.getD i default)).length
def wantD (c : CfgD) (s : StD) (e : EnD) : Res :=
 let x := s.cel e.cell
 let v := c.vers.getD e.n.toNat (0, 0)
 if x.wanted = e.n then no 4
 else if s.low < v.1 ∨ v.2 < s.high then no 13
 else if e.n ≠ x.running ∧ hasB s.proven e.n = false ∧ s.evac ≠ 0 then no 12
 else if e.n ≠ x.running ∧ hasB s.proven e.n = false ∧ c.blast ≤ othersD s e.cell then no 14
 else (0, s.setC e.cell { x with wanted := e.n })
def runsD (s : StD) (e : EnD) : Res :=
 let x := s.cel e.cell
 if e.n ≠ x.wanted ∨ x.running = x.wanted then no 4
 else if hasB s.proven e.n = false ∧ s.evac ≠ 0 then no 12
 else if s.tens.any (fun t => (t.win.cell == e.cell) && decide (e.tick < t.win.hi)) then no 9
 else (0, s.setC e.cell { x with running := e.n, since := e.tick })
def bakes (c : CfgD) (e : EnD) (x : CsD) : Bool := (x.mode != 3) && (x.running == e.n) && (x.wanted == e.n) && decide (c.bake ≤ e.tick - x.since)
def orBit (s i : Int) : Int := ((s.toNat ||| (1 <<< i.toNat) : Nat) : Int)
def xorBit (s i : Int) : Int := ((s.toNat ^^^ (1 <<< i.toNat) : Nat) : Int)
def proveD (c : CfgD) (s : StD) (e : EnD) : Res :=
 if hasB s.proven e.n = true then no 4 else if s.cells.any (bakes c e) then (0, { s with proven := orBit s.proven e.n }) else no 15
def evacD (s : StD) (e : EnD) : Res := if hasB s.evac e.other = (e.n == 1) then no 4 else (0, { s with evac := xorBit s.evac e.other })
def verHi (c : CfgD) (i : Int) : Int := (c.vers.getD i.toNat (0, 0)).2
def expandD (c : CfgD) (s : StD) : Res :=
 if s.low < s.high then no 4 else if 30 ≤ s.high then no 2
 else if s.cells.any (fun x => decide (verHi c x.running ≤ s.high) || decide (verHi c x.wanted ≤ s.high)) then no 13 else (0, { s with high := s.high + 1 })
def contractD (s : StD) : Res := if s.high = s.low then no 4 else (0, { s with low := s.high })
def kindD (c : CfgD) (s : StD) (e : EnD) : Res :=
 if e.kind = 1 then placeD c s e else if e.kind = 2 then grantD c s e else if e.kind = 3 then cutD s e else if e.kind = 4 then standbyD c s e
 else if e.kind = 5 then readyD s e else if e.kind = 6 then migrateD c s e else if e.kind = 7 then abandonD s e else if e.kind = 8 then shedD c s e
 else if e.kind = 9 then modeD s e else if e.kind = 10 then wantD c s e else if e.kind = 11 then runsD s e else if e.kind = 12 then proveD c s e
 else if e.kind = 13 then evacD s e else if e.kind = 14 then expandD c s else if e.kind = 15 then contractD s else (0, s)
def applyD (c : CfgD) (s : StD) (e : EnD) : Res :=
 if validE c e = false then no 1 else if 4096 ≤ s.count then no 2 else if e.tick < s.tick then no 3
 else kindD c { s with tick := e.tick, count := s.count + 1 } e
def newT : TsD := ⟨false, false, -1, -1, -1, -1, 0, ⟨-1, 0, 0, 0, 0⟩⟩
def newSt (c : CfgD) : StD := ⟨0, 0, List.replicate c.tens.length newT, List.replicate c.cells.length ⟨1, 0, 0, 0⟩, 1, 0, 0, 0⟩
structure TsOk (c : CfgD) (t : TsD) : Prop where
 home : -1 ≤ t.home ∧ t.home < c.cells.length
 standby : -1 ≤ t.standby ∧ t.standby < c.cells.length
 next : -1 ≤ t.next ∧ t.next < c.cells.length
 target : -1 ≤ t.target ∧ t.target < c.cells.length
 epoch : 0 ≤ t.epoch ∧ t.epoch ≤ 1048576
 wcell : -1 ≤ t.win.cell ∧ t.win.cell < c.cells.length
 wepoch : 0 ≤ t.win.epoch ∧ t.win.epoch ≤ 1048576
 wver : 0 ≤ t.win.version ∧ t.win.version < 30
 lo : 0 ≤ t.win.lo ∧ t.win.lo ≤ 1073741825
 hi : 0 ≤ t.win.hi ∧ t.win.hi ≤ 1073741825
 placed : t.placed = true → 0 ≤ t.home
 shed : t.shed = true → t.placed = true
structure CsOk (c : CfgD) (x : CsD) : Prop where
 mode : 1 ≤ x.mode ∧ x.mode ≤ 3
 running : 0 ≤ x.running ∧ x.running < c.vers.length
 wanted : 0 ≤ x.wanted ∧ x.wanted < c.vers.length
 since : 0 ≤ x.since ∧ x.since ≤ 1073741824
structure StOk (c : CfgD) (s : StD) : Prop where
 tick : 0 ≤ s.tick ∧ s.tick ≤ 1073741824
 count : 0 ≤ s.count ∧ s.count ≤ 4096
 tl : s.tens.length = c.tens.length
 cl : s.cells.length = c.cells.length
 ten : ∀ t ∈ s.tens, TsOk c t
 cel : ∀ x ∈ s.cells, CsOk c x
 proven : 0 ≤ s.proven ∧ s.proven < 1073741824
 evac : 0 ≤ s.evac ∧ s.evac < 16
 low : 0 ≤ s.low ∧ s.low ≤ s.high
 high : s.high ≤ 30
end Go.Proofs.YtcgcfeablbjnaaaGreatDoor
namespace Go.Proofs.YtcgcfeablbjnaaaGreatDoor
open Go.RowKit Go.BigFrame
theorem zct {a b : Bool} (h : a = b) : Ending.returned (.bool a) = .returned (.bool b) := by rw [h]
theorem ret_i64 {a b : Int} (h : a = b) : Ending.returned (.int .i64 a) = .returned (.int .i64 b) := by rw [h]
theorem Rd.at_ {w : World} {B : Nat} {A : Option Addr} {α : Type} (f : α → List Value) (k : Nat) (hf : ∀ x, (f x).length = k) (hk : 0 < k) {l : List α} (h : Rd w B A (l.flatMap f)) {i : Nat} {x : α} (hx : l[i]? = some x) :
 ∃ ad, A = some ad ∧ ad.block < B ∧ (∀ v, (f x)[0]? = some v → w.cell? (ad.add (i * k)) = some v) ∧ ∀ j v, (f x)[j]? = some v → w.cell? ((ad.add (i * k)).add j) = some v := by
 obtain ⟨ad, e, hb, hc⟩ := h.elem f k hf hk hx
 refine ⟨ad, e, hb, fun v hv => ?_, hc⟩
 have := hc 0 v hv
 rwa [Addr.add_add, Nat.add_zero] at this
theorem zal (a : Addr) (n : Nat) : (a.add n).block = a.block := by cases n <;> rfl
theorem cell_alloc_add {w : World} {ad : Addr} (hb : ad.block < w.heap.size) (n : Nat) (o : Obj) : (w.alloc o).cell? (ad.add n) = w.cell? (ad.add n) := World.cell?_alloc_lt _ _ _ (by rw [zal]; exact hb)
theorem cell_below_add {B : Nat} {w w' : World} {ad : Addr} (hB : Below B w w') (hb : ad.block < B) (n : Nat) : w'.cell? (ad.add n) = w.cell? (ad.add n) := hB.cell (by rw [zal]; exact hb)
theorem regrown_same {P : Program} {f : FuncId} {args : Array Value} {w : World} {d : Nat} {os : Array Obj} {v : Value}
 (h : Calls P f args (Go.Sort.grow (redrawn w d) os) fun e w' => e = .returned v ∧ Go.Sort.grow (redrawn w d) os = w') : Calls P f args (Go.Sort.grow (redrawn w d) os) fun e w'' => e = .returned v ∧ ∃ p : Regrown, w'' = Go.Sort.grow (redrawn w p.d) p.os :=
 h.mono fun _ _ ⟨he, hm⟩ => ⟨he, ⟨d, os⟩, hm.symm⟩
theorem zcl {B : Nat} {w w' : World} {ad : Addr} (hB : Below B w w') (hb : ad.block < B) (n m : Nat) : w'.cell? ((ad.add n).add m) = w.cell? ((ad.add n).add m) := hB.cell (by rw [zal, zal]; exact hb)
theorem hasB_bit (s i : Nat) (hi : i < 62) : hasB s i = (((s : Int) / 2 ^ i).tmod 2 != 0) := by
 have e : ((s : Int) / 2 ^ i).tmod 2 = ((s / 2 ^ i % 2 : Nat) : Int) := by
  rw [Int.tmod_eq_emod_of_nonneg (Int.ediv_nonneg (by omega) (Int.pow_nonneg (by omega)))]
  simp
 rw [e]
 unfold hasB
 have h1 : decide ((0 : Int) ≤ (i : Int)) = true := decide_eq_true (by omega)
 have h2 : decide ((i : Int) < 62) = true := decide_eq_true (by omega)
 rw [h1, h2]
 simp only [Bool.true_and, Int.toNat_natCast, Nat.testBit_eq_decide_div_mod_eq]
 have := Nat.mod_two_eq_zero_or_one (s / 2 ^ i)
 rcases this with h | h <;> simp [h]
theorem has_any (s i : Int) (w : World) (hs0 : 0 ≤ s) (hs1 : s < 4611686018427387904) :
 Calls Tryz.prog 77 #[.int .i64 s, .int .i64 i] w fun e w' => e = .returned (.bool (hasB s i)) ∧ w = w' := by
 by_cases h0 : 0 ≤ i
 ·by_cases h1 : i < 62
  ·have d0 : decide (0 ≤ i) = true := decide_eq_true h0
   have d1 : decide (i < 62) = true := decide_eq_true h1
   obtain ⟨s, rfl⟩ : ∃ n : Nat, s = n := ⟨s.toNat, by omega⟩
   obtain ⟨i, rfl⟩ : ∃ n : Nat, i = n := ⟨i.toNat, by omega⟩
   have HR := Lib.hid (hasB_bit s i (by omega))
   go_enter Tryz.func77, Tryz.ntmps77
   go_wp2_with fail
   go_ret
   exact ⟨zct HR.out.symm, rfl⟩
  ·have d1 : decide (i < 62) = false := decide_eq_false h1
   have HR := Lib.hid (show hasB s i = false by simp [hasB, d1])
   go_enter Tryz.func77, Tryz.ntmps77
   go_wp2_with fail
   go_ret
   exact ⟨zct HR.out.symm, rfl⟩
 ·have d0 : decide (0 ≤ i) = false := decide_eq_false h0
  have HR := Lib.hid (show hasB s i = false by simp [hasB, d0])
  go_enter Tryz.func77, Tryz.ntmps77
  go_wp2_with fail
  go_ret
  exact ⟨zct HR.out.symm, rfl⟩
theorem zoneOf_any (c : CfgD) (h : CfgH) (k : Int) (w : World) (hC : CfgAt w w.heap.size c h) :
 Calls Tryz.prog 97 #[.agg (cfgV c h), .int .i64 k] w fun e w' => e = .returned (.int .i64 (c.zoneOf k)) ∧ Below w.heap.size w w' := by
 have HC := Lib.hid hC
 clear hC
 by_cases hk : k < 0 ∨ (c.cells.length : Int) ≤ k
 ·have HR := Lib.hid (show c.zoneOf k = -1 by unfold CfgD.zoneOf; rw [if_pos hk])
  go_enter Tryz.func97, Tryz.ntmps97
  simp only [cfgV]
  go_wp2_with fail
  all_goals
   first
    | (go_ret; exact ⟨ret_i64 HR.out.symm, (Below.refl _ _).alloc (Nat.le_refl _) _⟩)
    | (exfalso; omega)
 ·obtain ⟨k, rfl⟩ : ∃ n : Nat, k = n := ⟨k.toNat, by omega⟩
  have hkl : k < c.cells.length := by omega
  have HR := Lib.hid (show c.zoneOf k = c.cells[k].1 by unfold CfgD.zoneOf; rw [if_neg hk]; simp [List.getD, hkl])
  obtain ⟨ad, had, hadb, hcell, _⟩ := HC.out.cells.at_ pairCells 2 (fun _ => rfl) (by omega) (i := k) (x := c.cells[k]) (List.getElem?_eq_getElem hkl)
  have d0 : decide ((k : Int) < 0) = false := decide_eq_false (by omega)
  have d1 : decide (c.cells.length ≤ k) = false := decide_eq_false (by omega)
  have i0 : (0 : Int) ≤ (k : Int) := by omega
  have i1 : (k : Int) < (c.cells.length : Int) := by omega
  go_enter Tryz.func97, Tryz.ntmps97
  simp only [cfgV, had]
  have kc1 : (w.alloc (.cells #[.int .i64 c.regions, .slice h.az c.zones.length h.kz, .slice (some ad) c.cells.length h.kc, .slice h.at_ c.tens.length h.kt, .slice h.av c.vers.length h.kv, .slice h.ar c.reps.length h.kr, .slice h.ao c.obs.length h.ko, .int .i64 c.blast, .int .i64 c.lease, .int .i64 c.bake] 36)).cell? (ad.add (k * 2)) = some (.int .i64 c.cells[k].1) := (cell_alloc_add hadb _ _).trans (hcell _ rfl)
  clear hcell had
  go_wp2_with fail
  go_ret
  exact ⟨ret_i64 HR.out.symm, (Below.refl _ _).alloc (Nat.le_refl _) _⟩
theorem zoneOf_in {c : CfgD} (ok : CfgOk c) (k : Int) : c.zoneOf k = -1 ∨ 0 ≤ c.zoneOf k ∧ c.zoneOf k < c.zones.length := by
 unfold CfgD.zoneOf
 split
 ·exact .inl rfl
 ·rename_i hk
  have hkl : k.toNat < c.cells.length := by omega
  have := (ok.cellZ c.cells[k.toNat] (List.getElem_mem _)).1
  simp only [List.getD, List.getElem?_eq_getElem hkl, Option.getD_some]
  exact .inr this
theorem regionOf_any (c : CfgD) (h : CfgH) (k : Int) (w : World) (ok : CfgOk c) (hC : CfgAt w w.heap.size c h) :
 Calls Tryz.prog 79 #[.agg (cfgV c h), .int .i64 k] w fun e w' => e = .returned (.int .i64 (c.regionOf k)) ∧ Below w.heap.size w w' := by
 have HC := Lib.hid hC
 have HK := Lib.hid ok
 have hzl := ok.zones.2
 clear hC
 have hz := zoneOf_in ok k
 clear ok
 have HB0 := Lib.hid (Below.refl w.heap.size w |>.alloc (Nat.le_refl _) (.cells (cfgV c h) 36))
 go_enter Tryz.func79, Tryz.ntmps79
 simp only [cfgV] at HB0 ⊢
 go_wp2_with fail
 refine (zoneOf_any c h k _ (by exact (HC.out.below HB0.out).more (by simp))).mono ?_
 rintro e w1 ⟨rfl, hb1⟩
 have HB1 := Lib.hid (HB0.out.trans (hb1.mono (by simp)))
 by_cases hn : c.zoneOf k < 0
 ·have HR := Lib.hid (show c.regionOf k = -1 by unfold CfgD.regionOf; rw [if_pos hn])
  have d0 : decide (c.zoneOf k < 0) = true := decide_eq_true hn
  clear hb1
  go_wp2_with fail
  go_ret
  exact ⟨ret_i64 HR.out.symm, HB1.out⟩
 ·have HRR := Lib.hid (show c.regionOf k = c.zones.getD (c.zoneOf k).toNat 0 by unfold CfgD.regionOf; rw [if_neg hn])
  have d0 : decide (c.zoneOf k < 0) = false := decide_eq_false hn
  obtain ⟨z, hzz⟩ : ∃ z : Nat, c.zoneOf k = z := ⟨(c.zoneOf k).toNat, by omega⟩
  have hzlt : z < c.zones.length := by omega
  have HR := Lib.hid (show c.regionOf k = c.zones[z] by rw [HRR.out, hzz]; simp [List.getD, hzlt])
  rw [hzz] at d0 ⊢
  obtain ⟨ad, had, hadb, hcell⟩ := HC.out.zones z (iv c.zones[z]) (by simp [hzlt])
  have i0 : (0 : Int) ≤ (z : Int) := by omega
  have i1 : (z : Int) < (c.zones.length : Int) := by omega
  have kc1 : w1.cell? (ad.add z) = some (.int .i64 c.zones[z]) := (cell_below_add HB1.out hadb _).trans hcell
  have hlt : w.heap.size < w1.heap.size := by have := hb1.size; simp at this; omega
  have kz : w1.cell? ⟨w.heap.size, 1, none⟩ = some (.slice (some ad) c.zones.length h.kz) := (hb1.cell (p := ⟨w.heap.size, 1, none⟩) (by simp)).trans ((Blk.new w _ _).cell 1 |>.trans (by rw [had]; rfl))
  clear hb1 hcell had hzz hz hn
  go_wp2_with fail
  go_ret
  exact ⟨ret_i64 HR.out.symm, HB1.out⟩
theorem apart_any (c : CfgD) (h : CfgH) (a b : Int) (w : World) (ok : CfgOk c) (hC : CfgAt w w.heap.size c h) :
 Calls Tryz.prog 111 #[.agg (cfgV c h), .int .i64 a, .int .i64 b] w fun e w' => e = .returned (.bool (c.apartB a b)) ∧ Below w.heap.size w w' := by
 have HC := Lib.hid hC
 have HK := Lib.hid ok
 clear hC ok
 go_enter Tryz.func111, Tryz.ntmps111
 simp only [cfgV]
 go_wp2_with fail
 have HBW := Lib.hid ((Below.refl w.heap.size w).alloc (Nat.le_refl _) (.cells #[.int .i64 c.regions, .slice h.az c.zones.length h.kz, .slice h.ac c.cells.length h.kc, .slice h.at_ c.tens.length h.kt, .slice h.av c.vers.length h.kv, .slice h.ar c.reps.length h.kr, .slice h.ao c.obs.length h.ko, .int .i64 c.blast, .int .i64 c.lease, .int .i64 c.bake] 36))
 have HBK := Lib.hid (Blk.new w 36 #[.int .i64 c.regions, .slice h.az c.zones.length h.kz, .slice h.ac c.cells.length h.kc, .slice h.at_ c.tens.length h.kt, .slice h.av c.vers.length h.kv, .slice h.ar c.reps.length h.kr, .slice h.ao c.obs.length h.ko, .int .i64 c.blast, .int .i64 c.lease, .int .i64 c.bake])
 have HCW := Lib.hid ((HC.out.below HBW.out).more (Nat.le_of_lt HBK.out.lt))
 generalize w.alloc (.cells #[.int .i64 c.regions, .slice h.az c.zones.length h.kz, .slice h.ac c.cells.length h.kc, .slice h.at_ c.tens.length h.kt, .slice h.av c.vers.length h.kv, .slice h.ar c.reps.length h.kr, .slice h.ao c.obs.length h.ko, .int .i64 c.blast, .int .i64 c.lease, .int .i64 c.bake] 36) = W at *
 have k0 : ∀ d os, (Go.Sort.grow (redrawn W d) os).cell? ⟨w.heap.size, 0, none⟩ = some (.int .i64 c.regions) := fun d os => cell_regrown (HBK.out.cell 0) d os
 have k1 : ∀ d os, (Go.Sort.grow (redrawn W d) os).cell? ⟨w.heap.size, 1, none⟩ = some (.slice h.az c.zones.length h.kz) := fun d os => cell_regrown (HBK.out.cell 1) d os
 have k2 : ∀ d os, (Go.Sort.grow (redrawn W d) os).cell? ⟨w.heap.size, 2, none⟩ = some (.slice h.ac c.cells.length h.kc) := fun d os => cell_regrown (HBK.out.cell 2) d os
 have k3 : ∀ d os, (Go.Sort.grow (redrawn W d) os).cell? ⟨w.heap.size, 3, none⟩ = some (.slice h.at_ c.tens.length h.kt) := fun d os => cell_regrown (HBK.out.cell 3) d os
 have k4 : ∀ d os, (Go.Sort.grow (redrawn W d) os).cell? ⟨w.heap.size, 4, none⟩ = some (.slice h.av c.vers.length h.kv) := fun d os => cell_regrown (HBK.out.cell 4) d os
 have k5 : ∀ d os, (Go.Sort.grow (redrawn W d) os).cell? ⟨w.heap.size, 5, none⟩ = some (.slice h.ar c.reps.length h.kr) := fun d os => cell_regrown (HBK.out.cell 5) d os
 have k6 : ∀ d os, (Go.Sort.grow (redrawn W d) os).cell? ⟨w.heap.size, 6, none⟩ = some (.slice h.ao c.obs.length h.ko) := fun d os => cell_regrown (HBK.out.cell 6) d os
 have k7 : ∀ d os, (Go.Sort.grow (redrawn W d) os).cell? ⟨w.heap.size, 7, none⟩ = some (.int .i64 c.blast) := fun d os => cell_regrown (HBK.out.cell 7) d os
 have k8 : ∀ d os, (Go.Sort.grow (redrawn W d) os).cell? ⟨w.heap.size, 8, none⟩ = some (.int .i64 c.lease) := fun d os => cell_regrown (HBK.out.cell 8) d os
 have k9 : ∀ d os, (Go.Sort.grow (redrawn W d) os).cell? ⟨w.heap.size, 9, none⟩ = some (.int .i64 c.bake) := fun d os => cell_regrown (HBK.out.cell 9) d os
 refine wp_region_quiet_below (by kernel_rfl) (by kernel_rfl) ?_
 repeat (go_big_quiet_step ((first
  | (go_at_call 79; exact Calls.regrown_of (regionOf_any c h _ _ HK.out (by exact (HCW.out.below (below_regrown W _ _)).more (below_regrown W _ _).size))))))
 refine wpQuiet_nil ?_
 rintro _ ⟨⟨dq, osq⟩, rfl⟩
 have hbQ := below_regrown W dq osq
 have HBQ := Lib.hid (HBW.out.trans (hbQ.mono HBW.out.size))
 clear k0 k1 k2 k3 k4 k5 k6 k7 k8 k9 hbQ
 obtain ⟨x, hx⟩ : ∃ x, c.regionOf a = x := ⟨_, rfl⟩
 obtain ⟨y, hy⟩ : ∃ y, c.regionOf b = y := ⟨_, rfl⟩
 have HX := Lib.hid hx
 have HY := Lib.hid hy
 rw [hx, hy]
 clear hx hy
 by_cases h0 : 0 ≤ x
 ·have d0 : decide (0 ≤ x) = true := decide_eq_true h0
  by_cases h1 : 0 ≤ y
  ·have d1 : decide (0 ≤ y) = true := decide_eq_true h1
   go_wp2_with fail
   go_ret
   exact ⟨zct (by unfold CfgD.apartB; rw [HX.out, HY.out, d0, d1]; rfl), HBQ.out⟩
  ·have d1 : decide (0 ≤ y) = false := decide_eq_false h1
   go_wp2_with fail
   go_ret
   exact ⟨zct (by unfold CfgD.apartB; rw [HX.out, HY.out, d0, d1]; rfl), HBQ.out⟩
 ·have d0 : decide (0 ≤ x) = false := decide_eq_false h0
  go_wp2_with fail
  go_ret
  exact ⟨zct (by unfold CfgD.apartB; rw [HX.out, HY.out, d0]; rfl), HBQ.out⟩
theorem may_any (c : CfgD) (h : CfgH) (t : Nat) (k : Int) (w : World) (ok : CfgOk c) (ht : t < c.tens.length) (hC : CfgAt w w.heap.size c h) :
 Calls Tryz.prog 90 #[.agg (cfgV c h), .int .i64 t, .int .i64 k] w fun e w' => e = .returned (.bool (c.mayB t k)) ∧ Below w.heap.size w w' := by
 have hal := (ok.ten c.tens[t] (List.getElem_mem _)).allowed
 have hrg := ok.regions
 have hp2 : (2 : Int) ^ c.regions.toNat ≤ 16 := by
  have : c.regions.toNat ≤ 4 := by omega
  have h1 : (2 : Nat) ^ c.regions.toNat ≤ 2 ^ 4 := Nat.pow_le_pow_right (by omega) this
  have h2 : ((2 ^ c.regions.toNat : Nat) : Int) = (2 : Int) ^ c.regions.toNat := by simp
  omega
 have HR := Lib.hid (show c.mayB t k = hasB c.tens[t].allowed (c.regionOf k) by unfold CfgD.mayB; simp [ht])
 have ha0 : 0 ≤ c.tens[t].allowed := by omega
 have ha1 : c.tens[t].allowed < 4611686018427387904 := by omega
 clear hal hrg hp2
 obtain ⟨ad, had, hadb, _, hcell⟩ := hC.tens.at_ TenD.cells 7 (fun _ => rfl) (by omega) (i := t) (x := c.tens[t]) (List.getElem?_eq_getElem ht)
 have HC4 := Lib.hid (hcell 4 _ rfl)
 clear hcell
 obtain ⟨az, kz, ac, kc, at_, kt, av, kv, ar, kr, ao, ko⟩ := h
 obtain rfl : at_ = some ad := had
 have d0 : decide ((0 : Int) ≤ (t : Int)) = true := decide_eq_true (by omega)
 have d1 : decide (t < c.tens.length) = true := decide_eq_true ht
 have d1' : decide ((t : Int) < (c.tens.length : Int)) = true := decide_eq_true (by omega)
 have i0 : (0 : Int) ≤ (t : Int) := by omega
 have i1 : (t : Int) < (c.tens.length : Int) := by omega
 have HC := Lib.hid hC
 have HK := Lib.hid ok
 clear hC ok
 go_enter Tryz.func90, Tryz.ntmps90
 simp only [cfgV]
 go_wp2_with fail
 have HBW := Lib.hid ((Below.refl w.heap.size w).alloc (Nat.le_refl _) (.cells #[.int .i64 c.regions, .slice az c.zones.length kz, .slice ac c.cells.length kc, .slice (some ad) c.tens.length kt, .slice av c.vers.length kv, .slice ar c.reps.length kr, .slice ao c.obs.length ko, .int .i64 c.blast, .int .i64 c.lease, .int .i64 c.bake] 36))
 have HBK := Lib.hid (Blk.new w 36 #[.int .i64 c.regions, .slice az c.zones.length kz, .slice ac c.cells.length kc, .slice (some ad) c.tens.length kt, .slice av c.vers.length kv, .slice ar c.reps.length kr, .slice ao c.obs.length ko, .int .i64 c.blast, .int .i64 c.lease, .int .i64 c.bake])
 have HCW := Lib.hid ((HC.out.below HBW.out).more (Nat.le_of_lt HBK.out.lt))
 generalize w.alloc (.cells #[.int .i64 c.regions, .slice az c.zones.length kz, .slice ac c.cells.length kc, .slice (some ad) c.tens.length kt, .slice av c.vers.length kv, .slice ar c.reps.length kr, .slice ao c.obs.length ko, .int .i64 c.blast, .int .i64 c.lease, .int .i64 c.bake] 36) = W at *
 have k0 : ∀ d os, (Go.Sort.grow (redrawn W d) os).cell? ⟨w.heap.size, 0, none⟩ = some (.int .i64 c.regions) := fun d os => cell_regrown (HBK.out.cell 0) d os
 have k1 : ∀ d os, (Go.Sort.grow (redrawn W d) os).cell? ⟨w.heap.size, 1, none⟩ = some (.slice az c.zones.length kz) := fun d os => cell_regrown (HBK.out.cell 1) d os
 have k2 : ∀ d os, (Go.Sort.grow (redrawn W d) os).cell? ⟨w.heap.size, 2, none⟩ = some (.slice ac c.cells.length kc) := fun d os => cell_regrown (HBK.out.cell 2) d os
 have k3 : ∀ d os, (Go.Sort.grow (redrawn W d) os).cell? ⟨w.heap.size, 3, none⟩ = some (.slice (some ad) c.tens.length kt) := fun d os => cell_regrown (HBK.out.cell 3) d os
 have k4 : ∀ d os, (Go.Sort.grow (redrawn W d) os).cell? ⟨w.heap.size, 4, none⟩ = some (.slice av c.vers.length kv) := fun d os => cell_regrown (HBK.out.cell 4) d os
 have k5 : ∀ d os, (Go.Sort.grow (redrawn W d) os).cell? ⟨w.heap.size, 5, none⟩ = some (.slice ar c.reps.length kr) := fun d os => cell_regrown (HBK.out.cell 5) d os
 have k6 : ∀ d os, (Go.Sort.grow (redrawn W d) os).cell? ⟨w.heap.size, 6, none⟩ = some (.slice ao c.obs.length ko) := fun d os => cell_regrown (HBK.out.cell 6) d os
 have k7 : ∀ d os, (Go.Sort.grow (redrawn W d) os).cell? ⟨w.heap.size, 7, none⟩ = some (.int .i64 c.blast) := fun d os => cell_regrown (HBK.out.cell 7) d os
 have k8 : ∀ d os, (Go.Sort.grow (redrawn W d) os).cell? ⟨w.heap.size, 8, none⟩ = some (.int .i64 c.lease) := fun d os => cell_regrown (HBK.out.cell 8) d os
 have k9 : ∀ d os, (Go.Sort.grow (redrawn W d) os).cell? ⟨w.heap.size, 9, none⟩ = some (.int .i64 c.bake) := fun d os => cell_regrown (HBK.out.cell 9) d os
 have kal : ∀ d os, (Go.Sort.grow (redrawn W d) os).cell? ⟨(ad.add (t * 7)).block, (ad.add (t * 7)).off + 4, none⟩ = some (.int .i64 c.tens[t].allowed) := fun d os => cell_regrown ((zcl HBW.out hadb (t * 7) 4).trans HC4.out) d os
 refine wp_region_quiet_below (by kernel_rfl) (by kernel_rfl) ?_
 repeat (go_big_quiet_step ((first
  | (go_at_call 79; exact Calls.regrown_of (regionOf_any c ⟨az, kz, ac, kc, some ad, kt, av, kv, ar, kr, ao, ko⟩ _ _ HK.out (by exact (HCW.out.below (below_regrown W _ _)).more (below_regrown W _ _).size)))
  | (go_at_call 77; exact regrown_same (has_any _ _ _ ha0 ha1)))))
 refine wpQuiet_nil ?_
 rintro _ ⟨⟨dq, osq⟩, rfl⟩
 have hbQ := below_regrown W dq osq
 have HBQ := Lib.hid (HBW.out.trans (hbQ.mono HBW.out.size))
 clear k0 k1 k2 k3 k4 k5 k6 k7 k8 k9 kal hbQ
 go_wp2_with fail
 go_ret
 exact ⟨zct HR.out.symm, HBQ.out⟩
theorem zcq (s : StD) (hs : StH) (v : Int) (w : World) (h0 : 0 ≤ s.proven) (h1 : s.proven < 1073741824) :
 Calls Tryz.prog 96 #[.agg (stV s hs), .int .i64 v] w fun e w' => e = .returned (.bool (hasB s.proven v)) ∧ Below w.heap.size w w' := by
 go_enter Tryz.func96, Tryz.ntmps96
 simp only [stV]
 go_wp2_with fail
 refine (has_any s.proven v _ h0 (by omega)).mono ?_
 rintro e w1 ⟨rfl, rfl⟩
 go_wp2_with fail
 go_ret
 exact ⟨rfl, (Below.refl _ _).alloc (Nat.le_refl _) _⟩
theorem frozen_any (c : CfgD) (h : CfgH) (s : StD) (hs : StH) (k : Int) (w : World) (ok : CfgOk c) (h0 : 0 ≤ s.evac) (h1 : s.evac < 16) (hC : CfgAt w w.heap.size c h) :
 Calls Tryz.prog 89 #[.agg (cfgV c h), .agg (stV s hs), .int .i64 k] w fun e w' => e = .returned (.bool (frozenB c s k)) ∧ Below w.heap.size w w' := by
 have HC := Lib.hid hC
 have HK := Lib.hid ok
 clear hC ok
 go_enter Tryz.func89, Tryz.ntmps89
 simp only [cfgV, stV]
 go_wp2_with fail
 have HBW := Lib.hid (((Below.refl w.heap.size w).alloc (Nat.le_refl _) (.cells #[.int .i64 c.regions, .slice h.az c.zones.length h.kz, .slice h.ac c.cells.length h.kc, .slice h.at_ c.tens.length h.kt, .slice h.av c.vers.length h.kv, .slice h.ar c.reps.length h.kr, .slice h.ao c.obs.length h.ko, .int .i64 c.blast, .int .i64 c.lease, .int .i64 c.bake] 36)).alloc (by simp) (.cells #[.int .i64 s.tick, .int .i64 s.count, .slice hs.at_ s.tens.length hs.kt, .slice hs.ac s.cells.length hs.kc, .int .i64 s.proven, .int .i64 s.evac, .int .i64 s.low, .int .i64 s.high] 61))
 have HBK := Lib.hid ((Blk.new w 36 #[.int .i64 c.regions, .slice h.az c.zones.length h.kz, .slice h.ac c.cells.length h.kc, .slice h.at_ c.tens.length h.kt, .slice h.av c.vers.length h.kv, .slice h.ar c.reps.length h.kr, .slice h.ao c.obs.length h.ko, .int .i64 c.blast, .int .i64 c.lease, .int .i64 c.bake]).alloc (.cells #[.int .i64 s.tick, .int .i64 s.count, .slice hs.at_ s.tens.length hs.kt, .slice hs.ac s.cells.length hs.kc, .int .i64 s.proven, .int .i64 s.evac, .int .i64 s.low, .int .i64 s.high] 61))
 have HBS := Lib.hid (Blk.newAt (w.alloc (.cells #[.int .i64 c.regions, .slice h.az c.zones.length h.kz, .slice h.ac c.cells.length h.kc, .slice h.at_ c.tens.length h.kt, .slice h.av c.vers.length h.kv, .slice h.ar c.reps.length h.kr, .slice h.ao c.obs.length h.ko, .int .i64 c.blast, .int .i64 c.lease, .int .i64 c.bake] 36)) 61 #[.int .i64 s.tick, .int .i64 s.count, .slice hs.at_ s.tens.length hs.kt, .slice hs.ac s.cells.length hs.kc, .int .i64 s.proven, .int .i64 s.evac, .int .i64 s.low, .int .i64 s.high] (w.heap.size + 1) (by simp))
 have HCW := Lib.hid ((HC.out.below HBW.out).more (Nat.le_of_lt HBK.out.lt))
 generalize (w.alloc (.cells #[.int .i64 c.regions, .slice h.az c.zones.length h.kz, .slice h.ac c.cells.length h.kc, .slice h.at_ c.tens.length h.kt, .slice h.av c.vers.length h.kv, .slice h.ar c.reps.length h.kr, .slice h.ao c.obs.length h.ko, .int .i64 c.blast, .int .i64 c.lease, .int .i64 c.bake] 36)).alloc (.cells #[.int .i64 s.tick, .int .i64 s.count, .slice hs.at_ s.tens.length hs.kt, .slice hs.ac s.cells.length hs.kc, .int .i64 s.proven, .int .i64 s.evac, .int .i64 s.low, .int .i64 s.high] 61) = W at *
 have k0 : ∀ d os, (Go.Sort.grow (redrawn W d) os).cell? ⟨w.heap.size, 0, none⟩ = some (.int .i64 c.regions) := fun d os => cell_regrown (HBK.out.cell 0) d os
 have k1 : ∀ d os, (Go.Sort.grow (redrawn W d) os).cell? ⟨w.heap.size, 1, none⟩ = some (.slice h.az c.zones.length h.kz) := fun d os => cell_regrown (HBK.out.cell 1) d os
 have k2 : ∀ d os, (Go.Sort.grow (redrawn W d) os).cell? ⟨w.heap.size, 2, none⟩ = some (.slice h.ac c.cells.length h.kc) := fun d os => cell_regrown (HBK.out.cell 2) d os
 have k3 : ∀ d os, (Go.Sort.grow (redrawn W d) os).cell? ⟨w.heap.size, 3, none⟩ = some (.slice h.at_ c.tens.length h.kt) := fun d os => cell_regrown (HBK.out.cell 3) d os
 have k4 : ∀ d os, (Go.Sort.grow (redrawn W d) os).cell? ⟨w.heap.size, 4, none⟩ = some (.slice h.av c.vers.length h.kv) := fun d os => cell_regrown (HBK.out.cell 4) d os
 have k5 : ∀ d os, (Go.Sort.grow (redrawn W d) os).cell? ⟨w.heap.size, 5, none⟩ = some (.slice h.ar c.reps.length h.kr) := fun d os => cell_regrown (HBK.out.cell 5) d os
 have k6 : ∀ d os, (Go.Sort.grow (redrawn W d) os).cell? ⟨w.heap.size, 6, none⟩ = some (.slice h.ao c.obs.length h.ko) := fun d os => cell_regrown (HBK.out.cell 6) d os
 have k7 : ∀ d os, (Go.Sort.grow (redrawn W d) os).cell? ⟨w.heap.size, 7, none⟩ = some (.int .i64 c.blast) := fun d os => cell_regrown (HBK.out.cell 7) d os
 have k8 : ∀ d os, (Go.Sort.grow (redrawn W d) os).cell? ⟨w.heap.size, 8, none⟩ = some (.int .i64 c.lease) := fun d os => cell_regrown (HBK.out.cell 8) d os
 have k9 : ∀ d os, (Go.Sort.grow (redrawn W d) os).cell? ⟨w.heap.size, 9, none⟩ = some (.int .i64 c.bake) := fun d os => cell_regrown (HBK.out.cell 9) d os
 have z5 : ∀ d os, (Go.Sort.grow (redrawn W d) os).cell? ⟨w.heap.size + 1, 5, none⟩ = some (.int .i64 s.evac) := fun d os => cell_regrown (HBS.out.cell 5) d os
 refine wp_region_quiet_below (by kernel_rfl) (by kernel_rfl) ?_
 repeat (go_big_quiet_step ((first
  | (go_at_call 79; exact Calls.regrown_of (regionOf_any c h _ _ HK.out (by exact (HCW.out.below (below_regrown W _ _)).more (below_regrown W _ _).size)))
  | (go_at_call 77; exact regrown_same (has_any _ _ _ h0 (by omega))))))
 refine wpQuiet_nil ?_
 rintro _ ⟨⟨dq, osq⟩, rfl⟩
 have hbQ := below_regrown W dq osq
 have HBQ := Lib.hid (HBW.out.trans (hbQ.mono HBW.out.size))
 clear k0 k1 k2 k3 k4 k5 k6 k7 k8 k9 z5 hbQ
 go_wp2_with fail
 go_ret
 exact ⟨rfl, HBQ.out⟩
theorem together_any (c : CfgD) (h : CfgH) (a b : Int) (w : World) (ok : CfgOk c) (hC : CfgAt w w.heap.size c h) :
 Calls Tryz.prog 91 #[.agg (cfgV c h), .int .i64 a, .int .i64 b] w fun e w' => e = .returned (.bool (togB c a b)) ∧ Below w.heap.size w w' := by
 have HC := Lib.hid hC
 have HK := Lib.hid ok
 clear hC ok
 have HBW := Lib.hid ((Below.refl w.heap.size w).alloc (Nat.le_refl _) (.cells #[.int .i64 c.regions, .slice h.az c.zones.length h.kz, .slice h.ac c.cells.length h.kc, .slice h.at_ c.tens.length h.kt, .slice h.av c.vers.length h.kv, .slice h.ar c.reps.length h.kr, .slice h.ao c.obs.length h.ko, .int .i64 c.blast, .int .i64 c.lease, .int .i64 c.bake] 36))
 have HBK := Lib.hid (Blk.new w 36 #[.int .i64 c.regions, .slice h.az c.zones.length h.kz, .slice h.ac c.cells.length h.kc, .slice h.at_ c.tens.length h.kt, .slice h.av c.vers.length h.kv, .slice h.ar c.reps.length h.kr, .slice h.ao c.obs.length h.ko, .int .i64 c.blast, .int .i64 c.lease, .int .i64 c.bake])
 have HCW := Lib.hid ((HC.out.below HBW.out).more (Nat.le_of_lt HBK.out.lt))
 by_cases h0 : 0 ≤ a
 ·have d0 : decide (0 ≤ a) = true := decide_eq_true h0
  by_cases h1 : 0 ≤ b
  ·have d1 : decide (0 ≤ b) = true := decide_eq_true h1
   have HR := Lib.hid (show togB c a b = !c.apartB a b by unfold togB; rw [d0, d1]; rfl)
   go_enter Tryz.func91, Tryz.ntmps91
   simp only [cfgV]
   go_wp2_with fail
   refine (apart_any c h a b _ HK.out (by exact HCW.out)).mono ?_
   rintro e w1 ⟨rfl, hb1⟩
   have HB1 := Lib.hid (HBW.out.trans (hb1.mono (by simp)))
   clear hb1
   go_wp2_with fail
   go_ret
   exact ⟨zct HR.out.symm, HB1.out⟩
  ·have d1 : decide (0 ≤ b) = false := decide_eq_false h1
   have HR := Lib.hid (show togB c a b = false by unfold togB; rw [d0, d1]; rfl)
   go_enter Tryz.func91, Tryz.ntmps91
   simp only [cfgV]
   go_wp2_with fail
   go_ret
   exact ⟨zct HR.out.symm, HBW.out⟩
 ·have d0 : decide (0 ≤ a) = false := decide_eq_false h0
  have HR := Lib.hid (show togB c a b = false by unfold togB; rw [d0]; rfl)
  go_enter Tryz.func91, Tryz.ntmps91
  simp only [cfgV]
  go_wp2_with fail
  go_ret
  exact ⟨zct HR.out.symm, HBW.out⟩
theorem no_any (x : Int) (w : World) :
 Calls Tryz.prog 64 #[.int .i64 x] w fun e w' => e = .returned (.tuple #[.agg (stV StD.zero ⟨none, 0, none, 0⟩), .int .i64 x]) ∧ Below w.heap.size w w' := by
 go_enter Tryz.func64, Tryz.ntmps64
 go_wp2_with fail
 exact bodyPost_ret (v := .tuple #[.agg #[.int .i64 0, .int .i64 0, .slice none 0 0, .slice none 0 0, .int .i64 0, .int .i64 0, .int .i64 0, .int .i64 0], .int .i64 x]) (by simp [results, Tryz.results64, go_sem]) rfl ⟨rfl, (Below.refl _ _).alloc (Nat.le_refl _) _⟩
attribute [local go_sem ↓] Go.wp_at_zero Go.wp_at_succ
def bookTo (c : CfgD) (s : StD) (i : Nat) : List Int := bookAll (List.replicate c.cells.length 0) (s.tens.take i) (c.tens.take i)
theorem bookAll_snoc (t : TsD) (d : TenD) (ts : List TsD) : ∀ (ds : List TenD) (l : List Int), ts.length = ds.length → bookAll l (ts ++ [t]) (ds ++ [d]) = bookOne (bookAll l ts ds) t d := by
 induction ts with
 | nil =>
   intro ds l h
   cases ds with
   | nil => simp [bookAll]
   | cons y ds => simp at h
 | cons x ts ih =>
   intro ds l h
   cases ds with
   | nil => simp at h
   | cons y ds =>
     simp only [List.cons_append, bookAll]
     exact ih ds _ (by simpa using h)
theorem bookTo_succ (c : CfgD) (s : StD) (i : Nat) (t : TsD) (d : TenD) (hl : s.tens.length = c.tens.length) (ht : s.tens[i]? = some t) (hd : c.tens[i]? = some d) : bookTo c s (i + 1) = bookOne (bookTo c s i) t d := by
 obtain ⟨h1, rfl⟩ := List.getElem?_eq_some_iff.1 ht
 obtain ⟨h2, rfl⟩ := List.getElem?_eq_some_iff.1 hd
 unfold bookTo
 rw [List.take_succ_eq_append_getElem h1, List.take_succ_eq_append_getElem h2]
 exact bookAll_snoc _ _ _ _ _ (by simp; omega)
theorem bookTo_all (c : CfgD) (s : StD) (hl : s.tens.length = c.tens.length) : bookTo c s c.tens.length = bookedD c s := by
 unfold bookTo bookedD
 rw [List.take_of_length_le (by omega), List.take_of_length_le (Nat.le_refl _)]
theorem zb2 (l : List Int) (i n : Int) : (addAt l i n).length = l.length := by unfold addAt; split <;> simp
theorem zb9 (l : List Int) (i n B : Int) (hn : 0 ≤ n) (h : ∀ x ∈ l, 0 ≤ x ∧ x ≤ B) : ∀ x ∈ addAt l i n, 0 ≤ x ∧ x ≤ B + n := by
 intro x hx
 unfold addAt at hx
 split at hx
 ·rename_i hi
  rcases List.mem_or_eq_of_mem_set hx with hx | rfl
  ·have := h x hx; omega
  ·have hlt : i.toNat < l.length := by omega
   have := h l[i.toNat] (List.getElem_mem _)
   simp only [List.getD, List.getElem?_eq_getElem hlt, Option.getD_some]
   omega
 ·have := h x hx; omega
theorem bookOne_length (l : List Int) (t : TsD) (d : TenD) : (bookOne l t d).length = l.length := by
 unfold bookOne
 split
 ·split <;> simp [zb2]
 ·rfl
theorem bookAll_length : ∀ (ts : List TsD) (ds : List TenD) (l : List Int), (bookAll l ts ds).length = l.length
 | [], [], _ => rfl
 | [], _ :: _, _ => rfl
 | _ :: _, [], _ => rfl
 | t :: ts, d :: ds, l => (bookAll_length ts ds _).trans (bookOne_length l t d)
theorem bookTo_length (c : CfgD) (s : StD) (i : Nat) : (bookTo c s i).length = c.cells.length := by unfold bookTo; rw [bookAll_length]; simp
theorem bookOne_bd (l : List Int) (t : TsD) (d : TenD) (B : Int) (h1 : 0 ≤ d.load ∧ d.load ≤ 65536) (h2 : 0 ≤ d.shadow ∧ d.shadow ≤ 65536) (h : ∀ x ∈ l, 0 ≤ x ∧ x ≤ B) : ∀ x ∈ bookOne l t d, 0 ≤ x ∧ x ≤ B + 300000 := by
 have a1 := zb9 l t.home d.load B h1.1 h
 have a2 := zb9 _ t.target d.load _ h1.1 a1
 have b1 := zb9 _ t.standby d.shadow _ h2.1 a2
 have b2 := zb9 _ t.next d.shadow _ h2.1 b1
 have e1 := zb9 _ t.standby d.shadow _ h2.1 h
 have e2 := zb9 _ t.next d.shadow _ h2.1 e1
 intro x hx
 unfold bookOne at hx
 split at hx
 ·split at hx
  ·have := e2 x hx; omega
  ·have := b2 x hx; omega
 ·have := h x hx; omega
theorem bookTo_bd (c : CfgD) (s : StD) (ok : CfgOk c) (hl : s.tens.length = c.tens.length) : ∀ i, i ≤ c.tens.length → ∀ x ∈ bookTo c s i, 0 ≤ x ∧ x ≤ 300000 * (i : Int)
 | 0, _ => fun x hx => by
   have : x = 0 := by
    have h2 : x ∈ List.replicate c.cells.length (0 : Int) := by simpa only [bookTo, List.take_zero, bookAll] using hx
    exact (List.mem_replicate.1 h2).2
   omega
 | i + 1, h => fun x hx => by
   have hi : i < c.tens.length := h
   have hd := ok.ten c.tens[i] (List.getElem_mem _)
   rw [bookTo_succ c s i (s.tens[i]'(by omega)) c.tens[i] hl (List.getElem?_eq_getElem _) (List.getElem?_eq_getElem _)] at hx
   have := bookOne_bd _ _ _ _ ⟨by have := hd.load; omega, hd.load.2⟩ ⟨hd.shadow.1, by have := hd.load; have := hd.shadow; omega⟩ (bookTo_bd c s ok hl i (by omega)) x hx
   push_cast
   omega
theorem ints_set (xs : List Int) (k : Nat) (n : Int) : ((xs.map iv).toArray).setIfInBounds k (iv n) = ((xs.set k n).map iv).toArray := by simp [List.map_set]
theorem add_any (g : Nat) (xs : List Int) (i n : Int) (cap : Nat) (w : World) (hx : ∀ x ∈ xs, 0 ≤ x ∧ x ≤ 1000000000000) (h0 : 0 ≤ n) (h1 : n ≤ 1000000) (hb : Blk w g 3 (xs.map iv).toArray) :
 Calls Tryz.prog 126 #[.slice (some ⟨g, 0, none⟩) xs.length cap, .int .i64 i, .int .i64 n] w fun e w' => e = .returned (.tuple #[]) ∧ Blk w' g 3 ((addAt xs i n).map iv).toArray ∧ w.grownBy w' (some g) ∧ w'.heap.size = w.heap.size := by
 by_cases hi : 0 ≤ i
 ·have d0 : decide (0 ≤ i) = true := decide_eq_true hi
  obtain ⟨i, rfl⟩ : ∃ k : Nat, i = k := ⟨i.toNat, by omega⟩
  by_cases hk : i < xs.length
  ·have d1 : decide (i < xs.length) = true := decide_eq_true hk
   have i1 : (i : Int) < (xs.length : Int) := by omega
   have hxi := hx xs[i] (List.getElem_mem _)
   have c0 : w.cell? ⟨g, i, none⟩ = some (.int .i64 xs[i]) := (hb.cell i).trans (by simp [hk])
   have f0 := hb.free i
   have HB := Lib.hid hb
   have HR := Lib.hid (show addAt xs i n = xs.set i (xs[i] + n) by unfold addAt; rw [if_pos ⟨hi, i1⟩]; simp [List.getD, hk])
   clear hb hx
   go_enter Tryz.func126, Tryz.ntmps126
   go_wp2_with fail
   go_end0
   refine ⟨rfl, ?_, only_set (World.grownBy.refl w _) (.inl rfl) _, by simp [World.setCell]⟩
   rw [HR.out, ← ints_set]
   exact HB.out.put i _
  ·have d1 : decide (i < xs.length) = false := decide_eq_false hk
   have HB := Lib.hid hb
   have HR := Lib.hid (show addAt xs i n = xs by unfold addAt; rw [if_neg (by omega)])
   clear hb hx
   go_enter Tryz.func126, Tryz.ntmps126
   go_wp2_with fail
   go_end0
   exact ⟨rfl, by rw [HR.out]; exact HB.out, World.grownBy.refl w _, rfl⟩
 ·have d0 : decide (0 ≤ i) = false := decide_eq_false hi
  have HB := Lib.hid hb
  have HR := Lib.hid (show addAt xs i n = xs by unfold addAt; rw [if_neg (by omega)])
  clear hb hx
  go_enter Tryz.func126, Tryz.ntmps126
  go_wp2_with fail
  go_end0
  exact ⟨rfl, by rw [HR.out]; exact HB.out, World.grownBy.refl w _, rfl⟩
attribute [local go_sem ↓] Go.wp_at_zero Go.wp_at_succ
structure BkI (w : World) (c : CfgD) (h : CfgH) (s : StD) (hs : StH) (l : List Int) (wr : World) : Prop where
 below : Below w.heap.size w wr
 cfg : Blk wr w.heap.size 36 (cfgV c h)
 st : Blk wr (w.heap.size + 1) 61 (stV s hs)
 bk : Blk wr (w.heap.size + 2) 3 (l.map iv).toArray
section
variable {w wr wx : World} {c : CfgD} {h : CfgH} {s : StD} {hs : StH} {l l' : List Int}
theorem BkI.keep (H : BkI w c h s hs l wr) (hb : Below wr.heap.size wr wx) : BkI w c h s hs l wx :=
 ⟨H.below.trans (hb.mono H.below.size), H.cfg.below hb H.cfg.lt, H.st.below hb H.st.lt, H.bk.below hb H.bk.lt⟩
theorem BkI.grown (H : BkI w c h s hs l wr) (hg : wr.grownBy wx (some (w.heap.size + 2))) (hb : Blk wx (w.heap.size + 2) 3 (l'.map iv).toArray) : BkI w c h s hs l' wx :=
 ⟨H.below.grown hg (by have := H.below.size; omega) (fun k hk => by have := Option.some.inj hk; omega), H.cfg.grown hg (by simp), H.st.grown hg (by simp), hb⟩
end
structure BkX (w : World) (c : CfgD) (h : CfgH) (s : StD) (hs : StH) (l : List Int) (g7 g8 : Nat) (t : TsD) (d : TenD) (wr : World) : Prop where
 i : BkI w c h s hs l wr
 t7 : Blk wr g7 105 t.cells.toArray
 t8 : Blk wr g8 118 d.cells.toArray
 h7 : w.heap.size + 2 < g7
 h8 : w.heap.size + 2 < g8
theorem BkX.grown {w wr wx : World} {c : CfgD} {h : CfgH} {s : StD} {hs : StH} {l l' : List Int} {g7 g8 : Nat} {t : TsD} {d : TenD} (H : BkX w c h s hs l g7 g8 t d wr) (hg : wr.grownBy wx (some (w.heap.size + 2))) (hb : Blk wx (w.heap.size + 2) 3 (l'.map iv).toArray) : BkX w c h s hs l' g7 g8 t d wx :=
 ⟨H.i.grown hg hb, H.t7.grown hg (by have := H.h7; simp; omega), H.t8.grown hg (by have := H.h8; simp; omega), H.h7, H.h8⟩
theorem BkI.withA {w wr : World} {c : CfgD} {h : CfgH} {s : StD} {hs : StH} {l : List Int} (H : BkI w c h s hs l wr) (t : TsD) (d : TenD) : BkX w c h s hs l wr.heap.size (wr.heap.size + 1) t d ((wr.alloc (.cells t.cells.toArray 105)).alloc (.cells d.cells.toArray 118)).drew :=
 have hb : Below wr.heap.size wr ((wr.alloc (.cells t.cells.toArray 105)).alloc (.cells d.cells.toArray 118)).drew := (((Below.refl _ _).alloc (Nat.le_refl _) _).alloc (by simp) _).drew
 ⟨H.keep hb, (Blk.new wr _ _).alloc _, Blk.newAt _ _ _ _ (by simp), H.bk.lt, by have := H.bk.lt; omega⟩
theorem BkI.withB {w wr : World} {c : CfgD} {h : CfgH} {s : StD} {hs : StH} {l : List Int} (H : BkI w c h s hs l wr) (t : TsD) (d : TenD) : BkX w c h s hs l (wr.heap.size + 1) wr.heap.size t d ((wr.alloc (.cells d.cells.toArray 118)).alloc (.cells t.cells.toArray 105)).drew :=
 have hb : Below wr.heap.size wr ((wr.alloc (.cells d.cells.toArray 118)).alloc (.cells t.cells.toArray 105)).drew := (((Below.refl _ _).alloc (Nat.le_refl _) _).alloc (by simp) _).drew
 ⟨H.keep hb, Blk.newAt _ _ _ _ (by simp), (Blk.new wr _ _).alloc _, by have := H.bk.lt; omega, H.bk.lt⟩
theorem add_anyN (g : Nat) (xs : List Int) (i n : Int) (m cap : Nat) (w : World) (hm : xs.length = m) (hx : ∀ x ∈ xs, 0 ≤ x ∧ x ≤ 1000000000000) (h0 : 0 ≤ n) (h1 : n ≤ 1000000) (hb : Blk w g 3 (xs.map iv).toArray) :
 Calls Tryz.prog 126 #[.slice (some ⟨g, 0, none⟩) m cap, .int .i64 i, .int .i64 n] w fun e w' => e = .returned (.tuple #[]) ∧ Blk w' g 3 ((addAt xs i n).map iv).toArray ∧ w.grownBy w' (some g) ∧ w'.heap.size = w.heap.size := by
 subst hm
 exact add_any g xs i n cap w hx h0 h1 hb
theorem make_ints (n : Nat) (hn : n ≤ 100000) (W : World) : (Instr.makeSlice 23 (.int .i64 n) (.int .i64 n)).run Tryz.prog W = .ok (.slice (some ⟨W.heap.size, 0, none⟩) n n) (W.alloc (.cells (Array.replicate n (iv 0)) 3)) := by
 have := etInt.make rfl n (by omega) (by omega) W
 simpa using this
theorem booked_any (c : CfgD) (h : CfgH) (s : StD) (hs : StH) (w : World) (ok : CfgOk c) (hl : s.tens.length = c.tens.length) (hC : CfgAt w w.heap.size c h) (hS : StAt w w.heap.size s hs) :
 Calls Tryz.prog 122 #[.agg (cfgV c h), .agg (stV s hs)] w fun e w' => e = .returned (.slice (some ⟨w.heap.size + 2, 0, none⟩) c.cells.length c.cells.length) ∧ Blk w' (w.heap.size + 2) 3 ((bookedD c s).map iv).toArray ∧ Below w.heap.size w w' := by
 have HC := Lib.hid hC
 have HS := Lib.hid hS
 have HK := Lib.hid ok
 have HL := Lib.hid hl
 have hcl := ok.cells.2
 have htl := ok.tens
 clear hC hS ok hl
 have hmk := fun W => make_ints c.cells.length (by omega) W
 go_enter Tryz.func122, Tryz.ntmps122
 go_upto_region 1 with (fail)
 have HI0 := Lib.hid (show Below w.heap.size w ((w.alloc (.cells (cfgV c h) 36)).alloc (.cells (stV s hs) 61)) ∧ Blk ((w.alloc (.cells (cfgV c h) 36)).alloc (.cells (stV s hs) 61)) w.heap.size 36 (cfgV c h) ∧ Blk ((w.alloc (.cells (cfgV c h) 36)).alloc (.cells (stV s hs) 61)) (w.heap.size + 1) 61 (stV s hs) ∧ ((w.alloc (.cells (cfgV c h) 36)).alloc (.cells (stV s hs) 61)).heap.size = w.heap.size + 2 from ⟨((Below.refl w.heap.size w).alloc (Nat.le_refl _) _).alloc (by simp) _, (Blk.new w _ _).alloc _, Blk.newAt _ _ _ _ (by simp), by simp⟩)
 generalize (w.alloc (.cells (cfgV c h) 36)).alloc (.cells (stV s hs) 61) = W0 at *
 have k2 : W0.cell? ⟨w.heap.size, 2, none⟩ = some (.slice h.ac c.cells.length h.kc) := HI0.out.2.1.cell 2
 go_upto_region 2 with (fail)
 have HI1 := Lib.hid (show BkI w c h s hs (bookTo c s 0) (W0.alloc (.cells (Array.replicate c.cells.length (iv 0)) 3)) from ⟨HI0.out.1.alloc (by have := HI0.out.2.2.2; omega) _, HI0.out.2.1.alloc _, HI0.out.2.2.1.alloc _, by rw [show ((bookTo c s 0).map iv).toArray = Array.replicate c.cells.length (iv 0) from by simp [bookTo, bookAll]]; exact Blk.newAt _ _ _ _ HI0.out.2.2.2.symm⟩)
 have HZ := Lib.hid HI0.out.2.2.2
 clear k2 hmk HI0
 rw [HZ.out]
 generalize W0.alloc _ = W1 at *
 clear HZ
 go_wp2_with fail
 go_loopw [6] (fun s6 wr => ∃ i : Nat, s6 = .int .i64 i ∧ i ≤ c.tens.length ∧ BkI w c h s hs (bookTo c s i) wr) (fun s6 _ => c.tens.length - (intOf s6).toNat)
 case atStart => exact ⟨0, rfl, by omega, HI1.out⟩
 case round =>
  obtain ⟨i, rfl, hi, hI⟩ := hrel
  have HI := Lib.hid hI
  clear hI HI1
  have e2 : wr.cell? ⟨w.heap.size + 1, 2, none⟩ = some (.slice hs.at_ c.tens.length hs.kt) := (HI.out.st.cell 2).trans (by rw [← HL.out]; rfl)
  by_cases hlt : i < c.tens.length
  ·have d0 : decide (i < c.tens.length) = true := decide_eq_true hlt
   obtain ⟨t, ht⟩ : ∃ t, s.tens[i]? = some t := ⟨_, List.getElem?_eq_getElem (show i < s.tens.length by rw [HL.out]; exact hlt)⟩
   obtain ⟨d, hd⟩ : ∃ d, c.tens[i]? = some d := ⟨_, List.getElem?_eq_getElem hlt⟩
   obtain ⟨ad, had, hadb, tc0, tcj⟩ := HS.out.tens.at_ TsD.cells 12 (fun _ => rfl) (by omega) ht
   obtain ⟨ad2, had2, hadb2, dc0, dcj⟩ := HC.out.tens.at_ TenD.cells 7 (fun _ => rfl) (by omega) hd
   have HSU := Lib.hid (bookTo_succ c s i t d HL.out ht hd)
   have hbd := bookTo_bd c s HK.out HL.out i (by omega)
   have hdok := HK.out.ten d (List.mem_of_getElem? hd)
   have hl1 := hdok.load
   have hl2 := hdok.shadow
   have HBD := Lib.hid hbd
   clear ht hd hbd hdok
   have HE2 := Lib.hid (e2.trans (by rw [had]))
   have e3 : wr.cell? ⟨w.heap.size, 3, none⟩ = some (.slice (some ad2) c.tens.length h.kt) := (HI.out.cfg.cell 3).trans (by rw [← had2]; rfl)
   have HE3 := Lib.hid e3
   have hwb := HI.out.below
   have T0 := Lib.hid ((cell_below_add hwb hadb _).trans (tc0 _ rfl))
   have D0 := Lib.hid ((cell_below_add hwb hadb2 _).trans (dc0 _ rfl))
   have TJ := Lib.hid (fun j v hv => (zcl hwb hadb (i * 12) j).trans (tcj j v hv))
   have DJ := Lib.hid (fun j v hv => (zcl hwb hadb2 (i * 7) j).trans (dcj j v hv))
   have b1 : ad.block < wr.heap.size := Nat.lt_of_lt_of_le hadb hwb.size
   have b2 : ad2.block < wr.heap.size := Nat.lt_of_lt_of_le hadb2 hwb.size
   have b3 : w.heap.size < wr.heap.size := HI.out.cfg.lt
   have b4 : w.heap.size + 1 < wr.heap.size := HI.out.st.lt
   have b5 : w.heap.size + 2 < wr.heap.size := HI.out.bk.lt
   clear tc0 tcj dc0 dcj hwb e3 e2
   have e2 := HE2.out
   have i0 : (0 : Int) ≤ (i : Int) := by omega
   have i1 : (i : Int) < (c.tens.length : Int) := by omega
   go_upto_region 5 with (fail)
   clear e2
   go_cut [7, 8] (fun s7 s8 wx => ∃ g7 g8 : Nat, s7 = .pointer (some ⟨g7, 0, none⟩) ∧ s8 = .pointer (some ⟨g8, 0, none⟩) ∧ BkX w c h s hs (bookTo c s i) g7 g8 t d wx)
   case first =>
    refine wp_region_held_drew (S := fun w' => Below wr.heap.size wr w') (by kernel_rfl) (Below.refl _ _ |>.drew) (fun hHeld => ?_)
    refine zb6 (i := 0) (v := ?_) rfl (by decide +kernel) (by decide +kernel) (by decide +kernel) (fun _ _ _ h => h) ?_ hHeld ?_
    rotate_left
    focus (first | (refine Or.inl ⟨by rfl, ?_⟩; intro wS hSw; have q2 : wS.cell? _ = _ := (hSw.cell (p := ⟨w.heap.size + 1, 2, none⟩) b4).trans HE2.out; clear hSw; go_simp; first | done | with_reducible rfl) | exact Or.inr ⟨by rfl, rfl⟩)
    try simp only [Act.put, List.setIfInBounds_toArray, List.set_cons_zero, List.set_cons_succ]
    refine zb6 (i := 1) (v := ?_) rfl (by decide +kernel) (by decide +kernel) (by decide +kernel) (fun _ _ _ h => h) ?_ hHeld ?_
    rotate_left
    focus (first | (refine Or.inl ⟨by rfl, ?_⟩; intro wS hSw; have q2 : wS.cell? _ = _ := (hSw.cell (p := ⟨w.heap.size + 1, 2, none⟩) b4).trans HE2.out; clear hSw; go_simp; first | done | with_reducible rfl) | exact Or.inr ⟨by rfl, rfl⟩)
    try simp only [Act.put, List.setIfInBounds_toArray, List.set_cons_zero, List.set_cons_succ]
    refine zb6 (i := 2) (v := ?_) rfl (by decide +kernel) (by decide +kernel) (by decide +kernel) (fun _ _ _ h => h) ?_ hHeld ?_
    rotate_left
    focus (first | (refine Or.inl ⟨by rfl, ?_⟩; intro wS hSw; clear hSw; go_simp; first | done | with_reducible rfl) | exact Or.inr ⟨by rfl, rfl⟩)
    try simp only [Act.put, List.setIfInBounds_toArray, List.set_cons_zero, List.set_cons_succ]
    refine zb6 (i := 3) (v := ?_) rfl (by decide +kernel) (by decide +kernel) (by decide +kernel) (fun _ _ _ h => h) ?_ hHeld ?_
    rotate_left
    focus (first | (refine Or.inl ⟨by rfl, ?_⟩; intro wS hSw; clear hSw; go_simp; first | done | with_reducible rfl) | exact Or.inr ⟨by rfl, rfl⟩)
    try simp only [Act.put, List.setIfInBounds_toArray, List.set_cons_zero, List.set_cons_succ]
    refine zb6 (i := 4) (v := ?_) rfl (by decide +kernel) (by decide +kernel) (by decide +kernel) (fun _ _ _ h => h) ?_ hHeld ?_
    rotate_left
    focus (first | (refine Or.inl ⟨by rfl, ?_⟩; intro wS hSw; have t0 := (hSw.cell (p := ad.add (i * 12)) (by rw [zal]; exact b1)).trans T0.out; have t1 : wS.cell? ⟨(ad.add (i * 12)).block, (ad.add (i * 12)).off + 1, none⟩ = some (.bool t.shed) := (hSw.cell (p := (ad.add (i * 12)).add 1) (by rw [zal, zal]; exact b1)).trans (TJ.out 1 _ rfl); have t2 : wS.cell? ⟨(ad.add (i * 12)).block, (ad.add (i * 12)).off + 2, none⟩ = some (.int .i64 t.home) := (hSw.cell (p := (ad.add (i * 12)).add 2) (by rw [zal, zal]; exact b1)).trans (TJ.out 2 _ rfl); have t3 : wS.cell? ⟨(ad.add (i * 12)).block, (ad.add (i * 12)).off + 3, none⟩ = some (.int .i64 t.standby) := (hSw.cell (p := (ad.add (i * 12)).add 3) (by rw [zal, zal]; exact b1)).trans (TJ.out 3 _ rfl); have t4 : wS.cell? ⟨(ad.add (i * 12)).block, (ad.add (i * 12)).off + 4, none⟩ = some (.int .i64 t.next) := (hSw.cell (p := (ad.add (i * 12)).add 4) (by rw [zal, zal]; exact b1)).trans (TJ.out 4 _ rfl); have t5 : wS.cell? ⟨(ad.add (i * 12)).block, (ad.add (i * 12)).off + 5, none⟩ = some (.int .i64 t.target) := (hSw.cell (p := (ad.add (i * 12)).add 5) (by rw [zal, zal]; exact b1)).trans (TJ.out 5 _ rfl); have t6 : wS.cell? ⟨(ad.add (i * 12)).block, (ad.add (i * 12)).off + 6, none⟩ = some (.int .i64 t.epoch) := (hSw.cell (p := (ad.add (i * 12)).add 6) (by rw [zal, zal]; exact b1)).trans (TJ.out 6 _ rfl); have t7 : wS.cell? ⟨(ad.add (i * 12)).block, (ad.add (i * 12)).off + 7, none⟩ = some (.int .i64 t.win.cell) := (hSw.cell (p := (ad.add (i * 12)).add 7) (by rw [zal, zal]; exact b1)).trans (TJ.out 7 _ rfl); have t8 : wS.cell? ⟨(ad.add (i * 12)).block, (ad.add (i * 12)).off + 8, none⟩ = some (.int .i64 t.win.epoch) := (hSw.cell (p := (ad.add (i * 12)).add 8) (by rw [zal, zal]; exact b1)).trans (TJ.out 8 _ rfl); have t9 : wS.cell? ⟨(ad.add (i * 12)).block, (ad.add (i * 12)).off + 9, none⟩ = some (.int .i64 t.win.version) := (hSw.cell (p := (ad.add (i * 12)).add 9) (by rw [zal, zal]; exact b1)).trans (TJ.out 9 _ rfl); have t10 : wS.cell? ⟨(ad.add (i * 12)).block, (ad.add (i * 12)).off + 10, none⟩ = some (.int .i64 t.win.lo) := (hSw.cell (p := (ad.add (i * 12)).add 10) (by rw [zal, zal]; exact b1)).trans (TJ.out 10 _ rfl); have t11 : wS.cell? ⟨(ad.add (i * 12)).block, (ad.add (i * 12)).off + 11, none⟩ = some (.int .i64 t.win.hi) := (hSw.cell (p := (ad.add (i * 12)).add 11) (by rw [zal, zal]; exact b1)).trans (TJ.out 11 _ rfl); clear hSw; go_simp; first | done | with_reducible rfl) | exact Or.inr ⟨by rfl, rfl⟩)
    try simp only [Act.put, List.setIfInBounds_toArray, List.set_cons_zero, List.set_cons_succ]
    refine zb6 (i := 5) (v := ?_) rfl (by decide +kernel) (by decide +kernel) (by decide +kernel) (fun _ _ _ h => h) ?_ hHeld ?_
    rotate_left
    focus (first | (refine Or.inl ⟨by rfl, ?_⟩; intro wS hSw; have q3 : wS.cell? _ = _ := (hSw.cell (p := ⟨w.heap.size, 3, none⟩) b3).trans HE3.out; clear hSw; go_simp; first | done | with_reducible rfl) | exact Or.inr ⟨by rfl, rfl⟩)
    try simp only [Act.put, List.setIfInBounds_toArray, List.set_cons_zero, List.set_cons_succ]
    refine zb6 (i := 6) (v := ?_) rfl (by decide +kernel) (by decide +kernel) (by decide +kernel) (fun _ _ _ h => h) ?_ hHeld ?_
    rotate_left
    focus (first | (refine Or.inl ⟨by rfl, ?_⟩; intro wS hSw; have q3 : wS.cell? _ = _ := (hSw.cell (p := ⟨w.heap.size, 3, none⟩) b3).trans HE3.out; clear hSw; go_simp; first | done | with_reducible rfl) | exact Or.inr ⟨by rfl, rfl⟩)
    try simp only [Act.put, List.setIfInBounds_toArray, List.set_cons_zero, List.set_cons_succ]
    refine zb6 (i := 7) (v := ?_) rfl (by decide +kernel) (by decide +kernel) (by decide +kernel) (fun _ _ _ h => h) ?_ hHeld ?_
    rotate_left
    focus (first | (refine Or.inl ⟨by rfl, ?_⟩; intro wS hSw; clear hSw; go_simp; first | done | with_reducible rfl) | exact Or.inr ⟨by rfl, rfl⟩)
    try simp only [Act.put, List.setIfInBounds_toArray, List.set_cons_zero, List.set_cons_succ]
    refine zb6 (i := 8) (v := ?_) rfl (by decide +kernel) (by decide +kernel) (by decide +kernel) (fun _ _ _ h => h) ?_ hHeld ?_
    rotate_left
    focus (first | (refine Or.inl ⟨by rfl, ?_⟩; intro wS hSw; clear hSw; go_simp; first | done | with_reducible rfl) | exact Or.inr ⟨by rfl, rfl⟩)
    try simp only [Act.put, List.setIfInBounds_toArray, List.set_cons_zero, List.set_cons_succ]
    refine zb6 (i := 9) (v := ?_) rfl (by decide +kernel) (by decide +kernel) (by decide +kernel) (fun _ _ _ h => h) ?_ hHeld ?_
    rotate_left
    focus (first | (refine Or.inl ⟨by rfl, ?_⟩; intro wS hSw; have t0 := (hSw.cell (p := ad2.add (i * 7)) (by rw [zal]; exact b2)).trans D0.out; have t1 : wS.cell? ⟨(ad2.add (i * 7)).block, (ad2.add (i * 7)).off + 1, none⟩ = some (.int .i64 d.shadow) := (hSw.cell (p := (ad2.add (i * 7)).add 1) (by rw [zal, zal]; exact b2)).trans (DJ.out 1 _ rfl); have t2 : wS.cell? ⟨(ad2.add (i * 7)).block, (ad2.add (i * 7)).off + 2, none⟩ = some (.int .i64 d.prio) := (hSw.cell (p := (ad2.add (i * 7)).add 2) (by rw [zal, zal]; exact b2)).trans (DJ.out 2 _ rfl); have t3 : wS.cell? ⟨(ad2.add (i * 7)).block, (ad2.add (i * 7)).off + 3, none⟩ = some (.int .i64 d.lag) := (hSw.cell (p := (ad2.add (i * 7)).add 3) (by rw [zal, zal]; exact b2)).trans (DJ.out 3 _ rfl); have t4 : wS.cell? ⟨(ad2.add (i * 7)).block, (ad2.add (i * 7)).off + 4, none⟩ = some (.int .i64 d.allowed) := (hSw.cell (p := (ad2.add (i * 7)).add 4) (by rw [zal, zal]; exact b2)).trans (DJ.out 4 _ rfl); have t5 : wS.cell? ⟨(ad2.add (i * 7)).block, (ad2.add (i * 7)).off + 5, none⟩ = some (.int .i64 d.group) := (hSw.cell (p := (ad2.add (i * 7)).add 5) (by rw [zal, zal]; exact b2)).trans (DJ.out 5 _ rfl); have t6 : wS.cell? ⟨(ad2.add (i * 7)).block, (ad2.add (i * 7)).off + 6, none⟩ = some (.bool d.noisy) := (hSw.cell (p := (ad2.add (i * 7)).add 6) (by rw [zal, zal]; exact b2)).trans (DJ.out 6 _ rfl); clear hSw; go_simp; first | done | with_reducible rfl) | exact Or.inr ⟨by rfl, rfl⟩)
    try simp only [Act.put, List.setIfInBounds_toArray, List.set_cons_zero, List.set_cons_succ]
    refine wpAnyH_ready (rs := [10, 11]) (by decide +kernel) (by simp) (za7 (i := 10) rfl (fun K hK => ?_) (za7 (i := 11) rfl (fun K hK => ?_) AllReadyH.nil))
    ·go_simp
     refine hK.out _ _ ((by first | exact (((Below.refl wr.heap.size wr).drew.alloc (Nat.le_refl _) _).alloc (by simp) _) | exact ((Below.refl wr.heap.size wr).drew.alloc (Nat.le_refl _) _))) (fun hHeld => ?_)
     clear hK K
     try simp only [Act.put, List.setIfInBounds_toArray, List.set_cons_zero, List.set_cons_succ]
     refine wpAnyH_ready (rs := [11]) (by decide +kernel) (by simp) (za7 (i := 11) rfl (fun K hK => ?_) AllReadyH.nil)
     go_simp
     refine hK.out _ _ ((by first | exact (((Below.refl wr.heap.size wr).drew.alloc (Nat.le_refl _) _).alloc (by simp) _) | exact ((Below.refl wr.heap.size wr).drew.alloc (Nat.le_refl _) _))) (fun hHeld => ?_)
     clear hK K
     try simp only [Act.put, List.setIfInBounds_toArray, List.set_cons_zero, List.set_cons_succ]
     refine wpAnyH_ready (rs := [12]) (by decide +kernel) (by simp) (za7 (i := 12) rfl (fun K hK => ?_) AllReadyH.nil)
     go_simp
     refine hK.out _ _ ((by first | exact (((Below.refl wr.heap.size wr).drew.alloc (Nat.le_refl _) _).alloc (by simp) _) | exact ((Below.refl wr.heap.size wr).drew.alloc (Nat.le_refl _) _))) (fun hHeld => ?_)
     clear hK K
     try simp only [Act.put, List.setIfInBounds_toArray, List.set_cons_zero, List.set_cons_succ]
     refine wpAnyH_ready (rs := [13]) (by decide +kernel) (by simp) (za7 (i := 13) rfl (fun K hK => ?_) AllReadyH.nil)
     go_simp
     refine hK.out _ _ ((by first | exact (((Below.refl wr.heap.size wr).drew.alloc (Nat.le_refl _) _).alloc (by simp) _) | exact ((Below.refl wr.heap.size wr).drew.alloc (Nat.le_refl _) _))) (fun hHeld => ?_)
     clear hK K
     try simp only [Act.put, List.setIfInBounds_toArray, List.set_cons_zero, List.set_cons_succ]
     refine wpAnyH_done (by decide +kernel) ?_ _
     go_wp2_with fail
     go_meet
     first | exact ⟨_, _, rfl, rfl, HI.out.withA t d⟩ | exact ⟨_, _, rfl, rfl, HI.out.withB t d⟩
    ·go_simp
     refine hK.out _ _ ((by first | exact (((Below.refl wr.heap.size wr).drew.alloc (Nat.le_refl _) _).alloc (by simp) _) | exact ((Below.refl wr.heap.size wr).drew.alloc (Nat.le_refl _) _))) (fun hHeld => ?_)
     clear hK K
     try simp only [Act.put, List.setIfInBounds_toArray, List.set_cons_zero, List.set_cons_succ]
     refine wpAnyH_ready (rs := [10]) (by decide +kernel) (by simp) (za7 (i := 10) rfl (fun K hK => ?_) AllReadyH.nil)
     go_simp
     refine hK.out _ _ ((by first | exact (((Below.refl wr.heap.size wr).drew.alloc (Nat.le_refl _) _).alloc (by simp) _) | exact ((Below.refl wr.heap.size wr).drew.alloc (Nat.le_refl _) _))) (fun hHeld => ?_)
     clear hK K
     try simp only [Act.put, List.setIfInBounds_toArray, List.set_cons_zero, List.set_cons_succ]
     refine wpAnyH_ready (rs := [12]) (by decide +kernel) (by simp) (za7 (i := 12) rfl (fun K hK => ?_) AllReadyH.nil)
     go_simp
     refine hK.out _ _ ((by first | exact (((Below.refl wr.heap.size wr).drew.alloc (Nat.le_refl _) _).alloc (by simp) _) | exact ((Below.refl wr.heap.size wr).drew.alloc (Nat.le_refl _) _))) (fun hHeld => ?_)
     clear hK K
     try simp only [Act.put, List.setIfInBounds_toArray, List.set_cons_zero, List.set_cons_succ]
     refine wpAnyH_ready (rs := [13]) (by decide +kernel) (by simp) (za7 (i := 13) rfl (fun K hK => ?_) AllReadyH.nil)
     go_simp
     refine hK.out _ _ ((by first | exact (((Below.refl wr.heap.size wr).drew.alloc (Nat.le_refl _) _).alloc (by simp) _) | exact ((Below.refl wr.heap.size wr).drew.alloc (Nat.le_refl _) _))) (fun hHeld => ?_)
     clear hK K
     try simp only [Act.put, List.setIfInBounds_toArray, List.set_cons_zero, List.set_cons_succ]
     refine wpAnyH_done (by decide +kernel) ?_ _
     go_wp2_with fail
     go_meet
     first | exact ⟨_, _, rfl, rfl, HI.out.withA t d⟩ | exact ⟨_, _, rfl, rfl, HI.out.withB t d⟩
   case rest =>
    obtain ⟨g7, g8, rfl, rfl, hX⟩ := hcut
    have HX := Lib.hid hX
    have HBL := Lib.hid (bookTo_length c s i)
    clear hX HI T0 D0 TJ DJ HE2 HE3
    have m0 := HX.out.t7.cell 0
    have m1 := HX.out.t7.cell 1
    rw [show (t.cells.toArray)[0]? = some (.bool t.placed) from rfl] at m0
    rw [show (t.cells.toArray)[1]? = some (.bool t.shed) from rfl] at m1
    cases hp : t.placed
    ·rw [hp] at m0
     have HN := Lib.hid (show bookTo c s (i + 1) = bookTo c s i by rw [HSU.out]; simp [bookOne, hp])
     clear hp m1
     go_wp2_with fail
     go_roundw
     case rel => exact ⟨i + 1, by go_num, hlt, by rw [HN.out]; exact HX.out.i⟩
     case measure => simp [intOf]; omega
    ·rw [hp] at m0
     cases hsh : t.shed
     ·rw [hsh] at m1
      have HN := Lib.hid (show bookTo c s (i + 1) = addAt (addAt (addAt (addAt (bookTo c s i) t.home d.load) t.target d.load) t.standby d.shadow) t.next d.shadow by rw [HSU.out]; simp [bookOne, hp, hsh])
      clear hp hsh
      have p0 : _ = some (Value.int .i64 t.home) := HX.out.t7.cell 2
      have r0 : _ = some (Value.int .i64 d.load) := HX.out.t8.cell 0
      go_wp2_with fail
      clear p0 r0 m0 m1
      have HA0 := Lib.hid (zb9 _ t.home d.load _ (by omega) HBD.out)
      refine (add_anyN (w.heap.size + 2) (bookTo c s i) t.home d.load c.cells.length c.cells.length _ (by first | (simp only [zb2]; exact HBL.out) | exact HBL.out) (fun x hx => by have := HBD.out x hx; omega) (by omega) (by omega) HX.out.i.bk).mono ?_
      rintro e w0 ⟨rfl, hb, hg, hs⟩
      have HX0 := Lib.hid (HX.out.grown hg hb)
      clear hb hg hs
      have p1 : _ = some (Value.int .i64 t.target) := HX0.out.t7.cell 5
      have r1 : _ = some (Value.int .i64 d.load) := HX0.out.t8.cell 0
      go_wp2_with fail
      clear p1 r1
      have HA1 := Lib.hid (zb9 _ t.target d.load _ (by omega) HA0.out)
      refine (add_anyN (w.heap.size + 2) ((addAt (bookTo c s i) t.home d.load)) t.target d.load c.cells.length c.cells.length _ (by first | (simp only [zb2]; exact HBL.out) | exact HBL.out) (fun x hx => by have := HA0.out x hx; omega) (by omega) (by omega) HX0.out.i.bk).mono ?_
      rintro e w1 ⟨rfl, hb, hg, hs⟩
      have HX1 := Lib.hid (HX0.out.grown hg hb)
      clear hb hg hs
      have p2 : _ = some (Value.int .i64 t.standby) := HX1.out.t7.cell 3
      have r2 : _ = some (Value.int .i64 d.shadow) := HX1.out.t8.cell 1
      go_wp2_with fail
      clear p2 r2
      have HA2 := Lib.hid (zb9 _ t.standby d.shadow _ (by omega) HA1.out)
      refine (add_anyN (w.heap.size + 2) ((addAt (addAt (bookTo c s i) t.home d.load) t.target d.load)) t.standby d.shadow c.cells.length c.cells.length _ (by first | (simp only [zb2]; exact HBL.out) | exact HBL.out) (fun x hx => by have := HA1.out x hx; omega) (by omega) (by omega) HX1.out.i.bk).mono ?_
      rintro e w2 ⟨rfl, hb, hg, hs⟩
      have HX2 := Lib.hid (HX1.out.grown hg hb)
      clear hb hg hs
      have p3 : _ = some (Value.int .i64 t.next) := HX2.out.t7.cell 4
      have r3 : _ = some (Value.int .i64 d.shadow) := HX2.out.t8.cell 1
      go_wp2_with fail
      clear p3 r3
      have HA3 := Lib.hid (zb9 _ t.next d.shadow _ (by omega) HA2.out)
      refine (add_anyN (w.heap.size + 2) ((addAt (addAt (addAt (bookTo c s i) t.home d.load) t.target d.load) t.standby d.shadow)) t.next d.shadow c.cells.length c.cells.length _ (by first | (simp only [zb2]; exact HBL.out) | exact HBL.out) (fun x hx => by have := HA2.out x hx; omega) (by omega) (by omega) HX2.out.i.bk).mono ?_
      rintro e w3 ⟨rfl, hb, hg, hs⟩
      have HX3 := Lib.hid (HX2.out.grown hg hb)
      clear hb hg hs
      go_wp2_with fail
      go_roundw
      case rel => exact ⟨i + 1, by go_num, hlt, by rw [HN.out]; exact HX3.out.i⟩
      case measure => simp [intOf]; omega
     ·rw [hsh] at m1
      have HN := Lib.hid (show bookTo c s (i + 1) = addAt (addAt (bookTo c s i) t.standby d.shadow) t.next d.shadow by rw [HSU.out]; simp [bookOne, hp, hsh])
      clear hp hsh
      have p0 : _ = some (Value.int .i64 t.standby) := HX.out.t7.cell 3
      have r0 : _ = some (Value.int .i64 d.shadow) := HX.out.t8.cell 1
      go_wp2_with fail
      clear p0 r0 m0 m1
      have HA0 := Lib.hid (zb9 _ t.standby d.shadow _ (by omega) HBD.out)
      refine (add_anyN (w.heap.size + 2) (bookTo c s i) t.standby d.shadow c.cells.length c.cells.length _ (by first | (simp only [zb2]; exact HBL.out) | exact HBL.out) (fun x hx => by have := HBD.out x hx; omega) (by omega) (by omega) HX.out.i.bk).mono ?_
      rintro e w0 ⟨rfl, hb, hg, hs⟩
      have HX0 := Lib.hid (HX.out.grown hg hb)
      clear hb hg hs
      have p1 : _ = some (Value.int .i64 t.next) := HX0.out.t7.cell 4
      have r1 : _ = some (Value.int .i64 d.shadow) := HX0.out.t8.cell 1
      go_wp2_with fail
      clear p1 r1
      have HA1 := Lib.hid (zb9 _ t.next d.shadow _ (by omega) HA0.out)
      refine (add_anyN (w.heap.size + 2) ((addAt (bookTo c s i) t.standby d.shadow)) t.next d.shadow c.cells.length c.cells.length _ (by first | (simp only [zb2]; exact HBL.out) | exact HBL.out) (fun x hx => by have := HA0.out x hx; omega) (by omega) (by omega) HX0.out.i.bk).mono ?_
      rintro e w1 ⟨rfl, hb, hg, hs⟩
      have HX1 := Lib.hid (HX0.out.grown hg hb)
      clear hb hg hs
      go_wp2_with fail
      go_roundw
      case rel => exact ⟨i + 1, by go_num, hlt, by rw [HN.out]; exact HX1.out.i⟩
      case measure => simp [intOf]; omega
  ·have d0 : decide (i < c.tens.length) = false := decide_eq_false hlt
   obtain rfl : i = c.tens.length := by omega
   go_wp2_with fail
   go_ret
   exact ⟨rfl, by rw [← bookTo_all c s HL.out]; exact HI.out.bk, HI.out.below⟩
attribute [local go_sem ↓] Go.wp_at_zero Go.wp_at_succ
def overAt (c : CfgD) (s : StD) (i : Nat) : Option Int := if (c.cells.getD i (0, 0)).2 < (bookedD c s).getD i 0 then some (i : Int) else none
def overTo (c : CfgD) (s : StD) (i : Nat) : List Int := (List.range i).filterMap (overAt c s)
theorem overTo_succ (c : CfgD) (s : StD) (i : Nat) : overTo c s (i + 1) = overTo c s i ++ (overAt c s i).toList := by
 unfold overTo
 rw [List.range_succ, List.filterMap_append]
 congr 1
theorem overTo_le (c : CfgD) (s : StD) (i : Nat) : (overTo c s i).length ≤ i := by
 have := List.length_filterMap_le (overAt c s) (List.range i)
 simpa [overTo] using this
structure OvI (w : World) (c : CfgD) (h : CfgH) (bl l : List Int) (base : Nat) (v : Value) (wr : World) : Prop where
 below : Below w.heap.size w wr
 cfg : Blk wr w.heap.size 36 (cfgV c h)
 bk : Blk wr (w.heap.size + 4) 3 (bl.map iv).toArray
 own : wr.ownsRow base 3 1 v l.length (l.map iv)
 hb : w.heap.size + 4 < base
 hz : base ≤ wr.heap.size
section
variable {w wr wx : World} {c : CfgD} {h : CfgH} {bl l l' : List Int} {base : Nat} {v v' : Value}
theorem OvI.keep (H : OvI w c h bl l base v wr) (hb : Below wr.heap.size wr wx) : OvI w c h bl l base v wx :=
 ⟨H.below.trans (hb.mono H.below.size), H.cfg.below hb H.cfg.lt, H.bk.below hb H.bk.lt, zb7 H.own hb, H.hb, Nat.le_trans H.hz hb.size⟩
theorem OvI.app (H : OvI w c h bl l base v wr) (hg : wr.grownBy wx v.ownBlock) (ho : wx.ownsRow base 3 1 v' l'.length (l'.map iv)) : OvI w c h bl l' base v' wx := by
 have hlt : ∀ k, v.ownBlock = some k → base ≤ k := fun k hk => (H.own.lt k hk).1
 have h4 := H.hb
 exact ⟨H.below.grown hg (by have := H.hz; omega) (fun k hk => by have := hlt k hk; omega), H.cfg.grown hg (fun e => by have := hlt _ e.symm; omega), H.bk.grown hg (fun e => by have := hlt _ e.symm; omega), ho, H.hb, Nat.le_trans H.hz hg.size⟩
end
def OverRet (c : CfgD) (s : StD) (w : World) (e : Ending) (w' : World) : Prop := ∃ (A : Option Addr) (cap : Nat), e = .returned (.slice A (overD c s).length cap) ∧ Rd w' w'.heap.size A ((overD c s).map iv) ∧ Below w.heap.size w w'
theorem over_any (c : CfgD) (h : CfgH) (s : StD) (hs : StH) (w : World) (ok : CfgOk c) (hl : s.tens.length = c.tens.length) (hC : CfgAt w w.heap.size c h) (hS : StAt w w.heap.size s hs) :
 Calls Tryz.prog 112 #[.agg (cfgV c h), .agg (stV s hs)] w (OverRet c s w) := by
 have HC := Lib.hid hC
 have HS := Lib.hid hS
 have HK := Lib.hid ok
 have HL := Lib.hid hl
 have hcl := ok.cells.2
 clear hC hS ok hl
 have HB0 := Lib.hid (show Below w.heap.size w ((w.alloc (.cells #[.int .i64 c.regions, .slice h.az c.zones.length h.kz, .slice h.ac c.cells.length h.kc, .slice h.at_ c.tens.length h.kt, .slice h.av c.vers.length h.kv, .slice h.ar c.reps.length h.kr, .slice h.ao c.obs.length h.ko, .int .i64 c.blast, .int .i64 c.lease, .int .i64 c.bake] 36)).alloc (.cells #[.int .i64 s.tick, .int .i64 s.count, .slice hs.at_ s.tens.length hs.kt, .slice hs.ac s.cells.length hs.kc, .int .i64 s.proven, .int .i64 s.evac, .int .i64 s.low, .int .i64 s.high] 61)) ∧ Blk ((w.alloc (.cells #[.int .i64 c.regions, .slice h.az c.zones.length h.kz, .slice h.ac c.cells.length h.kc, .slice h.at_ c.tens.length h.kt, .slice h.av c.vers.length h.kv, .slice h.ar c.reps.length h.kr, .slice h.ao c.obs.length h.ko, .int .i64 c.blast, .int .i64 c.lease, .int .i64 c.bake] 36)).alloc (.cells #[.int .i64 s.tick, .int .i64 s.count, .slice hs.at_ s.tens.length hs.kt, .slice hs.ac s.cells.length hs.kc, .int .i64 s.proven, .int .i64 s.evac, .int .i64 s.low, .int .i64 s.high] 61)) w.heap.size 36 (cfgV c h) ∧ ((w.alloc (.cells #[.int .i64 c.regions, .slice h.az c.zones.length h.kz, .slice h.ac c.cells.length h.kc, .slice h.at_ c.tens.length h.kt, .slice h.av c.vers.length h.kv, .slice h.ar c.reps.length h.kr, .slice h.ao c.obs.length h.ko, .int .i64 c.blast, .int .i64 c.lease, .int .i64 c.bake] 36)).alloc (.cells #[.int .i64 s.tick, .int .i64 s.count, .slice hs.at_ s.tens.length hs.kt, .slice hs.ac s.cells.length hs.kc, .int .i64 s.proven, .int .i64 s.evac, .int .i64 s.low, .int .i64 s.high] 61)).heap.size = w.heap.size + 2 from ⟨((Below.refl w.heap.size w).alloc (Nat.le_refl _) _).alloc (by simp) _, (Blk.new w _ _).alloc _, by simp⟩)
 go_enter Tryz.func112, Tryz.ntmps112
 simp only [cfgV, stV]
 go_wp2_with fail
 refine (booked_any c h s hs _ HK.out HL.out (by exact (HC.out.below HB0.out.1).more HB0.out.1.size) (by exact (HS.out.below HB0.out.1).more HB0.out.1.size)).mono ?_
 rintro e w1 ⟨rfl, hbk, hb1⟩
 have hz := HB0.out.2.2
 have HI0 := Lib.hid (show OvI w c h (bookedD c s) (overTo c s 0) w1.heap.size (.slice none 0 0) w1 from ⟨HB0.out.1.trans (hb1.mono HB0.out.1.size), HB0.out.2.1.below hb1 (by rw [hz]; omega), by rw [hz] at hbk; exact hbk, World.ownsRow_nil _ _ _ _, by have := hbk.lt; rw [hz] at this; omega, Nat.le_refl _⟩)
 rw [show ((w.alloc (.cells #[.int .i64 c.regions, .slice h.az c.zones.length h.kz, .slice h.ac c.cells.length h.kc, .slice h.at_ c.tens.length h.kt, .slice h.av c.vers.length h.kv, .slice h.ar c.reps.length h.kr, .slice h.ao c.obs.length h.ko, .int .i64 c.blast, .int .i64 c.lease, .int .i64 c.bake] 36)).alloc (.cells #[.int .i64 s.tick, .int .i64 s.count, .slice hs.at_ s.tens.length hs.kt, .slice hs.ac s.cells.length hs.kc, .int .i64 s.proven, .int .i64 s.evac, .int .i64 s.low, .int .i64 s.high] 61)).heap.size + 2 = w.heap.size + 4 from by rw [hz]]
 clear hbk hb1 hz HB0
 go_wp2_with fail
 go_loopw [5, 7] (fun s5 s7 wr => ∃ i : Nat, s7 = .int .i64 i ∧ i ≤ c.cells.length ∧ OvI w c h (bookedD c s) (overTo c s i) w1.heap.size s5 wr) (fun _ s7 _ => c.cells.length - (intOf s7).toNat)
 case atStart => exact ⟨0, rfl, by omega, HI0.out⟩
 case round =>
  rename_i s5
  obtain ⟨i, rfl, hi, hI⟩ := hrel
  have HI := Lib.hid hI
  obtain ⟨A, cap, rfl⟩ := zas hI.own
  clear hI HI0
  have HLE := Lib.hid (overTo_le c s i)
  by_cases hlt : i < c.cells.length
  ·have d0 : decide (i < c.cells.length) = true := decide_eq_true hlt
   have hbl : i < (bookedD c s).length := by rw [← bookTo_all c s HL.out, bookTo_length]; exact hlt
   obtain ⟨ad, had, hadb, _, dcj⟩ := HC.out.cells.at_ pairCells 2 (fun _ => rfl) (by omega) (i := i) (x := c.cells[i]) (List.getElem?_eq_getElem hlt)
   have k2 : wr.cell? ⟨w.heap.size, 2, none⟩ = some (.slice (some ad) c.cells.length h.kc) := (HI.out.cfg.cell 2).trans (by rw [← had]; rfl)
   have k3 : wr.cell? ⟨(ad.add (i * 2)).block, (ad.add (i * 2)).off + 1, none⟩ = some (.int .i64 c.cells[i].2) := (zcl HI.out.below hadb (i * 2) 1).trans (dcj 1 _ rfl)
   have k4 : wr.cell? ⟨w.heap.size + 4, i, none⟩ = some (.int .i64 (bookedD c s)[i]) := (HI.out.bk.cell i).trans (by simp [hbl])
   have HAT := Lib.hid (show overAt c s i = if c.cells[i].2 < (bookedD c s)[i] then some (i : Int) else none by unfold overAt; simp [List.getD, hlt, hbl])
   have i0 : (0 : Int) ≤ (i : Int) := by omega
   have i1 : (i : Int) < (c.cells.length : Int) := by omega
   clear dcj had
   go_wp2_with fail
   go_quiet (fail)
   by_cases hov : c.cells[i].2 < (bookedD c s)[i]
   ·have d1 : decide (c.cells[i].2 < (bookedD c s)[i]) = true := decide_eq_true hov
    have HN := Lib.hid (show overTo c s (i + 1) = overTo c s i ++ [(i : Int)] by rw [overTo_succ, HAT.out, if_pos hov]; rfl)
    have HD := Lib.hid (HI.out.keep (zay (Below.refl _ _) nq))
    clear k2 k3 k4
    have hsz := HI.out.hz
    have hn6 : (overTo c s i).length ≤ 10000000 := by have := HLE.out; omega
    go_wp2_with (at_builtin; refine zcn etInt rfl _ _ rfl w1.heap.size _ (overTo c s i).length _ rfl (by exact HD.out.own) #[.int .i64 i] rfl (by simp [Value.oneCell']) rfl hn6 (by omega) hsz ?_; intro v2 w2 hown2 hg2 hat2; have HI2 := Lib.hid (HD.out.app (l' := overTo c s i ++ [(i : Int)]) hg2 (by simpa using hown2)); clear hown2 hg2 hat2)
    go_roundw
    case rel => exact ⟨i + 1, by go_num, hlt, by rw [HN.out]; exact HI2.out⟩
    case measure => simp [intOf]; omega
   ·have d1 : decide (c.cells[i].2 < (bookedD c s)[i]) = false := decide_eq_false hov
    have HN := Lib.hid (show overTo c s (i + 1) = overTo c s i by rw [overTo_succ, HAT.out, if_neg hov]; simp)
    have HD := Lib.hid (HI.out.keep (zay (Below.refl _ _) nq))
    clear k2 k3 k4
    go_wp2_with fail
    go_roundw
    case rel => exact ⟨i + 1, by go_num, hlt, by rw [HN.out]; exact HD.out⟩
    case measure => simp [intOf]; omega
  ·have d0 : decide (i < c.cells.length) = false := decide_eq_false hlt
   obtain rfl : i = c.cells.length := by omega
   go_wp2_with fail
   go_ret
   have e : overTo c s c.cells.length = overD c s := rfl
   exact ⟨A, cap, by rw [← e]; rfl, by rw [← e]; exact rd_ownN HI.out.own, HI.out.below⟩
attribute [local go_sem ↓] Go.wp_at_zero Go.wp_at_succ
def zeroH : StH := ⟨none, 0, none, 0⟩
def ResRet (r : Res) (hs : StH) (w : World) (e : Ending) (w' : World) : Prop := e = .returned (.tuple #[.agg (stV r.2 (if r.1 = 0 then hs else zeroH)), .int .i64 r.1]) ∧ Below w.heap.size w w'
theorem ResRet.bad {x : Int} (hx : x ≠ 0) {hs : StH} {w w' : World} (hb : Below w.heap.size w w') {r : Res} (hr : r = no x) : ResRet r hs w (.returned (.tuple #[.agg #[.int .i64 0, .int .i64 0, .slice none 0 0, .slice none 0 0, .int .i64 0, .int .i64 0, .int .i64 0, .int .i64 0], .int .i64 x])) w' := by
 subst hr
 refine ⟨?_, hb⟩
 rw [if_neg (by exact hx)]
 rfl
theorem ResRet.good {s : StD} {hs : StH} {w w' : World} (hb : Below w.heap.size w w') {r : Res} (hr : r = (0, s)) : ResRet r hs w (.returned (.tuple #[.agg (stV s hs), .int .i64 0])) w' := by
 subst hr
 refine ⟨?_, hb⟩
 rw [if_pos rfl]
theorem fit_any (c : CfgD) (h : CfgH) (s : StD) (hs : StH) (w : World) (ok : CfgOk c) (hl : s.tens.length = c.tens.length) (hC : CfgAt w w.heap.size c h) (hS : StAt w w.heap.size s hs) :
 Calls Tryz.prog 92 #[.agg (cfgV c h), .agg (stV s hs)] w (ResRet (fitD c s) hs w) := by
 have HC := Lib.hid hC
 have HS := Lib.hid hS
 have HK := Lib.hid ok
 have HL := Lib.hid hl
 clear hC hS ok hl
 have HB0 := Lib.hid (show Below w.heap.size w (((w.alloc (.cells #[.int .i64 c.regions, .slice h.az c.zones.length h.kz, .slice h.ac c.cells.length h.kc, .slice h.at_ c.tens.length h.kt, .slice h.av c.vers.length h.kv, .slice h.ar c.reps.length h.kr, .slice h.ao c.obs.length h.ko, .int .i64 c.blast, .int .i64 c.lease, .int .i64 c.bake] 36)).alloc (.cells #[.int .i64 s.tick, .int .i64 s.count, .slice hs.at_ s.tens.length hs.kt, .slice hs.ac s.cells.length hs.kc, .int .i64 s.proven, .int .i64 s.evac, .int .i64 s.low, .int .i64 s.high] 61)).alloc (.cells #[.int .i64 0, .int .i64 0, .slice none 0 0, .slice none 0 0, .int .i64 0, .int .i64 0, .int .i64 0, .int .i64 0] 61)) from (((Below.refl w.heap.size w).alloc (Nat.le_refl _) _).alloc (by simp) _).alloc (by simp; omega) _)
 have HZ := Lib.hid (show (((w.alloc (.cells #[.int .i64 c.regions, .slice h.az c.zones.length h.kz, .slice h.ac c.cells.length h.kc, .slice h.at_ c.tens.length h.kt, .slice h.av c.vers.length h.kv, .slice h.ar c.reps.length h.kr, .slice h.ao c.obs.length h.ko, .int .i64 c.blast, .int .i64 c.lease, .int .i64 c.bake] 36)).alloc (.cells #[.int .i64 s.tick, .int .i64 s.count, .slice hs.at_ s.tens.length hs.kt, .slice hs.ac s.cells.length hs.kc, .int .i64 s.proven, .int .i64 s.evac, .int .i64 s.low, .int .i64 s.high] 61)).alloc (.cells #[.int .i64 0, .int .i64 0, .slice none 0 0, .slice none 0 0, .int .i64 0, .int .i64 0, .int .i64 0, .int .i64 0] 61)).heap.size = w.heap.size + 3 by simp)
 have HR := Lib.hid (show Blk (((w.alloc (.cells #[.int .i64 c.regions, .slice h.az c.zones.length h.kz, .slice h.ac c.cells.length h.kc, .slice h.at_ c.tens.length h.kt, .slice h.av c.vers.length h.kv, .slice h.ar c.reps.length h.kr, .slice h.ao c.obs.length h.ko, .int .i64 c.blast, .int .i64 c.lease, .int .i64 c.bake] 36)).alloc (.cells #[.int .i64 s.tick, .int .i64 s.count, .slice hs.at_ s.tens.length hs.kt, .slice hs.ac s.cells.length hs.kc, .int .i64 s.proven, .int .i64 s.evac, .int .i64 s.low, .int .i64 s.high] 61)).alloc (.cells #[.int .i64 0, .int .i64 0, .slice none 0 0, .slice none 0 0, .int .i64 0, .int .i64 0, .int .i64 0, .int .i64 0] 61)) (w.heap.size + 2) 61 #[.int .i64 0, .int .i64 0, .slice none 0 0, .slice none 0 0, .int .i64 0, .int .i64 0, .int .i64 0, .int .i64 0] from Blk.newAt _ _ _ _ (by simp))
 have HT := Lib.hid (show Blk (((w.alloc (.cells #[.int .i64 c.regions, .slice h.az c.zones.length h.kz, .slice h.ac c.cells.length h.kc, .slice h.at_ c.tens.length h.kt, .slice h.av c.vers.length h.kv, .slice h.ar c.reps.length h.kr, .slice h.ao c.obs.length h.ko, .int .i64 c.blast, .int .i64 c.lease, .int .i64 c.bake] 36)).alloc (.cells #[.int .i64 s.tick, .int .i64 s.count, .slice hs.at_ s.tens.length hs.kt, .slice hs.ac s.cells.length hs.kc, .int .i64 s.proven, .int .i64 s.evac, .int .i64 s.low, .int .i64 s.high] 61)).alloc (.cells #[.int .i64 0, .int .i64 0, .slice none 0 0, .slice none 0 0, .int .i64 0, .int .i64 0, .int .i64 0, .int .i64 0] 61)) (w.heap.size + 1) 61 #[.int .i64 s.tick, .int .i64 s.count, .slice hs.at_ s.tens.length hs.kt, .slice hs.ac s.cells.length hs.kc, .int .i64 s.proven, .int .i64 s.evac, .int .i64 s.low, .int .i64 s.high] from (Blk.newAt _ _ _ _ (by simp)).alloc _)
 go_enter Tryz.func92, Tryz.ntmps92
 simp only [cfgV, stV]
 go_wp2_with fail
 refine (over_any c h s hs _ HK.out HL.out (by exact (HC.out.below HB0.out).more HB0.out.size) (by exact (HS.out.below HB0.out).more HB0.out.size)).mono ?_
 rintro e w1 ⟨A, cap, rfl, _, hb1⟩
 have HB1 := Lib.hid (HB0.out.trans (hb1.mono HB0.out.size))
 have HR1 := Lib.hid (HR.out.below hb1 (by rw [HZ.out]; omega))
 have HT1 := Lib.hid (HT.out.below hb1 (by rw [HZ.out]; omega))
 clear hb1
 have r0 : w1.cell? ⟨w.heap.size + 2, 0, none⟩ = some (.int .i64 0) := HR1.out.cell 0
 have f0 := HR1.out.free 0
 have r1 : w1.cell? ⟨w.heap.size + 2, 1, none⟩ = some (.int .i64 0) := HR1.out.cell 1
 have f1 := HR1.out.free 1
 have r2 : w1.cell? ⟨w.heap.size + 2, 2, none⟩ = some (.slice none 0 0) := HR1.out.cell 2
 have f2 := HR1.out.free 2
 have r3 : w1.cell? ⟨w.heap.size + 2, 3, none⟩ = some (.slice none 0 0) := HR1.out.cell 3
 have f3 := HR1.out.free 3
 have r4 : w1.cell? ⟨w.heap.size + 2, 4, none⟩ = some (.int .i64 0) := HR1.out.cell 4
 have f4 := HR1.out.free 4
 have r5 : w1.cell? ⟨w.heap.size + 2, 5, none⟩ = some (.int .i64 0) := HR1.out.cell 5
 have f5 := HR1.out.free 5
 have r6 : w1.cell? ⟨w.heap.size + 2, 6, none⟩ = some (.int .i64 0) := HR1.out.cell 6
 have f6 := HR1.out.free 6
 have r7 : w1.cell? ⟨w.heap.size + 2, 7, none⟩ = some (.int .i64 0) := HR1.out.cell 7
 have f7 := HR1.out.free 7
 have t0 : w1.cell? ⟨w.heap.size + 1, 0, none⟩ = some (.int .i64 s.tick) := HT1.out.cell 0
 have t1 : w1.cell? ⟨w.heap.size + 1, 1, none⟩ = some (.int .i64 s.count) := HT1.out.cell 1
 have t2 : w1.cell? ⟨w.heap.size + 1, 2, none⟩ = some (.slice hs.at_ s.tens.length hs.kt) := HT1.out.cell 2
 have t3 : w1.cell? ⟨w.heap.size + 1, 3, none⟩ = some (.slice hs.ac s.cells.length hs.kc) := HT1.out.cell 3
 have t4 : w1.cell? ⟨w.heap.size + 1, 4, none⟩ = some (.int .i64 s.proven) := HT1.out.cell 4
 have t5 : w1.cell? ⟨w.heap.size + 1, 5, none⟩ = some (.int .i64 s.evac) := HT1.out.cell 5
 have t6 : w1.cell? ⟨w.heap.size + 1, 6, none⟩ = some (.int .i64 s.low) := HT1.out.cell 6
 have t7 : w1.cell? ⟨w.heap.size + 1, 7, none⟩ = some (.int .i64 s.high) := HT1.out.cell 7
 by_cases hov : 0 < (overD c s).length
 ·have d0 : decide (0 < (overD c s).length) = true := decide_eq_true hov
  have HF := Lib.hid (show fitD c s = no 10 by unfold fitD; rw [if_pos hov])
  go_wp2_with fail
  refine bodyPost_ret (v := .tuple #[.agg #[.int .i64 0, .int .i64 0, .slice none 0 0, .slice none 0 0, .int .i64 0, .int .i64 0, .int .i64 0, .int .i64 0], .int .i64 10]) ?_ rfl (ResRet.bad (by omega) ?_ HF.out)
  ·simp [results, Tryz.results92, go_sem, *]
  ·iterate 8 refine Below.setCell ?_ (by show w.heap.size ≤ w.heap.size + 2; omega) _
   exact HB1.out
 ·have d0 : decide (0 < (overD c s).length) = false := decide_eq_false hov
  have HF := Lib.hid (show fitD c s = (0, s) by unfold fitD; rw [if_neg hov])
  go_wp2_with fail
  refine bodyPost_ret (v := .tuple #[.agg #[.int .i64 s.tick, .int .i64 s.count, .slice hs.at_ s.tens.length hs.kt, .slice hs.ac s.cells.length hs.kc, .int .i64 s.proven, .int .i64 s.evac, .int .i64 s.low, .int .i64 s.high], .int .i64 0]) ?_ rfl (ResRet.good ?_ HF.out)
  ·simp [results, Tryz.results92, go_sem, *]
  ·iterate 8 refine Below.setCell ?_ (by show w.heap.size ≤ w.heap.size + 2; omega) _
   exact HB1.out
structure StW (w : World) (s : StD) (hs : StH) (gt gc : Nat) : Prop where
 at_ : hs.at_ = some ⟨gt, 0, none⟩
 ac : hs.ac = some ⟨gc, 0, none⟩
 bt : ∃ r, Blk w gt 105 (s.tens.flatMap TsD.cells ++ r).toArray
 bc : ∃ r, Blk w gc 107 (s.cells.flatMap CsD.cells ++ r).toArray
 ne : gt ≠ gc
theorem flat_set {α : Type} (f : α → List Value) (k : Nat) (hf : ∀ x, (f x).length = k) (x' : α) (j : Nat) (v : Value) : ∀ (l : List α) (i : Nat) (x : α) (r : List Value), l[i]? = some x → j < k → f x' = (f x).set j v →
 (l.flatMap f ++ r).set (i * k + j) v = (l.set i x').flatMap f ++ r
 | [], i, x, r, h, _, _ => by simp at h
 | y :: l, 0, x, r, h, hj, he => by
   obtain rfl : y = x := by simpa using h
   rw [List.flatMap_cons, Nat.zero_mul, Nat.zero_add, List.append_assoc, List.set_append_left _ _ (by rw [hf]; exact hj), List.set_cons_zero, List.flatMap_cons, he, List.append_assoc]
 | y :: l, i + 1, x, r, h, hj, he => by
   rw [List.flatMap_cons, List.append_assoc, List.set_append_right _ _ (by rw [hf, Nat.succ_mul]; omega), hf, show (i + 1) * k + j - k = i * k + j by rw [Nat.succ_mul]; omega, flat_set f k hf x' j v l i x r (by simpa using h) hj he, List.set_cons_succ, List.flatMap_cons, List.append_assoc]
section
variable {w wx : World} {s : StD} {hs : StH} {gt gc : Nat}
theorem rd_blk {w : World} {g : Nat} {t : TypeId} {xs r : List Value} (h : Blk w g t (xs ++ r).toArray) : Rd w w.heap.size (some ⟨g, 0, none⟩) xs := by
 intro j v hv
 refine ⟨_, rfl, h.lt, ?_⟩
 rw [show (⟨g, 0, none⟩ : Addr).add j = ⟨g, j, none⟩ by cases j <;> simp [Addr.add], h.cell j]
 have := (List.getElem?_eq_some_iff.1 hv).1
 simp [List.getElem?_append_left this, hv]
theorem StW.toAt (H : StW w s hs gt gc) : StAt w w.heap.size s hs := by
 obtain ⟨r1, h1⟩ := H.bt
 obtain ⟨r2, h2⟩ := H.bc
 exact ⟨by rw [H.at_]; exact rd_blk h1, by rw [H.ac]; exact rd_blk h2⟩
theorem StW.lt (H : StW w s hs gt gc) : gt < w.heap.size ∧ gc < w.heap.size := by
 obtain ⟨r1, h1⟩ := H.bt
 obtain ⟨r2, h2⟩ := H.bc
 exact ⟨h1.lt, h2.lt⟩
theorem StW.keep (H : StW w s hs gt gc) (h1 : wx.heap[gt]? = w.heap[gt]?) (h2 : wx.heap[gc]? = w.heap[gc]?) : StW wx s hs gt gc := by
 obtain ⟨r1, b1⟩ := H.bt
 obtain ⟨r2, b2⟩ := H.bc
 exact ⟨H.at_, H.ac, ⟨r1, h1.trans b1⟩, ⟨r2, h2.trans b2⟩, H.ne⟩
theorem StW.below (H : StW w s hs gt gc) (hb : Below w.heap.size w wx) : StW wx s hs gt gc := H.keep (hb.block _ H.lt.1) (hb.block _ H.lt.2)
theorem StW.alloc (H : StW w s hs gt gc) (o : Obj) : StW (w.alloc o) s hs gt gc := H.keep (Below.heap_alloc w o _ H.lt.1) (Below.heap_alloc w o _ H.lt.2)
theorem StW.far (H : StW w s hs gt gc) {p : Addr} (h1 : gt ≠ p.block) (h2 : gc ≠ p.block) (u : Value) : StW (w.setCell p u) s hs gt gc := H.keep (Below.heap_setCell w p u _ h1) (Below.heap_setCell w p u _ h2)
theorem StW.drew (H : StW w s hs gt gc) : StW w.drew s hs gt gc := ⟨H.at_, H.ac, H.bt, H.bc, H.ne⟩
theorem StW.drewN (H : StW w s hs gt gc) (k : Nat) : StW (w.drewN k) s hs gt gc := ⟨H.at_, H.ac, H.bt, H.bc, H.ne⟩
theorem StW.tcell (H : StW w s hs gt gc) {n : Nat} {t : TsD} (ht : s.tens[n]? = some t) (j : Nat) {v : Value} (hv : t.cells[j]? = some v) : w.cell? ⟨gt, n * 12 + j, none⟩ = some v := by
 obtain ⟨r, b⟩ := H.bt
 have hj : j < 12 := (List.getElem?_eq_some_iff.1 hv).1
 have := flat_at TsD.cells 12 (fun _ => rfl) s.tens n j t ht hj
 rw [hv] at this
 have hlt := (List.getElem?_eq_some_iff.1 this).1
 rw [b.cell]
 simp [List.getElem?_append_left hlt, this]
theorem StW.tfree (H : StW w s hs gt gc) (i : Nat) : w.frozen? ⟨gt, i, none⟩ = false := by obtain ⟨r, b⟩ := H.bt; exact b.free i
theorem StW.setT (H : StW w s hs gt gc) {n : Nat} {t t' : TsD} (ht : s.tens[n]? = some t) (j : Nat) (hj : j < 12) {v : Value} (he : t'.cells = t.cells.set j v) : StW (w.setCell ⟨gt, n * 12 + j, none⟩ v) (s.setT n t') hs gt gc := by
 obtain ⟨r, b⟩ := H.bt
 obtain ⟨r2, b2⟩ := H.bc
 refine ⟨H.at_, H.ac, ⟨r, ?_⟩, ⟨r2, b2.far (by exact fun h => H.ne h.symm) v⟩, H.ne⟩
 have := b.put (n * 12 + j) v
 rw [List.setIfInBounds_toArray, flat_set TsD.cells 12 (fun _ => rfl) t' j v s.tens n t r ht hj he] at this
 simpa [StD.setT] using this
theorem StW.setC (H : StW w s hs gt gc) {n : Nat} {x x' : CsD} (hx : s.cells[n]? = some x) (j : Nat) (hj : j < 4) {v : Value} (he : x'.cells = x.cells.set j v) : StW (w.setCell ⟨gc, n * 4 + j, none⟩ v) (s.setC n x') hs gt gc := by
 obtain ⟨r, b⟩ := H.bt
 obtain ⟨r2, b2⟩ := H.bc
 refine ⟨H.at_, H.ac, ⟨r, b.far (by exact H.ne) v⟩, ⟨r2, ?_⟩, H.ne⟩
 have := b2.put (n * 4 + j) v
 rw [List.setIfInBounds_toArray, flat_set CsD.cells 4 (fun _ => rfl) x' j v s.cells n x r2 hx hj he] at this
 simpa [StD.setC] using this
theorem zb4 {n : Nat} {t t' : TsD} (ht : s.tens[n]? = some t) : (s.setT n t').tens[n]? = some t' := by
 have := (List.getElem?_eq_some_iff.1 ht).1
 simp [StD.setT, this]
theorem setT_setT (s : StD) (n : Nat) (t t' : TsD) : (s.setT n t).setT n t' = s.setT n t' := by simp [StD.setT, List.set_set]
theorem setC_get {n : Nat} {x x' : CsD} (hx : s.cells[n]? = some x) : (s.setC n x').cells[n]? = some x' := by
 have := (List.getElem?_eq_some_iff.1 hx).1
 simp [StD.setC, this]
theorem setC_setC (s : StD) (n : Nat) (x x' : CsD) : (s.setC n x).setC n x' = s.setC n x' := by simp [StD.setC, List.set_set]
theorem zbi {n : Nat} {t : TsD} (ht : s.tens[n]? = some t) : s.ten n = t := by simp [StD.ten, List.getD, ht]
theorem zb8 {n : Nat} {x : CsD} (hx : s.cells[n]? = some x) : s.cel n = x := by simp [StD.cel, List.getD, hx]
end
def GC (gt gc : Nat) (i : Nat) : Prop := i = gt ∨ i = gc
def StRet (r : Res) (hs : StH) (gt gc : Nat) (w : World) (e : Ending) (w' : World) : Prop :=
 e = .returned (.tuple #[.agg (stV r.2 (if r.1 = 0 then hs else zeroH)), .int .i64 r.1]) ∧ Gr (GC gt gc) w w' ∧ (r.1 = 0 → StW w' r.2 hs gt gc)
theorem StRet.bad {x : Int} (hx : x ≠ 0) {hs : StH} {gt gc : Nat} {w w' : World} (hb : Gr (GC gt gc) w w') {r : Res} (hr : r = no x) : StRet r hs gt gc w (.returned (.tuple #[.agg #[.int .i64 0, .int .i64 0, .slice none 0 0, .slice none 0 0, .int .i64 0, .int .i64 0, .int .i64 0, .int .i64 0], .int .i64 x])) w' := by
 subst hr
 refine ⟨?_, hb, fun h => absurd h hx⟩
 rw [if_neg (by exact hx)]
 rfl
theorem StRet.good {s : StD} {hs : StH} {gt gc : Nat} {w w' : World} (hb : Gr (GC gt gc) w w') (hw : StW w' s hs gt gc) {r : Res} (hr : r = (0, s)) : StRet r hs gt gc w (.returned (.tuple #[.agg (stV s hs), .int .i64 0])) w' := by
 subst hr
 exact ⟨by rw [if_pos rfl], hb, fun _ => hw⟩
structure KI (w : World) (s0 s : StD) (hs : StH) (e : EnD) (gt gc bs be br : Nat) (wr : World) : Prop where
 gr : Gr (GC gt gc) w wr
 st : Blk wr bs 61 (stV s0 hs)
 en : Blk wr be 96 e.cells
 res : Blk wr br 61 #[.int .i64 0, .int .i64 0, .slice none 0 0, .slice none 0 0, .int .i64 0, .int .i64 0, .int .i64 0, .int .i64 0]
 sw : StW wr s hs gt gc
 lt : gt < w.heap.size ∧ gc < w.heap.size
 hb : w.heap.size ≤ bs ∧ w.heap.size ≤ be ∧ w.heap.size ≤ br
section
variable {w wr wx : World} {s0 s : StD} {hs : StH} {e : EnD} {gt gc bs be br : Nat}
theorem KI.below (H : KI w s0 s hs e gt gc bs be br wr) (hb : Below wr.heap.size wr wx) : KI w s0 s hs e gt gc bs be br wx :=
 ⟨H.gr.thenBelow hb, H.st.below hb H.st.lt, H.en.below hb H.en.lt, H.res.below hb H.res.lt, H.sw.below hb, H.lt, H.hb⟩
theorem KI.drewN (H : KI w s0 s hs e gt gc bs be br wr) (k : Nat) : KI w s0 s hs e gt gc bs be br (wr.drewN k) := H.below (zay (Below.refl _ _) k)
theorem KI.setT (H : KI w s0 s hs e gt gc bs be br wr) {n : Nat} {t t' : TsD} (ht : s.tens[n]? = some t) (j : Nat) (hj : j < 12) {v : Value} (he : t'.cells = t.cells.set j v) : KI w s0 (s.setT n t') hs e gt gc bs be br (wr.setCell ⟨gt, n * 12 + j, none⟩ v) := by
 have h1 := H.lt
 have h2 := H.hb
 exact ⟨H.gr.set (.inl (.inl rfl)) v, H.st.far (by show bs ≠ gt; omega) v, H.en.far (by show be ≠ gt; omega) v, H.res.far (by show br ≠ gt; omega) v, H.sw.setT ht j hj he, h1, h2⟩
theorem KI.setC (H : KI w s0 s hs e gt gc bs be br wr) {n : Nat} {x x' : CsD} (hx : s.cells[n]? = some x) (j : Nat) (hj : j < 4) {v : Value} (he : x'.cells = x.cells.set j v) : KI w s0 (s.setC n x') hs e gt gc bs be br (wr.setCell ⟨gc, n * 4 + j, none⟩ v) := by
 have h1 := H.lt
 have h2 := H.hb
 exact ⟨H.gr.set (.inl (.inr rfl)) v, H.st.far (by show bs ≠ gc; omega) v, H.en.far (by show be ≠ gc; omega) v, H.res.far (by show br ≠ gc; omega) v, H.sw.setC hx j hj he, h1, h2⟩
theorem KI.grSet (H : KI w s0 s hs e gt gc bs be br wr) {W : World} (hG : Gr (GC gt gc) w W) (i : Nat) (u : Value) : Gr (GC gt gc) w (W.setCell ⟨br, i, none⟩ u) := hG.set (.inr H.hb.2.2) u
theorem KI.swSet (H : KI w s0 s hs e gt gc bs be br wr) {W : World} (hG : StW W s hs gt gc) (i : Nat) (u : Value) : StW (W.setCell ⟨br, i, none⟩ u) s hs gt gc := hG.far (by have := H.lt; have := H.hb; show gt ≠ br; omega) (by have := H.lt; have := H.hb; show gc ≠ br; omega) u
end
end Go.Proofs.YtcgcfeablbjnaaaGreatDoor
namespace Go.Proofs.YtcgcfeablbjnaaaGreatDoor
open Go.RowKit
section
variable {c : CfgD} {s : StD} {e : EnD}
theorem zc2 {x : Int} (hx : x ≠ 0) {p : Prop} (h : (no x).1 = 0) : p := absurd h hx
theorem fitD_ok (h : StOk c s) (hr : (fitD c s).1 = 0) : StOk c (fitD c s).2 := by
 revert hr
 unfold fitD
 split
 ·exact fun hr => zc2 (by omega) hr
 ·exact fun _ => h
theorem mem_set_of {α : Type} {p : α → Prop} {l : List α} {n : Nat} {x : α} (h : ∀ y ∈ l, p y) (hx : p x) : ∀ y ∈ l.set n x, p y := fun y hy => by
 rcases List.mem_or_eq_of_mem_set hy with h1 | rfl
 ·exact h y h1
 ·exact hx
theorem StOk.setT (h : StOk c s) {i : Int} {t : TsD} (ht : TsOk c t) : StOk c (s.setT i t) :=
 ⟨h.tick, h.count, by simpa [StD.setT] using h.tl, h.cl, mem_set_of h.ten ht, h.cel, h.proven, h.evac, h.low, h.high⟩
theorem StOk.setC (h : StOk c s) {i : Int} {x : CsD} (hx : CsOk c x) : StOk c (s.setC i x) :=
 ⟨h.tick, h.count, h.tl, by simpa [StD.setC] using h.cl, h.ten, mem_set_of h.cel hx, h.proven, h.evac, h.low, h.high⟩
theorem StOk.tenOk (h : StOk c s) {i : Int} (h0 : 0 ≤ i) (h1 : i < c.tens.length) : TsOk c (s.ten i) := by
 have hl : i.toNat < s.tens.length := by rw [h.tl]; omega
 have : s.ten i = s.tens[i.toNat] := by simp [StD.ten, List.getD, hl]
 rw [this]
 exact h.ten _ (List.getElem_mem hl)
theorem StOk.celOk (h : StOk c s) {i : Int} (h0 : 0 ≤ i) (h1 : i < c.cells.length) : CsOk c (s.cel i) := by
 have hl : i.toNat < s.cells.length := by rw [h.cl]; omega
 have : s.cel i = s.cells[i.toNat] := by simp [StD.cel, List.getD, hl]
 rw [this]
 exact h.cel _ (List.getElem_mem hl)
theorem placeD_ok (h : StOk c s) (ht : 0 ≤ e.tenant ∧ e.tenant < c.tens.length) (hc : 0 ≤ e.cell ∧ e.cell < c.cells.length) (ho : -1 ≤ e.other ∧ e.other < c.cells.length) (hr : (placeD c s e).1 = 0) : StOk c (placeD c s e).2 := by
 have t := h.tenOk ht.1 ht.2
 revert hr
 unfold placeD
 repeat' split
 all_goals intro hr
 all_goals first
  | exact zc2 (by omega) hr
  | exact fitD_ok (h.setT ⟨⟨by show -1 ≤ e.cell; omega, hc.2⟩, ho, t.next, t.target, t.epoch, t.wcell, t.wepoch, t.wver, t.lo, t.hi, fun _ => hc.1, fun _ => rfl⟩) hr
theorem grantD_ok (h : StOk c s) (ht : 0 ≤ e.tenant ∧ e.tenant < c.tens.length) (hc : 0 ≤ e.cell ∧ e.cell < c.cells.length) (he : 1 ≤ e.epoch ∧ e.epoch ≤ 1048576) (hl : 0 ≤ e.lo ∧ e.lo ≤ 1073741824) (hh : 0 ≤ e.hi ∧ e.hi ≤ 1073741824) (hn : 0 ≤ e.n ∧ e.n < 30) (hr : (grantD c s e).1 = 0) : StOk c (grantD c s e).2 := by
 have t := h.tenOk ht.1 ht.2
 have hc' : -1 ≤ e.cell ∧ e.cell < c.cells.length := ⟨by omega, hc.2⟩
 have he' : 0 ≤ e.epoch ∧ e.epoch ≤ 1048576 := ⟨by omega, he.2⟩
 have hl' : 0 ≤ e.lo ∧ e.lo ≤ 1073741825 := ⟨hl.1, by omega⟩
 have hh' : 0 ≤ e.hi ∧ e.hi ≤ 1073741825 := ⟨hh.1, by omega⟩
 have hm : -1 ≤ (-1 : Int) ∧ (-1 : Int) < c.cells.length := ⟨by omega, by omega⟩
 revert hr
 unfold grantD
 simp only []
 by_cases h1 : (s.ten e.tenant).placed = false ∨ (s.ten e.tenant).shed = true ∧ e.cell ≠ (s.ten e.tenant).standby
 ·rw [if_pos h1]; exact fun hr => zc2 (by omega) hr
 rw [if_neg h1]
 have hp : (s.ten e.tenant).placed = true := by simpa using fun hp => h1 (.inl hp)
 repeat' split
 all_goals intro hr
 ·exact zc2 (by omega) hr
 ·rename_i h2; exact absurd hr h2
 ·refine fitD_ok (h.setT ?_) hr
  unfold grantT
  simp only []
  repeat' split
  ·exact ⟨t.home, t.standby, t.next, t.target, he', hc', he', hn, hl', hh', t.placed, t.shed⟩
  ·exact ⟨hc', hm, hm, hm, he', hc', he', hn, hl', hh', fun _ => hc.1, fun h => by cases h⟩
  ·exact ⟨hc', t.standby, t.next, hm, he', hc', he', hn, hl', hh', fun _ => hc.1, fun _ => hp⟩
theorem cutD_ok (h : StOk c s) (ht : 0 ≤ e.tenant ∧ e.tenant < c.tens.length) (hk : 0 ≤ e.tick ∧ e.tick ≤ 1073741824) (hr : (cutD s e).1 = 0) : StOk c (cutD s e).2 := by
 have t := h.tenOk ht.1 ht.2
 have hlo := t.lo
 have hhi := t.hi
 revert hr
 unfold cutD
 simp only []
 repeat' split
 all_goals intro hr
 ·exact zc2 (by omega) hr
 ·exact zc2 (by omega) hr
 ·refine h.setT ⟨t.home, t.standby, t.next, t.target, t.epoch, t.wcell, t.wepoch, t.wver, ?_, ?_, t.placed, t.shed⟩ <;> simp only [cutW] <;> omega
theorem standbyD_ok (h : StOk c s) (ht : 0 ≤ e.tenant ∧ e.tenant < c.tens.length) (hc : -1 ≤ e.cell ∧ e.cell < c.cells.length) (hr : (standbyD c s e).1 = 0) : StOk c (standbyD c s e).2 := by
 have t := h.tenOk ht.1 ht.2
 revert hr
 unfold standbyD
 simp only []
 repeat' split
 all_goals intro hr
 all_goals first
  | exact zc2 (by omega) hr
  | exact fitD_ok (h.setT ⟨t.home, t.standby, hc, t.target, t.epoch, t.wcell, t.wepoch, t.wver, t.lo, t.hi, t.placed, t.shed⟩) hr
theorem readyD_ok (h : StOk c s) (ht : 0 ≤ e.tenant ∧ e.tenant < c.tens.length) (hc : 0 ≤ e.cell ∧ e.cell < c.cells.length) (hr : (readyD s e).1 = 0) : StOk c (readyD s e).2 := by
 have t := h.tenOk ht.1 ht.2
 revert hr
 unfold readyD
 simp only []
 repeat' split
 all_goals intro hr
 all_goals first
  | exact zc2 (by omega) hr
  | exact h.setT ⟨t.home, ⟨by show -1 ≤ e.cell; omega, hc.2⟩, ⟨by show (-1 : Int) ≤ -1; omega, by show (-1 : Int) < _; omega⟩, t.target, t.epoch, t.wcell, t.wepoch, t.wver, t.lo, t.hi, t.placed, t.shed⟩
theorem migrateD_ok (h : StOk c s) (ht : 0 ≤ e.tenant ∧ e.tenant < c.tens.length) (hc : 0 ≤ e.cell ∧ e.cell < c.cells.length) (hr : (migrateD c s e).1 = 0) : StOk c (migrateD c s e).2 := by
 have t := h.tenOk ht.1 ht.2
 revert hr
 unfold migrateD
 simp only []
 repeat' split
 all_goals intro hr
 all_goals first
  | exact zc2 (by omega) hr
  | exact fitD_ok (h.setT ⟨t.home, t.standby, t.next, ⟨by show -1 ≤ e.cell; omega, hc.2⟩, t.epoch, t.wcell, t.wepoch, t.wver, t.lo, t.hi, t.placed, t.shed⟩) hr
theorem abandonD_ok (h : StOk c s) (ht : 0 ≤ e.tenant ∧ e.tenant < c.tens.length) (hr : (abandonD s e).1 = 0) : StOk c (abandonD s e).2 := by
 have t := h.tenOk ht.1 ht.2
 revert hr
 unfold abandonD
 simp only []
 repeat' split
 all_goals intro hr
 all_goals first
  | exact zc2 (by omega) hr
  | exact h.setT ⟨t.home, t.standby, t.next, ⟨by show (-1 : Int) ≤ -1; omega, by show (-1 : Int) < _; omega⟩, t.epoch, t.wcell, t.wepoch, t.wver, t.lo, t.hi, t.placed, t.shed⟩
theorem shedD_ok (h : StOk c s) (ht : 0 ≤ e.tenant ∧ e.tenant < c.tens.length) (hr : (shedD c s e).1 = 0) : StOk c (shedD c s e).2 := by
 have t := h.tenOk ht.1 ht.2
 revert hr
 unfold shedD
 simp only []
 by_cases h1 : e.n = 1
 ·rw [if_pos h1]
  by_cases h2 : (s.ten e.tenant).placed = false ∨ (s.ten e.tenant).shed = true
  ·rw [if_pos h2]; exact fun hr => zc2 (by omega) hr
  rw [if_neg h2]
  have hp : (s.ten e.tenant).placed = true := by simpa using fun hp => h2 (.inl hp)
  split
  ·exact fun hr => zc2 (by omega) hr
  ·exact fun _ => h.setT ⟨t.home, t.standby, t.next, ⟨by show (-1 : Int) ≤ -1; omega, by show (-1 : Int) < _; omega⟩, t.epoch, t.wcell, t.wepoch, t.wver, t.lo, t.hi, t.placed, fun _ => hp⟩
 ·rw [if_neg h1]
  repeat' split
  all_goals intro hr
  all_goals first
   | exact zc2 (by omega) hr
   | exact fitD_ok (h.setT ⟨t.home, t.standby, t.next, t.target, t.epoch, t.wcell, t.wepoch, t.wver, t.lo, t.hi, t.placed, fun h => by cases h⟩) hr
theorem modeD_ok (h : StOk c s) (hc : 0 ≤ e.cell ∧ e.cell < c.cells.length) (hn : 1 ≤ e.n ∧ e.n ≤ 3) (hk : 0 ≤ e.tick ∧ e.tick ≤ 1073741824) (hr : (modeD s e).1 = 0) : StOk c (modeD s e).2 := by
 have x := h.celOk hc.1 hc.2
 revert hr
 unfold modeD
 split
 ·exact fun hr => zc2 (by omega) hr
 ·exact fun _ => h.setC ⟨hn, x.running, x.wanted, hk⟩
theorem wantD_ok (h : StOk c s) (hc : 0 ≤ e.cell ∧ e.cell < c.cells.length) (hn : 0 ≤ e.n ∧ e.n < c.vers.length) (hr : (wantD c s e).1 = 0) : StOk c (wantD c s e).2 := by
 have x := h.celOk hc.1 hc.2
 revert hr
 unfold wantD
 simp only []
 repeat' split
 all_goals intro hr
 all_goals first
  | exact zc2 (by omega) hr
  | exact h.setC ⟨x.mode, x.running, hn, x.since⟩
theorem runsD_ok (h : StOk c s) (hc : 0 ≤ e.cell ∧ e.cell < c.cells.length) (hn : 0 ≤ e.n ∧ e.n < c.vers.length) (hk : 0 ≤ e.tick ∧ e.tick ≤ 1073741824) (hr : (runsD s e).1 = 0) : StOk c (runsD s e).2 := by
 have x := h.celOk hc.1 hc.2
 revert hr
 unfold runsD
 simp only []
 repeat' split
 all_goals intro hr
 all_goals first
  | exact zc2 (by omega) hr
  | exact h.setC ⟨x.mode, hn, x.wanted, hk⟩
theorem bit_lt {k n : Nat} (hk : k < n) : (1 <<< k) < 2 ^ n := by
 rw [Nat.one_shiftLeft]
 exact Nat.pow_lt_pow_right (by omega) hk
theorem proveD_ok (h : StOk c s) (hn : 0 ≤ e.n ∧ e.n < 30) (hr : (proveD c s e).1 = 0) : StOk c (proveD c s e).2 := by
 revert hr
 unfold proveD
 repeat' split
 all_goals intro hr
 ·exact zc2 (by omega) hr
 ·have h0 := h.proven
  have h1 : s.proven.toNat < 2 ^ 30 := by omega
  have h2 : s.proven.toNat ||| 1 <<< e.n.toNat < 2 ^ 30 := Nat.or_lt_two_pow h1 (bit_lt (by omega))
  exact ⟨h.tick, h.count, h.tl, h.cl, h.ten, h.cel, ⟨by simp only [orBit]; omega, by simp only [orBit]; omega⟩, h.evac, h.low, h.high⟩
 ·exact zc2 (by omega) hr
theorem evacD_ok (h : StOk c s) (hn : 0 ≤ e.other ∧ e.other < 4) (hr : (evacD s e).1 = 0) : StOk c (evacD s e).2 := by
 revert hr
 unfold evacD
 repeat' split
 all_goals intro hr
 ·exact zc2 (by omega) hr
 ·have h0 := h.evac
  have h1 : s.evac.toNat < 2 ^ 4 := by omega
  have h2 : s.evac.toNat ^^^ 1 <<< e.other.toNat < 2 ^ 4 := Nat.xor_lt_two_pow h1 (bit_lt (by omega))
  exact ⟨h.tick, h.count, h.tl, h.cl, h.ten, h.cel, h.proven, ⟨by simp only [xorBit]; omega, by simp only [xorBit]; omega⟩, h.low, h.high⟩
theorem expandD_ok (h : StOk c s) (hr : (expandD c s).1 = 0) : StOk c (expandD c s).2 := by
 have h0 := h.low
 have h1 := h.high
 revert hr
 unfold expandD
 repeat' split
 all_goals intro hr
 all_goals first
  | exact zc2 (by omega) hr
  | exact ⟨h.tick, h.count, h.tl, h.cl, h.ten, h.cel, h.proven, h.evac, ⟨h0.1, by show s.low ≤ s.high + 1; omega⟩, by show s.high + 1 ≤ 30; omega⟩
theorem contractD_ok (h : StOk c s) (hr : (contractD s).1 = 0) : StOk c (contractD s).2 := by
 have h0 := h.low
 revert hr
 unfold contractD
 repeat' split
 all_goals intro hr
 ·exact zc2 (by omega) hr
 ·exact ⟨h.tick, h.count, h.tl, h.cl, h.ten, h.cel, h.proven, h.evac, ⟨by show 0 ≤ s.high; omega, by show s.high ≤ s.high; omega⟩, h.high⟩
structure EnOk (c : CfgD) (e : EnD) : Prop where
 kind : 1 ≤ e.kind ∧ e.kind ≤ 16
 tick : 0 ≤ e.tick ∧ e.tick ≤ 1073741824
 ten : 1 ≤ e.kind ∧ e.kind ≤ 8 → 0 ≤ e.tenant ∧ e.tenant < c.tens.length
 cell : e.kind = 1 ∨ e.kind = 2 ∨ e.kind = 5 ∨ e.kind = 6 ∨ e.kind = 9 ∨ e.kind = 10 ∨ e.kind = 11 → 0 ≤ e.cell ∧ e.cell < c.cells.length
 cell4 : e.kind = 4 → -1 ≤ e.cell ∧ e.cell < c.cells.length
 other : e.kind = 1 → -1 ≤ e.other ∧ e.other < c.cells.length
 region : e.kind = 13 → 0 ≤ e.other ∧ e.other < c.regions
 epoch : e.kind = 2 ∨ e.kind = 3 → 1 ≤ e.epoch ∧ e.epoch ≤ 1048576
 lo : e.kind = 2 → 0 ≤ e.lo ∧ e.lo ≤ 1073741824
 hi : e.kind = 2 → 0 ≤ e.hi ∧ e.hi ≤ 1073741824
 ver : e.kind = 2 ∨ e.kind = 10 ∨ e.kind = 11 ∨ e.kind = 12 → 0 ≤ e.n ∧ e.n < c.vers.length
 bit : e.kind = 8 ∨ e.kind = 13 → 0 ≤ e.n ∧ e.n ≤ 1
 mode : e.kind = 9 → 1 ≤ e.n ∧ e.n ≤ 3
theorem validE_ok (ok : CfgOk c) (hv : validE c e = true) : EnOk c e := by
 have h1 := ok.tens
 have h2 := ok.cells
 have h3 := ok.regions
 have h4 := ok.vers
 have m1 : (min (c.tens.length : Int) 32) = c.tens.length := by omega
 have m2 : (min (c.cells.length : Int) 16) = c.cells.length := by omega
 have m3 : (min c.regions 4) = c.regions := by omega
 have m4 : (min (c.vers.length : Int) 30) = c.vers.length := by omega
 unfold validE at hv
 rw [m1, m2, m3, m4] at hv
 simp only [rightD, Bool.and_eq_true, inB_iff] at hv
 obtain ⟨⟨⟨hk, htk⟩, hp⟩, hn⟩ := hv
 simp only [placesD, Bool.and_eq_true, Bool.or_eq_true, Bool.not_eq_true', uT, uC, uC', uO, uR, inB, decide_eq_true_eq, Bool.and_eq_false_iff, decide_eq_false_iff_not, Bool.or_eq_false_iff] at hp
 obtain ⟨⟨⟨⟨⟨⟨⟨_, p1⟩, p2⟩, p3⟩, p4⟩, p5⟩, p6⟩, p7⟩ := hp
 simp only [numbersD, Bool.and_eq_true] at hn
 obtain ⟨⟨n1, n2⟩, n3⟩ := hn
 refine ⟨hk, htk, fun h => by omega, fun h => by omega, fun h => by omega, fun h => by omega, fun h => by omega, fun h => ?_, fun h => ?_, fun h => ?_, fun h => ?_, fun h => ?_, fun h => ?_⟩
 ·rw [if_pos (by simp [uE, inB]; omega)] at n1
  exact inB_iff.1 n1
 ·rw [if_pos (by simp [uW, inB]; omega), Bool.and_eq_true] at n2
  exact inB_iff.1 n2.1
 ·rw [if_pos (by simp [uW, inB]; omega), Bool.and_eq_true] at n2
  exact inB_iff.1 n2.2
 ·rw [if_pos (by simp [uV, inB]; omega)] at n3
  have := inB_iff.1 n3
  omega
 ·rw [if_neg (by simp [uV, inB]; omega), if_pos (by simp [uB, inB]; omega)] at n3
  exact inB_iff.1 n3
 ·rw [if_neg (by simp [uV, inB]; omega), if_neg (by simp [uB, inB]; omega), if_pos (by simp [uM, inB]; omega)] at n3
  exact inB_iff.1 n3
theorem kindD_ok (ok : CfgOk c) (h : StOk c s) (v : EnOk c e) (hr : (kindD c s e).1 = 0) : StOk c (kindD c s e).2 := by
 have hv := ok.vers
 have hg := ok.regions
 revert hr
 unfold kindD
 by_cases k1 : e.kind = 1
 ·rw [if_pos k1]; exact placeD_ok h (v.ten (by omega)) (v.cell (by omega)) (v.other k1)
 rw [if_neg k1]
 by_cases k2 : e.kind = 2
 ·rw [if_pos k2]; exact grantD_ok h (v.ten (by omega)) (v.cell (by omega)) (v.epoch (by omega)) (v.lo k2) (v.hi k2) (by have := v.ver (by omega); omega)
 rw [if_neg k2]
 by_cases k3 : e.kind = 3
 ·rw [if_pos k3]; exact cutD_ok h (v.ten (by omega)) v.tick
 rw [if_neg k3]
 by_cases k4 : e.kind = 4
 ·rw [if_pos k4]; exact standbyD_ok h (v.ten (by omega)) (v.cell4 k4)
 rw [if_neg k4]
 by_cases k5 : e.kind = 5
 ·rw [if_pos k5]; exact readyD_ok h (v.ten (by omega)) (v.cell (by omega))
 rw [if_neg k5]
 by_cases k6 : e.kind = 6
 ·rw [if_pos k6]; exact migrateD_ok h (v.ten (by omega)) (v.cell (by omega))
 rw [if_neg k6]
 by_cases k7 : e.kind = 7
 ·rw [if_pos k7]; exact abandonD_ok h (v.ten (by omega))
 rw [if_neg k7]
 by_cases k8 : e.kind = 8
 ·rw [if_pos k8]; exact shedD_ok h (v.ten (by omega))
 rw [if_neg k8]
 by_cases k9 : e.kind = 9
 ·rw [if_pos k9]; exact modeD_ok h (v.cell (by omega)) (v.mode k9) v.tick
 rw [if_neg k9]
 by_cases k10 : e.kind = 10
 ·rw [if_pos k10]; exact wantD_ok h (v.cell (by omega)) (v.ver (by omega))
 rw [if_neg k10]
 by_cases k11 : e.kind = 11
 ·rw [if_pos k11]; exact runsD_ok h (v.cell (by omega)) (v.ver (by omega)) v.tick
 rw [if_neg k11]
 by_cases k12 : e.kind = 12
 ·rw [if_pos k12]; exact proveD_ok h (by have := v.ver (by omega); omega)
 rw [if_neg k12]
 by_cases k13 : e.kind = 13
 ·rw [if_pos k13]; exact evacD_ok h (by have := v.region k13; omega)
 rw [if_neg k13]
 by_cases k14 : e.kind = 14
 ·rw [if_pos k14]; exact expandD_ok h
 rw [if_neg k14]
 by_cases k15 : e.kind = 15
 ·rw [if_pos k15]; exact contractD_ok h
 rw [if_neg k15]
 exact fun _ => h
theorem applyD_ok (ok : CfgOk c) (h : StOk c s) (hr : (applyD c s e).1 = 0) : StOk c (applyD c s e).2 := by
 revert hr
 unfold applyD
 by_cases hv : validE c e = false
 ·rw [if_pos hv]; exact fun hr => zc2 (by omega) hr
 rw [if_neg hv]
 by_cases h2 : 4096 ≤ s.count
 ·rw [if_pos h2]; exact fun hr => zc2 (by omega) hr
 rw [if_neg h2]
 by_cases h3 : e.tick < s.tick
 ·rw [if_pos h3]; exact fun hr => zc2 (by omega) hr
 rw [if_neg h3]
 have v := validE_ok ok (by simpa using hv)
 have hc := h.count
 exact kindD_ok ok ⟨v.tick, ⟨by show 0 ≤ s.count + 1; omega, by show s.count + 1 ≤ 4096; omega⟩, h.tl, h.cl, h.ten, h.cel, h.proven, h.evac, h.low, h.high⟩ v
theorem newSt_ok (ok : CfgOk c) : StOk c (newSt c) := by
 have hv := ok.vers
 refine ⟨⟨by simp [newSt], by simp [newSt]⟩, ⟨by simp [newSt], by simp [newSt]⟩, by simp [newSt], by simp [newSt], fun t ht => ?_, fun x hx => ?_, ⟨by simp [newSt], by simp [newSt]⟩, ⟨by simp [newSt], by simp [newSt]⟩, ⟨by simp [newSt], by simp [newSt]⟩, by simp [newSt]⟩
 ·obtain rfl : t = newT := (List.mem_replicate.1 ht).2
  refine ⟨?_, ?_, ?_, ?_, ?_, ?_, ?_, ?_, ?_, ?_, fun h => (by cases h), fun h => (by cases h)⟩ <;> simp only [newT] <;> omega
 ·obtain rfl : x = ⟨1, 0, 0, 0⟩ := (List.mem_replicate.1 hx).2
  refine ⟨?_, ?_, ?_, ?_⟩ <;> simp only [] <;> omega
end
end Go.Proofs.YtcgcfeablbjnaaaGreatDoor
