/- Parts of the proof that ScriptBack returns true for every input of bulk at most 1048576. -/
import Derived.Test.YtcgcfeablbjnaaaGreatDoorBa
import Derived.Test.YtcgcfeablbjnaaaGreatDoorBb
import Derived.Test.YtcgcfeablbjnaaaGreatDoorBc
import Derived.Laws.MakeOwn
import Derived.Deep.RegionHeld3
import Derived.Deep.DeepCutAuto
import Derived.Deep.DrawnRows
set_option linter.unusedSimpArgs false
set_option linter.unusedVariables false
set_option maxRecDepth 100000
set_option maxHeartbeats 8000000
namespace Go.Proofs.YtcgcfeablbjnaaaGreatDoor
open Go.RowKit Go.BigFrame
def TapeM (w : World) (g : Nat) : Prop := ∃ (A : Option Addr) (c p : Nat) (l : List Int), Blk w g 90 #[.slice A l.length c, iv p] ∧ p ≤ l.length ∧ l.length ≤ 1000 ∧ Rd w g A (l.map iv)
theorem TapeM.lt {w : World} {g : Nat} (h : TapeM w g) : g < w.heap.size := by obtain ⟨_, _, _, _, hb, _⟩ := h; exact hb.lt
theorem TapeM.keep {w w' : World} {g : Nat} (h : TapeM w g) (hk : ∀ i, i ≤ g → w'.heap[i]? = w.heap[i]?) : TapeM w' g := by
 obtain ⟨A, c, p, l, hb, h1, h2, hr⟩ := h
 exact ⟨A, c, p, l, (hk g (Nat.le_refl _)).trans hb, h1, h2, hr.keep fun q hq => World.cell?_of_block (hk q.block (by omega))⟩
theorem TapeM.below {w w' : World} {g : Nat} (h : TapeM w g) {B : Nat} (hb : Below B w w') (hg : g < B) : TapeM w' g := h.keep fun i hi => hb.block i (by omega)
theorem TapeM.grown {w w' : World} {g : Nat} (h : TapeM w g) {row : Option Nat} (hg : w.grownBy w' row) (hr : ∀ k, row = some k → g < k) : TapeM w' g :=
 h.keep fun i hi => hg.block i (by have := h.lt; omega) (fun e => by have := hr i e.symm; omega)
theorem TapeM.alloc {w : World} {g : Nat} (h : TapeM w g) (o : Obj) : TapeM (w.alloc o) g := h.keep fun i hi => Below.heap_alloc w o i (by have := h.lt; omega)
theorem TapeM.drewN {w : World} {g : Nat} (h : TapeM w g) (n : Nat) : TapeM (w.drewN n) g := h
theorem TapeM.drew {w : World} {g : Nat} (h : TapeM w g) : TapeM w.drew g := h
theorem TapeM.set {w : World} {g : Nat} (h : TapeM w g) {p : Addr} (hp : g < p.block) (u : Value) : TapeM (w.setCell p u) g := h.keep fun i hi => Below.heap_setCell w p u i (by omega)
abbrev TapeP := Option Addr × Nat × List Int
def TapeX (τ : TapeP) (w : World) (g : Nat) : Prop := ∃ (A : Option Addr) (c p : Nat) (l : List Int), Blk w g 90 #[.slice A l.length c, iv p] ∧ p ≤ l.length ∧ l.length ≤ 1000 ∧ Rd w g A (l.map iv) ∧ τ = (A, c, l)
variable {τ : TapeP}
theorem TapeX.toM {w : World} {g : Nat} (h : TapeX τ w g) : TapeM w g := by obtain ⟨A, c, p, l, hb, h1, h2, hr, _⟩ := h; exact ⟨A, c, p, l, hb, h1, h2, hr⟩
theorem TapeM.toX {w : World} {g : Nat} (h : TapeM w g) : ∃ τ, TapeX τ w g := by obtain ⟨A, c, p, l, hb, h1, h2, hr⟩ := h; exact ⟨_, A, c, p, l, hb, h1, h2, hr, rfl⟩
theorem TapeX.lt {w : World} {g : Nat} (h : TapeX τ w g) : g < w.heap.size := h.toM.lt
theorem TapeX.keep {w w' : World} {g : Nat} (h : TapeX τ w g) (hk : ∀ i, i ≤ g → w'.heap[i]? = w.heap[i]?) : TapeX τ w' g := by
 obtain ⟨A, c, p, l, hb, h1, h2, hr, hτ⟩ := h
 exact ⟨A, c, p, l, (hk g (Nat.le_refl _)).trans hb, h1, h2, hr.keep fun q hq => World.cell?_of_block (hk q.block (by omega)), hτ⟩
theorem TapeX.grown {w w' : World} {g : Nat} (h : TapeX τ w g) {row : Option Nat} (hg : w.grownBy w' row) (hr : ∀ k, row = some k → g < k) : TapeX τ w' g :=
 h.keep fun i hi => hg.block i (by have := h.lt; omega) (fun e => by have := hr i e.symm; omega)
theorem TapeX.alloc {w : World} {g : Nat} (h : TapeX τ w g) (o : Obj) : TapeX τ (w.alloc o) g := h.keep fun i hi => Below.heap_alloc w o i (by have := h.lt; omega)
theorem TapeX.set {w : World} {g : Nat} (h : TapeX τ w g) {p : Addr} (hp : g < p.block) (u : Value) : TapeX τ (w.setCell p u) g := h.keep fun i hi => Below.heap_setCell w p u i (by omega)
theorem grown_drewN {a w : World} {row : Option Nat} (h : a.grownBy w row) (n : Nat) : a.grownBy (w.drewN n) row := ⟨h.os, h.tape, h.output, h.size, h.block⟩
theorem grown_below {w w' : World} {row : Option Nat} {B : Nat} (h : w.grownBy w' row) (hB : B ≤ w.heap.size) (hr : ∀ k, row = some k → B ≤ k) : Below B w w' := (Below.refl B w).grown h hB hr
theorem mnew_x (A : Option Addr) (c : Nat) (l : List Int) (w : World) (hl : l.length ≤ 1000) (hr : Rd w w.heap.size A (l.map iv)) :
 Calls Tryz.prog 15 #[.slice A l.length c] w fun e w' => e = .returned (.pointer (some ⟨w.heap.size, 0, none⟩)) ∧ TapeX (A, c, l) w' w.heap.size ∧ w.grownBy w' none ∧ w'.heap.size = w.heap.size + 1 := by
 go_enter Tryz.func15, Tryz.ntmps15
 go_wp2_with fail
 go_ret
 exact ⟨rfl, ⟨A, c, 0, l, Blk.new _ _ _, by omega, hl, hr.alloc (Nat.le_refl _) _, rfl⟩, World.grownBy_alloc w _ _, by simp⟩
theorem mnew_any (A : Option Addr) (c : Nat) (l : List Int) (w : World) (hl : l.length ≤ 1000) (hr : Rd w w.heap.size A (l.map iv)) :
 Calls Tryz.prog 15 #[.slice A l.length c] w fun e w' => e = .returned (.pointer (some ⟨w.heap.size, 0, none⟩)) ∧ TapeM w' w.heap.size ∧ w.grownBy w' none ∧ w'.heap.size = w.heap.size + 1 := by
 refine (mnew_x A c l w hl hr).mono ?_
 rintro e w' ⟨rfl, ht', h⟩
 exact ⟨rfl, ht'.toM, h⟩
theorem zdd (g : Nat) (n : Int) (w : World) (h1 : 1 ≤ n) (h2 : n ≤ 1000000000) (ht : TapeX τ w g) :
 Calls Tryz.prog 16 #[.pointer (some ⟨g, 0, none⟩), .int .i64 n] w fun e w' => ∃ r : Nat, (r : Int) < n ∧ e = .returned (.int .i64 r) ∧ TapeX τ w' g ∧ w.grownBy w' (some g) ∧ w'.heap.size = w.heap.size := by
 obtain ⟨A, c, p, l, hb, hp, hl, hr, hτ⟩ := ht
 have HB := Lib.hid hb
 have HR := Lib.hid hr
 have c0 : w.cell? ⟨g, 0, none⟩ = some (.slice A l.length c) := hb.cell 0
 have c1 : w.cell? ⟨g, 1, none⟩ = some (iv p) := hb.cell 1
 have f1 := hb.free 1
 clear hb hr
 by_cases hlt : p < l.length
 ·have d0 : decide (l.length ≤ p) = false := by simpa using hlt
  obtain ⟨ad, hade, hadb, hc⟩ := HR.out p (iv l[p]) (by simp [hlt])
  subst hade
  have HN := Lib.hid (show ∀ W, Calls Tryz.prog 34 #[.int .i64 l[p], .int .i64 n] W _ from fun W => mod_any l[p] n W h1 h2)
  obtain ⟨r, hr0⟩ : ∃ r : Nat, l[p] % n = (r : Int) := ⟨(l[p] % n).toNat, by have := Int.emod_nonneg l[p] (show n ≠ 0 by omega); omega⟩
  have hrn : (r : Int) < n := by rw [← hr0]; exact Int.emod_lt_of_pos _ (by omega)
  rw [hr0] at HN
  clear hr0
  go_enter Tryz.func16, Tryz.ntmps16
  go_wp2_with fail
  go_quiet (fail)
  go_wp2_with fail
  have HB1 := Lib.hid (show Blk ((w.drewN nq).setCell ⟨g, 1, none⟩ (.int .i64 ((p : Int) + 1))) g 90 #[.slice (some ad) l.length c, iv ((p : Int) + 1)] from (HB.out.drewN nq).put 1 _)
  have HR1 := Lib.hid (show Rd ((w.drewN nq).setCell ⟨g, 1, none⟩ (.int .i64 ((p : Int) + 1))) g (some ad) (l.map iv) from (HR.out.drewN nq).keep fun q hq => World.cell?_of_block (Below.heap_setCell _ _ _ _ (by show q.block ≠ g; omega)))
  have HG1 := Lib.hid (show w.grownBy ((w.drewN nq).setCell ⟨g, 1, none⟩ (.int .i64 ((p : Int) + 1))) (some g) from only_set (grown_drewN (World.grownBy.refl w _) nq) (.inl rfl) _)
  have HS1 := Lib.hid (show ((w.drewN nq).setCell ⟨g, 1, none⟩ (.int .i64 ((p : Int) + 1))).heap.size = w.heap.size by simp [World.setCell, World.drewN])
  clear c0 c1 f1 hc
  generalize (w.drewN nq).setCell ⟨g, 1, none⟩ (.int .i64 ((p : Int) + 1)) = W1 at *
  have c0 : W1.cell? ⟨g, 0, none⟩ = some (.slice (some ad) l.length c) := HB1.out.cell 0
  have c1 : W1.cell? ⟨g, 1, none⟩ = some (iv ((p : Int) + 1)) := HB1.out.cell 1
  have hc : W1.cell? (ad.add p) = some (iv l[p]) := by
   obtain ⟨ad', e, _, h⟩ := HR1.out p (iv l[p]) (by simp [hlt])
   obtain rfl := Option.some.inj e
   exact h
  go_quiet ((go_at_call 34; exact quiet_same (HN.out _)))
  go_wp2_with fail
  go_ret
  exact ⟨r, hrn, rfl, ⟨some ad, c, p + 1, l, HB1.out, hlt, hl, HR1.out, hτ⟩, grown_drewN HG1.out _, HS1.out⟩
 ·have d0 : decide (l.length ≤ p) = true := by simp; omega
  go_enter Tryz.func16, Tryz.ntmps16
  go_wp2_with fail
  go_quiet (fail)
  go_wp2_with fail
  go_ret
  exact ⟨0, by omega, rfl, ⟨A, c, p, l, HB.out, hp, hl, HR.out, hτ⟩, ⟨rfl, rfl, rfl, Nat.le_refl _, fun _ _ _ => rfl⟩, rfl⟩
theorem zar (g : Nat) (n : Int) (w : World) (h1 : 1 ≤ n) (h2 : n ≤ 1000000000) (ht : TapeM w g) :
 Calls Tryz.prog 16 #[.pointer (some ⟨g, 0, none⟩), .int .i64 n] w fun e w' => ∃ r : Nat, (r : Int) < n ∧ e = .returned (.int .i64 r) ∧ TapeM w' g ∧ w.grownBy w' (some g) ∧ w'.heap.size = w.heap.size := by
 obtain ⟨τ, hx⟩ := ht.toX
 refine (zdd g n w h1 h2 hx).mono ?_
 rintro e w' ⟨r, hr, rfl, ht', h⟩
 exact ⟨r, hr, rfl, ht'.toM, h⟩
theorem mmore_x (g : Nat) (w : World) (ht : TapeX τ w g) :
 Calls Tryz.prog 17 #[.pointer (some ⟨g, 0, none⟩)] w fun e w' => ∃ b : Bool, e = .returned (.bool b) ∧ TapeX τ w' g ∧ w.grownBy w' (some g) ∧ w'.heap.size = w.heap.size := by
 obtain ⟨A, c, p, l, hb, hp, hl, hr, hτ⟩ := ht
 have HB := Lib.hid hb
 have HR := Lib.hid hr
 have c0 : w.cell? ⟨g, 0, none⟩ = some (.slice A l.length c) := hb.cell 0
 have c1 : w.cell? ⟨g, 1, none⟩ = some (iv p) := hb.cell 1
 clear hb hr
 go_enter Tryz.func17, Tryz.ntmps17
 go_wp2_with fail
 go_quiet (fail)
 go_wp2_with fail
 go_ret
 exact ⟨_, rfl, ⟨A, c, p, l, HB.out, hp, hl, HR.out, hτ⟩, ⟨rfl, rfl, rfl, Nat.le_refl _, fun _ _ _ => rfl⟩, rfl⟩
theorem mmore_any (g : Nat) (w : World) (ht : TapeM w g) :
 Calls Tryz.prog 17 #[.pointer (some ⟨g, 0, none⟩)] w fun e w' => ∃ b : Bool, e = .returned (.bool b) ∧ TapeM w' g ∧ w.grownBy w' (some g) ∧ w'.heap.size = w.heap.size := by
 obtain ⟨τ, hx⟩ := ht.toX
 refine (mmore_x g w hx).mono ?_
 rintro e w' ⟨b, rfl, ht', h⟩
 exact ⟨b, rfl, ht'.toM, h⟩
theorem zch (g : Nat) (lo hi : Int) (w : World) (h1 : lo ≤ hi) (h2 : -1000000 ≤ lo) (h3 : hi ≤ 1000000) (ht : TapeX τ w g) :
 Calls Tryz.prog 36 #[.pointer (some ⟨g, 0, none⟩), .int .i64 lo, .int .i64 hi] w fun e w' => ∃ r : Int, lo ≤ r ∧ r ≤ hi ∧ e = .returned (.int .i64 r) ∧ TapeX τ w' g ∧ w.grownBy w' (some g) ∧ w'.heap.size = w.heap.size := by
 go_enter Tryz.func36, Tryz.ntmps36
 go_wp2_with fail
 refine (zdd g _ _ (by omega) (by omega) ht).mono ?_
 rintro e w' ⟨r, hr, rfl, ht', hg, hs⟩
 go_wp2_with fail
 go_ret
 exact ⟨lo + r, by omega, by omega, rfl, ht', hg, hs⟩
theorem zcr (g : Nat) (lo hi : Int) (w : World) (h1 : lo ≤ hi) (h2 : -1000000 ≤ lo) (h3 : hi ≤ 1000000) (ht : TapeM w g) :
 Calls Tryz.prog 36 #[.pointer (some ⟨g, 0, none⟩), .int .i64 lo, .int .i64 hi] w fun e w' => ∃ r : Int, lo ≤ r ∧ r ≤ hi ∧ e = .returned (.int .i64 r) ∧ TapeM w' g ∧ w.grownBy w' (some g) ∧ w'.heap.size = w.heap.size := by
 obtain ⟨τ, hx⟩ := ht.toX
 refine (zch g lo hi w h1 h2 h3 hx).mono ?_
 rintro e w' ⟨r, h1, h2, rfl, ht', h⟩
 exact ⟨r, h1, h2, rfl, ht'.toM, h⟩
theorem info_u8 : (Tryz.prog.info? 5).map (fun i => (i.zero, i.size, i.bytes)) = some (some (.int .u8 0), 1, 1) := by kernel_rfl
theorem make_bytes (n : Nat) (hn : n ≤ 100000) (W : World) : (Instr.makeSlice 66 (.int .i64 n) (.int .i64 n)).run Tryz.prog W = .ok (.slice (some ⟨W.heap.size, 0, none⟩) n n) (W.alloc (.cells (madeCells #[.int .u8 0] n) 5)) := by
 obtain ⟨i0, hi, hz0, hz1, hz2⟩ := info_parts info_u8
 have h := run_make (P := Tryz.prog) W 66 5 i0 (.int .u8 0) Tryz.underlying66 hi hz0 .i64 .i64 (n : Int) (n : Int) (by omega) (Int.le_refl _) (by rw [hz2]; omega) (by omega)
 rw [hz1] at h
 simpa [Value.cells] using h
theorem bytes_zero (M : Nat) : madeCells #[Value.int .u8 0] M = (Lib.byteCells (List.replicate M 0)).toArray := by
 apply Array.toList_inj.1
 rw [toList_madeCells_one]
 simp [Lib.byteCells]
theorem byteCells_set (l : List UInt8) (i : Nat) (b : UInt8) : (Lib.byteCells l).toArray.setIfInBounds i (.int .u8 b.toNat) = (Lib.byteCells (l.set i b)).toArray := by
 simp [Lib.byteCells, List.map_set]
theorem zbf (g : Nat) (lo n : Int) (w : World) (h0 : 0 ≤ lo) (h1 : lo ≤ n) (h3 : n ≤ 1000) (ht : TapeM w g) :
 Calls Tryz.prog 62 #[.pointer (some ⟨g, 0, none⟩), .int .i64 lo, .int .i64 n] w fun e w' => ∃ s : List UInt8, lo ≤ s.length ∧ (s.length : Int) ≤ n ∧ e = .returned (.string ⟨s.toArray⟩) ∧ TapeM w' g ∧ w.grownBy w' (some g) := by
 have htl := ht.lt
 go_enter Tryz.func62, Tryz.ntmps62
 go_wp2_with fail
 refine (zcr g _ _ _ (by omega) (by omega) (by omega) ht).mono ?_
 rintro e w1 ⟨k, hk1, hk2, rfl, ht1, hg1, hs1⟩
 have hk3 : k ≤ n := by omega
 have HG1 := Lib.hid hg1
 have HS1 := Lib.hid hs1
 have HT1 := Lib.hid ht1
 clear hk2 hg1 hs1 ht1
 go_wp2_with fail
 refine (zar g _ _ (by omega) (by omega) HT1.out).mono ?_
 rintro e w2 ⟨r2, hr2, rfl, ht2, hg2, hs2⟩
 have HG2 := Lib.hid (HG1.out.trans hg2)
 have HS2 := Lib.hid (hs2.trans HS1.out)
 have HT2 := Lib.hid ht2
 clear hg2 hs2 ht2
 obtain ⟨N, rfl⟩ : ∃ N : Nat, n = N := ⟨n.toNat, by omega⟩
 obtain ⟨k', rfl⟩ : ∃ k' : Nat, k = k' := ⟨k.toNat, by omega⟩
 by_cases h8 : r2 = 8
 ·have b8 : ((r2 : Int) == 8) = true := by simp; omega
  clear h8
  have hmk := fun W => make_bytes N (by omega) W
  rw [bytes_zero] at hmk
  go_wp2_with fail
  go_loopw [25] (fun i wr => ∃ (j : Nat) (bs : List UInt8), j ≤ N ∧ i = .int .i64 j ∧ bs.length = N ∧ Blk wr w2.heap.size 5 (Lib.byteCells bs).toArray ∧ TapeM wr g ∧ w.grownBy wr (some g)) (fun i _ => N - (intOf i).toNat)
  case atStart => exact ⟨0, List.replicate N 0, by omega, rfl, by simp, Blk.newAt _ _ _ _ rfl, HT2.out.alloc _, only_alloc HG2.out _⟩
  case round =>
   obtain ⟨j, bs, hj, rfl, hbl, hbk, htr, hgr⟩ := hrel
   have HBL := Lib.hid hbl
   have HBK := Lib.hid hbk
   have HTR := Lib.hid htr
   have HGR := Lib.hid hgr
   clear hbl hbk htr hgr
   have hsz2 : g < w2.heap.size := HT2.out.lt
   by_cases hlt : j < N
   ·have d0 : decide (j < N) = true := by simpa using hlt
    go_wp2_with fail
    refine (zar g _ _ (by omega) (by omega) HTR.out).mono ?_
    rintro e w3 ⟨r3, hr3, rfl, ht3, hg3, hs3⟩
    have HT3 := Lib.hid ht3
    have HG3 := Lib.hid (HGR.out.trans hg3)
    have HB3 := Lib.hid (HBK.out.grown hg3 (by simp; omega))
    clear ht3 hg3 hs3
    have c3 : w3.cell? ⟨w2.heap.size, j, none⟩ = some (.int .u8 (bs.getD j 0).toNat) := (HB3.out.cell j).trans (by simp [Lib.byteCells, List.getElem?_map, List.getElem?_eq_getElem (show j < bs.length by rw [HBL.out]; exact hlt), List.getD])
    have f3 := HB3.out.free j
    go_wp2_with fail
    go_roundw
    case rel =>
     refine ⟨j + 1, bs.set j (UInt8.ofNat (97 + r3)), hlt, by go_num, by rw [List.length_set]; exact HBL.out, ?_, HT3.out.set hsz2 _, ?_⟩
     ·rw [← byteCells_set]
      have := HB3.out.put j (.int .u8 (UInt8.ofNat (97 + r3)).toNat)
      rw [show (((UInt8.ofNat (97 + r3)).toNat : Nat) : Int) = 97 + (r3 : Int) by rw [UInt8.toNat_ofNat']; omega] at this ⊢
      exact this
     ·exact only_set HG3.out (.inr (by have := HG2.out.size; have := HS2.out; show w.heap.size ≤ w2.heap.size; omega)) _
    case measure => simp [intOf]; omega
   ·have hjK : j = N := by omega
    subst hjK
    have d0 : decide (j < j) = false := by simp
    have hcv := run_str (P := Tryz.prog) 66 9 5 Tryz.underlying66 Tryz.underlying5 Tryz.underlying9 bs (some ⟨w2.heap.size, 0, none⟩) j j wr.heap.size HBL.out.symm wr (Rd.of_blk HBK.out)
    go_wp2_with fail
    go_ret
    exact ⟨bs, by rw [HBL.out]; omega, by rw [HBL.out]; omega, rfl, HTR.out, HGR.out⟩
 ·have b8 : ((r2 : Int) == 8) = false := by simp; omega
  clear h8
  have hmk := fun W => make_bytes k' (by omega) W
  rw [bytes_zero] at hmk
  go_wp2_with fail
  go_loopw [25] (fun i wr => ∃ (j : Nat) (bs : List UInt8), j ≤ k' ∧ i = .int .i64 j ∧ bs.length = k' ∧ Blk wr w2.heap.size 5 (Lib.byteCells bs).toArray ∧ TapeM wr g ∧ w.grownBy wr (some g)) (fun i _ => k' - (intOf i).toNat)
  case atStart => exact ⟨0, List.replicate k' 0, by omega, rfl, by simp, Blk.newAt _ _ _ _ rfl, HT2.out.alloc _, only_alloc HG2.out _⟩
  case round =>
   obtain ⟨j, bs, hj, rfl, hbl, hbk, htr, hgr⟩ := hrel
   have HBL := Lib.hid hbl
   have HBK := Lib.hid hbk
   have HTR := Lib.hid htr
   have HGR := Lib.hid hgr
   clear hbl hbk htr hgr
   have hsz2 : g < w2.heap.size := HT2.out.lt
   by_cases hlt : j < k'
   ·have d0 : decide (j < k') = true := by simpa using hlt
    go_wp2_with fail
    refine (zar g _ _ (by omega) (by omega) HTR.out).mono ?_
    rintro e w3 ⟨r3, hr3, rfl, ht3, hg3, hs3⟩
    have HT3 := Lib.hid ht3
    have HG3 := Lib.hid (HGR.out.trans hg3)
    have HB3 := Lib.hid (HBK.out.grown hg3 (by simp; omega))
    clear ht3 hg3 hs3
    have c3 : w3.cell? ⟨w2.heap.size, j, none⟩ = some (.int .u8 (bs.getD j 0).toNat) := (HB3.out.cell j).trans (by simp [Lib.byteCells, List.getElem?_map, List.getElem?_eq_getElem (show j < bs.length by rw [HBL.out]; exact hlt), List.getD])
    have f3 := HB3.out.free j
    go_wp2_with fail
    go_roundw
    case rel =>
     refine ⟨j + 1, bs.set j (UInt8.ofNat (97 + r3)), hlt, by go_num, by rw [List.length_set]; exact HBL.out, ?_, HT3.out.set hsz2 _, ?_⟩
     ·rw [← byteCells_set]
      have := HB3.out.put j (.int .u8 (UInt8.ofNat (97 + r3)).toNat)
      rw [show (((UInt8.ofNat (97 + r3)).toNat : Nat) : Int) = 97 + (r3 : Int) by rw [UInt8.toNat_ofNat']; omega] at this ⊢
      exact this
     ·exact only_set HG3.out (.inr (by have := HG2.out.size; have := HS2.out; show w.heap.size ≤ w2.heap.size; omega)) _
    case measure => simp [intOf]; omega
   ·have hjK : j = k' := by omega
    subst hjK
    have d0 : decide (j < j) = false := by simp
    have hcv := run_str (P := Tryz.prog) 66 9 5 Tryz.underlying66 Tryz.underlying5 Tryz.underlying9 bs (some ⟨w2.heap.size, 0, none⟩) j j wr.heap.size HBL.out.symm wr (Rd.of_blk HBK.out)
    go_wp2_with fail
    go_ret
    exact ⟨bs, by rw [HBL.out]; omega, by rw [HBL.out]; omega, rfl, HTR.out, HGR.out⟩
end Go.Proofs.YtcgcfeablbjnaaaGreatDoor
namespace Go.Proofs.YtcgcfeablbjnaaaGreatDoor
open Go.RowKit
section
variable {S S' : Nat → Prop} {a w w' : World}
theorem TapeM.gr {g : Nat} (h : TapeM w g) (k : Gr S w w') (hS : ∀ i, S i → g < i) : TapeM w' g := h.keep fun i hi => k.block i (by have := h.lt; omega) fun hs => by have := hS i hs; omega
theorem CfgAt.gr {B : Nat} {c : CfgD} {h : CfgH} (H : CfgAt w B c h) (k : Gr S w w') (hB : B ≤ w.heap.size) (hS : ∀ i, S i → B ≤ i) : CfgAt w' B c h := H.below (k.below hB hS)
theorem StAt.gr {B : Nat} {s : StD} {h : StH} (H : StAt w B s h) (k : Gr S w w') (hB : B ≤ w.heap.size) (hS : ∀ i, S i → B ≤ i) : StAt w' B s h := H.below (k.below hB hS)
end
end Go.Proofs.YtcgcfeablbjnaaaGreatDoor
namespace Go.Proofs.YtcgcfeablbjnaaaGreatDoor
open Go.RowKit Go.BigFrame
def Cnt (w : World) (g m : Nat) : Prop := ∃ a b c d : Nat, a ≤ m ∧ b ≤ m ∧ c ≤ m ∧ d ≤ m ∧ Blk w g 3 #[iv a, iv b, iv c, iv d]
theorem Cnt.lt {w : World} {g m : Nat} (h : Cnt w g m) : g < w.heap.size := by obtain ⟨_, _, _, _, _, _, _, _, h⟩ := h; exact h.lt
theorem Cnt.block {w w' : World} {g m : Nat} (h : Cnt w g m) (hb : w'.heap[g]? = w.heap[g]?) : Cnt w' g m := by
 obtain ⟨a, b, c, d, h1, h2, h3, h4, h⟩ := h
 exact ⟨a, b, c, d, h1, h2, h3, h4, hb.trans h⟩
theorem Cnt.gr {w w' : World} {g m : Nat} {S : Nat → Prop} (h : Cnt w g m) (k : Gr S w w') (hn : ¬ S g) : Cnt w' g m := h.block (k.block g h.lt hn)
theorem Cnt.grown {w w' : World} {g m : Nat} {row : Option Nat} (h : Cnt w g m) (k : w.grownBy w' row) (hn : some g ≠ row) : Cnt w' g m := h.block (k.block g h.lt hn)
theorem Cnt.alloc {w : World} {g m : Nat} (h : Cnt w g m) (o : Obj) : Cnt (w.alloc o) g m := h.block (Below.heap_alloc w o g h.lt)
theorem Cnt.far {w : World} {g m : Nat} (h : Cnt w g m) {p : Addr} (hp : g ≠ p.block) (u : Value) : Cnt (w.setCell p u) g m := h.block (Below.heap_setCell w p u g hp)
theorem Cnt.more {w : World} {g m m' : Nat} (h : Cnt w g m) (hm : m ≤ m') : Cnt w g m' := by
 obtain ⟨a, b, c, d, h1, h2, h3, h4, h⟩ := h
 exact ⟨a, b, c, d, by omega, by omega, by omega, by omega, h⟩
theorem Cnt.at {w : World} {g m : Nat} (h : Cnt w g m) (k : Nat) (hk : k < 4) : ∃ v : Nat, v ≤ m ∧ w.cell? ⟨g, k, none⟩ = some (iv v) ∧ w.frozen? ⟨g, k, none⟩ = false := by
 obtain ⟨a, b, c, d, h1, h2, h3, h4, h⟩ := h
 match k, hk with
 | 0, _ => exact ⟨a, h1, h.cell 0, h.free 0⟩
 | 1, _ => exact ⟨b, h2, h.cell 1, h.free 1⟩
 | 2, _ => exact ⟨c, h3, h.cell 2, h.free 2⟩
 | 3, _ => exact ⟨d, h4, h.cell 3, h.free 3⟩
theorem Cnt.put {w : World} {g m : Nat} (h : Cnt w g m) (k v : Nat) (hk : k < 4) (hv : v ≤ m) : Cnt (w.setCell ⟨g, k, none⟩ (iv v)) g m := by
 obtain ⟨a, b, c, d, h1, h2, h3, h4, h⟩ := h
 have := h.put k (iv v)
 match k, hk with
 | 0, _ => exact ⟨v, b, c, d, hv, h2, h3, h4, this⟩
 | 1, _ => exact ⟨a, v, c, d, h1, hv, h3, h4, this⟩
 | 2, _ => exact ⟨a, b, v, d, h1, h2, hv, h4, this⟩
 | 3, _ => exact ⟨a, b, c, v, h1, h2, h3, hv, this⟩
structure ReqGood (m : Nat) (a : ActD) : Prop where
 client : 1 ≤ a.client ∧ a.client ≤ 3
 number : 0 ≤ a.number ∧ a.number ≤ m
 op : 1 ≤ a.op ∧ a.op ≤ 6
 item : 0 ≤ a.item ∧ a.item ≤ 6
 key : a.key.length ≤ 2
 value : a.value.length ≤ 3
 n0 : a.op = 1 ∨ a.op = 5 → a.number = 0
 i0 : a.op ≠ 6 → a.item = 0
 k0 : a.op = 4 ∨ a.op = 5 ∨ a.op = 6 → a.key = []
 v0 : a.op ≠ 2 → a.op ≠ 4 → a.value = []
def reqCells (a : ActD) : Array Value := #[iv a.tenant, iv a.client, iv a.number, iv a.op, iv a.item, .string ⟨a.key.toArray⟩, .string ⟨a.value.toArray⟩]
theorem zcg {w : World} {g : Nat} {t : TypeId} {a0 a1 a2 a3 a4 a5 a6 b0 b1 b2 b3 b4 b5 b6 : Value} (h : Blk w g t #[a0, a1, a2, a3, a4, a5, a6]) : Blk (((((((w.setCell ⟨g, 0, none⟩ b0).setCell ⟨g, 1, none⟩ b1).setCell ⟨g, 2, none⟩ b2).setCell ⟨g, 3, none⟩ b3).setCell ⟨g, 4, none⟩ b4).setCell ⟨g, 5, none⟩ b5).setCell ⟨g, 6, none⟩ b6) g t #[b0, b1, b2, b3, b4, b5, b6] := by
 have h0 : Blk (w.setCell ⟨g, 0, none⟩ b0) g t #[b0, a1, a2, a3, a4, a5, a6] := h.put 0 b0
 have h1 : Blk ((w.setCell ⟨g, 0, none⟩ b0).setCell ⟨g, 1, none⟩ b1) g t #[b0, b1, a2, a3, a4, a5, a6] := h0.put 1 b1
 have h2 : Blk (((w.setCell ⟨g, 0, none⟩ b0).setCell ⟨g, 1, none⟩ b1).setCell ⟨g, 2, none⟩ b2) g t #[b0, b1, b2, a3, a4, a5, a6] := h1.put 2 b2
 have h3 : Blk ((((w.setCell ⟨g, 0, none⟩ b0).setCell ⟨g, 1, none⟩ b1).setCell ⟨g, 2, none⟩ b2).setCell ⟨g, 3, none⟩ b3) g t #[b0, b1, b2, b3, a4, a5, a6] := h2.put 3 b3
 have h4 : Blk (((((w.setCell ⟨g, 0, none⟩ b0).setCell ⟨g, 1, none⟩ b1).setCell ⟨g, 2, none⟩ b2).setCell ⟨g, 3, none⟩ b3).setCell ⟨g, 4, none⟩ b4) g t #[b0, b1, b2, b3, b4, a5, a6] := h3.put 4 b4
 have h5 : Blk ((((((w.setCell ⟨g, 0, none⟩ b0).setCell ⟨g, 1, none⟩ b1).setCell ⟨g, 2, none⟩ b2).setCell ⟨g, 3, none⟩ b3).setCell ⟨g, 4, none⟩ b4).setCell ⟨g, 5, none⟩ b5) g t #[b0, b1, b2, b3, b4, b5, a6] := h4.put 5 b5
 have h6 : Blk (((((((w.setCell ⟨g, 0, none⟩ b0).setCell ⟨g, 1, none⟩ b1).setCell ⟨g, 2, none⟩ b2).setCell ⟨g, 3, none⟩ b3).setCell ⟨g, 4, none⟩ b4).setCell ⟨g, 5, none⟩ b5).setCell ⟨g, 6, none⟩ b6) g t #[b0, b1, b2, b3, b4, b5, b6] := h5.put 6 b6
 exact h6
theorem TapeM.cnt {w : World} {g : Nat} (h : TapeM w g) {p : Addr} (hp : g < p.block) (u : Value) : TapeM (w.setCell p u) g := h.set hp u
theorem request_any (g gn m : Nat) (tenant : Int) (w : World) (ht : TapeM w g) (hn : Cnt w gn m) (hord : g < gn) (hm : m ≤ 1000000) :
 Calls Tryz.prog 35 #[.pointer (some ⟨g, 0, none⟩), .int .i64 tenant, .slice (some ⟨gn, 0, none⟩) 4 4] w fun e w' =>
  ∃ a : ActD, a.tenant = tenant ∧ ReqGood (m + 1) a ∧ e = .returned (.agg (reqCells a)) ∧ TapeM w' g ∧ Cnt w' gn (m + 1) ∧ Gr (fun i => i = g ∨ i = gn) w w' := by
 have hgl := ht.lt
 have hnl := hn.lt
 have HN := Lib.hid hn
 have HT := Lib.hid ht
 clear ht hn
 go_enter Tryz.func35, Tryz.ntmps35
 go_wp2_with fail
 refine (zcr g _ _ _ (by omega) (by omega) (by omega) (by exact HT.out.alloc _)).mono ?_
 rintro e w1 ⟨cl, hc1, hc2, rfl, ht1, hg1, hs1⟩
 obtain ⟨cl, rfl⟩ : ∃ k : Nat, cl = k := ⟨cl.toNat, by omega⟩
 have HT1 := Lib.hid ht1
 have HG1 := Lib.hid (show Gr (fun i => i = g ∨ i = gn) w w1 from ((Gr.refl _ w).alloc _).grown hg1 (by simp))
 have HR1 := Lib.hid (show Blk w1 w.heap.size 27 _ from (Blk.new w _ _).grown hg1 (by simp; omega))
 have HN1 := Lib.hid ((HN.out.alloc _).grown hg1 (by simp; omega))
 have hz1 : w1.heap.size = w.heap.size + 1 := by rw [hs1]; simp
 have HZ1 := Lib.hid hz1
 clear ht1 hg1 hs1 hz1
 go_wp2_with fail
 refine (zar g _ _ (by omega) (by omega) (by exact HT1.out.alloc _)).mono ?_
 rintro e w2 ⟨r8, hr8, rfl, ht2, hg2, hs2⟩
 have HT2 := Lib.hid ht2
 have HG2 := Lib.hid (show Gr (fun i => i = g ∨ i = gn) w w2 from (HG1.out.alloc _).grown hg2 (by simp))
 have HR2 := Lib.hid ((HR1.out.alloc _).grown hg2 (by simp; omega))
 have HL2 := Lib.hid (show Blk w2 w1.heap.size 3 _ from (Blk.new w1 _ _).grown hg2 (by have := HZ1.out; simp; omega))
 have HN2 := Lib.hid ((HN1.out.alloc _).grown hg2 (by simp; omega))
 have HZ2 := Lib.hid (show w2.heap.size = w.heap.size + 2 by rw [hs2]; simp [HZ1.out])
 clear ht2 hg2 hs2
 obtain ⟨op, hop1, hop2, hopc⟩ : ∃ op : Nat, 1 ≤ op ∧ op ≤ 6 ∧ w2.cell? ⟨w1.heap.size, r8, none⟩ = some (iv op) := by
  rw [HL2.out.cell r8]
  match r8, hr8 with
  | 0, _ => exact ⟨1, by omega, by omega, rfl⟩
  | 1, _ => exact ⟨2, by omega, by omega, rfl⟩
  | 2, _ => exact ⟨2, by omega, by omega, rfl⟩
  | 3, _ => exact ⟨2, by omega, by omega, rfl⟩
  | 4, _ => exact ⟨3, by omega, by omega, rfl⟩
  | 5, _ => exact ⟨4, by omega, by omega, rfl⟩
  | 6, _ => exact ⟨5, by omega, by omega, rfl⟩
  | 7, _ => exact ⟨6, by omega, by omega, rfl⟩
  | n + 8, h => omega
 have HQ3 := Lib.hid (Blk.new w2 27 #[iv tenant, iv cl, iv 0, iv op, iv 0, .string ⟨#[]⟩, .string ⟨#[]⟩])
 have HT3 := Lib.hid (HT2.out.alloc (.cells #[iv tenant, iv cl, iv 0, iv op, iv 0, .string ⟨#[]⟩, .string ⟨#[]⟩] 27))
 have HN3 := Lib.hid ((HN2.out.alloc (.cells #[iv tenant, iv cl, iv 0, iv op, iv 0, .string ⟨#[]⟩, .string ⟨#[]⟩] 27)).more (show m ≤ m + 1 by omega))
 have HR3 := Lib.hid (HR2.out.alloc (.cells #[iv tenant, iv cl, iv 0, iv op, iv 0, .string ⟨#[]⟩, .string ⟨#[]⟩] 27))
 have HG3 := Lib.hid (HG2.out.alloc (.cells #[iv tenant, iv cl, iv 0, iv op, iv 0, .string ⟨#[]⟩, .string ⟨#[]⟩] 27))
 have hlt2 : w.heap.size + 1 < w2.heap.size := by have := HZ2.out; omega
 have HNm := Lib.hid (HN2.out.alloc (.cells #[iv tenant, iv cl, iv 0, iv op, iv 0, .string ⟨#[]⟩, .string ⟨#[]⟩] 27))
 have hlt3 : w.heap.size < w2.heap.size := by omega
 clear HN1 HT1 HR1 HG1 HL2
 have hcase : op = 1 ∨ op = 2 ∨ op = 3 ∨ op = 4 ∨ op = 5 ∨ op = 6 := by omega
 rcases hcase with rfl | rfl | rfl | rfl | rfl | rfl
 ·go_wp2_with fail
  refine (zbf g _ _ _ (by omega) (by omega) (by omega) (by exact HT3.out)).mono ?_
  rintro e w5 ⟨ky, hky1, hky2, rfl, ht5, hg5⟩
  have HT5 := Lib.hid ht5
  have HG5 := Lib.hid (HG3.out.grown hg5 (by simp))
  have HQ5 := Lib.hid (HQ3.out.grown hg5 (by simp; omega))
  have HR5 := Lib.hid (HR3.out.grown hg5 (by simp; omega))
  have HN5 := Lib.hid (HN3.out.grown hg5 (by simp; omega))
  clear ht5 hg5
  have q0 := HQ5.out.cell 0
  have f0 := HQ5.out.free 0
  have q1 := HQ5.out.cell 1
  have f1 := HQ5.out.free 1
  have q2 := HQ5.out.cell 2
  have f2 := HQ5.out.free 2
  have q3 := HQ5.out.cell 3
  have f3 := HQ5.out.free 3
  have q4 := HQ5.out.cell 4
  have f4 := HQ5.out.free 4
  have q5 := HQ5.out.cell 5
  have f5 := HQ5.out.free 5
  have q6 := HQ5.out.cell 6
  have f6 := HQ5.out.free 6
  simp only [List.getElem?_toArray, List.getElem?_cons_zero, List.getElem?_cons_succ] at q0 q1 q2 q3 q4 q5 q6
  have z0 := HR5.out.cell 0
  have y0 := HR5.out.free 0
  have z1 := HR5.out.cell 1
  have y1 := HR5.out.free 1
  have z2 := HR5.out.cell 2
  have y2 := HR5.out.free 2
  have z3 := HR5.out.cell 3
  have y3 := HR5.out.free 3
  have z4 := HR5.out.cell 4
  have y4 := HR5.out.free 4
  have z5 := HR5.out.cell 5
  have y5 := HR5.out.free 5
  have z6 := HR5.out.cell 6
  have y6 := HR5.out.free 6
  simp only [List.getElem?_toArray, List.getElem?_cons_zero, List.getElem?_cons_succ] at z0 z1 z2 z3 z4 z5 z6
  go_wp2_with fail
  refine bodyPost_ret (zat Tryz.results35 Tryz.isAgg27 Tryz.sizeOf27 rfl (zcg (HR5.out.far (by simp; omega) _)) rfl) rfl ⟨⟨0, 0, 0, 0, tenant, cl, 0, 1, 0, ky, []⟩, rfl, ⟨⟨(by first | omega | (simp; done) | (simp; omega)), (by first | omega | (simp; done) | (simp; omega))⟩, ⟨(by first | omega | (simp; done) | (simp; omega)), (by first | omega | (simp; done) | (simp; omega))⟩, by simp, by simp, (by first | omega | (simp; done) | (simp; omega)), by simp, by simp, by simp, by simp, by simp⟩, rfl, ?_, ?_, ?_⟩
  ·iterate 7 refine TapeM.set ?_ (by simp; omega) _
   exact (HT5.out.set (by simp; omega) _)
  ·iterate 7 refine Cnt.far ?_ (by simp; omega) _
   exact (HN5.out.far (by simp; omega) _)
  ·iterate 7 refine Gr.set ?_ (by simp) _
   exact (HG5.out.set (by simp; omega) _)
 ·go_wp2_with fail
  refine (zar g _ _ (by omega) (by omega) (by exact HT3.out)).mono ?_
  rintro e w4 ⟨r4, hr4, rfl, ht4, hg4, hs4⟩
  have HT4 := Lib.hid ht4
  have HG4 := Lib.hid (HG3.out.grown hg4 (by simp))
  have HQ4 := Lib.hid (HQ3.out.grown hg4 (by simp; omega))
  have HR4 := Lib.hid (HR3.out.grown hg4 (by simp; omega))
  have HN4 := Lib.hid (HN3.out.grown hg4 (by simp; omega))
  obtain ⟨v, hv, cv, fv⟩ := (HNm.out.grown hg4 (by simp; omega)).at cl (by omega)
  clear ht4 hg4 hs4
  have q0 := HQ4.out.cell 0
  have f0 := HQ4.out.free 0
  have q1 := HQ4.out.cell 1
  have f1 := HQ4.out.free 1
  have q2 := HQ4.out.cell 2
  have f2 := HQ4.out.free 2
  have q3 := HQ4.out.cell 3
  have f3 := HQ4.out.free 3
  have q4 := HQ4.out.cell 4
  have f4 := HQ4.out.free 4
  have q5 := HQ4.out.cell 5
  have f5 := HQ4.out.free 5
  have q6 := HQ4.out.cell 6
  have f6 := HQ4.out.free 6
  simp only [List.getElem?_toArray, List.getElem?_cons_zero, List.getElem?_cons_succ] at q0 q1 q2 q3 q4 q5 q6
  have hgq : gn ≠ w2.heap.size := by omega
  have hgq' : w2.heap.size ≠ gn := by omega
  by_cases hr40 : 0 < r4
  ·have e1 : decide ((0 : Int) < (r4 : Int)) = true := by simp; omega
   go_wp2_with fail
   have HQ5 := Lib.hid (show Blk ((w4.setCell ⟨gn, cl, none⟩ (iv ((v : Int) + 1))).setCell ⟨w2.heap.size, 2, none⟩ (iv ((v : Int) + 1))) w2.heap.size 27 #[iv tenant, iv cl, iv ((v : Int) + 1), iv 2, iv 0, .string ⟨#[]⟩, .string ⟨#[]⟩] from (HQ4.out.far (by simp; omega) _).put 2 _)
   have HR5 := Lib.hid ((HR4.out.far (p := ⟨gn, cl, none⟩) (by simp; omega) (iv ((v : Int) + 1))).far (p := ⟨w2.heap.size, 2, none⟩) (by simp; omega) (iv ((v : Int) + 1)))
   have HT5 := Lib.hid ((TapeM.cnt HT4.out (p := ⟨gn, cl, none⟩) hord (iv ((v : Int) + 1))).set (p := ⟨w2.heap.size, 2, none⟩) (by simp; omega) (iv ((v : Int) + 1)))
   have HN5 := Lib.hid ((show Cnt (w4.setCell ⟨gn, cl, none⟩ (iv ((v : Int) + 1))) gn (m + 1) from HN4.out.put cl (v + 1) (by omega) (by omega)).far (p := ⟨w2.heap.size, 2, none⟩) (by simp; omega) (iv ((v : Int) + 1)))
   have HG5 := Lib.hid ((HG4.out.set (p := ⟨gn, cl, none⟩) (by simp) (iv ((v : Int) + 1))).set (p := ⟨w2.heap.size, 2, none⟩) (by simp; omega) (iv ((v : Int) + 1)))
   clear q0 f0 q1 f1 q2 f2 q3 f3 q4 f4 q5 f5 q6 f6 cv fv
   generalize (w4.setCell ⟨gn, cl, none⟩ (iv ((v : Int) + 1))).setCell ⟨w2.heap.size, 2, none⟩ (iv ((v : Int) + 1)) = w5 at *
   refine (zbf g _ _ _ (by omega) (by omega) (by omega) (by exact HT5.out)).mono ?_
   rintro e w6 ⟨ky, hky1, hky2, rfl, ht6, hg6⟩
   have HT6 := Lib.hid ht6
   have HG6 := Lib.hid (HG5.out.grown hg6 (by simp))
   have HQ6 := Lib.hid (HQ5.out.grown hg6 (by simp; omega))
   have HR6 := Lib.hid (HR5.out.grown hg6 (by simp; omega))
   have HN6 := Lib.hid (HN5.out.grown hg6 (by simp; omega))
   clear ht6 hg6
   go_wp2_with fail
   refine (zbf g _ _ _ (by omega) (by omega) (by omega) (by exact HT6.out)).mono ?_
   rintro e w7 ⟨va, hva1, hva2, rfl, ht7, hg7⟩
   have HT7 := Lib.hid ht7
   have HG7 := Lib.hid (HG6.out.grown hg7 (by simp))
   have HQ7 := Lib.hid (HQ6.out.grown hg7 (by simp; omega))
   have HR7 := Lib.hid (HR6.out.grown hg7 (by simp; omega))
   have HN7 := Lib.hid (HN6.out.grown hg7 (by simp; omega))
   clear ht7 hg7
   have q0 := HQ7.out.cell 0
   have f0 := HQ7.out.free 0
   have q1 := HQ7.out.cell 1
   have f1 := HQ7.out.free 1
   have q2 := HQ7.out.cell 2
   have f2 := HQ7.out.free 2
   have q3 := HQ7.out.cell 3
   have f3 := HQ7.out.free 3
   have q4 := HQ7.out.cell 4
   have f4 := HQ7.out.free 4
   have q5 := HQ7.out.cell 5
   have f5 := HQ7.out.free 5
   have q6 := HQ7.out.cell 6
   have f6 := HQ7.out.free 6
   simp only [List.getElem?_toArray, List.getElem?_cons_zero, List.getElem?_cons_succ] at q0 q1 q2 q3 q4 q5 q6
   have z0 := HR7.out.cell 0
   have y0 := HR7.out.free 0
   have z1 := HR7.out.cell 1
   have y1 := HR7.out.free 1
   have z2 := HR7.out.cell 2
   have y2 := HR7.out.free 2
   have z3 := HR7.out.cell 3
   have y3 := HR7.out.free 3
   have z4 := HR7.out.cell 4
   have y4 := HR7.out.free 4
   have z5 := HR7.out.cell 5
   have y5 := HR7.out.free 5
   have z6 := HR7.out.cell 6
   have y6 := HR7.out.free 6
   simp only [List.getElem?_toArray, List.getElem?_cons_zero, List.getElem?_cons_succ] at z0 z1 z2 z3 z4 z5 z6
   go_wp2_with fail
   refine bodyPost_ret (zat Tryz.results35 Tryz.isAgg27 Tryz.sizeOf27 rfl (zcg ((HR7.out.far (by simp; omega) _).far (by simp; omega) _)) rfl) rfl ⟨⟨0, 0, 0, 0, tenant, cl, ((v : Int) + 1), 2, 0, ky, va⟩, rfl, ⟨⟨(by first | omega | (simp; done) | (simp; omega)), (by first | omega | (simp; done) | (simp; omega))⟩, ⟨(by first | omega | (simp; done) | (simp; omega)), (by first | omega | (simp; done) | (simp; omega))⟩, by simp, by simp, (by first | omega | (simp; done) | (simp; omega)), (by first | omega | (simp; done) | (simp; omega)), by simp, by simp, by simp, by simp⟩, rfl, ?_, ?_, ?_⟩
   ·iterate 7 refine TapeM.set ?_ (by simp; omega) _
    exact ((HT7.out.set (by simp; omega) _).set (by simp; omega) _)
   ·iterate 7 refine Cnt.far ?_ (by simp; omega) _
    exact ((HN7.out.far (by simp; omega) _).far (by simp; omega) _)
   ·iterate 7 refine Gr.set ?_ (by simp) _
    exact ((HG7.out.set (by simp; omega) _).set (by simp; omega) _)
  ·have e1 : decide ((0 : Int) < (r4 : Int)) = false := by simp; omega
   by_cases hv0 : v = 0
   ·subst hv0
    go_wp2_with fail
    have HQ5 := Lib.hid (show Blk ((w4.setCell ⟨gn, cl, none⟩ (iv 1)).setCell ⟨w2.heap.size, 2, none⟩ (iv 1)) w2.heap.size 27 #[iv tenant, iv cl, iv 1, iv 2, iv 0, .string ⟨#[]⟩, .string ⟨#[]⟩] from (HQ4.out.far (by simp; omega) _).put 2 _)
    have HR5 := Lib.hid ((HR4.out.far (p := ⟨gn, cl, none⟩) (by simp; omega) (iv 1)).far (p := ⟨w2.heap.size, 2, none⟩) (by simp; omega) (iv 1))
    have HT5 := Lib.hid ((TapeM.cnt HT4.out (p := ⟨gn, cl, none⟩) hord (iv 1)).set (p := ⟨w2.heap.size, 2, none⟩) (by simp; omega) (iv 1))
    have HN5 := Lib.hid ((show Cnt (w4.setCell ⟨gn, cl, none⟩ (iv 1)) gn (m + 1) from HN4.out.put cl 1 (by omega) (by omega)).far (p := ⟨w2.heap.size, 2, none⟩) (by simp; omega) (iv 1))
    have HG5 := Lib.hid ((HG4.out.set (p := ⟨gn, cl, none⟩) (by simp) (iv 1)).set (p := ⟨w2.heap.size, 2, none⟩) (by simp; omega) (iv 1))
    clear q0 f0 q1 f1 q2 f2 q3 f3 q4 f4 q5 f5 q6 f6 cv fv
    generalize (w4.setCell ⟨gn, cl, none⟩ (iv 1)).setCell ⟨w2.heap.size, 2, none⟩ (iv 1) = w5 at *
    refine (zbf g _ _ _ (by omega) (by omega) (by omega) (by exact HT5.out)).mono ?_
    rintro e w6 ⟨ky, hky1, hky2, rfl, ht6, hg6⟩
    have HT6 := Lib.hid ht6
    have HG6 := Lib.hid (HG5.out.grown hg6 (by simp))
    have HQ6 := Lib.hid (HQ5.out.grown hg6 (by simp; omega))
    have HR6 := Lib.hid (HR5.out.grown hg6 (by simp; omega))
    have HN6 := Lib.hid (HN5.out.grown hg6 (by simp; omega))
    clear ht6 hg6
    go_wp2_with fail
    refine (zbf g _ _ _ (by omega) (by omega) (by omega) (by exact HT6.out)).mono ?_
    rintro e w7 ⟨va, hva1, hva2, rfl, ht7, hg7⟩
    have HT7 := Lib.hid ht7
    have HG7 := Lib.hid (HG6.out.grown hg7 (by simp))
    have HQ7 := Lib.hid (HQ6.out.grown hg7 (by simp; omega))
    have HR7 := Lib.hid (HR6.out.grown hg7 (by simp; omega))
    have HN7 := Lib.hid (HN6.out.grown hg7 (by simp; omega))
    clear ht7 hg7
    have q0 := HQ7.out.cell 0
    have f0 := HQ7.out.free 0
    have q1 := HQ7.out.cell 1
    have f1 := HQ7.out.free 1
    have q2 := HQ7.out.cell 2
    have f2 := HQ7.out.free 2
    have q3 := HQ7.out.cell 3
    have f3 := HQ7.out.free 3
    have q4 := HQ7.out.cell 4
    have f4 := HQ7.out.free 4
    have q5 := HQ7.out.cell 5
    have f5 := HQ7.out.free 5
    have q6 := HQ7.out.cell 6
    have f6 := HQ7.out.free 6
    simp only [List.getElem?_toArray, List.getElem?_cons_zero, List.getElem?_cons_succ] at q0 q1 q2 q3 q4 q5 q6
    have z0 := HR7.out.cell 0
    have y0 := HR7.out.free 0
    have z1 := HR7.out.cell 1
    have y1 := HR7.out.free 1
    have z2 := HR7.out.cell 2
    have y2 := HR7.out.free 2
    have z3 := HR7.out.cell 3
    have y3 := HR7.out.free 3
    have z4 := HR7.out.cell 4
    have y4 := HR7.out.free 4
    have z5 := HR7.out.cell 5
    have y5 := HR7.out.free 5
    have z6 := HR7.out.cell 6
    have y6 := HR7.out.free 6
    simp only [List.getElem?_toArray, List.getElem?_cons_zero, List.getElem?_cons_succ] at z0 z1 z2 z3 z4 z5 z6
    go_wp2_with fail
    refine bodyPost_ret (zat Tryz.results35 Tryz.isAgg27 Tryz.sizeOf27 rfl (zcg ((HR7.out.far (by simp; omega) _).far (by simp; omega) _)) rfl) rfl ⟨⟨0, 0, 0, 0, tenant, cl, 1, 2, 0, ky, va⟩, rfl, ⟨⟨(by first | omega | (simp; done) | (simp; omega)), (by first | omega | (simp; done) | (simp; omega))⟩, ⟨(by first | omega | (simp; done) | (simp; omega)), (by first | omega | (simp; done) | (simp; omega))⟩, by simp, by simp, (by first | omega | (simp; done) | (simp; omega)), (by first | omega | (simp; done) | (simp; omega)), by simp, by simp, by simp, by simp⟩, rfl, ?_, ?_, ?_⟩
    ·iterate 7 refine TapeM.set ?_ (by simp; omega) _
     exact ((HT7.out.set (by simp; omega) _).set (by simp; omega) _)
    ·iterate 7 refine Cnt.far ?_ (by simp; omega) _
     exact ((HN7.out.far (by simp; omega) _).far (by simp; omega) _)
    ·iterate 7 refine Gr.set ?_ (by simp) _
     exact ((HG7.out.set (by simp; omega) _).set (by simp; omega) _)
   ·have e2 : ((v : Int) == 0) = false := by simp; omega
    go_wp2_with fail
    have HQ5 := Lib.hid (show Blk ((w4).setCell ⟨w2.heap.size, 2, none⟩ (iv (v : Int))) w2.heap.size 27 #[iv tenant, iv cl, iv (v : Int), iv 2, iv 0, .string ⟨#[]⟩, .string ⟨#[]⟩] from (HQ4.out).put 2 _)
    have HR5 := Lib.hid ((HR4.out).far (p := ⟨w2.heap.size, 2, none⟩) (by simp; omega) (iv (v : Int)))
    have HT5 := Lib.hid ((HT4.out).set (p := ⟨w2.heap.size, 2, none⟩) (by simp; omega) (iv (v : Int)))
    have HN5 := Lib.hid ((HN4.out).far (p := ⟨w2.heap.size, 2, none⟩) (by simp; omega) (iv (v : Int)))
    have HG5 := Lib.hid ((HG4.out).set (p := ⟨w2.heap.size, 2, none⟩) (by simp; omega) (iv (v : Int)))
    clear q0 f0 q1 f1 q2 f2 q3 f3 q4 f4 q5 f5 q6 f6 cv fv
    generalize (w4).setCell ⟨w2.heap.size, 2, none⟩ (iv (v : Int)) = w5 at *
    refine (zbf g _ _ _ (by omega) (by omega) (by omega) (by exact HT5.out)).mono ?_
    rintro e w6 ⟨ky, hky1, hky2, rfl, ht6, hg6⟩
    have HT6 := Lib.hid ht6
    have HG6 := Lib.hid (HG5.out.grown hg6 (by simp))
    have HQ6 := Lib.hid (HQ5.out.grown hg6 (by simp; omega))
    have HR6 := Lib.hid (HR5.out.grown hg6 (by simp; omega))
    have HN6 := Lib.hid (HN5.out.grown hg6 (by simp; omega))
    clear ht6 hg6
    go_wp2_with fail
    refine (zbf g _ _ _ (by omega) (by omega) (by omega) (by exact HT6.out)).mono ?_
    rintro e w7 ⟨va, hva1, hva2, rfl, ht7, hg7⟩
    have HT7 := Lib.hid ht7
    have HG7 := Lib.hid (HG6.out.grown hg7 (by simp))
    have HQ7 := Lib.hid (HQ6.out.grown hg7 (by simp; omega))
    have HR7 := Lib.hid (HR6.out.grown hg7 (by simp; omega))
    have HN7 := Lib.hid (HN6.out.grown hg7 (by simp; omega))
    clear ht7 hg7
    have q0 := HQ7.out.cell 0
    have f0 := HQ7.out.free 0
    have q1 := HQ7.out.cell 1
    have f1 := HQ7.out.free 1
    have q2 := HQ7.out.cell 2
    have f2 := HQ7.out.free 2
    have q3 := HQ7.out.cell 3
    have f3 := HQ7.out.free 3
    have q4 := HQ7.out.cell 4
    have f4 := HQ7.out.free 4
    have q5 := HQ7.out.cell 5
    have f5 := HQ7.out.free 5
    have q6 := HQ7.out.cell 6
    have f6 := HQ7.out.free 6
    simp only [List.getElem?_toArray, List.getElem?_cons_zero, List.getElem?_cons_succ] at q0 q1 q2 q3 q4 q5 q6
    have z0 := HR7.out.cell 0
    have y0 := HR7.out.free 0
    have z1 := HR7.out.cell 1
    have y1 := HR7.out.free 1
    have z2 := HR7.out.cell 2
    have y2 := HR7.out.free 2
    have z3 := HR7.out.cell 3
    have y3 := HR7.out.free 3
    have z4 := HR7.out.cell 4
    have y4 := HR7.out.free 4
    have z5 := HR7.out.cell 5
    have y5 := HR7.out.free 5
    have z6 := HR7.out.cell 6
    have y6 := HR7.out.free 6
    simp only [List.getElem?_toArray, List.getElem?_cons_zero, List.getElem?_cons_succ] at z0 z1 z2 z3 z4 z5 z6
    go_wp2_with fail
    refine bodyPost_ret (zat Tryz.results35 Tryz.isAgg27 Tryz.sizeOf27 rfl (zcg ((HR7.out.far (by simp; omega) _).far (by simp; omega) _)) rfl) rfl ⟨⟨0, 0, 0, 0, tenant, cl, (v : Int), 2, 0, ky, va⟩, rfl, ⟨⟨(by first | omega | (simp; done) | (simp; omega)), (by first | omega | (simp; done) | (simp; omega))⟩, ⟨(by first | omega | (simp; done) | (simp; omega)), (by first | omega | (simp; done) | (simp; omega))⟩, by simp, by simp, (by first | omega | (simp; done) | (simp; omega)), (by first | omega | (simp; done) | (simp; omega)), by simp, by simp, by simp, by simp⟩, rfl, ?_, ?_, ?_⟩
    ·iterate 7 refine TapeM.set ?_ (by simp; omega) _
     exact ((HT7.out.set (by simp; omega) _).set (by simp; omega) _)
    ·iterate 7 refine Cnt.far ?_ (by simp; omega) _
     exact ((HN7.out.far (by simp; omega) _).far (by simp; omega) _)
    ·iterate 7 refine Gr.set ?_ (by simp) _
     exact ((HG7.out.set (by simp; omega) _).set (by simp; omega) _)
 ·go_wp2_with fail
  refine (zar g _ _ (by omega) (by omega) (by exact HT3.out)).mono ?_
  rintro e w4 ⟨r4, hr4, rfl, ht4, hg4, hs4⟩
  have HT4 := Lib.hid ht4
  have HG4 := Lib.hid (HG3.out.grown hg4 (by simp))
  have HQ4 := Lib.hid (HQ3.out.grown hg4 (by simp; omega))
  have HR4 := Lib.hid (HR3.out.grown hg4 (by simp; omega))
  have HN4 := Lib.hid (HN3.out.grown hg4 (by simp; omega))
  obtain ⟨v, hv, cv, fv⟩ := (HNm.out.grown hg4 (by simp; omega)).at cl (by omega)
  clear ht4 hg4 hs4
  have q0 := HQ4.out.cell 0
  have f0 := HQ4.out.free 0
  have q1 := HQ4.out.cell 1
  have f1 := HQ4.out.free 1
  have q2 := HQ4.out.cell 2
  have f2 := HQ4.out.free 2
  have q3 := HQ4.out.cell 3
  have f3 := HQ4.out.free 3
  have q4 := HQ4.out.cell 4
  have f4 := HQ4.out.free 4
  have q5 := HQ4.out.cell 5
  have f5 := HQ4.out.free 5
  have q6 := HQ4.out.cell 6
  have f6 := HQ4.out.free 6
  simp only [List.getElem?_toArray, List.getElem?_cons_zero, List.getElem?_cons_succ] at q0 q1 q2 q3 q4 q5 q6
  have hgq : gn ≠ w2.heap.size := by omega
  have hgq' : w2.heap.size ≠ gn := by omega
  by_cases hr40 : 0 < r4
  ·have e1 : decide ((0 : Int) < (r4 : Int)) = true := by simp; omega
   go_wp2_with fail
   have HQ5 := Lib.hid (show Blk ((w4.setCell ⟨gn, cl, none⟩ (iv ((v : Int) + 1))).setCell ⟨w2.heap.size, 2, none⟩ (iv ((v : Int) + 1))) w2.heap.size 27 #[iv tenant, iv cl, iv ((v : Int) + 1), iv 3, iv 0, .string ⟨#[]⟩, .string ⟨#[]⟩] from (HQ4.out.far (by simp; omega) _).put 2 _)
   have HR5 := Lib.hid ((HR4.out.far (p := ⟨gn, cl, none⟩) (by simp; omega) (iv ((v : Int) + 1))).far (p := ⟨w2.heap.size, 2, none⟩) (by simp; omega) (iv ((v : Int) + 1)))
   have HT5 := Lib.hid ((TapeM.cnt HT4.out (p := ⟨gn, cl, none⟩) hord (iv ((v : Int) + 1))).set (p := ⟨w2.heap.size, 2, none⟩) (by simp; omega) (iv ((v : Int) + 1)))
   have HN5 := Lib.hid ((show Cnt (w4.setCell ⟨gn, cl, none⟩ (iv ((v : Int) + 1))) gn (m + 1) from HN4.out.put cl (v + 1) (by omega) (by omega)).far (p := ⟨w2.heap.size, 2, none⟩) (by simp; omega) (iv ((v : Int) + 1)))
   have HG5 := Lib.hid ((HG4.out.set (p := ⟨gn, cl, none⟩) (by simp) (iv ((v : Int) + 1))).set (p := ⟨w2.heap.size, 2, none⟩) (by simp; omega) (iv ((v : Int) + 1)))
   clear q0 f0 q1 f1 q2 f2 q3 f3 q4 f4 q5 f5 q6 f6 cv fv
   generalize (w4.setCell ⟨gn, cl, none⟩ (iv ((v : Int) + 1))).setCell ⟨w2.heap.size, 2, none⟩ (iv ((v : Int) + 1)) = w5 at *
   refine (zbf g _ _ _ (by omega) (by omega) (by omega) (by exact HT5.out)).mono ?_
   rintro e w6 ⟨ky, hky1, hky2, rfl, ht6, hg6⟩
   have HT6 := Lib.hid ht6
   have HG6 := Lib.hid (HG5.out.grown hg6 (by simp))
   have HQ6 := Lib.hid (HQ5.out.grown hg6 (by simp; omega))
   have HR6 := Lib.hid (HR5.out.grown hg6 (by simp; omega))
   have HN6 := Lib.hid (HN5.out.grown hg6 (by simp; omega))
   clear ht6 hg6
   have q0 := HQ6.out.cell 0
   have f0 := HQ6.out.free 0
   have q1 := HQ6.out.cell 1
   have f1 := HQ6.out.free 1
   have q2 := HQ6.out.cell 2
   have f2 := HQ6.out.free 2
   have q3 := HQ6.out.cell 3
   have f3 := HQ6.out.free 3
   have q4 := HQ6.out.cell 4
   have f4 := HQ6.out.free 4
   have q5 := HQ6.out.cell 5
   have f5 := HQ6.out.free 5
   have q6 := HQ6.out.cell 6
   have f6 := HQ6.out.free 6
   simp only [List.getElem?_toArray, List.getElem?_cons_zero, List.getElem?_cons_succ] at q0 q1 q2 q3 q4 q5 q6
   have z0 := HR6.out.cell 0
   have y0 := HR6.out.free 0
   have z1 := HR6.out.cell 1
   have y1 := HR6.out.free 1
   have z2 := HR6.out.cell 2
   have y2 := HR6.out.free 2
   have z3 := HR6.out.cell 3
   have y3 := HR6.out.free 3
   have z4 := HR6.out.cell 4
   have y4 := HR6.out.free 4
   have z5 := HR6.out.cell 5
   have y5 := HR6.out.free 5
   have z6 := HR6.out.cell 6
   have y6 := HR6.out.free 6
   simp only [List.getElem?_toArray, List.getElem?_cons_zero, List.getElem?_cons_succ] at z0 z1 z2 z3 z4 z5 z6
   go_wp2_with fail
   refine bodyPost_ret (zat Tryz.results35 Tryz.isAgg27 Tryz.sizeOf27 rfl (zcg (HR6.out.far (by simp; omega) _)) rfl) rfl ⟨⟨0, 0, 0, 0, tenant, cl, ((v : Int) + 1), 3, 0, ky, []⟩, rfl, ⟨⟨(by first | omega | (simp; done) | (simp; omega)), (by first | omega | (simp; done) | (simp; omega))⟩, ⟨(by first | omega | (simp; done) | (simp; omega)), (by first | omega | (simp; done) | (simp; omega))⟩, by simp, by simp, (by first | omega | (simp; done) | (simp; omega)), by simp, by simp, by simp, by simp, by simp⟩, rfl, ?_, ?_, ?_⟩
   ·iterate 7 refine TapeM.set ?_ (by simp; omega) _
    exact (HT6.out.set (by simp; omega) _)
   ·iterate 7 refine Cnt.far ?_ (by simp; omega) _
    exact (HN6.out.far (by simp; omega) _)
   ·iterate 7 refine Gr.set ?_ (by simp) _
    exact (HG6.out.set (by simp; omega) _)
  ·have e1 : decide ((0 : Int) < (r4 : Int)) = false := by simp; omega
   by_cases hv0 : v = 0
   ·subst hv0
    go_wp2_with fail
    have HQ5 := Lib.hid (show Blk ((w4.setCell ⟨gn, cl, none⟩ (iv 1)).setCell ⟨w2.heap.size, 2, none⟩ (iv 1)) w2.heap.size 27 #[iv tenant, iv cl, iv 1, iv 3, iv 0, .string ⟨#[]⟩, .string ⟨#[]⟩] from (HQ4.out.far (by simp; omega) _).put 2 _)
    have HR5 := Lib.hid ((HR4.out.far (p := ⟨gn, cl, none⟩) (by simp; omega) (iv 1)).far (p := ⟨w2.heap.size, 2, none⟩) (by simp; omega) (iv 1))
    have HT5 := Lib.hid ((TapeM.cnt HT4.out (p := ⟨gn, cl, none⟩) hord (iv 1)).set (p := ⟨w2.heap.size, 2, none⟩) (by simp; omega) (iv 1))
    have HN5 := Lib.hid ((show Cnt (w4.setCell ⟨gn, cl, none⟩ (iv 1)) gn (m + 1) from HN4.out.put cl 1 (by omega) (by omega)).far (p := ⟨w2.heap.size, 2, none⟩) (by simp; omega) (iv 1))
    have HG5 := Lib.hid ((HG4.out.set (p := ⟨gn, cl, none⟩) (by simp) (iv 1)).set (p := ⟨w2.heap.size, 2, none⟩) (by simp; omega) (iv 1))
    clear q0 f0 q1 f1 q2 f2 q3 f3 q4 f4 q5 f5 q6 f6 cv fv
    generalize (w4.setCell ⟨gn, cl, none⟩ (iv 1)).setCell ⟨w2.heap.size, 2, none⟩ (iv 1) = w5 at *
    refine (zbf g _ _ _ (by omega) (by omega) (by omega) (by exact HT5.out)).mono ?_
    rintro e w6 ⟨ky, hky1, hky2, rfl, ht6, hg6⟩
    have HT6 := Lib.hid ht6
    have HG6 := Lib.hid (HG5.out.grown hg6 (by simp))
    have HQ6 := Lib.hid (HQ5.out.grown hg6 (by simp; omega))
    have HR6 := Lib.hid (HR5.out.grown hg6 (by simp; omega))
    have HN6 := Lib.hid (HN5.out.grown hg6 (by simp; omega))
    clear ht6 hg6
    have q0 := HQ6.out.cell 0
    have f0 := HQ6.out.free 0
    have q1 := HQ6.out.cell 1
    have f1 := HQ6.out.free 1
    have q2 := HQ6.out.cell 2
    have f2 := HQ6.out.free 2
    have q3 := HQ6.out.cell 3
    have f3 := HQ6.out.free 3
    have q4 := HQ6.out.cell 4
    have f4 := HQ6.out.free 4
    have q5 := HQ6.out.cell 5
    have f5 := HQ6.out.free 5
    have q6 := HQ6.out.cell 6
    have f6 := HQ6.out.free 6
    simp only [List.getElem?_toArray, List.getElem?_cons_zero, List.getElem?_cons_succ] at q0 q1 q2 q3 q4 q5 q6
    have z0 := HR6.out.cell 0
    have y0 := HR6.out.free 0
    have z1 := HR6.out.cell 1
    have y1 := HR6.out.free 1
    have z2 := HR6.out.cell 2
    have y2 := HR6.out.free 2
    have z3 := HR6.out.cell 3
    have y3 := HR6.out.free 3
    have z4 := HR6.out.cell 4
    have y4 := HR6.out.free 4
    have z5 := HR6.out.cell 5
    have y5 := HR6.out.free 5
    have z6 := HR6.out.cell 6
    have y6 := HR6.out.free 6
    simp only [List.getElem?_toArray, List.getElem?_cons_zero, List.getElem?_cons_succ] at z0 z1 z2 z3 z4 z5 z6
    go_wp2_with fail
    refine bodyPost_ret (zat Tryz.results35 Tryz.isAgg27 Tryz.sizeOf27 rfl (zcg (HR6.out.far (by simp; omega) _)) rfl) rfl ⟨⟨0, 0, 0, 0, tenant, cl, 1, 3, 0, ky, []⟩, rfl, ⟨⟨(by first | omega | (simp; done) | (simp; omega)), (by first | omega | (simp; done) | (simp; omega))⟩, ⟨(by first | omega | (simp; done) | (simp; omega)), (by first | omega | (simp; done) | (simp; omega))⟩, by simp, by simp, (by first | omega | (simp; done) | (simp; omega)), by simp, by simp, by simp, by simp, by simp⟩, rfl, ?_, ?_, ?_⟩
    ·iterate 7 refine TapeM.set ?_ (by simp; omega) _
     exact (HT6.out.set (by simp; omega) _)
    ·iterate 7 refine Cnt.far ?_ (by simp; omega) _
     exact (HN6.out.far (by simp; omega) _)
    ·iterate 7 refine Gr.set ?_ (by simp) _
     exact (HG6.out.set (by simp; omega) _)
   ·have e2 : ((v : Int) == 0) = false := by simp; omega
    go_wp2_with fail
    have HQ5 := Lib.hid (show Blk ((w4).setCell ⟨w2.heap.size, 2, none⟩ (iv (v : Int))) w2.heap.size 27 #[iv tenant, iv cl, iv (v : Int), iv 3, iv 0, .string ⟨#[]⟩, .string ⟨#[]⟩] from (HQ4.out).put 2 _)
    have HR5 := Lib.hid ((HR4.out).far (p := ⟨w2.heap.size, 2, none⟩) (by simp; omega) (iv (v : Int)))
    have HT5 := Lib.hid ((HT4.out).set (p := ⟨w2.heap.size, 2, none⟩) (by simp; omega) (iv (v : Int)))
    have HN5 := Lib.hid ((HN4.out).far (p := ⟨w2.heap.size, 2, none⟩) (by simp; omega) (iv (v : Int)))
    have HG5 := Lib.hid ((HG4.out).set (p := ⟨w2.heap.size, 2, none⟩) (by simp; omega) (iv (v : Int)))
    clear q0 f0 q1 f1 q2 f2 q3 f3 q4 f4 q5 f5 q6 f6 cv fv
    generalize (w4).setCell ⟨w2.heap.size, 2, none⟩ (iv (v : Int)) = w5 at *
    refine (zbf g _ _ _ (by omega) (by omega) (by omega) (by exact HT5.out)).mono ?_
    rintro e w6 ⟨ky, hky1, hky2, rfl, ht6, hg6⟩
    have HT6 := Lib.hid ht6
    have HG6 := Lib.hid (HG5.out.grown hg6 (by simp))
    have HQ6 := Lib.hid (HQ5.out.grown hg6 (by simp; omega))
    have HR6 := Lib.hid (HR5.out.grown hg6 (by simp; omega))
    have HN6 := Lib.hid (HN5.out.grown hg6 (by simp; omega))
    clear ht6 hg6
    have q0 := HQ6.out.cell 0
    have f0 := HQ6.out.free 0
    have q1 := HQ6.out.cell 1
    have f1 := HQ6.out.free 1
    have q2 := HQ6.out.cell 2
    have f2 := HQ6.out.free 2
    have q3 := HQ6.out.cell 3
    have f3 := HQ6.out.free 3
    have q4 := HQ6.out.cell 4
    have f4 := HQ6.out.free 4
    have q5 := HQ6.out.cell 5
    have f5 := HQ6.out.free 5
    have q6 := HQ6.out.cell 6
    have f6 := HQ6.out.free 6
    simp only [List.getElem?_toArray, List.getElem?_cons_zero, List.getElem?_cons_succ] at q0 q1 q2 q3 q4 q5 q6
    have z0 := HR6.out.cell 0
    have y0 := HR6.out.free 0
    have z1 := HR6.out.cell 1
    have y1 := HR6.out.free 1
    have z2 := HR6.out.cell 2
    have y2 := HR6.out.free 2
    have z3 := HR6.out.cell 3
    have y3 := HR6.out.free 3
    have z4 := HR6.out.cell 4
    have y4 := HR6.out.free 4
    have z5 := HR6.out.cell 5
    have y5 := HR6.out.free 5
    have z6 := HR6.out.cell 6
    have y6 := HR6.out.free 6
    simp only [List.getElem?_toArray, List.getElem?_cons_zero, List.getElem?_cons_succ] at z0 z1 z2 z3 z4 z5 z6
    go_wp2_with fail
    refine bodyPost_ret (zat Tryz.results35 Tryz.isAgg27 Tryz.sizeOf27 rfl (zcg (HR6.out.far (by simp; omega) _)) rfl) rfl ⟨⟨0, 0, 0, 0, tenant, cl, (v : Int), 3, 0, ky, []⟩, rfl, ⟨⟨(by first | omega | (simp; done) | (simp; omega)), (by first | omega | (simp; done) | (simp; omega))⟩, ⟨(by first | omega | (simp; done) | (simp; omega)), (by first | omega | (simp; done) | (simp; omega))⟩, by simp, by simp, (by first | omega | (simp; done) | (simp; omega)), by simp, by simp, by simp, by simp, by simp⟩, rfl, ?_, ?_, ?_⟩
    ·iterate 7 refine TapeM.set ?_ (by simp; omega) _
     exact (HT6.out.set (by simp; omega) _)
    ·iterate 7 refine Cnt.far ?_ (by simp; omega) _
     exact (HN6.out.far (by simp; omega) _)
    ·iterate 7 refine Gr.set ?_ (by simp) _
     exact (HG6.out.set (by simp; omega) _)
 ·go_wp2_with fail
  refine (zar g _ _ (by omega) (by omega) (by exact HT3.out)).mono ?_
  rintro e w4 ⟨r4, hr4, rfl, ht4, hg4, hs4⟩
  have HT4 := Lib.hid ht4
  have HG4 := Lib.hid (HG3.out.grown hg4 (by simp))
  have HQ4 := Lib.hid (HQ3.out.grown hg4 (by simp; omega))
  have HR4 := Lib.hid (HR3.out.grown hg4 (by simp; omega))
  have HN4 := Lib.hid (HN3.out.grown hg4 (by simp; omega))
  obtain ⟨v, hv, cv, fv⟩ := (HNm.out.grown hg4 (by simp; omega)).at cl (by omega)
  clear ht4 hg4 hs4
  have q0 := HQ4.out.cell 0
  have f0 := HQ4.out.free 0
  have q1 := HQ4.out.cell 1
  have f1 := HQ4.out.free 1
  have q2 := HQ4.out.cell 2
  have f2 := HQ4.out.free 2
  have q3 := HQ4.out.cell 3
  have f3 := HQ4.out.free 3
  have q4 := HQ4.out.cell 4
  have f4 := HQ4.out.free 4
  have q5 := HQ4.out.cell 5
  have f5 := HQ4.out.free 5
  have q6 := HQ4.out.cell 6
  have f6 := HQ4.out.free 6
  simp only [List.getElem?_toArray, List.getElem?_cons_zero, List.getElem?_cons_succ] at q0 q1 q2 q3 q4 q5 q6
  have hgq : gn ≠ w2.heap.size := by omega
  have hgq' : w2.heap.size ≠ gn := by omega
  by_cases hr40 : 0 < r4
  ·have e1 : decide ((0 : Int) < (r4 : Int)) = true := by simp; omega
   go_wp2_with fail
   have HQ5 := Lib.hid (show Blk ((w4.setCell ⟨gn, cl, none⟩ (iv ((v : Int) + 1))).setCell ⟨w2.heap.size, 2, none⟩ (iv ((v : Int) + 1))) w2.heap.size 27 #[iv tenant, iv cl, iv ((v : Int) + 1), iv 4, iv 0, .string ⟨#[]⟩, .string ⟨#[]⟩] from (HQ4.out.far (by simp; omega) _).put 2 _)
   have HR5 := Lib.hid ((HR4.out.far (p := ⟨gn, cl, none⟩) (by simp; omega) (iv ((v : Int) + 1))).far (p := ⟨w2.heap.size, 2, none⟩) (by simp; omega) (iv ((v : Int) + 1)))
   have HT5 := Lib.hid ((TapeM.cnt HT4.out (p := ⟨gn, cl, none⟩) hord (iv ((v : Int) + 1))).set (p := ⟨w2.heap.size, 2, none⟩) (by simp; omega) (iv ((v : Int) + 1)))
   have HN5 := Lib.hid ((show Cnt (w4.setCell ⟨gn, cl, none⟩ (iv ((v : Int) + 1))) gn (m + 1) from HN4.out.put cl (v + 1) (by omega) (by omega)).far (p := ⟨w2.heap.size, 2, none⟩) (by simp; omega) (iv ((v : Int) + 1)))
   have HG5 := Lib.hid ((HG4.out.set (p := ⟨gn, cl, none⟩) (by simp) (iv ((v : Int) + 1))).set (p := ⟨w2.heap.size, 2, none⟩) (by simp; omega) (iv ((v : Int) + 1)))
   clear q0 f0 q1 f1 q2 f2 q3 f3 q4 f4 q5 f5 q6 f6 cv fv
   generalize (w4.setCell ⟨gn, cl, none⟩ (iv ((v : Int) + 1))).setCell ⟨w2.heap.size, 2, none⟩ (iv ((v : Int) + 1)) = w5 at *
   refine (zbf g _ _ _ (by omega) (by omega) (by omega) (by exact HT5.out)).mono ?_
   rintro e w6 ⟨va, hva1, hva2, rfl, ht6, hg6⟩
   have HT6 := Lib.hid ht6
   have HG6 := Lib.hid (HG5.out.grown hg6 (by simp))
   have HQ6 := Lib.hid (HQ5.out.grown hg6 (by simp; omega))
   have HR6 := Lib.hid (HR5.out.grown hg6 (by simp; omega))
   have HN6 := Lib.hid (HN5.out.grown hg6 (by simp; omega))
   clear ht6 hg6
   have q0 := HQ6.out.cell 0
   have f0 := HQ6.out.free 0
   have q1 := HQ6.out.cell 1
   have f1 := HQ6.out.free 1
   have q2 := HQ6.out.cell 2
   have f2 := HQ6.out.free 2
   have q3 := HQ6.out.cell 3
   have f3 := HQ6.out.free 3
   have q4 := HQ6.out.cell 4
   have f4 := HQ6.out.free 4
   have q5 := HQ6.out.cell 5
   have f5 := HQ6.out.free 5
   have q6 := HQ6.out.cell 6
   have f6 := HQ6.out.free 6
   simp only [List.getElem?_toArray, List.getElem?_cons_zero, List.getElem?_cons_succ] at q0 q1 q2 q3 q4 q5 q6
   have z0 := HR6.out.cell 0
   have y0 := HR6.out.free 0
   have z1 := HR6.out.cell 1
   have y1 := HR6.out.free 1
   have z2 := HR6.out.cell 2
   have y2 := HR6.out.free 2
   have z3 := HR6.out.cell 3
   have y3 := HR6.out.free 3
   have z4 := HR6.out.cell 4
   have y4 := HR6.out.free 4
   have z5 := HR6.out.cell 5
   have y5 := HR6.out.free 5
   have z6 := HR6.out.cell 6
   have y6 := HR6.out.free 6
   simp only [List.getElem?_toArray, List.getElem?_cons_zero, List.getElem?_cons_succ] at z0 z1 z2 z3 z4 z5 z6
   go_wp2_with fail
   refine bodyPost_ret (zat Tryz.results35 Tryz.isAgg27 Tryz.sizeOf27 rfl (zcg (HR6.out.far (by simp; omega) _)) rfl) rfl ⟨⟨0, 0, 0, 0, tenant, cl, ((v : Int) + 1), 4, 0, [], va⟩, rfl, ⟨⟨(by first | omega | (simp; done) | (simp; omega)), (by first | omega | (simp; done) | (simp; omega))⟩, ⟨(by first | omega | (simp; done) | (simp; omega)), (by first | omega | (simp; done) | (simp; omega))⟩, by simp, by simp, by simp, (by first | omega | (simp; done) | (simp; omega)), by simp, by simp, by simp, by simp⟩, rfl, ?_, ?_, ?_⟩
   ·iterate 7 refine TapeM.set ?_ (by simp; omega) _
    exact (HT6.out.set (by simp; omega) _)
   ·iterate 7 refine Cnt.far ?_ (by simp; omega) _
    exact (HN6.out.far (by simp; omega) _)
   ·iterate 7 refine Gr.set ?_ (by simp) _
    exact (HG6.out.set (by simp; omega) _)
  ·have e1 : decide ((0 : Int) < (r4 : Int)) = false := by simp; omega
   by_cases hv0 : v = 0
   ·subst hv0
    go_wp2_with fail
    have HQ5 := Lib.hid (show Blk ((w4.setCell ⟨gn, cl, none⟩ (iv 1)).setCell ⟨w2.heap.size, 2, none⟩ (iv 1)) w2.heap.size 27 #[iv tenant, iv cl, iv 1, iv 4, iv 0, .string ⟨#[]⟩, .string ⟨#[]⟩] from (HQ4.out.far (by simp; omega) _).put 2 _)
    have HR5 := Lib.hid ((HR4.out.far (p := ⟨gn, cl, none⟩) (by simp; omega) (iv 1)).far (p := ⟨w2.heap.size, 2, none⟩) (by simp; omega) (iv 1))
    have HT5 := Lib.hid ((TapeM.cnt HT4.out (p := ⟨gn, cl, none⟩) hord (iv 1)).set (p := ⟨w2.heap.size, 2, none⟩) (by simp; omega) (iv 1))
    have HN5 := Lib.hid ((show Cnt (w4.setCell ⟨gn, cl, none⟩ (iv 1)) gn (m + 1) from HN4.out.put cl 1 (by omega) (by omega)).far (p := ⟨w2.heap.size, 2, none⟩) (by simp; omega) (iv 1))
    have HG5 := Lib.hid ((HG4.out.set (p := ⟨gn, cl, none⟩) (by simp) (iv 1)).set (p := ⟨w2.heap.size, 2, none⟩) (by simp; omega) (iv 1))
    clear q0 f0 q1 f1 q2 f2 q3 f3 q4 f4 q5 f5 q6 f6 cv fv
    generalize (w4.setCell ⟨gn, cl, none⟩ (iv 1)).setCell ⟨w2.heap.size, 2, none⟩ (iv 1) = w5 at *
    refine (zbf g _ _ _ (by omega) (by omega) (by omega) (by exact HT5.out)).mono ?_
    rintro e w6 ⟨va, hva1, hva2, rfl, ht6, hg6⟩
    have HT6 := Lib.hid ht6
    have HG6 := Lib.hid (HG5.out.grown hg6 (by simp))
    have HQ6 := Lib.hid (HQ5.out.grown hg6 (by simp; omega))
    have HR6 := Lib.hid (HR5.out.grown hg6 (by simp; omega))
    have HN6 := Lib.hid (HN5.out.grown hg6 (by simp; omega))
    clear ht6 hg6
    have q0 := HQ6.out.cell 0
    have f0 := HQ6.out.free 0
    have q1 := HQ6.out.cell 1
    have f1 := HQ6.out.free 1
    have q2 := HQ6.out.cell 2
    have f2 := HQ6.out.free 2
    have q3 := HQ6.out.cell 3
    have f3 := HQ6.out.free 3
    have q4 := HQ6.out.cell 4
    have f4 := HQ6.out.free 4
    have q5 := HQ6.out.cell 5
    have f5 := HQ6.out.free 5
    have q6 := HQ6.out.cell 6
    have f6 := HQ6.out.free 6
    simp only [List.getElem?_toArray, List.getElem?_cons_zero, List.getElem?_cons_succ] at q0 q1 q2 q3 q4 q5 q6
    have z0 := HR6.out.cell 0
    have y0 := HR6.out.free 0
    have z1 := HR6.out.cell 1
    have y1 := HR6.out.free 1
    have z2 := HR6.out.cell 2
    have y2 := HR6.out.free 2
    have z3 := HR6.out.cell 3
    have y3 := HR6.out.free 3
    have z4 := HR6.out.cell 4
    have y4 := HR6.out.free 4
    have z5 := HR6.out.cell 5
    have y5 := HR6.out.free 5
    have z6 := HR6.out.cell 6
    have y6 := HR6.out.free 6
    simp only [List.getElem?_toArray, List.getElem?_cons_zero, List.getElem?_cons_succ] at z0 z1 z2 z3 z4 z5 z6
    go_wp2_with fail
    refine bodyPost_ret (zat Tryz.results35 Tryz.isAgg27 Tryz.sizeOf27 rfl (zcg (HR6.out.far (by simp; omega) _)) rfl) rfl ⟨⟨0, 0, 0, 0, tenant, cl, 1, 4, 0, [], va⟩, rfl, ⟨⟨(by first | omega | (simp; done) | (simp; omega)), (by first | omega | (simp; done) | (simp; omega))⟩, ⟨(by first | omega | (simp; done) | (simp; omega)), (by first | omega | (simp; done) | (simp; omega))⟩, by simp, by simp, by simp, (by first | omega | (simp; done) | (simp; omega)), by simp, by simp, by simp, by simp⟩, rfl, ?_, ?_, ?_⟩
    ·iterate 7 refine TapeM.set ?_ (by simp; omega) _
     exact (HT6.out.set (by simp; omega) _)
    ·iterate 7 refine Cnt.far ?_ (by simp; omega) _
     exact (HN6.out.far (by simp; omega) _)
    ·iterate 7 refine Gr.set ?_ (by simp) _
     exact (HG6.out.set (by simp; omega) _)
   ·have e2 : ((v : Int) == 0) = false := by simp; omega
    go_wp2_with fail
    have HQ5 := Lib.hid (show Blk ((w4).setCell ⟨w2.heap.size, 2, none⟩ (iv (v : Int))) w2.heap.size 27 #[iv tenant, iv cl, iv (v : Int), iv 4, iv 0, .string ⟨#[]⟩, .string ⟨#[]⟩] from (HQ4.out).put 2 _)
    have HR5 := Lib.hid ((HR4.out).far (p := ⟨w2.heap.size, 2, none⟩) (by simp; omega) (iv (v : Int)))
    have HT5 := Lib.hid ((HT4.out).set (p := ⟨w2.heap.size, 2, none⟩) (by simp; omega) (iv (v : Int)))
    have HN5 := Lib.hid ((HN4.out).far (p := ⟨w2.heap.size, 2, none⟩) (by simp; omega) (iv (v : Int)))
    have HG5 := Lib.hid ((HG4.out).set (p := ⟨w2.heap.size, 2, none⟩) (by simp; omega) (iv (v : Int)))
    clear q0 f0 q1 f1 q2 f2 q3 f3 q4 f4 q5 f5 q6 f6 cv fv
    generalize (w4).setCell ⟨w2.heap.size, 2, none⟩ (iv (v : Int)) = w5 at *
    refine (zbf g _ _ _ (by omega) (by omega) (by omega) (by exact HT5.out)).mono ?_
    rintro e w6 ⟨va, hva1, hva2, rfl, ht6, hg6⟩
    have HT6 := Lib.hid ht6
    have HG6 := Lib.hid (HG5.out.grown hg6 (by simp))
    have HQ6 := Lib.hid (HQ5.out.grown hg6 (by simp; omega))
    have HR6 := Lib.hid (HR5.out.grown hg6 (by simp; omega))
    have HN6 := Lib.hid (HN5.out.grown hg6 (by simp; omega))
    clear ht6 hg6
    have q0 := HQ6.out.cell 0
    have f0 := HQ6.out.free 0
    have q1 := HQ6.out.cell 1
    have f1 := HQ6.out.free 1
    have q2 := HQ6.out.cell 2
    have f2 := HQ6.out.free 2
    have q3 := HQ6.out.cell 3
    have f3 := HQ6.out.free 3
    have q4 := HQ6.out.cell 4
    have f4 := HQ6.out.free 4
    have q5 := HQ6.out.cell 5
    have f5 := HQ6.out.free 5
    have q6 := HQ6.out.cell 6
    have f6 := HQ6.out.free 6
    simp only [List.getElem?_toArray, List.getElem?_cons_zero, List.getElem?_cons_succ] at q0 q1 q2 q3 q4 q5 q6
    have z0 := HR6.out.cell 0
    have y0 := HR6.out.free 0
    have z1 := HR6.out.cell 1
    have y1 := HR6.out.free 1
    have z2 := HR6.out.cell 2
    have y2 := HR6.out.free 2
    have z3 := HR6.out.cell 3
    have y3 := HR6.out.free 3
    have z4 := HR6.out.cell 4
    have y4 := HR6.out.free 4
    have z5 := HR6.out.cell 5
    have y5 := HR6.out.free 5
    have z6 := HR6.out.cell 6
    have y6 := HR6.out.free 6
    simp only [List.getElem?_toArray, List.getElem?_cons_zero, List.getElem?_cons_succ] at z0 z1 z2 z3 z4 z5 z6
    go_wp2_with fail
    refine bodyPost_ret (zat Tryz.results35 Tryz.isAgg27 Tryz.sizeOf27 rfl (zcg (HR6.out.far (by simp; omega) _)) rfl) rfl ⟨⟨0, 0, 0, 0, tenant, cl, (v : Int), 4, 0, [], va⟩, rfl, ⟨⟨(by first | omega | (simp; done) | (simp; omega)), (by first | omega | (simp; done) | (simp; omega))⟩, ⟨(by first | omega | (simp; done) | (simp; omega)), (by first | omega | (simp; done) | (simp; omega))⟩, by simp, by simp, by simp, (by first | omega | (simp; done) | (simp; omega)), by simp, by simp, by simp, by simp⟩, rfl, ?_, ?_, ?_⟩
    ·iterate 7 refine TapeM.set ?_ (by simp; omega) _
     exact (HT6.out.set (by simp; omega) _)
    ·iterate 7 refine Cnt.far ?_ (by simp; omega) _
     exact (HN6.out.far (by simp; omega) _)
    ·iterate 7 refine Gr.set ?_ (by simp) _
     exact (HG6.out.set (by simp; omega) _)
 ·have z0 := HR2.out.cell 0
  have y0 := HR2.out.free 0
  have z1 := HR2.out.cell 1
  have y1 := HR2.out.free 1
  have z2 := HR2.out.cell 2
  have y2 := HR2.out.free 2
  have z3 := HR2.out.cell 3
  have y3 := HR2.out.free 3
  have z4 := HR2.out.cell 4
  have y4 := HR2.out.free 4
  have z5 := HR2.out.cell 5
  have y5 := HR2.out.free 5
  have z6 := HR2.out.cell 6
  have y6 := HR2.out.free 6
  simp only [List.getElem?_toArray, List.getElem?_cons_zero, List.getElem?_cons_succ] at z0 z1 z2 z3 z4 z5 z6
  go_wp2_with fail
  refine bodyPost_ret (zat Tryz.results35 Tryz.isAgg27 Tryz.sizeOf27 rfl ((zcg HR2.out).alloc _) rfl) rfl ⟨⟨0, 0, 0, 0, tenant, cl, 0, 5, 0, [], []⟩, rfl, ⟨⟨(by first | omega | (simp; done) | (simp; omega)), (by first | omega | (simp; done) | (simp; omega))⟩, ⟨(by first | omega | (simp; done) | (simp; omega)), (by first | omega | (simp; done) | (simp; omega))⟩, by simp, by simp, by simp, by simp, by simp, by simp, by simp, by simp⟩, rfl, ?_, ?_, ?_⟩
  ·refine TapeM.alloc ?_ _
   iterate 7 refine TapeM.set ?_ (by simp; omega) _
   exact HT2.out
  ·refine Cnt.more (Cnt.alloc ?_ _) (Nat.le_succ m)
   iterate 7 refine Cnt.far ?_ (by simp; omega) _
   exact HN2.out
  ·refine Gr.alloc ?_ _
   iterate 7 refine Gr.set ?_ (by simp) _
   exact HG2.out
 ·go_wp2_with fail
  refine (zar g _ _ (by omega) (by omega) (by exact HT3.out)).mono ?_
  rintro e w4 ⟨r4, hr4, rfl, ht4, hg4, hs4⟩
  have HT4 := Lib.hid ht4
  have HG4 := Lib.hid (HG3.out.grown hg4 (by simp))
  have HQ4 := Lib.hid (HQ3.out.grown hg4 (by simp; omega))
  have HR4 := Lib.hid (HR3.out.grown hg4 (by simp; omega))
  have HN4 := Lib.hid (HN3.out.grown hg4 (by simp; omega))
  obtain ⟨v, hv, cv, fv⟩ := (HNm.out.grown hg4 (by simp; omega)).at cl (by omega)
  clear ht4 hg4 hs4
  have q0 := HQ4.out.cell 0
  have f0 := HQ4.out.free 0
  have q1 := HQ4.out.cell 1
  have f1 := HQ4.out.free 1
  have q2 := HQ4.out.cell 2
  have f2 := HQ4.out.free 2
  have q3 := HQ4.out.cell 3
  have f3 := HQ4.out.free 3
  have q4 := HQ4.out.cell 4
  have f4 := HQ4.out.free 4
  have q5 := HQ4.out.cell 5
  have f5 := HQ4.out.free 5
  have q6 := HQ4.out.cell 6
  have f6 := HQ4.out.free 6
  simp only [List.getElem?_toArray, List.getElem?_cons_zero, List.getElem?_cons_succ] at q0 q1 q2 q3 q4 q5 q6
  have hgq : gn ≠ w2.heap.size := by omega
  have hgq' : w2.heap.size ≠ gn := by omega
  by_cases hr40 : 0 < r4
  ·have e1 : decide ((0 : Int) < (r4 : Int)) = true := by simp; omega
   go_wp2_with fail
   have HQ5 := Lib.hid (show Blk ((w4.setCell ⟨gn, cl, none⟩ (iv ((v : Int) + 1))).setCell ⟨w2.heap.size, 2, none⟩ (iv ((v : Int) + 1))) w2.heap.size 27 #[iv tenant, iv cl, iv ((v : Int) + 1), iv 6, iv 0, .string ⟨#[]⟩, .string ⟨#[]⟩] from (HQ4.out.far (by simp; omega) _).put 2 _)
   have HR5 := Lib.hid ((HR4.out.far (p := ⟨gn, cl, none⟩) (by simp; omega) (iv ((v : Int) + 1))).far (p := ⟨w2.heap.size, 2, none⟩) (by simp; omega) (iv ((v : Int) + 1)))
   have HT5 := Lib.hid ((TapeM.cnt HT4.out (p := ⟨gn, cl, none⟩) hord (iv ((v : Int) + 1))).set (p := ⟨w2.heap.size, 2, none⟩) (by simp; omega) (iv ((v : Int) + 1)))
   have HN5 := Lib.hid ((show Cnt (w4.setCell ⟨gn, cl, none⟩ (iv ((v : Int) + 1))) gn (m + 1) from HN4.out.put cl (v + 1) (by omega) (by omega)).far (p := ⟨w2.heap.size, 2, none⟩) (by simp; omega) (iv ((v : Int) + 1)))
   have HG5 := Lib.hid ((HG4.out.set (p := ⟨gn, cl, none⟩) (by simp) (iv ((v : Int) + 1))).set (p := ⟨w2.heap.size, 2, none⟩) (by simp; omega) (iv ((v : Int) + 1)))
   clear q0 f0 q1 f1 q2 f2 q3 f3 q4 f4 q5 f5 q6 f6 cv fv
   generalize (w4.setCell ⟨gn, cl, none⟩ (iv ((v : Int) + 1))).setCell ⟨w2.heap.size, 2, none⟩ (iv ((v : Int) + 1)) = w5 at *
   refine (zcr g _ _ _ (by omega) (by omega) (by omega) (by exact HT5.out)).mono ?_
   rintro e w6 ⟨it, hi1, hi2, rfl, ht6, hg6, hs6⟩
   have HT6 := Lib.hid ht6
   have HG6 := Lib.hid (HG5.out.grown hg6 (by simp))
   have HQ6 := Lib.hid (HQ5.out.grown hg6 (by simp; omega))
   have HR6 := Lib.hid (HR5.out.grown hg6 (by simp; omega))
   have HN6 := Lib.hid (HN5.out.grown hg6 (by simp; omega))
   clear ht6 hg6 hs6
   have q0 := HQ6.out.cell 0
   have f0 := HQ6.out.free 0
   have q1 := HQ6.out.cell 1
   have f1 := HQ6.out.free 1
   have q2 := HQ6.out.cell 2
   have f2 := HQ6.out.free 2
   have q3 := HQ6.out.cell 3
   have f3 := HQ6.out.free 3
   have q4 := HQ6.out.cell 4
   have f4 := HQ6.out.free 4
   have q5 := HQ6.out.cell 5
   have f5 := HQ6.out.free 5
   have q6 := HQ6.out.cell 6
   have f6 := HQ6.out.free 6
   simp only [List.getElem?_toArray, List.getElem?_cons_zero, List.getElem?_cons_succ] at q0 q1 q2 q3 q4 q5 q6
   have z0 := HR6.out.cell 0
   have y0 := HR6.out.free 0
   have z1 := HR6.out.cell 1
   have y1 := HR6.out.free 1
   have z2 := HR6.out.cell 2
   have y2 := HR6.out.free 2
   have z3 := HR6.out.cell 3
   have y3 := HR6.out.free 3
   have z4 := HR6.out.cell 4
   have y4 := HR6.out.free 4
   have z5 := HR6.out.cell 5
   have y5 := HR6.out.free 5
   have z6 := HR6.out.cell 6
   have y6 := HR6.out.free 6
   simp only [List.getElem?_toArray, List.getElem?_cons_zero, List.getElem?_cons_succ] at z0 z1 z2 z3 z4 z5 z6
   go_wp2_with fail
   refine bodyPost_ret (zat Tryz.results35 Tryz.isAgg27 Tryz.sizeOf27 rfl (zcg (HR6.out.far (by simp; omega) _)) rfl) rfl ⟨⟨0, 0, 0, 0, tenant, cl, ((v : Int) + 1), 6, it, [], []⟩, rfl, ⟨⟨(by first | omega | (simp; done) | (simp; omega)), (by first | omega | (simp; done) | (simp; omega))⟩, ⟨(by first | omega | (simp; done) | (simp; omega)), (by first | omega | (simp; done) | (simp; omega))⟩, by simp, ⟨(by first | omega | (simp; done) | (simp; omega)), (by first | omega | (simp; done) | (simp; omega))⟩, by simp, by simp, by simp, by simp, by simp, by simp⟩, rfl, ?_, ?_, ?_⟩
   ·iterate 7 refine TapeM.set ?_ (by simp; omega) _
    exact (HT6.out.set (by simp; omega) _)
   ·iterate 7 refine Cnt.far ?_ (by simp; omega) _
    exact (HN6.out.far (by simp; omega) _)
   ·iterate 7 refine Gr.set ?_ (by simp) _
    exact (HG6.out.set (by simp; omega) _)
  ·have e1 : decide ((0 : Int) < (r4 : Int)) = false := by simp; omega
   by_cases hv0 : v = 0
   ·subst hv0
    go_wp2_with fail
    have HQ5 := Lib.hid (show Blk ((w4.setCell ⟨gn, cl, none⟩ (iv 1)).setCell ⟨w2.heap.size, 2, none⟩ (iv 1)) w2.heap.size 27 #[iv tenant, iv cl, iv 1, iv 6, iv 0, .string ⟨#[]⟩, .string ⟨#[]⟩] from (HQ4.out.far (by simp; omega) _).put 2 _)
    have HR5 := Lib.hid ((HR4.out.far (p := ⟨gn, cl, none⟩) (by simp; omega) (iv 1)).far (p := ⟨w2.heap.size, 2, none⟩) (by simp; omega) (iv 1))
    have HT5 := Lib.hid ((TapeM.cnt HT4.out (p := ⟨gn, cl, none⟩) hord (iv 1)).set (p := ⟨w2.heap.size, 2, none⟩) (by simp; omega) (iv 1))
    have HN5 := Lib.hid ((show Cnt (w4.setCell ⟨gn, cl, none⟩ (iv 1)) gn (m + 1) from HN4.out.put cl 1 (by omega) (by omega)).far (p := ⟨w2.heap.size, 2, none⟩) (by simp; omega) (iv 1))
    have HG5 := Lib.hid ((HG4.out.set (p := ⟨gn, cl, none⟩) (by simp) (iv 1)).set (p := ⟨w2.heap.size, 2, none⟩) (by simp; omega) (iv 1))
    clear q0 f0 q1 f1 q2 f2 q3 f3 q4 f4 q5 f5 q6 f6 cv fv
    generalize (w4.setCell ⟨gn, cl, none⟩ (iv 1)).setCell ⟨w2.heap.size, 2, none⟩ (iv 1) = w5 at *
    refine (zcr g _ _ _ (by omega) (by omega) (by omega) (by exact HT5.out)).mono ?_
    rintro e w6 ⟨it, hi1, hi2, rfl, ht6, hg6, hs6⟩
    have HT6 := Lib.hid ht6
    have HG6 := Lib.hid (HG5.out.grown hg6 (by simp))
    have HQ6 := Lib.hid (HQ5.out.grown hg6 (by simp; omega))
    have HR6 := Lib.hid (HR5.out.grown hg6 (by simp; omega))
    have HN6 := Lib.hid (HN5.out.grown hg6 (by simp; omega))
    clear ht6 hg6 hs6
    have q0 := HQ6.out.cell 0
    have f0 := HQ6.out.free 0
    have q1 := HQ6.out.cell 1
    have f1 := HQ6.out.free 1
    have q2 := HQ6.out.cell 2
    have f2 := HQ6.out.free 2
    have q3 := HQ6.out.cell 3
    have f3 := HQ6.out.free 3
    have q4 := HQ6.out.cell 4
    have f4 := HQ6.out.free 4
    have q5 := HQ6.out.cell 5
    have f5 := HQ6.out.free 5
    have q6 := HQ6.out.cell 6
    have f6 := HQ6.out.free 6
    simp only [List.getElem?_toArray, List.getElem?_cons_zero, List.getElem?_cons_succ] at q0 q1 q2 q3 q4 q5 q6
    have z0 := HR6.out.cell 0
    have y0 := HR6.out.free 0
    have z1 := HR6.out.cell 1
    have y1 := HR6.out.free 1
    have z2 := HR6.out.cell 2
    have y2 := HR6.out.free 2
    have z3 := HR6.out.cell 3
    have y3 := HR6.out.free 3
    have z4 := HR6.out.cell 4
    have y4 := HR6.out.free 4
    have z5 := HR6.out.cell 5
    have y5 := HR6.out.free 5
    have z6 := HR6.out.cell 6
    have y6 := HR6.out.free 6
    simp only [List.getElem?_toArray, List.getElem?_cons_zero, List.getElem?_cons_succ] at z0 z1 z2 z3 z4 z5 z6
    go_wp2_with fail
    refine bodyPost_ret (zat Tryz.results35 Tryz.isAgg27 Tryz.sizeOf27 rfl (zcg (HR6.out.far (by simp; omega) _)) rfl) rfl ⟨⟨0, 0, 0, 0, tenant, cl, 1, 6, it, [], []⟩, rfl, ⟨⟨(by first | omega | (simp; done) | (simp; omega)), (by first | omega | (simp; done) | (simp; omega))⟩, ⟨(by first | omega | (simp; done) | (simp; omega)), (by first | omega | (simp; done) | (simp; omega))⟩, by simp, ⟨(by first | omega | (simp; done) | (simp; omega)), (by first | omega | (simp; done) | (simp; omega))⟩, by simp, by simp, by simp, by simp, by simp, by simp⟩, rfl, ?_, ?_, ?_⟩
    ·iterate 7 refine TapeM.set ?_ (by simp; omega) _
     exact (HT6.out.set (by simp; omega) _)
    ·iterate 7 refine Cnt.far ?_ (by simp; omega) _
     exact (HN6.out.far (by simp; omega) _)
    ·iterate 7 refine Gr.set ?_ (by simp) _
     exact (HG6.out.set (by simp; omega) _)
   ·have e2 : ((v : Int) == 0) = false := by simp; omega
    go_wp2_with fail
    have HQ5 := Lib.hid (show Blk ((w4).setCell ⟨w2.heap.size, 2, none⟩ (iv (v : Int))) w2.heap.size 27 #[iv tenant, iv cl, iv (v : Int), iv 6, iv 0, .string ⟨#[]⟩, .string ⟨#[]⟩] from (HQ4.out).put 2 _)
    have HR5 := Lib.hid ((HR4.out).far (p := ⟨w2.heap.size, 2, none⟩) (by simp; omega) (iv (v : Int)))
    have HT5 := Lib.hid ((HT4.out).set (p := ⟨w2.heap.size, 2, none⟩) (by simp; omega) (iv (v : Int)))
    have HN5 := Lib.hid ((HN4.out).far (p := ⟨w2.heap.size, 2, none⟩) (by simp; omega) (iv (v : Int)))
    have HG5 := Lib.hid ((HG4.out).set (p := ⟨w2.heap.size, 2, none⟩) (by simp; omega) (iv (v : Int)))
    clear q0 f0 q1 f1 q2 f2 q3 f3 q4 f4 q5 f5 q6 f6 cv fv
    generalize (w4).setCell ⟨w2.heap.size, 2, none⟩ (iv (v : Int)) = w5 at *
    refine (zcr g _ _ _ (by omega) (by omega) (by omega) (by exact HT5.out)).mono ?_
    rintro e w6 ⟨it, hi1, hi2, rfl, ht6, hg6, hs6⟩
    have HT6 := Lib.hid ht6
    have HG6 := Lib.hid (HG5.out.grown hg6 (by simp))
    have HQ6 := Lib.hid (HQ5.out.grown hg6 (by simp; omega))
    have HR6 := Lib.hid (HR5.out.grown hg6 (by simp; omega))
    have HN6 := Lib.hid (HN5.out.grown hg6 (by simp; omega))
    clear ht6 hg6 hs6
    have q0 := HQ6.out.cell 0
    have f0 := HQ6.out.free 0
    have q1 := HQ6.out.cell 1
    have f1 := HQ6.out.free 1
    have q2 := HQ6.out.cell 2
    have f2 := HQ6.out.free 2
    have q3 := HQ6.out.cell 3
    have f3 := HQ6.out.free 3
    have q4 := HQ6.out.cell 4
    have f4 := HQ6.out.free 4
    have q5 := HQ6.out.cell 5
    have f5 := HQ6.out.free 5
    have q6 := HQ6.out.cell 6
    have f6 := HQ6.out.free 6
    simp only [List.getElem?_toArray, List.getElem?_cons_zero, List.getElem?_cons_succ] at q0 q1 q2 q3 q4 q5 q6
    have z0 := HR6.out.cell 0
    have y0 := HR6.out.free 0
    have z1 := HR6.out.cell 1
    have y1 := HR6.out.free 1
    have z2 := HR6.out.cell 2
    have y2 := HR6.out.free 2
    have z3 := HR6.out.cell 3
    have y3 := HR6.out.free 3
    have z4 := HR6.out.cell 4
    have y4 := HR6.out.free 4
    have z5 := HR6.out.cell 5
    have y5 := HR6.out.free 5
    have z6 := HR6.out.cell 6
    have y6 := HR6.out.free 6
    simp only [List.getElem?_toArray, List.getElem?_cons_zero, List.getElem?_cons_succ] at z0 z1 z2 z3 z4 z5 z6
    go_wp2_with fail
    refine bodyPost_ret (zat Tryz.results35 Tryz.isAgg27 Tryz.sizeOf27 rfl (zcg (HR6.out.far (by simp; omega) _)) rfl) rfl ⟨⟨0, 0, 0, 0, tenant, cl, (v : Int), 6, it, [], []⟩, rfl, ⟨⟨(by first | omega | (simp; done) | (simp; omega)), (by first | omega | (simp; done) | (simp; omega))⟩, ⟨(by first | omega | (simp; done) | (simp; omega)), (by first | omega | (simp; done) | (simp; omega))⟩, by simp, ⟨(by first | omega | (simp; done) | (simp; omega)), (by first | omega | (simp; done) | (simp; omega))⟩, by simp, by simp, by simp, by simp, by simp, by simp⟩, rfl, ?_, ?_, ?_⟩
    ·iterate 7 refine TapeM.set ?_ (by simp; omega) _
     exact (HT6.out.set (by simp; omega) _)
    ·iterate 7 refine Cnt.far ?_ (by simp; omega) _
     exact (HN6.out.far (by simp; omega) _)
    ·iterate 7 refine Gr.set ?_ (by simp) _
     exact (HG6.out.set (by simp; omega) _)
attribute [local go_sem ↓] Go.wp_at_zero Go.wp_at_succ
theorem cell_far (w : World) (p q : Addr) (u : Value) (h : p.block ≠ q.block) : (w.setCell q u).cell? p = w.cell? p := World.cell?_of_block (Below.heap_setCell w q u p.block h)
inductive MillAct (m : Nat) : ActD → Prop
 | tick (n : Int) (h0 : 1 ≤ n) (h1 : n ≤ 4) : MillAct m ⟨1, 0, 0, n, 0, 0, 0, 0, 0, [], []⟩
 | request (a : ActD) (h : ReqGood m a) (hk : a.kind = 2) (a0 : 0 ≤ a.a) (a1 : a.a ≤ 1) (hb : a.b = 0) (hn : a.n = 0) (t0 : 0 ≤ a.tenant) (t1 : a.tenant ≤ 1000) : MillAct m a
 | one (k x : Int) (hk : k = 3 ∨ k = 4 ∨ k = 5 ∨ k = 6 ∨ k = 8 ∨ k = 9 ∨ k = 13) (x0 : 0 ≤ x) (x1 : x ≤ 1000) : MillAct m ⟨k, x, 0, 0, 0, 0, 0, 0, 0, [], []⟩
 | ab (k x y : Int) (hk : k = 11 ∨ k = 12 ∨ k = 15) (x0 : 0 ≤ x) (x1 : x ≤ 1000) (y0 : -1 ≤ y) (y1 : y ≤ 1000) : MillAct m ⟨k, x, y, 0, 0, 0, 0, 0, 0, [], []⟩
 | an (k x n : Int) (hk : k = 7 ∨ k = 14) (x0 : 0 ≤ x) (x1 : x ≤ 1000) (n0 : 0 ≤ n) (n1 : n ≤ 1) : MillAct m ⟨k, x, 0, n, 0, 0, 0, 0, 0, [], []⟩
 | place (x y n : Int) (x0 : 0 ≤ x) (x1 : x ≤ 1000) (y0 : 0 ≤ y) (y1 : y ≤ 1000) (n0 : 0 ≤ n) (n1 : n ≤ 1000) : MillAct m ⟨10, x, y, n, 0, 0, 0, 0, 0, [], []⟩
 | stop : MillAct m ⟨16, 0, 0, 0, 0, 0, 0, 0, 0, [], []⟩
 | schema (n : Int) (n0 : 0 ≤ n) (n1 : n ≤ 1) : MillAct m ⟨17, 0, 0, n, 0, 0, 0, 0, 0, [], []⟩
structure NN (w : World) (g G : Nat) (gs : List Nat) (m : Nat) : Prop where
 out : Blk w G 23 (gs.map fun x => Value.slice (some ⟨x, 0, none⟩) 4 4).toArray
 far : g < G
 cnt : ∀ x ∈ gs, g < x ∧ x ≠ G ∧ Cnt w x m
def actS (g : Nat) (gs : List Nat) : Nat → Prop := fun i => i = g ∨ i ∈ gs
structure ActE (w : World) (g G : Nat) (gs : List Nat) (m : Nat) (wx : World) : Prop where
 tape : TapeM wx g
 nn : NN wx g G gs m
 gr : Gr (actS g gs) w wx
 lo : g < w.heap.size
 hi : G < w.heap.size
 gh : ∀ x ∈ gs, x < w.heap.size
section
variable {w wx wy : World} {g G m : Nat} {gs : List Nat}
theorem ActE.grown (h : ActE w g G gs m wx) (hg : wx.grownBy wy (some g)) (ht : TapeM wy g) : ActE w g G gs m wy :=
 ⟨ht, ⟨h.nn.out.grown hg (by have := h.nn.far; simp; omega), h.nn.far, fun x hx => ⟨(h.nn.cnt x hx).1, (h.nn.cnt x hx).2.1, (h.nn.cnt x hx).2.2.grown hg (by have := (h.nn.cnt x hx).1; simp; omega)⟩⟩, h.gr.grown hg (fun k hk => .inl (.inl (Option.some.inj hk).symm)), h.lo, h.hi, h.gh⟩
theorem ActE.alloc (h : ActE w g G gs m wx) (o : Obj) : ActE w g G gs m (wx.alloc o) :=
 ⟨h.tape.alloc o, ⟨h.nn.out.alloc o, h.nn.far, fun x hx => ⟨(h.nn.cnt x hx).1, (h.nn.cnt x hx).2.1, (h.nn.cnt x hx).2.2.alloc o⟩⟩, h.gr.alloc o, h.lo, h.hi, h.gh⟩
theorem ActE.drew (h : ActE w g G gs m wx) : ActE w g G gs m wx.drew := ⟨h.tape, ⟨h.nn.out, h.nn.far, h.nn.cnt⟩, h.gr.drew, h.lo, h.hi, h.gh⟩
theorem ActE.drewN (h : ActE w g G gs m wx) (n : Nat) : ActE w g G gs m (wx.drewN n) := ⟨h.tape, ⟨h.nn.out, h.nn.far, h.nn.cnt⟩, h.gr.drewN n, h.lo, h.hi, h.gh⟩
theorem ActE.set (h : ActE w g G gs m wx) {p : Addr} (hp : w.heap.size ≤ p.block) (u : Value) : ActE w g G gs m (wx.setCell p u) :=
 ⟨h.tape.set (by have := h.lo; omega) u, ⟨h.nn.out.far (by have := h.hi; omega) u, h.nn.far, fun x hx => ⟨(h.nn.cnt x hx).1, (h.nn.cnt x hx).2.1, (h.nn.cnt x hx).2.2.far (by have := h.gh x hx; omega) u⟩⟩, h.gr.set (.inr hp) u, h.lo, h.hi, h.gh⟩
theorem ActE.more {m' : Nat} (h : ActE w g G gs m wx) (hm : m ≤ m') : ActE w g G gs m' wx := ⟨h.tape, ⟨h.nn.out, h.nn.far, fun x hx => ⟨(h.nn.cnt x hx).1, (h.nn.cnt x hx).2.1, (h.nn.cnt x hx).2.2.more hm⟩⟩, h.gr, h.lo, h.hi, h.gh⟩
theorem ActE.req {x : Nat} (h : ActE w g G gs m wx) (hx : x ∈ gs) (ht : TapeM wy g) (hc : Cnt wy x (m + 1)) (k : Gr (fun i => i = g ∨ i = x) wx wy) : ActE w g G gs (m + 1) wy :=
 ⟨ht, ⟨h.nn.out.gr k (by have := h.nn.far; have := (h.nn.cnt x hx).2.1; rintro (h1 | h1) <;> omega), h.nn.far, fun y hy => ⟨(h.nn.cnt y hy).1, (h.nn.cnt y hy).2.1, by
  by_cases e : y = x
  ·rw [e]; exact hc
  ·exact ((h.nn.cnt y hy).2.2.gr k (by have := (h.nn.cnt y hy).1; rintro (h1 | h1) <;> omega)).more (Nat.le_succ m)⟩⟩, h.gr.trans' k (by
  rintro i (h1 | h1)
  ·exact .inl (.inl h1)
  ·exact .inl (.inr (h1 ▸ hx))), h.lo, h.hi, h.gh⟩
end
structure ActI (w : World) (g G : Nat) (gs : List Nat) (m : Nat) (c : CfgD) (h : CfgH) (wx : World) : Prop where
 e : ActE w g G gs m wx
 box : Blk wx w.heap.size 36 (cfgV c h)
 res : Blk wx (w.heap.size + 1) 29 ActD.zero.cells
section
variable {w wx wy : World} {g G m : Nat} {gs : List Nat} {c : CfgD} {h : CfgH}
theorem ActI.grown (H : ActI w g G gs m c h wx) (hg : wx.grownBy wy (some g)) (ht : TapeM wy g) : ActI w g G gs m c h wy :=
 ⟨H.e.grown hg ht, H.box.grown hg (by have := H.e.lo; simp; omega), H.res.grown hg (by have := H.e.lo; simp; omega)⟩
theorem ActI.alloc (H : ActI w g G gs m c h wx) (o : Obj) : ActI w g G gs m c h (wx.alloc o) := ⟨H.e.alloc o, H.box.alloc o, H.res.alloc o⟩
theorem ActI.drew (H : ActI w g G gs m c h wx) : ActI w g G gs m c h wx.drew := ⟨H.e.drew, H.box, H.res⟩
theorem ActI.drewN (H : ActI w g G gs m c h wx) (n : Nat) : ActI w g G gs m c h (wx.drewN n) := ⟨H.e.drewN n, H.box, H.res⟩
theorem ActI.cfg (H : ActI w g G gs m c h wx) : wx.cell? ⟨w.heap.size, 0, none⟩ = some (iv c.regions) ∧ wx.cell? ⟨w.heap.size, 2, none⟩ = some (.slice h.ac c.cells.length h.kc) ∧ wx.cell? ⟨w.heap.size, 3, none⟩ = some (.slice h.at_ c.tens.length h.kt) ∧ wx.cell? ⟨w.heap.size, 4, none⟩ = some (.slice h.av c.vers.length h.kv) ∧ wx.cell? ⟨w.heap.size, 5, none⟩ = some (.slice h.ar c.reps.length h.kr) :=
 ⟨H.box.cell 0, H.box.cell 2, H.box.cell 3, H.box.cell 4, H.box.cell 5⟩
theorem ActI.req {x : Nat} (H : ActI w g G gs m c h wx) (hx : x ∈ gs) (ht : TapeM wy g) (hc : Cnt wy x (m + 1)) (k : Gr (fun i => i = g ∨ i = x) wx wy) : ActI w g G gs (m + 1) c h wy :=
 ⟨H.e.req hx ht hc k, H.box.gr k (by have := H.e.lo; have := H.e.gh x hx; rintro (h1 | h1) <;> omega), H.res.gr k (by have := H.e.lo; have := H.e.gh x hx; rintro (h1 | h1) <;> omega)⟩
theorem ReqGood.of {m : Nat} {a b : ActD} (H : ReqGood m a) (h1 : b.client = a.client) (h2 : b.number = a.number) (h3 : b.op = a.op) (h4 : b.item = a.item) (h5 : b.key = a.key) (h6 : b.value = a.value) : ReqGood m b :=
 ⟨h1 ▸ H.client, h2 ▸ H.number, h3 ▸ H.op, h4 ▸ H.item, h5 ▸ H.key, h6 ▸ H.value, fun h => h2 ▸ H.n0 (h3 ▸ h), fun h => h4 ▸ H.i0 (h3 ▸ h), fun h => h5 ▸ H.k0 (h3 ▸ h), fun h h' => h6 ▸ H.v0 (h3 ▸ h) (h3 ▸ h')⟩
theorem ActI.z (H : ActI w g G gs m c h wx) : (wx.cell? ⟨w.heap.size + 1, 0, none⟩ = some (.int .i64 0) ∧ wx.frozen? ⟨w.heap.size + 1, 0, none⟩ = false) ∧ (wx.cell? ⟨w.heap.size + 1, 1, none⟩ = some (.int .i64 0) ∧ wx.frozen? ⟨w.heap.size + 1, 1, none⟩ = false) ∧ (wx.cell? ⟨w.heap.size + 1, 2, none⟩ = some (.int .i64 0) ∧ wx.frozen? ⟨w.heap.size + 1, 2, none⟩ = false) ∧ (wx.cell? ⟨w.heap.size + 1, 3, none⟩ = some (.int .i64 0) ∧ wx.frozen? ⟨w.heap.size + 1, 3, none⟩ = false) ∧ (wx.cell? ⟨w.heap.size + 1, 4, none⟩ = some (.int .i64 0) ∧ wx.frozen? ⟨w.heap.size + 1, 4, none⟩ = false) ∧ (wx.cell? ⟨w.heap.size + 1, 5, none⟩ = some (.int .i64 0) ∧ wx.frozen? ⟨w.heap.size + 1, 5, none⟩ = false) ∧ (wx.cell? ⟨w.heap.size + 1, 6, none⟩ = some (.int .i64 0) ∧ wx.frozen? ⟨w.heap.size + 1, 6, none⟩ = false) ∧ (wx.cell? ⟨w.heap.size + 1, 7, none⟩ = some (.int .i64 0) ∧ wx.frozen? ⟨w.heap.size + 1, 7, none⟩ = false) ∧ (wx.cell? ⟨w.heap.size + 1, 8, none⟩ = some (.int .i64 0) ∧ wx.frozen? ⟨w.heap.size + 1, 8, none⟩ = false) ∧ (wx.cell? ⟨w.heap.size + 1, 9, none⟩ = some (.string { data := #[] }) ∧ wx.frozen? ⟨w.heap.size + 1, 9, none⟩ = false) ∧ (wx.cell? ⟨w.heap.size + 1, 10, none⟩ = some (.string { data := #[] }) ∧ wx.frozen? ⟨w.heap.size + 1, 10, none⟩ = false) :=
 ⟨⟨H.res.cell 0, H.res.free 0⟩, ⟨H.res.cell 1, H.res.free 1⟩, ⟨H.res.cell 2, H.res.free 2⟩, ⟨H.res.cell 3, H.res.free 3⟩, ⟨H.res.cell 4, H.res.free 4⟩, ⟨H.res.cell 5, H.res.free 5⟩, ⟨H.res.cell 6, H.res.free 6⟩, ⟨H.res.cell 7, H.res.free 7⟩, ⟨H.res.cell 8, H.res.free 8⟩, ⟨H.res.cell 9, H.res.free 9⟩, ⟨H.res.cell 10, H.res.free 10⟩⟩
end
theorem act_any (g G m : Nat) (gs : List Nat) (c : CfgD) (h : CfgH) (w : World) (hE : ActE w g G gs m w) (hgs : gs.length = c.tens.length + 1) (hT : c.tens.length ≤ 900) (hC1 : 1 ≤ c.cells.length) (hC2 : c.cells.length ≤ 900) (hR1 : 1 ≤ c.regions) (hR2 : c.regions ≤ 900) (hV1 : 1 ≤ c.vers.length) (hV2 : c.vers.length ≤ 900) (hP1 : 1 ≤ c.reps.length) (hP2 : c.reps.length ≤ 900) (hm : m ≤ 100000) :
 Calls Tryz.prog 18 #[.pointer (some ⟨g, 0, none⟩), .agg (cfgV c h), .slice (some ⟨G, 0, none⟩) (c.tens.length + 1) (c.tens.length + 1)] w fun e w' =>
  ∃ a : ActD, MillAct (m + 1) a ∧ e = .returned (.agg a.cells) ∧ ActE w g G gs (m + 1) w' := by
 have HGS := Lib.hid hgs
 have HE := Lib.hid hE
 have hlo := hE.lo
 clear hE hgs
 have HCV := Lib.hid (show cfgV c h = #[iv c.regions, .slice h.az c.zones.length h.kz, .slice h.ac c.cells.length h.kc, .slice h.at_ c.tens.length h.kt, .slice h.av c.vers.length h.kv, .slice h.ar c.reps.length h.kr, .slice h.ao c.obs.length h.ko, iv c.blast, iv c.lease, iv c.bake] from rfl)
 go_enter Tryz.func18, Tryz.ntmps18
 go_upto_region 1 with fail
 have HI0 := Lib.hid (show ActI w g G gs m c h ((w.alloc (.cells (cfgV c h) 36)).alloc (.cells #[.int .i64 0, .int .i64 0, .int .i64 0, .int .i64 0, .int .i64 0, .int .i64 0, .int .i64 0, .int .i64 0, .int .i64 0, .string { data := #[] }, .string { data := #[] }] 29)) from ⟨(HE.out.alloc _).alloc _, (Blk.new w _ _).alloc _, Blk.newAt _ _ _ _ (by simp)⟩)
 generalize (w.alloc (.cells (cfgV c h) 36)).alloc _ = W0 at *
 go_cut [7, 8] (fun s7 s8 wx => ∃ i k : Nat, i ≤ c.tens.length ∧ k < c.cells.length ∧ s7 = .int .i64 i ∧ s8 = .int .i64 k ∧ ActI w g G gs m c h wx)
 case first =>
  obtain ⟨k0, k2, k3, k4, k5⟩ := HI0.out.cfg
  have tok1 : True := trivial
  have s1 : IntKind.i64.wrap ((c.tens.length : Int) + 1) = (c.tens.length : Int) + 1 := IntWalk.i64_in _ (by omega)
  go_region_held3 (fun w' => w'.cell? ⟨w.heap.size, 3, none⟩ = some (.slice h.at_ c.tens.length h.kt) ∧ w'.cell? ⟨w.heap.size, 2, none⟩ = some (.slice h.ac c.cells.length h.kc)) (first | exact ⟨k3, k2⟩ | exact ⟨HI2.out.cfg.2.2.1, HI2.out.cfg.2.1⟩ | exact ⟨HI1.out.cfg.2.2.1, HI1.out.cfg.2.1⟩) (first | (go_at_call 16; have _t := tok1; refine (zar g _ _ (by omega) (by omega) (by exact HI0.out.e.tape)).mono ?_; rintro e w1 ⟨r1, hr1, rfl, ht1, hg1, hs1⟩; have HI1 := Lib.hid (HI0.out.drew.grown hg1 ht1); clear tok1 ht1 hg1 hs1) | (go_at_call 16; refine (zar g _ _ (by omega) (by omega) (by exact HI1.out.e.tape)).mono ?_; rintro e w2 ⟨r2, hr2, rfl, ht2, hg2, hs2⟩; have HI2 := Lib.hid (HI1.out.grown hg2 ht2); clear ht2 hg2 hs2))
  go_wp2_with fail
  go_meet
  exact ⟨r1, r2, by omega, by omega, rfl, rfl, HI2.out⟩
 case rest =>
  obtain ⟨i, k, hi, hk, rfl, rfl, hI⟩ := hcut
  have HI1 := Lib.hid hI
  clear hI
  go_upto_region 2 with fail
  go_cut [7, 35] (fun s7 s35 wx => ∃ (i : Nat) (b : Bool), i ≤ c.tens.length ∧ s7 = .int .i64 i ∧ s35 = .bool b ∧ ActI w g G gs m c h wx)
  case first =>
   obtain ⟨k0, k2, k3, k4, k5⟩ := HI1.out.cfg
   by_cases hiT : i = c.tens.length
   ·have b1 : ((i : Int) == (c.tens.length : Int)) = true := by simp; omega
    by_cases hT0 : 0 < c.tens.length
    ·have b2 : decide ((0 : Int) < (c.tens.length : Int)) = true := by simp; omega
     go_wp2_with fail
     refine (zar g _ _ (by omega) (by omega) (by exact HI1.out.e.tape)).mono ?_
     rintro e w2 ⟨r2, hr2, rfl, ht2, hg2, hs2⟩
     have HI2 := Lib.hid (HI1.out.grown hg2 ht2)
     clear ht2 hg2 hs2
     go_wp2_with fail
     go_meet
     exact ⟨c.tens.length, _, Nat.le_refl _, rfl, rfl, HI2.out⟩
    ·have b2 : decide ((0 : Int) < (c.tens.length : Int)) = false := decide_eq_false (by omega)
     go_wp2_with fail
     go_meet
     first | exact ⟨i, _, hi, rfl, rfl, HI1.out⟩ | exact ⟨c.tens.length, _, Nat.le_refl _, rfl, rfl, HI1.out⟩
   ·have b1 : ((i : Int) == (c.tens.length : Int)) = false := by simp; omega
    go_wp2_with fail
    go_meet
    first | exact ⟨i, _, hi, rfl, rfl, HI1.out⟩ | exact ⟨c.tens.length, _, Nat.le_refl _, rfl, rfl, HI1.out⟩
  case rest =>
   obtain ⟨i, b, hi, rfl, rfl, hI⟩ := hcut
   have HI2 := Lib.hid hI
   clear hI
   go_upto_if 35 with (fail)
   go_cut [7] (fun s7 wx => ∃ i : Nat, i ≤ c.tens.length ∧ s7 = .int .i64 i ∧ ActI w g G gs m c h wx)
   case first =>
    cases b
    ·go_wp2_with fail
     go_meet
     exact ⟨i, hi, rfl, HI2.out⟩
    ·go_wp2_with fail
     go_meet
     exact ⟨0, by omega, rfl, HI2.out⟩
   case rest =>
    obtain ⟨i, hi, rfl, hI⟩ := hcut
    have HI3 := Lib.hid hI
    clear hI
    go_wp2_with fail
    refine (zar g _ _ (by omega) (by omega) (by exact HI3.out.e.tape)).mono ?_
    rintro e w4 ⟨q, hq, rfl, ht4, hg4, hs4⟩
    have HI4 := Lib.hid (HI3.out.grown hg4 ht4)
    clear ht4 hg4 hs4
    obtain ⟨k0, k2, k3, k4, k5⟩ := HI4.out.cfg
    have hsw : (q = 0 ∨ q = 1 ∨ q = 2 ∨ q = 3 ∨ q = 4 ∨ q = 5 ∨ q = 6) ∨ (q = 7 ∨ q = 8 ∨ q = 9 ∨ q = 10) ∨ (q = 11) ∨ (q = 12) ∨ (q = 13) ∨ (q = 14) ∨ (q = 15) ∨ (q = 16) ∨ (q = 17 ∨ q = 18) ∨ (q = 19) ∨ (q = 20) ∨ (q = 21) ∨ (q = 22) ∨ (q = 23) := by omega
    clear hq
    rcases hsw with hsw | hsw | hsw | hsw | hsw | hsw | hsw | hsw | hsw | hsw | hsw | hsw | hsw | hsw
    ·rcases hsw with rfl | rfl | rfl | rfl | rfl | rfl | rfl
     all_goals
      obtain ⟨x, hx⟩ : ∃ x, gs[i]? = some x := ⟨gs[i]'(by have := HGS.out; omega), List.getElem?_eq_getElem _⟩
      have hxm := List.mem_of_getElem? hx
      have kn : w4.cell? ⟨G, i, none⟩ = some (.slice (some ⟨x, 0, none⟩) 4 4) := (HI4.out.e.nn.out.cell i).trans (by simp [hx])
      have knd : w4.drew.cell? ⟨G, i, none⟩ = some (.slice (some ⟨x, 0, none⟩) 4 4) := kn
      have hGlt := HI4.out.e.hi
      have hGne : G ≠ w.heap.size + 1 := by omega
      have HX := Lib.hid hx
      have HXM := Lib.hid hxm
      clear hx hxm
      have i0 : (0 : Int) ≤ (i : Int) := by omega
      have i1 : (i : Int) < (c.tens.length : Int) + 1 := by omega
      have i2 : i < c.tens.length + 1 := by omega
      go_wp2_with fail
      go_region_held3 (fun w' => w'.cell? ⟨G, i, none⟩ = some (.slice (some ⟨x, 0, none⟩) 4 4)) (first | with_reducible exact knd | with_reducible exact kn5 | with_reducible exact kn6 | ((iterate 11 (refine (cell_far _ _ _ _ hGne).trans ?_)); with_reducible exact kn6)) (first | (go_at_call 16; refine (zar g _ _ (by omega) (by omega) (by exact HI4.out.e.tape)).mono ?_; rintro e w5 ⟨r, hr, rfl, ht, hg, hs⟩; have HI5 := Lib.hid (HI4.out.drew.grown hg ht); have kn5 : w5.cell? ⟨G, i, none⟩ = some (.slice (some ⟨x, 0, none⟩) 4 4) := (HI5.out.e.nn.out.cell i).trans (by simp [HX.out]); clear ht hg hs) | (go_at_call 35; refine (request_any g x m _ _ (by exact HI5.out.e.tape) (by exact (HI5.out.e.nn.cnt x HXM.out).2.2) (by exact (HI5.out.e.nn.cnt x HXM.out).1) (by omega)).mono ?_; rintro e w6 ⟨a, hat, hrg, rfl, ht, hc, hg⟩; have HI6 := Lib.hid (ActI.req HI5.out HXM.out ht hc hg); have HRG := Lib.hid hrg; have HAT := Lib.hid hat; have kn6 : w6.cell? ⟨G, i, none⟩ = some (.slice (some ⟨x, 0, none⟩) 4 4) := (HI6.out.e.nn.out.cell i).trans (by simp [HX.out]); clear ht hc hg hat hrg; obtain ⟨⟨z0, y0⟩, ⟨z1, y1⟩, ⟨z2, y2⟩, ⟨z3, y3⟩, ⟨z4, y4⟩, ⟨z5, y5⟩, ⟨z6, y6⟩, ⟨z7, y7⟩, ⟨z8, y8⟩, ⟨z9, y9⟩, ⟨z10, y10⟩⟩ := HI6.out.z; unfold reqCells))
      go_wp2_with fail
      refine bodyPost_ret (zat Tryz.results18 Tryz.isAgg29 Tryz.sizeOf29 rfl (zbn (x := ActD.zero) (y := { a with kind := 2, a := (r : Int), b := 0, n := 0 }) HI6.out.res) rfl) rfl ⟨{ a with kind := 2, a := (r : Int), b := 0, n := 0 }, MillAct.request _ (HRG.out.of rfl rfl rfl rfl rfl rfl) rfl (by simp) (by simp; omega) rfl rfl (by simp [HAT.out]) (by simp [HAT.out]; omega), rfl, ?_⟩
      iterate 11 refine ActE.set ?_ (by simp) _
      exact HI6.out.e
    ·rcases hsw with rfl | rfl | rfl | rfl
     all_goals
      go_wp2_with fail
      refine (zcr g _ _ _ (by omega) (by omega) (by omega) (by exact HI4.out.e.tape)).mono ?_
      rintro e w5 ⟨r, hr0, hr1, rfl, ht, hg, hs⟩
      have HI5 := Lib.hid (HI4.out.grown hg ht)
      clear ht hg hs
      obtain ⟨⟨z0, y0⟩, ⟨z1, y1⟩, ⟨z2, y2⟩, ⟨z3, y3⟩, ⟨z4, y4⟩, ⟨z5, y5⟩, ⟨z6, y6⟩, ⟨z7, y7⟩, ⟨z8, y8⟩, ⟨z9, y9⟩, ⟨z10, y10⟩⟩ := HI5.out.z
      go_wp2_with fail
      refine bodyPost_ret (zat Tryz.results18 Tryz.isAgg29 Tryz.sizeOf29 rfl (zbn (x := ActD.zero) (y := ⟨1, 0, 0, r, 0, 0, 0, 0, 0, [], []⟩) HI5.out.res) rfl) rfl ⟨⟨1, 0, 0, r, 0, 0, 0, 0, 0, [], []⟩, MillAct.tick _ (by omega) (by omega), rfl, ?_⟩
      iterate 11 refine ActE.set ?_ (by simp) _
      exact HI5.out.e.more (Nat.le_succ m)
    ·rcases hsw with rfl
     go_wp2_with fail
     have HL := Lib.hid (Blk.new w4 3 #[.int .i64 3, .int .i64 4, .int .i64 4])
     refine (zar g _ _ (by omega) (by omega) (by exact HI4.out.e.tape.alloc _)).mono ?_
     rintro e w5 ⟨r, hr, rfl, ht, hg, hs⟩
     have HI5 := Lib.hid ((HI4.out.alloc _).grown hg ht)
     have HL5 := Lib.hid (HL.out.grown hg (by have := HI4.out.e.gr.size; simp; omega))
     clear ht hg hs
     obtain ⟨kk, hkk, hcell⟩ : ∃ kk : Int, (kk = 3 ∨ kk = 4) ∧ w5.cell? ⟨w4.heap.size, r, none⟩ = some (iv kk) := by
      rw [HL5.out.cell r]
      match r, hr with
      | 0, _ => exact ⟨_, .inl rfl, rfl⟩
      | 1, _ => exact ⟨_, .inr rfl, rfl⟩
      | 2, _ => exact ⟨_, .inr rfl, rfl⟩
      | n + 3, hh => omega
     obtain ⟨⟨z0, y0⟩, ⟨z1, y1⟩, ⟨z2, y2⟩, ⟨z3, y3⟩, ⟨z4, y4⟩, ⟨z5, y5⟩, ⟨z6, y6⟩, ⟨z7, y7⟩, ⟨z8, y8⟩, ⟨z9, y9⟩, ⟨z10, y10⟩⟩ := HI5.out.z
     go_wp2_with fail
     refine bodyPost_ret (zat Tryz.results18 Tryz.isAgg29 Tryz.sizeOf29 rfl (zbn (x := ActD.zero) (y := ⟨kk, k, 0, 0, 0, 0, 0, 0, 0, [], []⟩) HI5.out.res) rfl) rfl ⟨⟨kk, k, 0, 0, 0, 0, 0, 0, 0, [], []⟩, MillAct.one kk _ (by omega) (by omega) (by omega), rfl, ?_⟩
     iterate 11 refine ActE.set ?_ (by simp) _
     exact HI5.out.e.more (Nat.le_succ m)
    ·rcases hsw with rfl
     go_wp2_with fail
     have HL := Lib.hid (Blk.new w4 3 #[.int .i64 5, .int .i64 6, .int .i64 6])
     refine (zar g _ _ (by omega) (by omega) (by exact HI4.out.e.tape.alloc _)).mono ?_
     rintro e w5 ⟨r, hr, rfl, ht, hg, hs⟩
     have HI5 := Lib.hid ((HI4.out.alloc _).grown hg ht)
     have HL5 := Lib.hid (HL.out.grown hg (by have := HI4.out.e.gr.size; simp; omega))
     clear ht hg hs
     obtain ⟨kk, hkk, hcell⟩ : ∃ kk : Int, (kk = 5 ∨ kk = 6) ∧ w5.cell? ⟨w4.heap.size, r, none⟩ = some (iv kk) := by
      rw [HL5.out.cell r]
      match r, hr with
      | 0, _ => exact ⟨_, .inl rfl, rfl⟩
      | 1, _ => exact ⟨_, .inr rfl, rfl⟩
      | 2, _ => exact ⟨_, .inr rfl, rfl⟩
      | n + 3, hh => omega
     obtain ⟨⟨z0, y0⟩, ⟨z1, y1⟩, ⟨z2, y2⟩, ⟨z3, y3⟩, ⟨z4, y4⟩, ⟨z5, y5⟩, ⟨z6, y6⟩, ⟨z7, y7⟩, ⟨z8, y8⟩, ⟨z9, y9⟩, ⟨z10, y10⟩⟩ := HI5.out.z
     go_wp2_with fail
     refine bodyPost_ret (zat Tryz.results18 Tryz.isAgg29 Tryz.sizeOf29 rfl (zbn (x := ActD.zero) (y := ⟨kk, k, 0, 0, 0, 0, 0, 0, 0, [], []⟩) HI5.out.res) rfl) rfl ⟨⟨kk, k, 0, 0, 0, 0, 0, 0, 0, [], []⟩, MillAct.one kk _ (by omega) (by omega) (by omega), rfl, ?_⟩
     iterate 11 refine ActE.set ?_ (by simp) _
     exact HI5.out.e.more (Nat.le_succ m)
    ·rcases hsw with rfl
     go_wp2_with fail
     refine (zar g _ _ (by omega) (by omega) (by exact HI4.out.e.tape)).mono ?_
     rintro e w5 ⟨r, hr, rfl, ht, hg, hs⟩
     have HI5 := Lib.hid (HI4.out.grown hg ht)
     clear ht hg hs
     go_wp2_with fail
     refine (zar g _ _ (by omega) (by omega) (by exact HI5.out.e.tape)).mono ?_
     rintro e w6 ⟨s, hs, rfl, ht, hg, hs⟩
     have HI6 := Lib.hid (HI5.out.grown hg ht)
     clear ht hg hs
     obtain ⟨⟨z0, y0⟩, ⟨z1, y1⟩, ⟨z2, y2⟩, ⟨z3, y3⟩, ⟨z4, y4⟩, ⟨z5, y5⟩, ⟨z6, y6⟩, ⟨z7, y7⟩, ⟨z8, y8⟩, ⟨z9, y9⟩, ⟨z10, y10⟩⟩ := HI6.out.z
     go_wp2_with fail
     refine bodyPost_ret (zat Tryz.results18 Tryz.isAgg29 Tryz.sizeOf29 rfl (zbn (x := ActD.zero) (y := ⟨7, r, 0, s, 0, 0, 0, 0, 0, [], []⟩) HI6.out.res) rfl) rfl ⟨⟨7, r, 0, s, 0, 0, 0, 0, 0, [], []⟩, MillAct.an 7 _ _ (by omega) (by omega) (by omega) (by omega) (by omega), rfl, ?_⟩
     iterate 11 refine ActE.set ?_ (by simp) _
     exact HI6.out.e.more (Nat.le_succ m)
    ·rcases hsw with rfl
     go_wp2_with fail
     refine (zar g _ _ (by omega) (by omega) (by exact HI4.out.e.tape)).mono ?_
     rintro e w5 ⟨r, hr, rfl, ht, hg, hs⟩
     have HI5 := Lib.hid (HI4.out.grown hg ht)
     clear ht hg hs
     obtain ⟨⟨z0, y0⟩, ⟨z1, y1⟩, ⟨z2, y2⟩, ⟨z3, y3⟩, ⟨z4, y4⟩, ⟨z5, y5⟩, ⟨z6, y6⟩, ⟨z7, y7⟩, ⟨z8, y8⟩, ⟨z9, y9⟩, ⟨z10, y10⟩⟩ := HI5.out.z
     go_wp2_with fail
     refine bodyPost_ret (zat Tryz.results18 Tryz.isAgg29 Tryz.sizeOf29 rfl (zbn (x := ActD.zero) (y := ⟨8, r, 0, 0, 0, 0, 0, 0, 0, [], []⟩) HI5.out.res) rfl) rfl ⟨⟨8, r, 0, 0, 0, 0, 0, 0, 0, [], []⟩, MillAct.one 8 _ (by omega) (by omega) (by omega), rfl, ?_⟩
     iterate 11 refine ActE.set ?_ (by simp) _
     exact HI5.out.e.more (Nat.le_succ m)
    ·rcases hsw with rfl
     go_wp2_with fail
     refine (zar g _ _ (by omega) (by omega) (by exact HI4.out.e.tape)).mono ?_
     rintro e w5 ⟨r, hr, rfl, ht, hg, hs⟩
     have HI5 := Lib.hid (HI4.out.grown hg ht)
     clear ht hg hs
     obtain ⟨⟨z0, y0⟩, ⟨z1, y1⟩, ⟨z2, y2⟩, ⟨z3, y3⟩, ⟨z4, y4⟩, ⟨z5, y5⟩, ⟨z6, y6⟩, ⟨z7, y7⟩, ⟨z8, y8⟩, ⟨z9, y9⟩, ⟨z10, y10⟩⟩ := HI5.out.z
     go_wp2_with fail
     refine bodyPost_ret (zat Tryz.results18 Tryz.isAgg29 Tryz.sizeOf29 rfl (zbn (x := ActD.zero) (y := ⟨9, r, 0, 0, 0, 0, 0, 0, 0, [], []⟩) HI5.out.res) rfl) rfl ⟨⟨9, r, 0, 0, 0, 0, 0, 0, 0, [], []⟩, MillAct.one 9 _ (by omega) (by omega) (by omega), rfl, ?_⟩
     iterate 11 refine ActE.set ?_ (by simp) _
     exact HI5.out.e.more (Nat.le_succ m)
    ·rcases hsw with rfl
     go_wp2_with fail
     refine (zcr g _ _ _ (by omega) (by omega) (by omega) (by exact HI4.out.e.tape)).mono ?_
     rintro e w5 ⟨r, hr0, hr1, rfl, ht, hg, hs⟩
     have HI5 := Lib.hid (HI4.out.grown hg ht)
     clear ht hg hs
     obtain ⟨⟨z0, y0⟩, ⟨z1, y1⟩, ⟨z2, y2⟩, ⟨z3, y3⟩, ⟨z4, y4⟩, ⟨z5, y5⟩, ⟨z6, y6⟩, ⟨z7, y7⟩, ⟨z8, y8⟩, ⟨z9, y9⟩, ⟨z10, y10⟩⟩ := HI5.out.z
     go_wp2_with fail
     refine bodyPost_ret (zat Tryz.results18 Tryz.isAgg29 Tryz.sizeOf29 rfl (zbn (x := ActD.zero) (y := ⟨11, i, r, 0, 0, 0, 0, 0, 0, [], []⟩) HI5.out.res) rfl) rfl ⟨⟨11, i, r, 0, 0, 0, 0, 0, 0, [], []⟩, MillAct.ab 11 _ _ (by omega) (by omega) (by omega) (by omega) (by omega), rfl, ?_⟩
     iterate 11 refine ActE.set ?_ (by simp) _
     exact HI5.out.e.more (Nat.le_succ m)
    ·rcases hsw with rfl | rfl
     all_goals
      obtain ⟨⟨z0, y0⟩, ⟨z1, y1⟩, ⟨z2, y2⟩, ⟨z3, y3⟩, ⟨z4, y4⟩, ⟨z5, y5⟩, ⟨z6, y6⟩, ⟨z7, y7⟩, ⟨z8, y8⟩, ⟨z9, y9⟩, ⟨z10, y10⟩⟩ := HI4.out.z
      go_wp2_with fail
      refine bodyPost_ret (zat Tryz.results18 Tryz.isAgg29 Tryz.sizeOf29 rfl (zbn (x := ActD.zero) (y := ⟨12, i, k, 0, 0, 0, 0, 0, 0, [], []⟩) HI4.out.res) rfl) rfl ⟨⟨12, i, k, 0, 0, 0, 0, 0, 0, [], []⟩, MillAct.ab 12 _ _ (by omega) (by omega) (by omega) (by omega) (by omega), rfl, ?_⟩
      iterate 11 refine ActE.set ?_ (by simp) _
      exact HI4.out.e.more (Nat.le_succ m)
    ·rcases hsw with rfl
     obtain ⟨⟨z0, y0⟩, ⟨z1, y1⟩, ⟨z2, y2⟩, ⟨z3, y3⟩, ⟨z4, y4⟩, ⟨z5, y5⟩, ⟨z6, y6⟩, ⟨z7, y7⟩, ⟨z8, y8⟩, ⟨z9, y9⟩, ⟨z10, y10⟩⟩ := HI4.out.z
     go_wp2_with fail
     refine bodyPost_ret (zat Tryz.results18 Tryz.isAgg29 Tryz.sizeOf29 rfl (zbn (x := ActD.zero) (y := ⟨13, i, 0, 0, 0, 0, 0, 0, 0, [], []⟩) HI4.out.res) rfl) rfl ⟨⟨13, i, 0, 0, 0, 0, 0, 0, 0, [], []⟩, MillAct.one 13 _ (by omega) (by omega) (by omega), rfl, ?_⟩
     iterate 11 refine ActE.set ?_ (by simp) _
     exact HI4.out.e.more (Nat.le_succ m)
    ·rcases hsw with rfl
     go_wp2_with fail
     refine (zar g _ _ (by omega) (by omega) (by exact HI4.out.e.tape)).mono ?_
     rintro e w5 ⟨r, hr, rfl, ht, hg, hs⟩
     have HI5 := Lib.hid (HI4.out.grown hg ht)
     clear ht hg hs
     go_wp2_with fail
     refine (zar g _ _ (by omega) (by omega) (by exact HI5.out.e.tape)).mono ?_
     rintro e w6 ⟨s, hs, rfl, ht, hg, hs⟩
     have HI6 := Lib.hid (HI5.out.grown hg ht)
     clear ht hg hs
     obtain ⟨⟨z0, y0⟩, ⟨z1, y1⟩, ⟨z2, y2⟩, ⟨z3, y3⟩, ⟨z4, y4⟩, ⟨z5, y5⟩, ⟨z6, y6⟩, ⟨z7, y7⟩, ⟨z8, y8⟩, ⟨z9, y9⟩, ⟨z10, y10⟩⟩ := HI6.out.z
     go_wp2_with fail
     refine bodyPost_ret (zat Tryz.results18 Tryz.isAgg29 Tryz.sizeOf29 rfl (zbn (x := ActD.zero) (y := ⟨14, r, 0, s, 0, 0, 0, 0, 0, [], []⟩) HI6.out.res) rfl) rfl ⟨⟨14, r, 0, s, 0, 0, 0, 0, 0, [], []⟩, MillAct.an 14 _ _ (by omega) (by omega) (by omega) (by omega) (by omega), rfl, ?_⟩
     iterate 11 refine ActE.set ?_ (by simp) _
     exact HI6.out.e.more (Nat.le_succ m)
    ·rcases hsw with rfl
     have tok1 : True := trivial
     have k4d : w4.drew.cell? ⟨w.heap.size, 4, none⟩ = some (.slice h.av c.vers.length h.kv) := k4
     go_wp2_with fail
     go_region_held3 (fun w' => w'.cell? ⟨w.heap.size, 4, none⟩ = some (.slice h.av c.vers.length h.kv)) (first | with_reducible exact k4d | with_reducible exact k45 | with_reducible exact k46 | go_keep) (first | (go_at_call 16; have _t := tok1; refine (zar g _ _ (by omega) (by omega) (by exact HI4.out.e.tape)).mono ?_; rintro e w5 ⟨r, hr, rfl, ht, hg, hs⟩; have HI5 := Lib.hid (HI4.out.drew.grown hg ht); have k45 := HI5.out.cfg.2.2.2.1; clear ht hg hs tok1) | (go_at_call 16; refine (zar g _ _ (by omega) (by omega) (by exact HI5.out.e.tape)).mono ?_; rintro e w6 ⟨s, hs6, rfl, ht, hg, hs⟩; have HI6 := Lib.hid (HI5.out.grown hg ht); have k46 := HI6.out.cfg.2.2.2.1; clear ht hg hs; obtain ⟨⟨z0, y0⟩, ⟨z1, y1⟩, ⟨z2, y2⟩, ⟨z3, y3⟩, ⟨z4, y4⟩, ⟨z5, y5⟩, ⟨z6, y6⟩, ⟨z7, y7⟩, ⟨z8, y8⟩, ⟨z9, y9⟩, ⟨z10, y10⟩⟩ := HI6.out.z))
     go_wp2_with fail
     refine bodyPost_ret (zat Tryz.results18 Tryz.isAgg29 Tryz.sizeOf29 rfl (zbn (x := ActD.zero) (y := ⟨15, r, s, 0, 0, 0, 0, 0, 0, [], []⟩) HI6.out.res) rfl) rfl ⟨⟨15, r, s, 0, 0, 0, 0, 0, 0, [], []⟩, MillAct.ab 15 _ _ (by omega) (by omega) (by omega) (by omega) (by omega), rfl, ?_⟩
     iterate 11 refine ActE.set ?_ (by simp) _
     exact HI6.out.e.more (Nat.le_succ m)
    ·rcases hsw with rfl
     go_wp2_with fail
     refine (zar g _ _ (by omega) (by omega) (by exact HI4.out.e.tape)).mono ?_
     rintro e w5 ⟨r, hr, rfl, ht, hg, hs⟩
     have HI5 := Lib.hid (HI4.out.grown hg ht)
     clear ht hg hs
     obtain ⟨⟨z0, y0⟩, ⟨z1, y1⟩, ⟨z2, y2⟩, ⟨z3, y3⟩, ⟨z4, y4⟩, ⟨z5, y5⟩, ⟨z6, y6⟩, ⟨z7, y7⟩, ⟨z8, y8⟩, ⟨z9, y9⟩, ⟨z10, y10⟩⟩ := HI5.out.z
     go_wp2_with fail
     refine bodyPost_ret (zat Tryz.results18 Tryz.isAgg29 Tryz.sizeOf29 rfl (zbn (x := ActD.zero) (y := ⟨17, 0, 0, r, 0, 0, 0, 0, 0, [], []⟩) HI5.out.res) rfl) rfl ⟨⟨17, 0, 0, r, 0, 0, 0, 0, 0, [], []⟩, MillAct.schema _ (by omega) (by omega), rfl, ?_⟩
     iterate 11 refine ActE.set ?_ (by simp) _
     exact HI5.out.e.more (Nat.le_succ m)
    ·rcases hsw with rfl
     go_wp2_with fail
     refine (zar g _ _ (by omega) (by omega) (by exact HI4.out.e.tape)).mono ?_
     rintro e w5 ⟨r, hr, rfl, ht, hg, hs⟩
     have HI5 := Lib.hid (HI4.out.grown hg ht)
     clear ht hg hs
     by_cases hr0 : r = 0
     ·subst hr0
      obtain ⟨⟨z0, y0⟩, ⟨z1, y1⟩, ⟨z2, y2⟩, ⟨z3, y3⟩, ⟨z4, y4⟩, ⟨z5, y5⟩, ⟨z6, y6⟩, ⟨z7, y7⟩, ⟨z8, y8⟩, ⟨z9, y9⟩, ⟨z10, y10⟩⟩ := HI5.out.z
      go_wp2_with fail
      refine bodyPost_ret (zat Tryz.results18 Tryz.isAgg29 Tryz.sizeOf29 rfl (zbn (x := ActD.zero) (y := ⟨16, 0, 0, 0, 0, 0, 0, 0, 0, [], []⟩) HI5.out.res) rfl) rfl ⟨⟨16, 0, 0, 0, 0, 0, 0, 0, 0, [], []⟩, MillAct.stop, rfl, ?_⟩
      iterate 11 refine ActE.set ?_ (by simp) _
      exact HI5.out.e.more (Nat.le_succ m)
     ·have b0 : ((r : Int) == 0) = false := beq_eq_false_iff_ne.2 (by omega)
      obtain ⟨⟨z0, y0⟩, ⟨z1, y1⟩, ⟨z2, y2⟩, ⟨z3, y3⟩, ⟨z4, y4⟩, ⟨z5, y5⟩, ⟨z6, y6⟩, ⟨z7, y7⟩, ⟨z8, y8⟩, ⟨z9, y9⟩, ⟨z10, y10⟩⟩ := HI5.out.z
      go_wp2_with fail
      refine bodyPost_ret (zat Tryz.results18 Tryz.isAgg29 Tryz.sizeOf29 rfl (zbn (x := ActD.zero) (y := ⟨1, 0, 0, 4, 0, 0, 0, 0, 0, [], []⟩) HI5.out.res) rfl) rfl ⟨⟨1, 0, 0, 4, 0, 0, 0, 0, 0, [], []⟩, MillAct.tick _ (by omega) (by omega), rfl, ?_⟩
      iterate 11 refine ActE.set ?_ (by simp) _
      exact HI5.out.e.more (Nat.le_succ m)
attribute [local go_sem ↓] Go.wp_at_zero Go.wp_at_succ
theorem MillAct.more {m m' : Nat} {a : ActD} (h : MillAct m a) (hm : m ≤ m') : MillAct m' a := by
 cases h with
 | tick n h0 h1 => exact .tick n h0 h1
 | request a h hk a0 a1 hb hn t0 t1 => exact .request a ⟨h.client, ⟨h.number.1, by have := h.number.2; omega⟩, h.op, h.item, h.key, h.value, h.n0, h.i0, h.k0, h.v0⟩ hk a0 a1 hb hn t0 t1
 | one k x hk x0 x1 => exact .one k x hk x0 x1
 | ab k x y hk x0 x1 y0 y1 => exact .ab k x y hk x0 x1 y0 y1
 | an k x n hk x0 x1 n0 n1 => exact .an k x n hk x0 x1 n0 n1
 | place x y n x0 x1 y0 y1 n0 n1 => exact .place x y n x0 x1 y0 y1 n0 n1
 | stop => exact .stop
 | schema n n0 n1 => exact .schema n n0 n1
theorem own_base {w : World} {base base' : Nat} {e : TypeId} {size n : Nat} {v : Value} {xs : List Value} (h : w.ownsRow base e size v n xs) (hb : base' ≤ base) : w.ownsRow base' e size v n xs := by
 rcases h.2 with ⟨rfl, h0⟩ | ⟨g, cap, cur, rfl, h1, r⟩
 ·exact ⟨h.1, .inl ⟨rfl, h0⟩⟩
 ·exact ⟨h.1, .inr ⟨g, cap, cur, rfl, Nat.le_trans hb h1, r⟩⟩
theorem actsCells_one (a : ActD) : actsCells [a] = a.cells.toList := by simp [actsCells]
theorem actsCells_app (l m : List ActD) : actsCells (l ++ m) = actsCells l ++ actsCells m := by simp [actsCells]
structure ActsR (w : World) (c : CfgD) (h : CfgH) (acts : List ActD) (v : Value) (wr : World) : Prop where
 tape : TapeM wr (w.heap.size + 1)
 box : Blk wr w.heap.size 36 (cfgV c h)
 own : wr.ownsRow (w.heap.size + 2) 29 11 v acts.length (actsCells acts)
 good : ∀ a ∈ acts, MillAct 3000 a
 below : Below w.heap.size w wr
 big : w.heap.size + 2 ≤ wr.heap.size
section
variable {w wr wx : World} {c : CfgD} {h : CfgH} {acts : List ActD} {v : Value}
theorem ActsR.grown (H : ActsR w c h acts v wr) (hg : wr.grownBy wx (some (w.heap.size + 1))) (ht : TapeM wx (w.heap.size + 1)) : ActsR w c h acts v wx :=
 ⟨ht, H.box.grown hg (by simp), own_grown H.own hg (by omega), H.good, H.below.grown hg (by have := H.big; omega) (by simp), Nat.le_trans H.big hg.size⟩
theorem ActsR.drew (H : ActsR w c h acts v wr) : ActsR w c h acts v wr.drew := ⟨H.tape, H.box, H.own, H.good, H.below.drew, H.big⟩
theorem ActsR.alloc (H : ActsR w c h acts v wr) (o : Obj) : ActsR w c h acts v (wr.alloc o) := ⟨H.tape.alloc o, H.box.alloc o, H.own.alloc o, H.good, H.below.alloc (by have := H.big; omega) o, Nat.le_trans H.big (by simp)⟩
theorem ActsR.app (H : ActsR w c h acts v wr) {v' : Value} {more : List ActD} (hg : wr.grownBy wx v.ownBlock) (ho : wx.ownsRow (w.heap.size + 2) 29 11 v' (acts.length + more.length) (actsCells acts ++ actsCells more)) (hm : ∀ a ∈ more, MillAct 3000 a) : ActsR w c h (acts ++ more) v' wx :=
 ⟨H.tape.grown hg (fun k hk => by have := (H.own.lt k hk).1; omega), H.box.grown hg (by intro e; have := (H.own.lt _ e.symm).1; omega), by rw [actsCells_app, List.length_append]; exact ho, fun a ha => by
  rcases List.mem_append.1 ha with ha | ha
  ·exact H.good a ha
  ·exact hm a ha, H.below.grown hg (by have := H.big; omega) (fun k hk => by have := (H.own.lt k hk).1; omega), Nat.le_trans H.big hg.size⟩
theorem ActsR.set (H : ActsR w c h acts v wr) {p : Addr} (hp : w.heap.size + 2 ≤ p.block) (ho : some p.block ≠ v.ownBlock) (u : Value) : ActsR w c h acts v (wr.setCell p u) :=
 ⟨H.tape.set (by omega) u, H.box.far (by omega) u, own_block H.own (fun g hg => Below.heap_setCell wr p u g (by rintro rfl; exact ho hg.symm)), H.good, H.below.setCell (by omega) u, by simpa [World.setCell] using H.big⟩
theorem ActsR.cells2 (H : ActsR w c h acts v wr) : wr.cell? ⟨w.heap.size, 2, none⟩ = some (.slice h.ac c.cells.length h.kc) := H.box.cell 2
theorem ActsR.tens3 (H : ActsR w c h acts v wr) : wr.cell? ⟨w.heap.size, 3, none⟩ = some (.slice h.at_ c.tens.length h.kt) := H.box.cell 3
end
theorem tick_pub : ∀ a ∈ ([⟨1, 0, 0, 1, 0, 0, 0, 0, 0, [], []⟩, ⟨9, 0, 0, 0, 0, 0, 0, 0, 0, [], []⟩] : List ActD), MillAct 3000 a := by
 intro a ha
 simp only [List.mem_cons, List.not_mem_nil, or_false] at ha
 rcases ha with rfl | rfl
 ·exact .tick _ (by omega) (by omega)
 ·exact .one _ _ (by omega) (by omega) (by omega)
theorem place2 (k r s C : Int) (k0 : 0 ≤ k) (k1 : k ≤ 1000) (r0 : 0 ≤ r) (r1 : r ≤ 1000) (s0 : 0 ≤ s) (s1 : s ≤ 1000) (c0 : 1 ≤ C) (c1 : C ≤ 1000) : ∀ a ∈ ([⟨10, k, r, s, 0, 0, 0, 0, 0, [], []⟩, ⟨10, k, 0, C - 1, 0, 0, 0, 0, 0, [], []⟩] : List ActD), MillAct 3000 a := by
 intro a ha
 simp only [List.mem_cons, List.not_mem_nil, or_false] at ha
 rcases ha with rfl | rfl
 ·exact .place _ _ _ k0 k1 r0 r1 s0 s1
 ·exact .place _ _ _ k0 k1 (by omega) (by omega) (by omega) (by omega)
theorem wpList_appN {P : Program} {t e : TypeId} {z : Value} {size bytes : Nat} (h : ElemT P t e z size bytes) {w : World} {ops : Array Oper} {rest : List Oper} {o : Oper} {a : Act} {Q : Exit → Act → World → Prop} (hgd : o.guard = none) (s x : Operand)
 (ho : o.op = .call { callee := .builtin .append, args := #[s, x], argTypes := #[t, t] })
 (base : Nat) (v : Value) (n : Nat) (xs : List Value) (hs : a.eval s = v) (hown : w.ownsRow base e size v n xs) (ad : Addr) (m c : Nat) (news : List Value) (hx : a.eval x = .slice (some ad) m c) (hl : news.length = m * size)
 (hnews : ∀ j u, news[j]? = some u → w.cell? (ad.add j) = some u) (h1 : ∀ u ∈ news, u.oneCell' = true) (hn : n + m ≤ 1000000) (hb : bytes ≤ 1000) (hbase : base ≤ w.heap.size)
 (hk : ∀ v' w', w'.ownsRow base e size v' (n + m) (xs ++ news) → w.grownBy w' v.ownBlock → (v'.ownBlock = v.ownBlock ∨ v'.ownBlock = some w.heap.size) → wpList P ops Q rest (a.put o.dst v') w') :
 wpList P ops Q (o :: rest) a w := by
 refine wpList_plain hgd fun _ hK => ?_
 obtain ⟨i, hi, hz, hsz, hby⟩ := h.info
 obtain ⟨v', w', hrun, h2, h3, _, h5⟩ := run_append_own_at (P := P) w base t o.type e i z size bytes h.und hi hz hsz hby h.zs h.pos v n xs hown ad m c news hl hnews h1 (by simp only [maxLen]; omega) (Nat.le_trans (Nat.mul_le_mul hn hb) (by omega)) hbase
 unfold Oper.wp execOp
 simp only [ho, resolve, invoke, builtin, Sem.run_bind, Sem.run_pure, Result.andThen_ok, List.map_toArray, List.map_cons, List.map_nil, hs, hx, hrun]
 exact hK _ _ (hk v' w' h2 h3 h5)
theorem etInt : ElemT Tryz.prog 23 3 (.int .i64 0) 1 8 := ElemT.mk' Tryz.underlying23 (by kernel_rfl) rfl (by decide)
theorem etRow : ElemT Tryz.prog 55 23 (.slice none 0 0) 1 24 := ElemT.mk' Tryz.underlying55 (by kernel_rfl) rfl (by decide)
def sliceLen : Value → Nat
 | .slice _ n _ => n
 | _ => 0
def nnCells (gs : List Nat) (k : Nat) : Array Value := ((gs.map fun x => Value.slice (some ⟨x, 0, none⟩) 4 4) ++ List.replicate k (Value.slice none 0 0)).toArray
theorem nnCells_at (gs : List Nat) (k : Nat) : (nnCells gs (k + 1))[gs.length]? = some (.slice none 0 0) := by
 unfold nnCells
 rw [List.getElem?_toArray, List.getElem?_append_right (by simp)]
 simp
theorem nnCells_put (gs : List Nat) (k x : Nat) : (nnCells gs (k + 1)).setIfInBounds gs.length (.slice (some ⟨x, 0, none⟩) 4 4) = nnCells (gs ++ [x]) k := by
 unfold nnCells
 rw [List.setIfInBounds_toArray]
 congr 1
 have := Lib.set_mid (gs.map fun x => Value.slice (some ⟨x, 0, none⟩) 4 4) (.slice none 0 0) (.slice (some ⟨x, 0, none⟩) 4 4) (List.replicate k (Value.slice none 0 0))
 rw [List.length_map] at this
 rw [List.replicate_succ, this]
 simp
theorem ActsR.act {w wr wx : World} {c : CfgD} {h : CfgH} {acts : List ActD} {v : Value} {G m m' : Nat} {gs : List Nat} (H : ActsR w c h acts v wr) (hn : NN wr (w.heap.size + 1) G gs m) (hE : ActE wr (w.heap.size + 1) G gs m' wx) : ActsR w c h acts v wx := by
 have hS : ∀ i, actS (w.heap.size + 1) gs i → w.heap.size + 1 ≤ i := by
  rintro i (h1 | h1)
  ·omega
  ·have := (hn.cnt i h1).1
   omega
 refine ⟨hE.tape, H.box.gr hE.gr (fun hs => by have := hS _ hs; omega), own_gr H.own hE.gr ?_, H.good, hE.gr.belowOf H.below (by have := H.big; omega) (fun i hi => by have := hS i hi; omega), Nat.le_trans H.big hE.gr.size⟩
 rintro i (h1 | h1)
 ·intro e
  have := (H.own.lt i e.symm).1
  omega
 ·obtain ⟨_, _, a, b, c, d, _, _, _, _, hb⟩ := hn.cnt i h1
  exact own_ne H.own hb (by simp)
section
variable {w w' : World} {g G m : Nat} {gs : List Nat}
theorem NN.more {m' : Nat} (h : NN w g G gs m) (hm : m ≤ m') : NN w g G gs m' := ⟨h.out, h.far, fun x hx => ⟨(h.cnt x hx).1, (h.cnt x hx).2.1, (h.cnt x hx).2.2.more hm⟩⟩
theorem NN.grown (h : NN w g G gs m) (hg : w.grownBy w' (some g)) : NN w' g G gs m := ⟨h.out.grown hg (by have := h.far; simp; omega), h.far, fun x hx => ⟨(h.cnt x hx).1, (h.cnt x hx).2.1, (h.cnt x hx).2.2.grown hg (by have := (h.cnt x hx).1; simp; omega)⟩⟩
theorem NN.alloc (h : NN w g G gs m) (o : Obj) : NN (w.alloc o) g G gs m := ⟨h.out.alloc o, h.far, fun x hx => ⟨(h.cnt x hx).1, (h.cnt x hx).2.1, (h.cnt x hx).2.2.alloc o⟩⟩
theorem NN.own (h : NN w g G gs m) {base n : Nat} {v : Value} {xs : List Value} (ho : w.ownsRow base 29 11 v n xs) (hg : w.grownBy w' v.ownBlock) : NN w' g G gs m :=
 ⟨h.out.grown hg (own_ne ho h.out (by simp)), h.far, fun x hx => ⟨(h.cnt x hx).1, (h.cnt x hx).2.1, by
  obtain ⟨_, _, a, b, c, d, h1, h2, h3, h4, hb⟩ := h.cnt x hx
  exact ⟨a, b, c, d, h1, h2, h3, h4, hb.grown hg (own_ne ho hb (by simp))⟩⟩⟩
theorem NN.start (h : NN w g G gs m) (ht : TapeM w g) : ActE w g G gs m w := ⟨ht, h, Gr.refl _ _, ht.lt, h.out.lt, fun x hx => (h.cnt x hx).2.2.lt⟩
end
structure CfgSz (c : CfgD) : Prop where
 t1 : c.tens.length ≤ 200
 c0 : 1 ≤ c.cells.length
 c1 : c.cells.length ≤ 200
 r0 : 1 ≤ c.regions
 r1 : c.regions ≤ 200
 v0 : 1 ≤ c.vers.length
 v1 : c.vers.length ≤ 200
 p0 : 1 ≤ c.reps.length
 p1 : c.reps.length ≤ 200
theorem acts_any (A : Option Addr) (cc : Nat) (l : List Int) (c : CfgD) (h : CfgH) (most : Int) (w : World) (hl : l.length ≤ 1000) (hr : Rd w w.heap.size A (l.map iv)) (hc : CfgSz c) (hm0 : 0 ≤ most) (hm1 : most ≤ 1000) :
 Calls Tryz.prog 7 #[.slice A l.length cc, .agg (cfgV c h), .int .i64 most] w fun e w' =>
  ∃ (acts : List ActD) (v : Value), (∀ a ∈ acts, MillAct 3000 a) ∧ ((acts.length : Int) ≤ most ∨ acts.length ≤ 2 * c.tens.length + 2) ∧ e = .returned v ∧ w'.ownsRow w.heap.size 29 11 v acts.length (actsCells acts) ∧ Below w.heap.size w w' := by
 obtain ⟨t1, cl0, cl1, r0, r1, v0, v1, p0, p1⟩ := hc
 have HR := Lib.hid hr
 clear hr
 go_enter Tryz.func7, Tryz.ntmps7
 go_wp2_with fail
 refine (mnew_any A cc l _ hl (by exact (HR.out.alloc (Nat.le_refl _) _).more (by simp))).mono ?_
 rintro e w1 ⟨rfl, ht1, hg1, hs1⟩
 have HI1 := Lib.hid (show ActsR w c h [] (.slice none 0 0) w1 from ⟨by simpa using ht1, (Blk.new w _ _).grown hg1 (by simp), World.ownsRow_nil _ _ _ _, by simp, ((Below.refl _ _).alloc (Nat.le_refl _) _).grown hg1 (by simp) (by simp), by rw [hs1]; simp⟩)
 clear ht1 hg1 hs1
 have k3 := HI1.out.tens3
 go_wp2_with fail
 go_loopw [8, 17] (fun v i wr => ∃ (k : Nat) (acts : List ActD), k ≤ c.tens.length ∧ i = .int .i64 k ∧ acts.length = 2 * k ∧ ActsR w c h acts v wr) (fun _ i _ => c.tens.length - (intOf i).toNat)
 case atStart => exact ⟨0, [], by omega, rfl, rfl, HI1.out⟩
 case round =>
  obtain ⟨k, acts, hk, rfl, hal, hR⟩ := hrel
  have HRR := Lib.hid hR
  have HAL := Lib.hid hal
  have hal2 : acts.length ≤ 400 := by omega
  obtain ⟨A0, c0, rfl⟩ := zas hR.own
  clear hR hal k3
  by_cases hlt : k < c.tens.length
  ·have d0 : decide (k < c.tens.length) = true := by simpa using hlt
   have k2 := HRR.out.cells2
   have k2d : wr.drew.cell? ⟨w.heap.size, 2, none⟩ = some (.slice h.ac c.cells.length h.kc) := k2
   have tok1 : True := trivial
   have s1 : IntKind.i64.wrap ((c.cells.length : Int) - 1) = (c.cells.length : Int) - 1 := IntWalk.i64_in _ (by omega)
   go_wp2_with fail
   go_region_held3 (fun w' => w'.cell? ⟨w.heap.size, 2, none⟩ = some (.slice h.ac c.cells.length h.kc)) (first | with_reducible exact k2d | with_reducible exact k25 | with_reducible exact k26 | with_reducible exact k27 | with_reducible exact k28) (first | (go_at_call 16; have _t := tok1; refine (zar _ _ _ (by omega) (by omega) (by exact HRR.out.tape)).mono ?_; rintro e w5 ⟨r, hr, rfl, ht, hg, hs⟩; have HI5 := Lib.hid (HRR.out.drew.grown hg ht); have k25 := HI5.out.cells2; clear ht hg hs tok1) | (go_at_call 16; refine (zar _ _ _ (by omega) (by omega) (by exact HI5.out.tape)).mono ?_; rintro e w6 ⟨s, hs6, rfl, ht, hg, hs⟩; have HI6 := Lib.hid (HI5.out.grown hg ht); have k26 := HI6.out.cells2; have k27 := (HI6.out.alloc (.cells #[.int .i64 10, .int .i64 k, .int .i64 r, .int .i64 s, .int .i64 0, .int .i64 0, .int .i64 0, .int .i64 0, .int .i64 0, .string { data := #[] }, .string { data := #[] }, .int .i64 10, .int .i64 k, .int .i64 0, .int .i64 ((c.cells.length : Int) - 1), .int .i64 0, .int .i64 0, .int .i64 0, .int .i64 0, .int .i64 0, .string { data := #[] }, .string { data := #[] }] 29)).cells2; clear ht hg hs) | (refine step_app etAct rfl _ _ rfl (w.heap.size + 2) _ acts.length _ rfl (by exact HI6.out.own.alloc _) ⟨w6.heap.size, 0, none⟩ 2 2 (actsCells [⟨10, k, r, s, 0, 0, 0, 0, 0, [], []⟩, ⟨10, k, 0, (c.cells.length : Int) - 1, 0, 0, 0, 0, 0, [], []⟩]) rfl rfl (by exact zbk w6 _ _) (by simp [actsCells, ActD.cells, Value.oneCell']) (by omega) (by omega) (by have := HI6.out.big; simp; omega) ?_; intro v' w8 hown8 hg8 hat8; have HI8 := Lib.hid ((HI6.out.alloc _).app (more := [⟨10, k, r, s, 0, 0, 0, 0, 0, [], []⟩, ⟨10, k, 0, (c.cells.length : Int) - 1, 0, 0, 0, 0, 0, [], []⟩]) hg8 hown8 (place2 _ _ _ _ (by omega) (by omega) (by omega) (by omega) (by omega) (by omega) (by omega) (by omega))); have k28 := HI8.out.cells2; clear hown8 hg8 hat8))
   go_wp2_with fail
   go_roundw
   case rel => exact ⟨k + 1, _, hlt, by go_num, by rw [List.length_append, HAL.out]; simp; omega, HI8.out⟩
   case measure => simp [intOf]; omega
  ·have d0 : decide (k < c.tens.length) = false := by simpa using hlt
   have hkT : acts.length = 2 * c.tens.length := by have := HAL.out; omega
   have HKT := Lib.hid hkT
   have hka : acts.length ≤ 2 * c.tens.length := by omega
   clear hkT HAL hlt hk
   have hmk := fun W => etRow.make rfl (c.tens.length + 1) (by omega) (by omega) W
   simp only [Int.natCast_add, Int.natCast_one] at hmk
   have hmk4 : ∀ W : World, (Instr.makeSlice 23 (.int .i64 4) (.int .i64 4)).run Tryz.prog W = .ok (.slice (some ⟨W.heap.size, 0, none⟩) 4 4) (W.alloc (.cells #[.int .i64 0, .int .i64 0, .int .i64 0, .int .i64 0] 3)) := fun W => etInt.make rfl 4 (by omega) (by omega) W
   go_wp2_with (at_builtin; refine wpList_appN etAct rfl _ _ rfl (w.heap.size + 2) _ acts.length _ rfl (by exact HRR.out.own.alloc _) ⟨wr.heap.size, 0, none⟩ 2 2 (actsCells [⟨1, 0, 0, 1, 0, 0, 0, 0, 0, [], []⟩, ⟨9, 0, 0, 0, 0, 0, 0, 0, 0, [], []⟩]) rfl rfl (by exact zbk wr _ _) (by simp [actsCells, ActD.cells, Value.oneCell']) (by omega) (by omega) (by have := HRR.out.big; simp; omega) ?_; intro v2 w2 hown2 hg2 hat2; have HI2 := Lib.hid ((HRR.out.alloc _).app (more := [⟨1, 0, 0, 1, 0, 0, 0, 0, 0, [], []⟩, ⟨9, 0, 0, 0, 0, 0, 0, 0, 0, [], []⟩]) hg2 hown2 tick_pub); have k3 := HI2.out.tens3; clear hown2 hg2 hat2)
   have HL2 := Lib.hid (show (acts ++ [⟨1, 0, 0, 1, 0, 0, 0, 0, 0, [], []⟩, ⟨9, 0, 0, 0, 0, 0, 0, 0, 0, [], []⟩] : List ActD).length ≤ 2 * c.tens.length + 2 by rw [List.length_append]; simp; omega)
   generalize (acts ++ [⟨1, 0, 0, 1, 0, 0, 0, 0, 0, [], []⟩, ⟨9, 0, 0, 0, 0, 0, 0, 0, 0, [], []⟩] : List ActD) = acts2 at *
   clear hka HKT hal2 HRR
   obtain ⟨A2, c2, rfl⟩ := zas HI2.out.own
   go_loopw [54] (fun i wr => ∃ (j : Nat) (gs : List Nat), j ≤ c.tens.length + 1 ∧ i = .int .i64 j ∧ gs.length = j ∧ Blk wr w2.heap.size 23 (nnCells gs (c.tens.length + 1 - j)) ∧ (∀ x ∈ gs, w2.heap.size < x ∧ Cnt wr x 0) ∧ ActsR w c h acts2 (.slice A2 acts2.length c2) wr) (fun i _ => c.tens.length + 1 - (intOf i).toNat)
   case atStart => exact ⟨0, [], by omega, rfl, rfl, Blk.newAt _ _ _ _ rfl, by simp, HI2.out.alloc _⟩
   case round =>
    clear hmk k3
    obtain ⟨j, gs, hj, rfl, hgl, hbk, hcn, hR⟩ := hrel
    have HB := Lib.hid hbk
    have HGL := Lib.hid hgl
    have HCN := Lib.hid hcn
    have HRR := Lib.hid hR
    clear hbk hgl hcn hR
    by_cases hlt : j < c.tens.length + 1
    ·have d1 : decide ((j : Int) < (c.tens.length : Int) + 1) = true := decide_eq_true (by omega)
     have d1' : decide (j < c.tens.length + 1) = true := decide_eq_true (by omega)
     have cj : wr.cell? ⟨w2.heap.size, j, none⟩ = some (.slice none 0 0) := by
      rw [HB.out.cell j, show c.tens.length + 1 - j = (c.tens.length - j) + 1 by omega, ← HGL.out]
      exact nnCells_at _ _
     have fj := HB.out.free j
     have hlt2 := HB.out.lt
     go_wp2_with fail
     go_roundw
     case rel =>
      refine ⟨j + 1, gs ++ [wr.heap.size], by omega, by go_num, by rw [List.length_append, HGL.out]; rfl, ?_, ?_, (HRR.out.set (by have := HI2.out.big; show _ ≤ w2.heap.size; omega) (by exact own_ne HRR.out.own HB.out (by simp)) _).alloc _⟩
      ·have := (HB.out.put j (.slice (some ⟨wr.heap.size, 0, none⟩) 4 4)).alloc (.cells #[.int .i64 0, .int .i64 0, .int .i64 0, .int .i64 0] 3)
       rw [show c.tens.length + 1 - j = (c.tens.length - j) + 1 by omega, ← HGL.out, nnCells_put] at this
       rw [show c.tens.length + 1 - (j + 1) = c.tens.length - j by omega, ← HGL.out]
       exact this
      ·intro x hx
       rcases List.mem_append.1 hx with hx | hx
       ·exact ⟨(HCN.out x hx).1, ((HCN.out x hx).2.far (by have := (HCN.out x hx).1; show x ≠ w2.heap.size; omega) _).alloc _⟩
       ·obtain rfl : x = wr.heap.size := by simpa using hx
        exact ⟨hlt2, 0, 0, 0, 0, by omega, by omega, by omega, by omega, Blk.newAt _ _ _ _ (by simp [World.setCell])⟩
     case measure => simp [intOf]; omega
    ·have d1 : decide ((j : Int) < (c.tens.length : Int) + 1) = false := decide_eq_false (by omega)
     have d1' : decide (j < c.tens.length + 1) = false := decide_eq_false (by omega)
     have hjT : j = c.tens.length + 1 := by omega
     have HN0 := Lib.hid (show NN wr (w.heap.size + 1) w2.heap.size gs 0 from ⟨by
      have := HB.out
      rw [hjT, Nat.sub_self] at this
      simpa [nnCells] using this, by have := HI2.out.big; omega, fun x hx => ⟨by have := (HCN.out x hx).1; have := HI2.out.big; omega, by have := (HCN.out x hx).1; omega, (HCN.out x hx).2⟩⟩)
     have HGS := Lib.hid (show gs.length = c.tens.length + 1 from HGL.out.trans hjT)
     clear hjT hlt hj HB HCN HGL hmk4
     go_wp2_with fail
     go_loopw [8] (fun v wr => ∃ acts : List ActD, ((acts.length : Int) ≤ most ∨ acts.length ≤ 2 * c.tens.length + 2) ∧ ActsR w c h acts v wr ∧ NN wr (w.heap.size + 1) w2.heap.size gs acts.length) (fun v _ => most.toNat - sliceLen v)
     case atStart => exact ⟨acts2, .inr HL2.out, HRR.out, HN0.out.more (Nat.zero_le _)⟩
     case round =>
      obtain ⟨acts3, hlen, hR, hN⟩ := hrel
      have HLEN := Lib.hid hlen
      have HR3 := Lib.hid hR
      have HN3 := Lib.hid hN
      have hl3 : acts3.length ≤ 1000 := by omega
      obtain ⟨A3, c3, rfl⟩ := zas hR.own
      clear hlen hR hN
      go_wp2_with fail
      refine (mmore_any _ _ (by exact HR3.out.tape)).mono ?_
      rintro e w4 ⟨b, rfl, ht, hg, hs⟩
      have HR4 := Lib.hid (HR3.out.grown hg ht)
      have HN4 := Lib.hid (HN3.out.grown hg)
      clear ht hg hs
      cases b with
      | false =>
        go_wp2_with fail
        go_ret
        exact ⟨acts3, _, HR4.out.good, HLEN.out, rfl, own_base HR4.out.own (by omega), HR4.out.below⟩
      | true =>
        by_cases hlm : (acts3.length : Int) < most
        ·have d3 : decide ((acts3.length : Int) < most) = true := decide_eq_true hlm
         have b0 := HR4.out.box.cell 0
         have b1 := HR4.out.box.cell 1
         have b2 := HR4.out.box.cell 2
         have b3 := HR4.out.box.cell 3
         have b4 := HR4.out.box.cell 4
         have b5 := HR4.out.box.cell 5
         have b6 := HR4.out.box.cell 6
         have b7 := HR4.out.box.cell 7
         have b8 := HR4.out.box.cell 8
         have b9 := HR4.out.box.cell 9
         simp only [cfgV, List.getElem?_toArray, List.getElem?_cons_zero, List.getElem?_cons_succ] at b0 b1 b2 b3 b4 b5 b6 b7 b8 b9
         go_wp2_with fail
         refine (act_any (w.heap.size + 1) w2.heap.size acts3.length gs c h w4 (by exact HN4.out.start HR4.out.tape) HGS.out (by omega) cl0 (by omega) r0 (by omega) v0 (by omega) p0 (by omega) (by omega)).mono ?_
         rintro e w5 ⟨a, hma, rfl, hE⟩
         have HE5 := Lib.hid hE
         have HM5 := Lib.hid (hma.more (show acts3.length + 1 ≤ 3000 by omega))
         have HR5 := Lib.hid (HR4.out.act HN4.out hE)
         have HCE := Lib.hid (show a.cells = #[.int .i64 a.kind, .int .i64 a.a, .int .i64 a.b, .int .i64 a.n, .int .i64 a.tenant, .int .i64 a.client, .int .i64 a.number, .int .i64 a.op, .int .i64 a.item, .string ⟨a.key.toArray⟩, .string ⟨a.value.toArray⟩] from rfl)
         rw [HCE.out]
         clear hE hma b0 b1 b2 b3 b4 b5 b6 b7 b8 b9
         go_wp2_with (at_builtin; refine zcn etAct rfl _ _ rfl (w.heap.size + 2) _ acts3.length _ rfl (by exact HR5.out.own) a.cells rfl (by simp [ActD.cells, Value.oneCell']) rfl (by omega) (by omega) (by have := HR5.out.big; omega) ?_; intro v6 w6 hown6 hg6 hat6)
         rw [← actsCells_one] at hown6
         have HR6 := Lib.hid (HR5.out.app (more := [a]) hg6 hown6 (by simpa using HM5.out))
         have HN6 := Lib.hid (HE5.out.nn.own HR5.out.own hg6)
         obtain ⟨A6, c6, rfl⟩ := zas hown6
         clear hown6 hg6 hat6
         go_roundw
         case rel => exact ⟨acts3 ++ [a], .inl (by rw [List.length_append]; simp; omega), HR6.out, by rw [List.length_append]; exact HN6.out⟩
         case measure => simp [sliceLen]; omega
        ·have d3 : decide ((acts3.length : Int) < most) = false := decide_eq_false hlm
         go_wp2_with fail
         go_ret
         exact ⟨acts3, _, HR4.out.good, HLEN.out, rfl, own_base HR4.out.own (by omega), HR4.out.below⟩
end Go.Proofs.YtcgcfeablbjnaaaGreatDoor
namespace Go.Proofs.YtcgcfeablbjnaaaGreatDoor
open Go.Lib
structure ActSmall (a : ActD) : Prop where
 num : ∀ k, -999999999 ≤ a.num k ∧ a.num k ≤ 999999999
 key : a.key.length ≤ 10
 value : a.value.length ≤ 10
theorem ActSmall.ok {a : ActD} (h : ActSmall a) : ActOk a := ⟨fun k => by have := h.num k; omega, by have := h.key; omega, by have := h.value; omega⟩
theorem ActSmall.word {a : ActD} (h : ActSmall a) (c : UInt8) : (fldWord a c).length ≤ 21 := by
 unfold fldWord
 split
 ·rename_i k _
  exact itoa_length_le _ (by have := (h.num k).1; omega) (by have := (h.num k).2; omega)
 ·have h1 := txtOf_len (a.txt (txtCell c.toNat))
  have : (a.txt (txtCell c.toNat)).length ≤ 10 := by
   unfold ActD.txt
   split
   ·exact h.key
   ·exact h.value
  omega
theorem small_of {a : ActD} (h1 : -999999999 ≤ a.a ∧ a.a ≤ 999999999) (h2 : -999999999 ≤ a.b ∧ a.b ≤ 999999999) (h3 : -999999999 ≤ a.n ∧ a.n ≤ 999999999) (h4 : -999999999 ≤ a.tenant ∧ a.tenant ≤ 999999999) (h5 : -999999999 ≤ a.client ∧ a.client ≤ 999999999) (h6 : -999999999 ≤ a.number ∧ a.number ≤ 999999999) (h8 : -999999999 ≤ a.item ∧ a.item ≤ 999999999) (hk : a.key.length ≤ 10) (hv : a.value.length ≤ 10) : ActSmall a := by
 refine ⟨fun k => ?_, hk, hv⟩
 unfold ActD.num
 repeat' split
 all_goals assumption
theorem mill_small {a : ActD} (h : MillAct 3000 a) : ActSmall a := by
 cases h with
 | request a h hk a0 a1 hb hn t0 t1 => exact small_of (by omega) (by omega) (by omega) (by omega) (by have := h.client; omega) (by have := h.number; omega) (by have := h.item; omega) (by have := h.key; omega) (by have := h.value; omega)
 | _ => refine small_of ?_ ?_ ?_ ?_ ?_ ?_ ?_ ?_ ?_ <;> simp <;> omega
end Go.Proofs.YtcgcfeablbjnaaaGreatDoor
