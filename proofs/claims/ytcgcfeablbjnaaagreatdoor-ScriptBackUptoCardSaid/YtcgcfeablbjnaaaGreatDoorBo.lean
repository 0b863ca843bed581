/- Parts of the proof that ScriptBack returns true for every input of bulk at most 1048576. -/
import Derived.Test.YtcgcfeablbjnaaaGreatDoorBa
import Derived.Test.YtcgcfeablbjnaaaGreatDoorBb
import Derived.Test.YtcgcfeablbjnaaaGreatDoorBg
import Derived.Test.YtcgcfeablbjnaaaGreatDoorBn
import Derived.Deep.Slices
import Derived.Lib.SmallJoins
import Derived.ChangeArms
import Derived.Test.YtcgcfeablbjnaaaGreatDoorRows
import Derived.Test.YtcgcfeablbjnaaaGreatDoorCards
import Derived.Test.YtcgcfeablbjnaaaGreatDoorTie
import Derived.WalkKit
import Derived.ProofKit
import Derived.OpenShut
import Derived.Deep.DeepHandedRow
import Derived.Lib.LaidTab
import Derived.Lay
import Derived.ChangeMaps5
set_option linter.unusedSimpArgs false
set_option linter.unusedVariables false
set_option maxRecDepth 100000
set_option maxHeartbeats 8000000
namespace Go.Proofs.YtcgcfeablbjnaaaGreatDoor
open Go.ChangeShapes Go.WideShapes Go.ChangeAt Go.RowKit Go.Deep Go.Joins
theorem list_of {α : Type} : ∀ (n : Nat) (p : Nat → α → Prop), (∀ i, i < n → ∃ x, p i x) → ∃ l : List α, l.length = n ∧ ∀ i x, l[i]? = some x → p i x
 | 0, _, _ => ⟨[], rfl, by simp⟩
 | n + 1, p, h => by
   obtain ⟨l, hl, hc⟩ := list_of n p (fun i hi => h i (by omega))
   obtain ⟨x, hx⟩ := h n (by omega)
   refine ⟨l ++ [x], by simp [hl], fun i y hy => ?_⟩
   rcases Nat.lt_or_ge i l.length with h | h
   ·rw [List.getElem?_append_left h] at hy; exact hc i y hy
   ·rw [List.getElem?_append_right h] at hy
    have : i = l.length := by
     have := (List.getElem?_eq_some_iff.1 hy).1
     simp at this
     omega
    subst this
    simp at hy
    subst hy
    rw [hl]; exact hx
section
variable {H : Type} {enc : TypeId × Value → H} {P : Program} {W : World} {spare : Nat → Bool} {held : Bool}
theorem open_list {α : Type} (f : α → Value) {t e : TypeId} {v : Value} {d : DataW H} {p : List MemPlace} (ht : P.underlying t = some (.slice e)) (hC : P.cellsOf e = 1)
 (hf : ∀ n cs (x : DataW H × List MemPlace), DataW.trod enc P W 0 spare held n e cs = some x → ∃ a, cs = [f a]) (h : DataW.Trod enc P W 0 spare held t v d p) (hv : ∃ A n c, v = .slice A n c) :
 ∃ (A : Option Addr) (l : List α) (c : Nat), v = .slice A l.length c ∧ l.length ≤ c ∧ c ≤ maxLen ∧ Rd W W.heap.size A (l.map f) := by
 obtain ⟨fuel, hfu⟩ := h
 obtain ⟨A0, n0, c0, rfl⟩ := hv
 rcases open_slice ht hfu with ⟨hcs, _⟩ | ⟨a, len, cap, m, n, D, Pl, hcs, _, hl, hm, hmm, _, hi⟩
 ·simp [Value.cells] at hcs
  obtain ⟨rfl, rfl, rfl⟩ := hcs
  exact ⟨none, [], 0, rfl, by simp, by simp, Rd.nil⟩
 ·simp [Value.cells] at hcs
  obtain ⟨rfl, rfl, rfl⟩ := hcs
  have hlm : n0 ≤ m := by rw [hmm]; split <;> omega
  have hex : ∀ i, i < n0 → ∃ x : α, W.cell? (a.add i) = some (f x) := fun i him => by
   obtain ⟨cs', hc, ht'⟩ := hi i (by omega)
   obtain ⟨x, rfl⟩ := hf n cs' _ ht'
   rw [hC, Nat.mul_one] at hc
   obtain ⟨_, _, hat⟩ := World.cells?_some hc
   have h0 := hat 0 (by omega)
   exact ⟨x, by simpa [Addr.add] using h0⟩
  obtain ⟨l, rfl, hc⟩ := list_of n0 (fun i x => W.cell? (a.add i) = some (f x)) hex
  refine ⟨some a, l, c0, rfl, hl, hm, fun j u hu => ?_⟩
  rw [List.getElem?_map] at hu
  obtain ⟨x, hx, rfl⟩ := Option.map_eq_some_iff.1 hu
  have := hc j x hx
  exact ⟨a, rfl, by have h1 := World.block_lt_of_cell? _ _ this; rwa [block_add] at h1, this⟩
def I64 (x : Int) : Prop := -9223372036854775808 ≤ x ∧ x ≤ 9223372036854775807
theorem open_i64s {t e : TypeId} {r : Reach} {b0 : Nat} {v : Value} {d : DataW H} {p : List MemPlace} (ht : P.underlying t = some (.slice e)) (he : P.underlying e = some (.int .i64)) (hC : P.cellsOf e = 1) (hv : Value.okWide P W r b0 t v) (h : DataW.Trod enc P W 0 spare held t v d p) :
 ∃ (A : Option Addr) (l : List Int) (c : Nat), v = .slice A l.length c ∧ l.length ≤ c ∧ c ≤ maxLen ∧ Rd W W.heap.size A (l.map (Value.int .i64)) :=
 open_list (Value.int .i64) ht hC (fun n cs x hx => by obtain ⟨b, rfl, _⟩ := DataW.trod_int he hx; exact ⟨b, rfl⟩) h (okWide_slice ht hv)
end
theorem Tryz.own : ownKnob Tryz.prog.godebug = none := by kernel_rfl
theorem i64_wf {n : Int} (h : (Lit.int .i64 n).wf = true) : I64 n := by
 simp only [Lit.wf, Bool.and_eq_true, decide_eq_true_eq] at h
 exact ⟨h.1, h.2⟩
section
variable {H : Type} {enc : TypeId × Value → H} {P : Program} {w : World} {base fuel : Nat} {spare : Nat → Bool} {held : Bool} {t : TypeId} {cs : List Value} {fs : Array Field} {xs : List (DataW H × List MemPlace)}
theorem fld_i64 {n i : Nat} {f : Field} (hlen : xs.length = fs.size) (hf : ∀ (i : Nat) (f : Field), fs[i]? = some f → DataW.trod enc P w base spare held n f.type ((cs.drop f.offset).take (P.cellsOf f.type)) = xs[i]?) (hi : fs[i]? = some f) (ht : P.underlying f.type = some (.int .i64)) :
 ∃ m, (cs.drop f.offset).take (P.cellsOf f.type) = [.int .i64 m] ∧ I64 m := by
 have h := hf i f hi
 have hl : i < xs.length := by rw [hlen]; exact (Array.getElem?_eq_some_iff.1 hi).1
 rw [List.getElem?_eq_getElem hl] at h
 obtain ⟨m, e, _, hw⟩ := DataW.trod_int ht h
 exact ⟨m, e, i64_wf hw⟩
end
section
variable {H : Type} {enc : TypeId × Value → H} {w : World} {base fuel : Nat} {spare : Nat → Bool} {held : Bool} {cs : List Value} {x : DataW H × List MemPlace}
theorem trod_reqR (h : DataW.trod enc Tryz.prog w base spare held fuel 27 cs = some x) : ∃ (a b c d e : Int) (k v : ByteArray), cs = [.int .i64 a, .int .i64 b, .int .i64 c, .int .i64 d, .int .i64 e, .string k, .string v] ∧ I64 a ∧ I64 b ∧ I64 c ∧ I64 d ∧ I64 e := by
 obtain ⟨xs, n, _, rfl, hl, hlen, hf⟩ := DataW.trod_struct Tryz.underlying27 h
 rw [co_req] at hl
 obtain ⟨c0, c1, c2, c3, c4, c5, c6, rfl⟩ := list7 hl
 obtain ⟨m0, e0, r0⟩ := fld_i64 hlen hf (i := 0) rfl Tryz.underlying3
 obtain ⟨m1, e1, r1⟩ := fld_i64 hlen hf (i := 1) rfl Tryz.underlying3
 obtain ⟨m2, e2, r2⟩ := fld_i64 hlen hf (i := 2) rfl Tryz.underlying3
 obtain ⟨m3, e3, r3⟩ := fld_i64 hlen hf (i := 3) rfl Tryz.underlying3
 obtain ⟨m4, e4, r4⟩ := fld_i64 hlen hf (i := 4) rfl Tryz.underlying3
 obtain ⟨m5, e5⟩ := fld_str hlen hf (i := 5) rfl Tryz.underlying9
 obtain ⟨m6, e6⟩ := fld_str hlen hf (i := 6) rfl Tryz.underlying9
 simp [co_int, co_str] at e0 e1 e2 e3 e4 e5 e6
 subst e0 e1 e2 e3 e4 e5 e6
 exact ⟨_, _, _, _, _, _, _, rfl, r0, r1, r2, r3, r4⟩
theorem trod_actR (h : DataW.trod enc Tryz.prog w base spare held fuel 29 cs = some x) : ∃ a : ActD, cs = a.cells.toList ∧ ∀ k, -9223372036854775808 ≤ a.num k ∧ a.num k ≤ 9223372036854775807 := by
 obtain ⟨xs, n, _, rfl, hl, hlen, hf⟩ := DataW.trod_struct Tryz.underlying29 h
 rw [co_act] at hl
 obtain ⟨c0, c1, c2, c3, c4, c5, c6, c7, c8, c9, c10, rfl⟩ := list11 hl
 obtain ⟨m0, e0, r0⟩ := fld_i64 hlen hf (i := 0) rfl Tryz.underlying3
 obtain ⟨m1, e1, r1⟩ := fld_i64 hlen hf (i := 1) rfl Tryz.underlying3
 obtain ⟨m2, e2, r2⟩ := fld_i64 hlen hf (i := 2) rfl Tryz.underlying3
 obtain ⟨m3, e3, r3⟩ := fld_i64 hlen hf (i := 3) rfl Tryz.underlying3
 have hr := hf 4 _ rfl
 rw [List.getElem?_eq_getElem (by rw [hlen]; decide)] at hr
 obtain ⟨a, b, c, d, e, k, v, e4, ra, rb, rc, rd, re⟩ := trod_reqR hr
 simp [co_int, co_req] at e0 e1 e2 e3 e4
 obtain ⟨rfl, rfl, rfl, rfl, rfl, rfl, rfl⟩ := e4
 subst e0 e1 e2 e3
 refine ⟨⟨m0, m1, m2, m3, a, b, c, d, e, k.data.toList, v.data.toList⟩, by simp [ActD.cells], fun k => ?_⟩
 simp only [ActD.num]
 repeat' split
 all_goals assumption
end
theorem bulk_part {H : Type} {d : DataW H} {l : List (DataW H)} (h : d ∈ l) : Rows.uptoBulk d ≤ Rows.uptoBulkAll l := by
 induction l with
 | nil => cases h
 | cons x r ih =>
   simp only [Rows.uptoBulkAll]
   rcases List.mem_cons.1 h with e | e
   ·subst e; omega
   ·have := ih e; omega
section
variable {H : Type} {enc : TypeId × Value → H} {P : Program} {w : World} {base fuel : Nat} {spare : Nat → Bool} {held : Bool} {t : TypeId} {cs : List Value} {fs : Array Field} {xs : List (DataW H × List MemPlace)}
theorem fld_strB {n i : Nat} {f : Field} (hlen : xs.length = fs.size) (hf : ∀ (i : Nat) (f : Field), fs[i]? = some f → DataW.trod enc P w base spare held n f.type ((cs.drop f.offset).take (P.cellsOf f.type)) = xs[i]?) (hi : fs[i]? = some f) (ht : P.underlying f.type = some .string) :
 ∃ s : ByteArray, (cs.drop f.offset).take (P.cellsOf f.type) = [.string s] ∧ s.data.toList.length ≤ Rows.uptoBulk (DataW.agg (xs.map (·.1))) := by
 have h := hf i f hi
 have hl : i < xs.length := by rw [hlen]; exact (Array.getElem?_eq_some_iff.1 hi).1
 rw [List.getElem?_eq_getElem hl] at h
 obtain ⟨m, e, hx, _⟩ := DataW.trod_string ht h
 refine ⟨m, e, ?_⟩
 have h1 := bulk_part (d := xs[i].1) (l := xs.map (·.1)) (List.mem_map.2 ⟨_, List.getElem_mem hl, rfl⟩)
 rw [hx] at h1
 simp only [Rows.uptoBulk] at h1 ⊢
 omega
end
section
variable {H : Type} {enc : TypeId × Value → H} {w : World} {base fuel : Nat} {spare : Nat → Bool} {held : Bool} {cs : List Value} {x : DataW H × List MemPlace}
theorem trod_reqB (h : DataW.trod enc Tryz.prog w base spare held fuel 27 cs = some x) : ∃ (a b c d e : Int) (k v : ByteArray), cs = [.int .i64 a, .int .i64 b, .int .i64 c, .int .i64 d, .int .i64 e, .string k, .string v] ∧ k.data.toList.length ≤ Rows.uptoBulk x.1 ∧ v.data.toList.length ≤ Rows.uptoBulk x.1 := by
 obtain ⟨xs, n, _, rfl, hl, hlen, hf⟩ := DataW.trod_struct Tryz.underlying27 h
 rw [co_req] at hl
 obtain ⟨c0, c1, c2, c3, c4, c5, c6, rfl⟩ := list7 hl
 obtain ⟨m0, e0⟩ := fld_int hlen hf (i := 0) rfl Tryz.underlying3
 obtain ⟨m1, e1⟩ := fld_int hlen hf (i := 1) rfl Tryz.underlying3
 obtain ⟨m2, e2⟩ := fld_int hlen hf (i := 2) rfl Tryz.underlying3
 obtain ⟨m3, e3⟩ := fld_int hlen hf (i := 3) rfl Tryz.underlying3
 obtain ⟨m4, e4⟩ := fld_int hlen hf (i := 4) rfl Tryz.underlying3
 obtain ⟨m5, e5, b5⟩ := fld_strB hlen hf (i := 5) rfl Tryz.underlying9
 obtain ⟨m6, e6, b6⟩ := fld_strB hlen hf (i := 6) rfl Tryz.underlying9
 simp [co_int, co_str] at e0 e1 e2 e3 e4 e5 e6
 subst e0 e1 e2 e3 e4 e5 e6
 exact ⟨_, _, _, _, _, _, _, rfl, b5, b6⟩
theorem trod_actB (h : DataW.trod enc Tryz.prog w base spare held fuel 29 cs = some x) : ∃ a : ActD, cs = a.cells.toList ∧ (∀ k, -9223372036854775808 ≤ a.num k ∧ a.num k ≤ 9223372036854775807) ∧ a.key.length ≤ Rows.uptoBulk x.1 ∧ a.value.length ≤ Rows.uptoBulk x.1 := by
 obtain ⟨a, ha, hn⟩ := trod_actR h
 obtain ⟨xs, n, _, rfl, hl, hlen, hf⟩ := DataW.trod_struct Tryz.underlying29 h
 have hr := hf 4 _ rfl
 have h4 : 4 < xs.length := by rw [hlen]; decide
 rw [List.getElem?_eq_getElem h4] at hr
 obtain ⟨_, _, _, _, _, k, v, e4, hk, hv⟩ := trod_reqB hr
 subst ha
 simp [co_req, ActD.cells] at e4
 obtain ⟨_, _, _, _, _, rfl, rfl⟩ := e4
 have h1 := bulk_part (d := xs[4].1) (l := xs.map (·.1)) (List.mem_map.2 ⟨_, List.getElem_mem h4, rfl⟩)
 have hk' : a.key.length ≤ Rows.uptoBulk xs[4].1 := hk
 have hv' : a.value.length ≤ Rows.uptoBulk xs[4].1 := hv
 simp only [Rows.uptoBulk]
 exact ⟨a, rfl, hn, by omega, by omega⟩
theorem open_actsB {r : Reach} {b0 : Nat} {v : Value} {d : DataW H} {p : List MemPlace} (hv : Value.okWide Tryz.prog w r b0 22 v) (h : DataW.Trod enc Tryz.prog w 0 spare held 22 v d p) :
 ∃ (A : Option Addr) (l : List ActD) (c : Nat), v = .slice A l.length c ∧ l.length ≤ c ∧ Rd w w.heap.size A (actsCells l) ∧ ∀ a ∈ l, (∀ k, -9223372036854775808 ≤ a.num k ∧ a.num k ≤ 9223372036854775807) ∧ a.key.length ≤ Rows.uptoBulk d ∧ a.value.length ≤ Rows.uptoBulk d := by
 obtain ⟨fuel, hfu⟩ := h
 obtain ⟨A0, n0, c0, rfl⟩ := okWide_slice Tryz.underlying22 hv
 rcases open_slice Tryz.underlying22 hfu with ⟨hcs, _⟩ | ⟨a, len, cap, m, n, D, Pl, hcs, _, hl, hm, hmm, hxd, hi⟩
 ·simp [Value.cells] at hcs
  obtain ⟨rfl, rfl, rfl⟩ := hcs
  exact ⟨none, [], 0, rfl, by simp, Rd.nil, by simp⟩
 ·simp [Value.cells] at hcs
  obtain ⟨rfl, rfl, rfl⟩ := hcs
  simp only [Prod.mk.injEq] at hxd
  have hlm : n0 ≤ m := by rw [hmm]; split <;> omega
  have hex : ∀ i, i < n0 → ∃ x : ActD, (∀ j u, x.cells.toList[j]? = some u → w.cell? ((a.add (i * 11)).add j) = some u) ∧ (∀ k, -9223372036854775808 ≤ x.num k ∧ x.num k ≤ 9223372036854775807) ∧ x.key.length ≤ Rows.uptoBulk d ∧ x.value.length ≤ Rows.uptoBulk d := fun i him => by
   obtain ⟨cs', hc, ht'⟩ := hi i (by omega)
   obtain ⟨x, rfl, hx, hk, hv⟩ := trod_actB ht'
   rw [co_act] at hc
   obtain ⟨_, hsz, hat⟩ := World.cells?_some hc
   have hb := bulk_part (d := D i) (l := (List.range n0).map D) (List.mem_map.2 ⟨i, List.mem_range.2 him, rfl⟩)
   have hd : Rows.uptoBulkAll ((List.range n0).map D) ≤ Rows.uptoBulk d := by rw [hxd.1]; simp only [Rows.uptoBulk]; omega
   have hb' : Rows.uptoBulk (D i) ≤ Rows.uptoBulk d := Nat.le_trans hb hd
   refine ⟨x, fun j u hu => ?_, hx, Nat.le_trans hk hb', Nat.le_trans hv hb'⟩
   have hj := (List.getElem?_eq_some_iff.1 hu).1
   have h0 := hat j (by simpa [ActD.cells] using hj)
   rw [h0]
   simpa using hu
  obtain ⟨l, rfl, hc⟩ := list_of n0 (fun i (x : ActD) => (∀ j u, x.cells.toList[j]? = some u → w.cell? ((a.add (i * 11)).add j) = some u) ∧ (∀ k, -9223372036854775808 ≤ x.num k ∧ x.num k ≤ 9223372036854775807) ∧ x.key.length ≤ Rows.uptoBulk d ∧ x.value.length ≤ Rows.uptoBulk d) hex
  refine ⟨some a, l, c0, rfl, hl, fun j u hu => ?_, fun x hx => ?_⟩
  ·have hlt := (List.getElem?_eq_some_iff.1 hu).1
   have hlen : (actsCells l).length = l.length * 11 := zbm (fun a : ActD => a.cells.toList) 11 (fun _ => rfl) l
   have hq : j / 11 < l.length := by omega
   have hx := List.getElem?_eq_getElem hq
   have e := flat_at (fun a : ActD => a.cells.toList) 11 (fun _ => rfl) l (j / 11) (j % 11) _ hx (Nat.mod_lt _ (by omega))
   have hj : j / 11 * 11 + j % 11 = j := by omega
   rw [hj] at e
   have h1 := (hc _ _ hx).1 (j % 11) u (by rw [← e]; exact hu)
   rw [Addr.add_add, hj] at h1
   exact ⟨a, rfl, by have h2 := World.block_lt_of_cell? _ _ h1; rwa [block_add] at h2, h1⟩
  ·obtain ⟨i, hi', rfl⟩ := List.mem_iff_getElem.1 hx
   exact (hc i _ (List.getElem?_eq_getElem hi')).2
end
end Go.Proofs.YtcgcfeablbjnaaaGreatDoor
namespace Go.Proofs.YtcgcfeablbjnaaaGreatDoor
open Go.ChangeShapes Go.WideShapes Go.ChangeAt Go.RowKit
theorem laid_out : laidOutB Tryz.prog = true := by kernel_rfl
theorem own_knob : ownKnob Tryz.prog.godebug = none := by kernel_rfl
def laidList : List (String × DataW Unit) := [("math/bits.deBruijn32tab", Rows.laid_math_bits_deBruijn32tab), ("math/bits.deBruijn64tab", Rows.laid_math_bits_deBruijn64tab), ("internal/strconv.uint64pow10", Rows.laid_internal_strconv_uint64pow10)]
theorem gPow : Tryz.prog.globalNamed "internal/strconv.uint64pow10" = some 1 := by kernel_rfl
theorem gPowType : (Tryz.prog.globals[1]?).map (·.type) = some 181 := by kernel_rfl
theorem pow_of_laid {W : World} (h : laidMet Tryz.prog laidList W) : Lib.TabIs Tryz.prog W "internal/strconv.uint64pow10" .u64 Lib.pow10Tab := by
 obtain ⟨ps, ⟨_, _, _, _, _, _, _, _, _, _, ⟨_, _, _, _, _, _, _, _, _, _, ⟨g', t', cs, fuel, p, q, hg', ht', hvar, hd, _, _⟩, _⟩, _⟩, _⟩ := h
 obtain rfl := Option.some.inj (gPow.symm.trans hg')
 obtain rfl := Option.some.inj (gPowType.symm.trans ht')
 unfold Lib.TabIs
 rw [hvar, ← Lib.cells_of_tab (zs := Lib.pow10Tab) Tryz.underlying181 Tryz.underlying167 (by kernel_rfl) (by kernel_rfl) hd]
theorem env_of {W : World} (h : laidMetH Tryz.prog laidList W) (hs : W.ShapedOpen Tryz.prog) : Env W :=
 ⟨Go.Proofs.cell_of_shapedOpen_int (zero := #[.int .i64 0]) (t := 3) hs (of_decide_eq_true (by kernel_rfl)) (by kernel_rfl) rfl (by kernel_rfl) (by kernel_rfl) Tryz.underlying3, pow_of_laid h⟩
noncomputable def laidWorld (os : Os) : World := World.laidAll Tryz.prog os laidList
theorem laid_met (os : Os) (args : Array Value) : laidMet Tryz.prog laidList ((laidWorld os).forCall (fun _ _ => 0) ⟨#[], args, []⟩).memory :=
 laidMet_laidAll args (by kernel_rfl) (by kernel_rfl)
theorem back_contract (H : Type) (enc : TypeId × Value → H) (W : World) (base : Nat) (args : Array Value) (ds gs : List (DataW H)) (before : List MemPlace)
 (hval : ∀ (j : Nat) t v, Tryz.f4.params[j]? = some t → args[j]? = some v → Value.okWide Tryz.prog W .any base t v)
 (hW : DataW.Whole enc Tryz.prog Tryz.f4.params.toList Rows.scriptBackSpec.vars false W args.toList ds gs before) (hk : Rows.uptoSmall H (ds ++ gs) = true) (he : Env W) :
 Calls Tryz.prog 4 args W fun e W' => ∃ v, e = .returned v ∧ Rows.scriptBackSpec.post enc Tryz.prog Tryz.f4 false true false false W args v W' := by
 have fin : ∀ W', Below W.heap.size W W' → Rows.scriptBackSpec.post enc Tryz.prog Tryz.f4 false true false false W args (.bool true) W' := fun W' hb =>
  law_post laid_out (by kernel_rfl) (tb := 4) rfl Tryz.underlying4 rfl (fun xs hx => by
   match xs, hx with
   | [_, _, _, _, _, _], _ => rfl) hW hb
 obtain ⟨p, q, hA0, hV, rfl, hfz, hnd⟩ := hW
 have hA : DataW.TrodAll enc Tryz.prog W 0 (fun _ => true) true Tryz.f4.params.toList args.toList ds p := hA0
 rw [Tryz.params4] at hA hval
 obtain ⟨v0, vs0, d0, ds0, p0, q0, hargs0, rfl, rfl, h0, r0⟩ := trodAll_cons hA
 obtain ⟨v1, vs1, d1, ds1, p1, q1, hargs1, rfl, rfl, h1, r1⟩ := trodAll_cons r0
 obtain ⟨v2, vs2, d2, ds2, p2, q2, hargs2, rfl, rfl, h2, r2⟩ := trodAll_cons r1
 obtain ⟨v3, vs3, d3, ds3, p3, q3, hargs3, rfl, rfl, h3, r3⟩ := trodAll_cons r2
 obtain ⟨v4, vs4, d4, ds4, p4, q4, hargs4, rfl, rfl, h4, r4⟩ := trodAll_cons r3
 obtain ⟨v5, vs5, d5, ds5, p5, q5, hargs5, rfl, rfl, h5, r5⟩ := trodAll_cons r4
 obtain ⟨rfl, rfl, rfl⟩ := trodAll_nil r5
 subst hargs5
 subst hargs4
 subst hargs3
 subst hargs2
 subst hargs1
 obtain rfl : args = #[v0, v1, v2, v3, v4, v5] := by cases args; simp_all
 obtain ⟨Ar, ra, cr, rfl, hcap, hR, hnum⟩ := open_actsB (hval 0 22 v0 rfl rfl) h0
 obtain ⟨S0, rfl, _, _⟩ := Go.ChangeMaps.open_string Tryz.underlying9 (hval 1 9 v1 rfl rfl) h1
 obtain ⟨Al, l, cl', rfl, _, _, hRl⟩ := open_i64s Tryz.underlying23 Tryz.underlying3 (by kernel_rfl) (hval 2 23 v2 rfl rfl) h2
 obtain ⟨pk, rfl, _, _⟩ := open_bool Tryz.underlying4 (hval 3 4 v3 rfl rfl) h3
 obtain ⟨Am, m, cm, rfl, _, _, hRm⟩ := open_i64s Tryz.underlying23 Tryz.underlying3 (by kernel_rfl) (hval 4 23 v4 rfl rfl) h4
 obtain ⟨As, sp, cs, rfl, _, _, hRs⟩ := open_i64s Tryz.underlying23 Tryz.underlying3 (by kernel_rfl) (hval 5 23 v5 rfl rfl) h5
 have hd0 : Rows.uptoBulk d0 ≤ 1048576 := by
  have h : Rows.uptoBulkAll _ ≤ 1048576 := of_decide_eq_true hk
  simp only [List.cons_append, Rows.uptoBulkAll] at h
  omega
 refine (lawBack_any Ar cr ra S0 Al cl' l pk Am cm m As cs sp W he (fun a ha => ?_) hR hRl hRm hRs).mono fun e W' ⟨he, hb⟩ => ?_
 ·obtain ⟨x1, x2, x3⟩ := hnum a ha
  exact ⟨x1, by omega, by omega⟩
 ·subst he
  exact ⟨_, rfl, fin W' hb⟩
theorem back_reads (os : Os) {H : Type} (enc : TypeId × Value → H) : ∃ places, DataW.whole enc Tryz.prog ((laidWorld os).forCall (fun _ _ => 0) ⟨#[], #[.slice none 0 0, .string ⟨#[]⟩, .slice none 0 0, .bool false, .slice none 0 0, .slice none 0 0], []⟩).memory Tryz.f4.params.toList Rows.scriptBackSpec.vars false (#[.slice none 0 0, .string ⟨#[]⟩, .slice none 0 0, .bool false, .slice none 0 0, .slice none 0 0] : Array Value).toList 8 = some ([.nil, .lit (.string []), .nil, .lit (.bool false), .nil, .nil], [], places) :=
 ⟨[], by kernel_rfl⟩
theorem back_lifted (os : Os) (started : os.Started) (H : Type) (enc : TypeId × Value → H) (F : Stop.Interp) :
 ReturnsInHanded {} Tryz.checked os 4 .any ((Rows.OpenSpec.upto Rows.scriptBackSpec).preRow enc Tryz.prog Tryz.f4 Rows.scriptBackUptoRow.domain false Rows.scriptBackUptoRow.laid) (((Rows.OpenSpec.upto Rows.scriptBackSpec).at F).post enc Tryz.prog Tryz.f4 false true false false) := by
 obtain ⟨places, hx⟩ := back_reads os enc
 refine returnsInHanded_of_row (C := Tryz.checked) (s := Rows.OpenSpec.upto Rows.scriptBackSpec) own_knob started (by kernel_rfl) Tryz.func4
  (witness_row_at (enc := enc) (C := Tryz.checked) false (laidWorld os) #[.slice none 0 0, .string ⟨#[]⟩, .slice none 0 0, .bool false, .slice none 0 0, .slice none 0 0] (World.laidAll_os _ _ _) (by kernel_rfl) (by kernel_rfl) (by kernel_rfl)
   (OpenSpec.preRow_of_cond 8 hx (by kernel_rfl) (fun k hk => by cases hk; kernel_rfl) (by kernel_rfl) (laid_met os _))) ?_
 intro W base args ds gs before hval hW _ hcond _ hL hS _
 exact back_contract H enc W base args ds gs before hval hW (hcond _ rfl) (env_of hL hS)
theorem back_said : Rows.ScriptBackUptoSaid :=
 OpenClaim.holds_of_cond 4 Tryz.f4 rfl rfl rfl rfl rfl rfl rfl ⟨rfl, rfl, rfl, rfl, rfl⟩ rfl rfl rfl rfl rfl (by kernel_rfl) Tryz.func4 (by kernel_rfl)
  (of_decide_eq_true (by kernel_rfl)) (by unfold Func.isWrapper; first | (rw [if_pos (by decide +kernel)]; kernel_rfl) | (rw [if_neg (by decide +kernel)]; exact ⟨rfl, rfl⟩))
  (fun os started H enc _ F => by rw [OpenClaim.pre_eq_preRow]; exact back_lifted os started H enc F)
theorem back_plain (f : FuncId) (fn : Func) (hf : Tryz.pinned.checked.prog.funcNamed "cellplane/cellplanelaw44.ScriptBack" = some f) (hfn : Tryz.pinned.checked.prog.funcs[f]? = some fn) :
 false = Tryz.pinned.checked.prog.looks [] ∧ ∀ (j : Nat) t, fn.params[j]? = some t → Tryz.pinned.checked.prog.wantsStandIn t = false := by
 obtain rfl : f = 4 := Option.some.inj ((show Tryz.prog.funcNamed "cellplane/cellplanelaw44.ScriptBack" = some 4 by kernel_rfl).symm.trans hf) |>.symm
 obtain rfl : fn = Tryz.f4 := (Option.some.inj (Tryz.func4.symm.trans hfn)).symm
 refine ⟨by kernel_rfl, fun j t ht => ?_⟩
 have hall : Tryz.f4.params.toList.all (fun t => !Tryz.prog.wantsStandIn t) = true := by kernel_rfl
 have := List.all_eq_true.1 hall t (by simpa using Array.mem_of_getElem? ht)
 exact (show Tryz.prog.wantsStandIn t = false by simpa using this)
theorem back_card : Rows.ScriptBackUptoCardSaid :=
 Claim7.holds_tied_plain_at .later [] _ _ _ _ back_said (fun _ h => by cases h) (by kernel_rfl) (fun _ h => by cases h) scriptBackUpto_row_tie rfl ⟨rfl, rfl⟩ (by kernel_rfl) rfl back_plain (by kernel_rfl)
end Go.Proofs.YtcgcfeablbjnaaaGreatDoor
