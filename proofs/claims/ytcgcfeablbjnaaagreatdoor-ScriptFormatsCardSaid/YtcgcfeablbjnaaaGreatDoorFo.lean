/- Parts of the proof that ScriptFormats returns true for every input. -/
import Derived.Test.YtcgcfeablbjnaaaGreatDoorFa
import Derived.Test.YtcgcfeablbjnaaaGreatDoorFb
import Derived.Test.YtcgcfeablbjnaaaGreatDoorFg
import Derived.Test.YtcgcfeablbjnaaaGreatDoorFn
import Derived.Deep.Slices
import Derived.Lib.SmallJoins
import Derived.ChangeArms
import Derived.Test.YtcgcfeablbjnaaaGreatDoorCards
import Derived.Test.YtcgcfeablbjnaaaGreatDoorTie
import Derived.WalkKit
import Derived.ProofKit
import Derived.OpenShut
import Derived.Deep.DeepHandedRow
import Derived.Lib.LaidTab
import Derived.Lay
set_option linter.unusedSimpArgs false
set_option linter.unusedVariables false
namespace Go.Proofs.YtcgcfeablbjnaaaGreatDoor
open Go.ChangeShapes Go.WideShapes Go.ChangeAt Go.RowKit Go.Deep Go.Joins
theorem list_of {α : Type} : ∀ (n : Nat) (p : Nat → α → Prop), (∀ i, i < n → ∃ x, p i x) → ∃ l : List α, l.length = n ∧ ∀ i x, l[i]? = some x → p i x
 | 0, _, _ => ⟨[], rfl, by simp⟩
 | n + 1, p, h => by
   obtain ⟨l, hl, hc⟩ := list_of n p (fun i hi => h i (by omega))
   obtain ⟨x, hx⟩ := h n (by omega)
   refine ⟨l ++ [x], by simp [hl], fun i y hy => ?_⟩
   rcases Nat.lt_or_ge i l.length with h | h
   ·rw [List.getElem?_append_left h] at hy; exact hc i y hy
   ·rw [List.getElem?_append_right h] at hy
    have : i = l.length := by
     have := (List.getElem?_eq_some_iff.1 hy).1
     simp at this
     omega
    subst this
    simp at hy
    subst hy
    rw [hl]; exact hx
section
variable {H : Type} {enc : TypeId × Value → H} {P : Program} {W : World} {spare : Nat → Bool} {held : Bool}
theorem open_list {α : Type} (f : α → Value) {t e : TypeId} {v : Value} {d : DataW H} {p : List MemPlace} (ht : P.underlying t = some (.slice e)) (hC : P.cellsOf e = 1)
 (hf : ∀ n cs (x : DataW H × List MemPlace), DataW.trod enc P W 0 spare held n e cs = some x → ∃ a, cs = [f a]) (h : DataW.Trod enc P W 0 spare held t v d p) (hv : ∃ A n c, v = .slice A n c) :
 ∃ (A : Option Addr) (l : List α) (c : Nat), v = .slice A l.length c ∧ l.length ≤ c ∧ c ≤ maxLen ∧ Rd W W.heap.size A (l.map f) := by
 obtain ⟨fuel, hfu⟩ := h
 obtain ⟨A0, n0, c0, rfl⟩ := hv
 rcases open_slice ht hfu with ⟨hcs, _⟩ | ⟨a, len, cap, m, n, D, Pl, hcs, _, hl, hm, hmm, _, hi⟩
 ·simp [Value.cells] at hcs
  obtain ⟨rfl, rfl, rfl⟩ := hcs
  exact ⟨none, [], 0, rfl, by simp, by simp, Rd.nil⟩
 ·simp [Value.cells] at hcs
  obtain ⟨rfl, rfl, rfl⟩ := hcs
  have hlm : n0 ≤ m := by rw [hmm]; split <;> omega
  have hex : ∀ i, i < n0 → ∃ x : α, W.cell? (a.add i) = some (f x) := fun i him => by
   obtain ⟨cs', hc, ht'⟩ := hi i (by omega)
   obtain ⟨x, rfl⟩ := hf n cs' _ ht'
   rw [hC, Nat.mul_one] at hc
   obtain ⟨_, _, hat⟩ := World.cells?_some hc
   have h0 := hat 0 (by omega)
   exact ⟨x, by simpa [Addr.add] using h0⟩
  obtain ⟨l, rfl, hc⟩ := list_of n0 (fun i x => W.cell? (a.add i) = some (f x)) hex
  refine ⟨some a, l, c0, rfl, hl, hm, fun j u hu => ?_⟩
  rw [List.getElem?_map] at hu
  obtain ⟨x, hx, rfl⟩ := Option.map_eq_some_iff.1 hu
  have := hc j x hx
  exact ⟨a, rfl, by have h1 := World.block_lt_of_cell? _ _ this; rwa [block_add] at h1, this⟩
def I64 (x : Int) : Prop := -9223372036854775808 ≤ x ∧ x ≤ 9223372036854775807
theorem open_i64s {t e : TypeId} {r : Reach} {b0 : Nat} {v : Value} {d : DataW H} {p : List MemPlace} (ht : P.underlying t = some (.slice e)) (he : P.underlying e = some (.int .i64)) (hC : P.cellsOf e = 1) (hv : Value.okWide P W r b0 t v) (h : DataW.Trod enc P W 0 spare held t v d p) :
 ∃ (A : Option Addr) (l : List Int) (c : Nat), v = .slice A l.length c ∧ l.length ≤ c ∧ c ≤ maxLen ∧ Rd W W.heap.size A (l.map (Value.int .i64)) :=
 open_list (Value.int .i64) ht hC (fun n cs x hx => by obtain ⟨b, rfl, _⟩ := DataW.trod_int he hx; exact ⟨b, rfl⟩) h (okWide_slice ht hv)
end
theorem Tryz.own : ownKnob Tryz.prog.godebug = none := by kernel_rfl
end Go.Proofs.YtcgcfeablbjnaaaGreatDoor
namespace Go.Proofs.YtcgcfeablbjnaaaGreatDoor
set_option maxRecDepth 100000
open Go.ChangeShapes Go.WideShapes Go.ChangeAt Go.RowKit Go.Deep Go.Joins
theorem i64_wf {n : Int} (h : (Lit.int .i64 n).wf = true) : I64 n := by
 simp only [Lit.wf, Bool.and_eq_true, decide_eq_true_eq] at h
 exact ⟨h.1, h.2⟩
section
variable {H : Type} {enc : TypeId × Value → H} {P : Program} {w : World} {base fuel : Nat} {spare : Nat → Bool} {held : Bool} {t : TypeId} {cs : List Value} {fs : Array Field} {xs : List (DataW H × List MemPlace)}
theorem fld_i64 {n i : Nat} {f : Field} (hlen : xs.length = fs.size) (hf : ∀ (i : Nat) (f : Field), fs[i]? = some f → DataW.trod enc P w base spare held n f.type ((cs.drop f.offset).take (P.cellsOf f.type)) = xs[i]?) (hi : fs[i]? = some f) (ht : P.underlying f.type = some (.int .i64)) :
 ∃ m, (cs.drop f.offset).take (P.cellsOf f.type) = [.int .i64 m] ∧ I64 m := by
 have h := hf i f hi
 have hl : i < xs.length := by rw [hlen]; exact (Array.getElem?_eq_some_iff.1 hi).1
 rw [List.getElem?_eq_getElem hl] at h
 obtain ⟨m, e, _, hw⟩ := DataW.trod_int ht h
 exact ⟨m, e, i64_wf hw⟩
end
section
variable {H : Type} {enc : TypeId × Value → H} {w : World} {base fuel : Nat} {spare : Nat → Bool} {held : Bool} {cs : List Value} {x : DataW H × List MemPlace}
theorem trod_reqR (h : DataW.trod enc Tryz.prog w base spare held fuel 27 cs = some x) : ∃ (a b c d e : Int) (k v : ByteArray), cs = [.int .i64 a, .int .i64 b, .int .i64 c, .int .i64 d, .int .i64 e, .string k, .string v] ∧ I64 a ∧ I64 b ∧ I64 c ∧ I64 d ∧ I64 e := by
 obtain ⟨xs, n, _, rfl, hl, hlen, hf⟩ := DataW.trod_struct Tryz.underlying27 h
 rw [co_req] at hl
 obtain ⟨c0, c1, c2, c3, c4, c5, c6, rfl⟩ := list7 hl
 obtain ⟨m0, e0, r0⟩ := fld_i64 hlen hf (i := 0) rfl Tryz.underlying3
 obtain ⟨m1, e1, r1⟩ := fld_i64 hlen hf (i := 1) rfl Tryz.underlying3
 obtain ⟨m2, e2, r2⟩ := fld_i64 hlen hf (i := 2) rfl Tryz.underlying3
 obtain ⟨m3, e3, r3⟩ := fld_i64 hlen hf (i := 3) rfl Tryz.underlying3
 obtain ⟨m4, e4, r4⟩ := fld_i64 hlen hf (i := 4) rfl Tryz.underlying3
 obtain ⟨m5, e5⟩ := fld_str hlen hf (i := 5) rfl Tryz.underlying9
 obtain ⟨m6, e6⟩ := fld_str hlen hf (i := 6) rfl Tryz.underlying9
 simp [co_int, co_str] at e0 e1 e2 e3 e4 e5 e6
 subst e0 e1 e2 e3 e4 e5 e6
 exact ⟨_, _, _, _, _, _, _, rfl, r0, r1, r2, r3, r4⟩
theorem trod_actR (h : DataW.trod enc Tryz.prog w base spare held fuel 29 cs = some x) : ∃ a : ActD, cs = a.cells.toList ∧ ∀ k, -9223372036854775808 ≤ a.num k ∧ a.num k ≤ 9223372036854775807 := by
 obtain ⟨xs, n, _, rfl, hl, hlen, hf⟩ := DataW.trod_struct Tryz.underlying29 h
 rw [co_act] at hl
 obtain ⟨c0, c1, c2, c3, c4, c5, c6, c7, c8, c9, c10, rfl⟩ := list11 hl
 obtain ⟨m0, e0, r0⟩ := fld_i64 hlen hf (i := 0) rfl Tryz.underlying3
 obtain ⟨m1, e1, r1⟩ := fld_i64 hlen hf (i := 1) rfl Tryz.underlying3
 obtain ⟨m2, e2, r2⟩ := fld_i64 hlen hf (i := 2) rfl Tryz.underlying3
 obtain ⟨m3, e3, r3⟩ := fld_i64 hlen hf (i := 3) rfl Tryz.underlying3
 have hr := hf 4 _ rfl
 rw [List.getElem?_eq_getElem (by rw [hlen]; decide)] at hr
 obtain ⟨a, b, c, d, e, k, v, e4, ra, rb, rc, rd, re⟩ := trod_reqR hr
 simp [co_int, co_req] at e0 e1 e2 e3 e4
 obtain ⟨rfl, rfl, rfl, rfl, rfl, rfl, rfl⟩ := e4
 subst e0 e1 e2 e3
 refine ⟨⟨m0, m1, m2, m3, a, b, c, d, e, k.data.toList, v.data.toList⟩, by simp [ActD.cells], fun k => ?_⟩
 simp only [ActD.num]
 repeat' split
 all_goals assumption
theorem open_acts {r : Reach} {b0 : Nat} {v : Value} {d : DataW H} {p : List MemPlace} (hv : Value.okWide Tryz.prog w r b0 22 v) (h : DataW.Trod enc Tryz.prog w 0 spare held 22 v d p) :
 ∃ (A : Option Addr) (l : List ActD) (c : Nat), v = .slice A l.length c ∧ l.length ≤ c ∧ Rd w w.heap.size A (actsCells l) ∧ ∀ a ∈ l, ∀ k, -9223372036854775808 ≤ a.num k ∧ a.num k ≤ 9223372036854775807 := by
 obtain ⟨fuel, hfu⟩ := h
 obtain ⟨A0, n0, c0, rfl⟩ := okWide_slice Tryz.underlying22 hv
 rcases open_slice Tryz.underlying22 hfu with ⟨hcs, _⟩ | ⟨a, len, cap, m, n, D, Pl, hcs, _, hl, hm, hmm, _, hi⟩
 ·simp [Value.cells] at hcs
  obtain ⟨rfl, rfl, rfl⟩ := hcs
  exact ⟨none, [], 0, rfl, by simp, Rd.nil, by simp⟩
 ·simp [Value.cells] at hcs
  obtain ⟨rfl, rfl, rfl⟩ := hcs
  have hlm : n0 ≤ m := by rw [hmm]; split <;> omega
  have hex : ∀ i, i < n0 → ∃ x : ActD, (∀ j u, x.cells.toList[j]? = some u → w.cell? ((a.add (i * 11)).add j) = some u) ∧ ∀ k, -9223372036854775808 ≤ x.num k ∧ x.num k ≤ 9223372036854775807 := fun i him => by
   obtain ⟨cs', hc, ht'⟩ := hi i (by omega)
   obtain ⟨x, rfl, hx⟩ := trod_actR ht'
   rw [co_act] at hc
   obtain ⟨_, hsz, hat⟩ := World.cells?_some hc
   refine ⟨x, fun j u hu => ?_, hx⟩
   have hj := (List.getElem?_eq_some_iff.1 hu).1
   have h0 := hat j (by simpa [ActD.cells] using hj)
   rw [h0]
   simpa using hu
  obtain ⟨l, rfl, hc⟩ := list_of n0 (fun i (x : ActD) => (∀ j u, x.cells.toList[j]? = some u → w.cell? ((a.add (i * 11)).add j) = some u) ∧ ∀ k, -9223372036854775808 ≤ x.num k ∧ x.num k ≤ 9223372036854775807) hex
  refine ⟨some a, l, c0, rfl, hl, fun j u hu => ?_, fun x hx => ?_⟩
  ·have hlt := (List.getElem?_eq_some_iff.1 hu).1
   have hlen : (actsCells l).length = l.length * 11 := flat_len (fun a : ActD => a.cells.toList) 11 (fun _ => rfl) l
   have hq : j / 11 < l.length := by omega
   have hx := List.getElem?_eq_getElem hq
   have e := flat_at (fun a : ActD => a.cells.toList) 11 (fun _ => rfl) l (j / 11) (j % 11) _ hx (Nat.mod_lt _ (by omega))
   have hj : j / 11 * 11 + j % 11 = j := by omega
   rw [hj] at e
   have h1 := (hc _ _ hx).1 (j % 11) u (by rw [← e]; exact hu)
   rw [Addr.add_add, hj] at h1
   exact ⟨a, rfl, by have h2 := World.block_lt_of_cell? _ _ h1; rwa [block_add] at h2, h1⟩
  ·obtain ⟨i, hi', rfl⟩ := List.mem_iff_getElem.1 hx
   exact (hc i _ (List.getElem?_eq_getElem hi')).2
end
end Go.Proofs.YtcgcfeablbjnaaaGreatDoor
namespace Go.Proofs.YtcgcfeablbjnaaaGreatDoor
open Go.ChangeShapes Go.WideShapes Go.ChangeAt Go.RowKit
theorem laid_out : laidOutB Tryz.prog = true := by kernel_rfl
theorem own_knob : ownKnob Tryz.prog.godebug = none := by kernel_rfl
def laidList : List (String × DataW Unit) := [("math/bits.deBruijn32tab", Rows.laid_math_bits_deBruijn32tab), ("math/bits.deBruijn64tab", Rows.laid_math_bits_deBruijn64tab), ("internal/strconv.uint64pow10", Rows.laid_internal_strconv_uint64pow10)]
theorem gPow : Tryz.prog.globalNamed "internal/strconv.uint64pow10" = some 1 := by kernel_rfl
theorem gPowType : (Tryz.prog.globals[1]?).map (·.type) = some 181 := by kernel_rfl
theorem pow_of_laid {W : World} (h : laidMet Tryz.prog laidList W) : Lib.TabIs Tryz.prog W "internal/strconv.uint64pow10" .u64 Lib.pow10Tab := by
 obtain ⟨ps, ⟨_, _, _, _, _, _, _, _, _, _, ⟨_, _, _, _, _, _, _, _, _, _, ⟨g', t', cs, fuel, p, q, hg', ht', hvar, hd, _, _⟩, _⟩, _⟩, _⟩ := h
 obtain rfl := Option.some.inj (gPow.symm.trans hg')
 obtain rfl := Option.some.inj (gPowType.symm.trans ht')
 unfold Lib.TabIs
 rw [hvar, ← Lib.cells_of_tab (zs := Lib.pow10Tab) Tryz.underlying181 Tryz.underlying167 (by kernel_rfl) (by kernel_rfl) hd]
theorem env_of {W : World} (h : laidMetH Tryz.prog laidList W) (hs : W.ShapedOpen Tryz.prog) : Env W :=
 ⟨Go.Proofs.cell_of_shapedOpen_int (zero := #[.int .i64 0]) (t := 3) hs (of_decide_eq_true (by kernel_rfl)) (by kernel_rfl) rfl (by kernel_rfl) (by kernel_rfl) Tryz.underlying3, pow_of_laid h⟩
noncomputable def laidWorld (os : Os) : World := World.laidAll Tryz.prog os laidList
theorem laid_met (os : Os) (args : Array Value) : laidMet Tryz.prog laidList ((laidWorld os).forCall (fun _ _ => 0) ⟨#[], args, []⟩).memory :=
 laidMet_laidAll args (by kernel_rfl) (by kernel_rfl)
end Go.Proofs.YtcgcfeablbjnaaaGreatDoor
namespace Go.Proofs.YtcgcfeablbjnaaaGreatDoor
open Go.ChangeShapes Go.WideShapes Go.ChangeAt Go.RowKit
set_option maxRecDepth 100000
theorem formats_contract (H : Type) (enc : TypeId × Value → H) (W : World) (base : Nat) (args : Array Value) (ds gs : List (DataW H)) (before : List MemPlace)
 (hval : ∀ (j : Nat) t v, Tryz.f3.params[j]? = some t → args[j]? = some v → Value.okWide Tryz.prog W .any base t v)
 (hW : DataW.Whole enc Tryz.prog Tryz.f3.params.toList Rows.scriptFormatsSpec.vars false W args.toList ds gs before) (he : Env W) :
 Calls Tryz.prog 3 args W fun e W' => ∃ v, e = .returned v ∧ Rows.scriptFormatsSpec.post enc Tryz.prog Tryz.f3 false true false false W args v W' := by
 have fin : ∀ W', Below W.heap.size W W' → Rows.scriptFormatsSpec.post enc Tryz.prog Tryz.f3 false true false false W args (.bool true) W' := fun W' hb =>
  law_post laid_out (by kernel_rfl) (tb := 4) rfl Tryz.underlying4 rfl (fun xs hx => by
   match xs, hx with
   | [_, _, _, _], _ => rfl) hW hb
 obtain ⟨p, q, hA0, hV, rfl, hfz, hnd⟩ := hW
 have hA : DataW.TrodAll enc Tryz.prog W 0 (fun _ => true) true Tryz.f3.params.toList args.toList ds p := hA0
 rw [Tryz.params3] at hA hval
 obtain ⟨v0, vs0, d0, ds0, p0, q0, hargs0, rfl, rfl, h0, r0⟩ := trodAll_cons hA
 obtain ⟨v1, vs1, d1, ds1, p1, q1, hargs1, rfl, rfl, h1, r1⟩ := trodAll_cons r0
 obtain ⟨v2, vs2, d2, ds2, p2, q2, hargs2, rfl, rfl, h2, r2⟩ := trodAll_cons r1
 obtain ⟨v3, vs3, d3, ds3, p3, q3, hargs3, rfl, rfl, h3, r3⟩ := trodAll_cons r2
 obtain ⟨rfl, rfl, rfl⟩ := trodAll_nil r3
 subst hargs3
 subst hargs2
 subst hargs1
 obtain rfl : args = #[v0, v1, v2, v3] := by cases args; simp_all
 obtain ⟨Ar, ra, cr, rfl, hcap, hR, hnum⟩ := open_acts (hval 0 22 v0 rfl rfl) h0
 obtain ⟨Al, l, cl', rfl, _, _, hRl⟩ := open_i64s Tryz.underlying23 Tryz.underlying3 (by kernel_rfl) (hval 1 23 v1 rfl rfl) h1
 obtain ⟨pk, rfl, _, _⟩ := open_bool Tryz.underlying4 (hval 2 4 v2 rfl rfl) h2
 obtain ⟨Am, m, cm, rfl, _, _, hRm⟩ := open_i64s Tryz.underlying23 Tryz.underlying3 (by kernel_rfl) (hval 3 23 v3 rfl rfl) h3
 refine (lawFormats Ar cr ra Al cl' l pk Am cm m W he hnum hcap hR hRl hRm).mono fun e W' ⟨he, hb⟩ => ?_
 subst he
 exact ⟨_, rfl, fin W' hb⟩
theorem formats_reads (os : Os) {H : Type} (enc : TypeId × Value → H) : ∃ places, DataW.whole enc Tryz.prog ((laidWorld os).forCall (fun _ _ => 0) ⟨#[], #[.slice none 0 0, .slice none 0 0, .bool false, .slice none 0 0], []⟩).memory Tryz.f3.params.toList Rows.scriptFormatsSpec.vars false (#[.slice none 0 0, .slice none 0 0, .bool false, .slice none 0 0] : Array Value).toList 8 = some ([.nil, .nil, .lit (.bool false), .nil], [], places) :=
 ⟨[], by kernel_rfl⟩
set_option maxRecDepth 100000 in
theorem formats_lifted (os : Os) (started : os.Started) (H : Type) (enc : TypeId × Value → H) (F : Stop.Interp) :
 ReturnsInHanded {} Tryz.checked os 3 .any ((OpenSpec.ofChange Rows.scriptFormatsSpec).preRow enc Tryz.prog Tryz.f3 Rows.scriptFormatsRow.domain false Rows.scriptFormatsRow.laid) (((OpenSpec.ofChange Rows.scriptFormatsSpec).at F).post enc Tryz.prog Tryz.f3 false true false false) := by
 obtain ⟨places, hx⟩ := formats_reads os enc
 refine returnsInHanded_of_row (C := Tryz.checked) (s := OpenSpec.ofChange Rows.scriptFormatsSpec) own_knob started (by kernel_rfl) Tryz.func3
  (witness_row_at (enc := enc) (C := Tryz.checked) false (laidWorld os) #[.slice none 0 0, .slice none 0 0, .bool false, .slice none 0 0] (World.laidAll_os _ _ _) (by kernel_rfl) (by kernel_rfl) (by kernel_rfl)
   (OpenSpec.preRow_of_cond 8 hx (by kernel_rfl) (fun k hk => by cases hk) (by kernel_rfl) (laid_met os _))) ?_
 intro W base args ds gs before hval hW _ _ _ hL hS _
 exact formats_contract H enc W base args ds gs before hval hW (env_of hL hS)
theorem formats_said : Rows.ScriptFormatsSaid :=
 OpenClaim.holds_of_cond 3 Tryz.f3 rfl rfl rfl rfl rfl rfl rfl ⟨rfl, rfl, rfl, rfl, rfl⟩ rfl rfl rfl rfl rfl (by kernel_rfl) Tryz.func3 (by kernel_rfl)
  (of_decide_eq_true (by kernel_rfl)) (by unfold Func.isWrapper; first | (rw [if_pos (by decide +kernel)]; kernel_rfl) | (rw [if_neg (by decide +kernel)]; exact ⟨rfl, rfl⟩))
  (fun os started H enc _ F => by rw [OpenClaim.pre_eq_preRow]; exact formats_lifted os started H enc F)
theorem formats_plain (f : FuncId) (fn : Func) (hf : Tryz.pinned.checked.prog.funcNamed "cellplane/cellplanelaw44.ScriptFormats" = some f) (hfn : Tryz.pinned.checked.prog.funcs[f]? = some fn) :
 false = Tryz.pinned.checked.prog.looks [] ∧ ∀ (j : Nat) t, fn.params[j]? = some t → Tryz.pinned.checked.prog.wantsStandIn t = false := by
 obtain rfl : f = 3 := Option.some.inj ((show Tryz.prog.funcNamed "cellplane/cellplanelaw44.ScriptFormats" = some 3 by kernel_rfl).symm.trans hf) |>.symm
 obtain rfl : fn = Tryz.f3 := (Option.some.inj (Tryz.func3.symm.trans hfn)).symm
 refine ⟨by kernel_rfl, fun j t ht => ?_⟩
 have hall : Tryz.f3.params.toList.all (fun t => !Tryz.prog.wantsStandIn t) = true := by kernel_rfl
 have := List.all_eq_true.1 hall t (by simpa using Array.mem_of_getElem? ht)
 exact (show Tryz.prog.wantsStandIn t = false by simpa using this)
theorem formats_card : Rows.ScriptFormatsCardSaid :=
 Claim7.holds_tied_plain_at .later [] _ _ _ _ formats_said (fun _ h => by cases h) (by kernel_rfl) (fun _ h => by cases h) scriptFormats_row_tie rfl ⟨rfl, rfl⟩ (by kernel_rfl) rfl formats_plain (by kernel_rfl)
end Go.Proofs.YtcgcfeablbjnaaaGreatDoor
