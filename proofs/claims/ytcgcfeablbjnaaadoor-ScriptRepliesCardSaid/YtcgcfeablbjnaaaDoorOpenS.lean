/- Arguments opened: an act, a reply. -/
import Derived.Test.YtcgcfeablbjnaaaDoorScrJ
import Derived.ChangeArms
import Derived.OpenShut
import Derived.Deep.Slices
import Derived.Lib.SmallJoins
namespace Go.Proofs.YtcgcfeablbjnaaaDoor
open Go.ChangeShapes Go.WideShapes Go.ChangeAt Go.RowKit

theorem list4 {α : Type} : ∀ {l : List α}, l.length = 4 → ∃ c0 c1 c2 c3, l = [c0, c1, c2, c3]
  | [c0, c1, c2, c3], _ => ⟨c0, c1, c2, c3, rfl⟩
theorem list7 {α : Type} : ∀ {l : List α}, l.length = 7 → ∃ c0 c1 c2 c3 c4 c5 c6, l = [c0, c1, c2, c3, c4, c5, c6]
  | [c0, c1, c2, c3, c4, c5, c6], _ => ⟨c0, c1, c2, c3, c4, c5, c6, rfl⟩
theorem list11 {α : Type} : ∀ {l : List α}, l.length = 11 → ∃ c0 c1 c2 c3 c4 c5 c6 c7 c8 c9 c10, l = [c0, c1, c2, c3, c4, c5, c6, c7, c8, c9, c10]
  | [c0, c1, c2, c3, c4, c5, c6, c7, c8, c9, c10], _ => ⟨c0, c1, c2, c3, c4, c5, c6, c7, c8, c9, c10, rfl⟩

section
variable {H : Type} {enc : TypeId × Value → H} {P : Program} {w : World} {base fuel : Nat} {spare : Nat → Bool} {held : Bool} {t : TypeId} {cs : List Value} {fs : Array Field} {xs : List (DataW H × List MemPlace)}

theorem fld_int {n i : Nat} {f : Field} {k : IntKind} (hlen : xs.length = fs.size) (hf : ∀ (i : Nat) (f : Field), fs[i]? = some f → DataW.trod enc P w base spare held n f.type ((cs.drop f.offset).take (P.cellsOf f.type)) = xs[i]?) (hi : fs[i]? = some f) (ht : P.underlying f.type = some (.int k)) :
    ∃ m, (cs.drop f.offset).take (P.cellsOf f.type) = [.int k m] := by
  have h := hf i f hi
  have hl : i < xs.length := by rw [hlen]; exact (Array.getElem?_eq_some_iff.1 hi).1
  rw [List.getElem?_eq_getElem hl] at h
  obtain ⟨m, e, _⟩ := DataW.trod_int ht h
  exact ⟨m, e⟩
theorem fld_str {n i : Nat} {f : Field} (hlen : xs.length = fs.size) (hf : ∀ (i : Nat) (f : Field), fs[i]? = some f → DataW.trod enc P w base spare held n f.type ((cs.drop f.offset).take (P.cellsOf f.type)) = xs[i]?) (hi : fs[i]? = some f) (ht : P.underlying f.type = some .string) :
    ∃ s : ByteArray, (cs.drop f.offset).take (P.cellsOf f.type) = [.string s] := by
  have h := hf i f hi
  have hl : i < xs.length := by rw [hlen]; exact (Array.getElem?_eq_some_iff.1 hi).1
  rw [List.getElem?_eq_getElem hl] at h
  obtain ⟨m, e, _⟩ := DataW.trod_string ht h
  exact ⟨m, e⟩
end

section
variable {H : Type} {enc : TypeId × Value → H} {w : World} {base fuel : Nat} {spare : Nat → Bool} {held : Bool} {cs : List Value} {x : DataW H × List MemPlace}
theorem co_int : Tryd.prog.cellsOf 3 = 1 := by kernel_rfl
theorem co_str : Tryd.prog.cellsOf 9 = 1 := by kernel_rfl
theorem co_err : Tryd.prog.cellsOf 26 = 1 := by kernel_rfl
theorem co_req : Tryd.prog.cellsOf 23 = 7 := by kernel_rfl
theorem co_act : Tryd.prog.cellsOf 25 = 11 := by kernel_rfl
theorem co_rep : Tryd.prog.cellsOf 28 = 4 := by kernel_rfl

theorem trod_req (h : DataW.trod enc Tryd.prog w base spare held fuel 23 cs = some x) : ∃ (a b c d e : Int) (k v : ByteArray), cs = [.int .i64 a, .int .i64 b, .int .i64 c, .int .i64 d, .int .i64 e, .string k, .string v] := by
  obtain ⟨xs, n, _, rfl, hl, hlen, hf⟩ := DataW.trod_struct Tryd.underlying23 h
  rw [co_req] at hl
  obtain ⟨c0, c1, c2, c3, c4, c5, c6, rfl⟩ := list7 hl
  obtain ⟨m0, e0⟩ := fld_int hlen hf (i := 0) rfl Tryd.underlying3
  obtain ⟨m1, e1⟩ := fld_int hlen hf (i := 1) rfl Tryd.underlying3
  obtain ⟨m2, e2⟩ := fld_int hlen hf (i := 2) rfl Tryd.underlying3
  obtain ⟨m3, e3⟩ := fld_int hlen hf (i := 3) rfl Tryd.underlying3
  obtain ⟨m4, e4⟩ := fld_int hlen hf (i := 4) rfl Tryd.underlying3
  obtain ⟨m5, e5⟩ := fld_str hlen hf (i := 5) rfl Tryd.underlying9
  obtain ⟨m6, e6⟩ := fld_str hlen hf (i := 6) rfl Tryd.underlying9
  simp [co_int, co_str] at e0 e1 e2 e3 e4 e5 e6
  subst e0 e1 e2 e3 e4 e5 e6
  exact ⟨_, _, _, _, _, _, _, rfl⟩

theorem trod_act (h : DataW.trod enc Tryd.prog w base spare held fuel 25 cs = some x) : ∃ a : ActD, cs = a.cells.toList := by
  obtain ⟨xs, n, _, rfl, hl, hlen, hf⟩ := DataW.trod_struct Tryd.underlying25 h
  rw [co_act] at hl
  obtain ⟨c0, c1, c2, c3, c4, c5, c6, c7, c8, c9, c10, rfl⟩ := list11 hl
  obtain ⟨m0, e0⟩ := fld_int hlen hf (i := 0) rfl Tryd.underlying3
  obtain ⟨m1, e1⟩ := fld_int hlen hf (i := 1) rfl Tryd.underlying3
  obtain ⟨m2, e2⟩ := fld_int hlen hf (i := 2) rfl Tryd.underlying3
  obtain ⟨m3, e3⟩ := fld_int hlen hf (i := 3) rfl Tryd.underlying3
  have hr := hf 4 _ rfl
  rw [List.getElem?_eq_getElem (by rw [hlen]; decide)] at hr
  obtain ⟨a, b, c, d, e, k, v, e4⟩ := trod_req hr
  simp [co_int, co_req] at e0 e1 e2 e3 e4
  obtain ⟨rfl, rfl, rfl, rfl, rfl, rfl, rfl⟩ := e4
  subst e0 e1 e2 e3
  exact ⟨⟨m0, m1, m2, m3, a, b, c, d, e, k.data.toList, v.data.toList⟩, by simp [ActD.cells]⟩

theorem trod_rep (h : DataW.trod enc Tryd.prog w base spare held fuel 28 cs = some x) : ∃ (a b c : Int) (v : ByteArray), cs = [.int .i64 a, .int .i64 b, .int .i64 c, .string v] := by
  obtain ⟨xs, n, _, rfl, hl, hlen, hf⟩ := DataW.trod_struct Tryd.underlying28 h
  rw [co_rep] at hl
  obtain ⟨c0, c1, c2, c3, rfl⟩ := list4 hl
  obtain ⟨m0, e0⟩ := fld_int hlen hf (i := 0) rfl Tryd.underlying26
  obtain ⟨m1, e1⟩ := fld_int hlen hf (i := 1) rfl Tryd.underlying3
  obtain ⟨m2, e2⟩ := fld_int hlen hf (i := 2) rfl Tryd.underlying3
  obtain ⟨m3, e3⟩ := fld_str hlen hf (i := 3) rfl Tryd.underlying9
  simp [co_int, co_str, co_err] at e0 e1 e2 e3
  subst e0 e1 e2 e3
  exact ⟨_, _, _, _, rfl⟩

theorem open_act {r : Reach} {b0 : Nat} {v : Value} {d : DataW H} {p : List MemPlace} (hv : Value.okWide Tryd.prog w r b0 25 v) (h : DataW.Trod enc Tryd.prog w base spare held 25 v d p) : ∃ a : ActD, v = .agg a.cells := by
  obtain ⟨cs, rfl, hsz⟩ := okWide_struct Tryd.underlying25 hv
  obtain ⟨fuel, hf⟩ := h
  obtain ⟨a, ha⟩ := trod_act hf
  refine ⟨a, ?_⟩
  rw [show cs = a.cells by simpa [Value.cells] using ha]
theorem open_rep {r : Reach} {b0 : Nat} {v : Value} {d : DataW H} {p : List MemPlace} (hv : Value.okWide Tryd.prog w r b0 28 v) (h : DataW.Trod enc Tryd.prog w base spare held 28 v d p) : ∃ (a b c : Int) (s : ByteArray), v = repV a b c s := by
  obtain ⟨cs, rfl, hsz⟩ := okWide_struct Tryd.underlying28 hv
  obtain ⟨fuel, hf⟩ := h
  obtain ⟨a, b, c, s, ha⟩ := trod_rep hf
  refine ⟨a, b, c, s, ?_⟩
  rw [repV, show cs = #[.int .i64 a, .int .i64 b, .int .i64 c, .string s] by
    apply Array.toList_inj.1
    simpa [Value.cells] using ha]
end

end Go.Proofs.YtcgcfeablbjnaaaDoor
