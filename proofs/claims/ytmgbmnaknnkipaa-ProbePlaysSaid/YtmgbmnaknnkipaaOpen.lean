/- Arguments opened: slices of bools and of ints read as lists. -/
import Derived.Test.YtmgbmnaknnkipaaSlice
import Derived.Deep.Slices
import Derived.Lib.SmallJoins
import Derived.ChangeArms
namespace Go.Proofs.Ytmgbmnaknnkipaa
open Go.ChangeShapes Go.WideShapes Go.ChangeAt Go.RowKit Go.Deep Go.Joins

/-- A list out of what is known at each place. -/
theorem list_of {α : Type} : ∀ (n : Nat) (p : Nat → α → Prop), (∀ i, i < n → ∃ x, p i x) → ∃ l : List α, l.length = n ∧ ∀ i x, l[i]? = some x → p i x
  | 0, _, _ => ⟨[], rfl, by simp⟩
  | n + 1, p, h => by
    obtain ⟨l, hl, hc⟩ := list_of n p (fun i hi => h i (by omega))
    obtain ⟨x, hx⟩ := h n (by omega)
    refine ⟨l ++ [x], by simp [hl], fun i y hy => ?_⟩
    rcases Nat.lt_or_ge i l.length with h | h
    · rw [List.getElem?_append_left h] at hy; exact hc i y hy
    · rw [List.getElem?_append_right h] at hy
      have : i = l.length := by
        have := (List.getElem?_eq_some_iff.1 hy).1
        simp at this
        omega
      subst this
      simp at hy
      subst hy
      rw [hl]; exact hx

section
variable {H : Type} {enc : TypeId × Value → H} {P : Program} {W : World} {spare : Nat → Bool} {held : Bool}

/-- A slice argument whose elements are of one cell: its cells, and that each is some f x. -/
theorem open_list {α : Type} (f : α → Value) {t e : TypeId} {v : Value} {d : DataW H} {p : List MemPlace} (ht : P.underlying t = some (.slice e)) (hC : P.cellsOf e = 1)
    (hf : ∀ n cs (x : DataW H × List MemPlace), DataW.trod enc P W 0 spare held n e cs = some x → ∃ a, cs = [f a]) (h : DataW.Trod enc P W 0 spare held t v d p) (hv : ∃ A n c, v = .slice A n c) :
    ∃ (A : Option Addr) (l : List α) (c : Nat), v = .slice A l.length c ∧ l.length ≤ c ∧ c ≤ maxLen ∧ Rd W W.heap.size A (l.map f) := by
  obtain ⟨fuel, hfu⟩ := h
  obtain ⟨A0, n0, c0, rfl⟩ := hv
  rcases open_slice ht hfu with ⟨hcs, _⟩ | ⟨a, len, cap, m, n, D, Pl, hcs, _, hl, hm, hmm, _, hi⟩
  · simp [Value.cells] at hcs
    obtain ⟨rfl, rfl, rfl⟩ := hcs
    exact ⟨none, [], 0, rfl, by simp, by simp, Rd.nil⟩
  · simp [Value.cells] at hcs
    obtain ⟨rfl, rfl, rfl⟩ := hcs
    have hlm : n0 ≤ m := by rw [hmm]; split <;> omega
    have hex : ∀ i, i < n0 → ∃ x : α, W.cell? (a.add i) = some (f x) := fun i him => by
      obtain ⟨cs', hc, ht'⟩ := hi i (by omega)
      obtain ⟨x, rfl⟩ := hf n cs' _ ht'
      rw [hC, Nat.mul_one] at hc
      obtain ⟨_, _, hat⟩ := World.cells?_some hc
      have h0 := hat 0 (by omega)
      exact ⟨x, by simpa [Addr.add] using h0⟩
    obtain ⟨l, rfl, hc⟩ := list_of n0 (fun i x => W.cell? (a.add i) = some (f x)) hex
    refine ⟨some a, l, c0, rfl, hl, hm, fun j u hu => ?_⟩
    rw [List.getElem?_map] at hu
    obtain ⟨x, hx, rfl⟩ := Option.map_eq_some_iff.1 hu
    have := hc j x hx
    exact ⟨a, rfl, by have h1 := World.block_lt_of_cell? _ _ this; rwa [block_add] at h1, this⟩

theorem open_bools {t e : TypeId} {r : Reach} {b0 : Nat} {v : Value} {d : DataW H} {p : List MemPlace} (ht : P.underlying t = some (.slice e)) (he : P.underlying e = some .bool) (hC : P.cellsOf e = 1) (hv : Value.okWide P W r b0 t v) (h : DataW.Trod enc P W 0 spare held t v d p) :
    ∃ (A : Option Addr) (l : List Bool) (c : Nat), v = .slice A l.length c ∧ l.length ≤ c ∧ c ≤ maxLen ∧ Rd W W.heap.size A (l.map Value.bool) :=
  open_list Value.bool ht hC (fun n cs x hx => by obtain ⟨b, rfl, _⟩ := DataW.trod_bool he hx; exact ⟨b, rfl⟩) h (okWide_slice ht hv)

/-- An int within its bounds. -/
def I64 (x : Int) : Prop := -9223372036854775808 ≤ x ∧ x ≤ 9223372036854775807

theorem open_i64s {t e : TypeId} {r : Reach} {b0 : Nat} {v : Value} {d : DataW H} {p : List MemPlace} (ht : P.underlying t = some (.slice e)) (he : P.underlying e = some (.int .i64)) (hC : P.cellsOf e = 1) (hv : Value.okWide P W r b0 t v) (h : DataW.Trod enc P W 0 spare held t v d p) :
    ∃ (A : Option Addr) (l : List Int) (c : Nat), v = .slice A l.length c ∧ l.length ≤ c ∧ c ≤ maxLen ∧ Rd W W.heap.size A (l.map (Value.int .i64)) :=
  open_list (Value.int .i64) ht hC (fun n cs x hx => by obtain ⟨b, rfl, _⟩ := DataW.trod_int he hx; exact ⟨b, rfl⟩) h (okWide_slice ht hv)
end

theorem Try.own : ownKnob Try.prog.godebug = none := by kernel_rfl
theorem Try.laidOut : laidOutB Try.prog = true := by kernel_rfl

end Go.Proofs.Ytmgbmnaknnkipaa
