/- Contracts of script.Name and cellplaneref44.Name; the law ScriptNames without its awake. -/
import Derived.Test.YtcgcfeablbjnaaaDoorScrD
namespace Go.Proofs.YtcgcfeablbjnaaaDoor
open Go.RowKit Go.BigFrame

/-- The cells of the k-th of several elements of m cells each. -/
theorem flat_get {α : Type} (f : α → List Value) (m : Nat) (hm : ∀ x, (f x).length = m) : ∀ (l : List α) (k i : Nat), i < m → (l.flatMap f)[k * m + i]? = (l[k]?).bind fun x => (f x)[i]?
  | [], k, i, _ => by simp
  | x :: l, 0, i, h => by
    rw [List.flatMap_cons, List.getElem?_append_left (by rw [hm]; omega)]
    simp
  | x :: l, k + 1, i, h => by
    rw [List.flatMap_cons, List.getElem?_append_right (by rw [hm, Nat.succ_mul]; omega), hm, show (k + 1) * m + i - m = k * m + i by rw [Nat.succ_mul]; omega, flat_get f m hm l k i h]
    simp

theorem line_cell {w : World} {g : Nat} (h : Blk w g 48 lineCells) (k i : Nat) (hi : i < 4) (x : LineK) (hx : lineTab[k]? = some x) : w.cell? ⟨g, k * 4 + i, none⟩ = x.cells[i]? := by
  rw [h.cell]
  unfold lineCells
  rw [List.getElem?_toArray, flat_get LineK.cells 4 (fun _ => rfl) lineTab k i hi, hx]
  rfl

theorem find_hit {α : Type} (p : α → Bool) (l : List α) (k : Nat) (x : α) (h : (l.take k).find? p = none) (hx : l[k]? = some x) (hp : p x = true) : l.find? p = some x := by
  obtain ⟨hk, hx'⟩ := List.getElem?_eq_some_iff.1 hx
  have e : l.take k ++ x :: l.drop (k + 1) = l := by rw [← hx', ← List.drop_eq_getElem_cons hk, List.take_append_drop]
  rw [← e, List.find?_append, h]
  simp [hp]
theorem find_miss {α : Type} (p : α → Bool) (l : List α) (k : Nat) (x : α) (h : (l.take k).find? p = none) (hx : l[k]? = some x) (hp : p x = false) : (l.take (k + 1)).find? p = none := by
  obtain ⟨hk, rfl⟩ := List.getElem?_eq_some_iff.1 hx
  rw [List.take_succ_eq_append_getElem hk, List.find?_append, h]
  simp [hp]

/-- The name of a kind of acts, as the program finds it. -/
def nameOf (kind : Int) : List UInt8 := if kind = 2 then [114, 101, 113, 117, 101, 115, 116] else ((lineTab.find? fun x => x.kind == kind).map LineK.word).getD []

set_option maxHeartbeats 2000000 in
theorem name_any (kind : Int) (w : World) :
    Calls Tryd.prog 10 #[.int .i64 kind] w fun e w' => e = .returned (.string ⟨(nameOf kind).toArray⟩) ∧ Below w.heap.size w w' := by
  by_cases h2 : kind = 2
  · subst h2
    go_enter Tryd.func10, Tryd.ntmps10
    go_wp2_with fail
    go_ret
    exact ⟨rfl, Below.refl _ _⟩
  have h2' : (kind == 2) = false := by simp [h2]
  have HN := Lib.hid (show nameOf kind = ((lineTab.find? fun x => x.kind == kind).map LineK.word).getD [] by rw [nameOf, if_neg h2])
  clear h2
  go_enter Tryd.func10, Tryd.ntmps10
  go_wp2_with fail
  refine (lines_any _).mono ?_
  rintro e w1 ⟨rfl, rfl⟩
  go_wp2_with fail
  go_loopw [9] (fun i wr => ∃ k : Nat, k ≤ 22 ∧ i = .int .i64 k ∧ (lineTab.take k).find? (fun x => x.kind == kind) = none ∧ Blk wr w.heap.size 48 lineCells ∧ Below w.heap.size w wr) (fun i _ => 22 - (intOf i).toNat)
  case atStart => exact ⟨0, by omega, rfl, rfl, Blk.newAt _ _ _ _ rfl, (Below.refl _ _).alloc (Nat.le_refl _) _⟩
  case round =>
    obtain ⟨k, hk, rfl, hno, hbl, hbw⟩ := hrel
    have HNO := Lib.hid hno
    have HB := Lib.hid hbl
    have HBW := Lib.hid hbw
    clear hno hbl hbw
    by_cases hlt : k < 22
    · have hx : lineTab[k]? = some (lineTab[k]'(by simpa [lineTab] using hlt)) := List.getElem?_eq_getElem _
      generalize (lineTab[k]'(by simpa [lineTab] using hlt)) = x at hx
      have HX := Lib.hid hx
      have c0 := line_cell HB.out k 0 (by omega) x hx
      have c1 := line_cell HB.out k 1 (by omega) x hx
      have c2 := line_cell HB.out k 2 (by omega) x hx
      have c3 := line_cell HB.out k 3 (by omega) x hx
      simp only [LineK.cells, Nat.add_zero, List.getElem?_cons_zero, List.getElem?_cons_succ] at c0 c1 c2 c3
      clear hx
      go_wp2_with fail
      · have hp : (x.kind == kind) = true := by assumption
        go_ret
        exact ⟨ret_eq (by rw [HN.out, find_hit _ _ _ _ HNO.out HX.out hp]; rfl), HBW.out.alloc HBW.out.size _⟩
      · have hp : (x.kind == kind) = false := by assumption
        go_roundw
        case rel => exact ⟨k + 1, hlt, by go_num, find_miss _ _ _ _ HNO.out HX.out hp, HB.out.alloc _, HBW.out.alloc HBW.out.size _⟩
        case measure => simp [intOf]; omega
    · have e : k = 22 := by omega
      have HE := Lib.hid e
      clear e
      go_wp2_with fail
      go_ret
      refine ⟨ret_eq ?_, HBW.out⟩
      have := HNO.out
      rw [HE.out, List.take_of_length_le (by simp [lineTab])] at this
      rw [HN.out, this]
      rfl

/-- The names of the reference. -/
def refNames : List (List UInt8) := [[], [116, 105, 99, 107], [114, 101, 113, 117, 101, 115, 116], [102, 97, 105, 108], [114, 101, 115, 116, 97, 114, 116], [105, 115, 111, 108, 97, 116, 101], [106, 111, 105, 110], [114, 101, 112, 108, 105, 99, 97], [108, 111, 115, 101], [112, 117, 98, 108, 105, 115, 104], [112, 108, 97, 99, 101], [115, 116, 97, 110, 100, 98, 121], [109, 105, 103, 114, 97, 116, 101], [97, 98, 97, 110, 100, 111, 110], [101, 118, 97, 99, 117, 97, 116, 101], [114, 111, 108, 108, 111, 117, 116], [115, 116, 111, 112], [115, 99, 104, 101, 109, 97]]
def refNameCells : Array Value := (refNames.map fun l => Value.string ⟨l.toArray⟩).toArray
def refName (kind : Int) : List UInt8 := if kind < 0 then [] else refNames.getD kind.toNat []

theorem name_same (kind : Int) : nameOf kind = refName kind := by
  unfold refName
  by_cases h : 0 ≤ kind ∧ kind < 18
  · obtain ⟨n, rfl⟩ := Int.eq_ofNat_of_zero_le h.1
    have : ∀ n : Fin 18, nameOf (n.val : Int) = refNames.getD n.val [] := by decide +kernel
    have h1 := this ⟨n, by omega⟩
    rw [if_neg (by omega)]
    simpa using h1
  · have h2 : nameOf kind = [] := by
      unfold nameOf
      rw [if_neg (by omega)]
      have : lineTab.find? (fun x => x.kind == kind) = none := by
        rw [List.find?_eq_none]
        intro x hx
        have hb : ∀ x ∈ lineTab, 0 ≤ x.kind ∧ x.kind < 18 := by
          simp [lineTab]
        have := hb x hx
        simp
        omega
      rw [this]
      rfl
    rw [h2]
    split
    · rfl
    · rw [List.getD_eq_getElem?_getD, List.getElem?_eq_none (by simp [refNames]; omega)]
      rfl

set_option maxRecDepth 100000 in
set_option maxHeartbeats 2000000 in
theorem rname_any (kind : Int) (w : World) :
    Calls Tryd.prog 11 #[.int .i64 kind] w fun e w' => e = .returned (.string ⟨(refName kind).toArray⟩) ∧ Below w.heap.size w w' := by
  rcases (show kind < 0 ∨ (0 ≤ kind ∧ 18 ≤ kind) ∨ (0 ≤ kind ∧ kind < 18) by omega) with h | ⟨h0, h⟩ | ⟨h0, h⟩
  · have d1 : decide (kind < 0) = true := by simp; omega
    have HN := Lib.hid (show refName kind = [] by rw [refName, if_pos h])
    go_enter Tryd.func11, Tryd.ntmps11
    go_wp2_with fail
    go_ret
    exact ⟨ret_eq (by rw [HN.out]; rfl), (Below.refl _ _).alloc (Nat.le_refl _) _⟩
  · have d1 : decide (kind < 0) = false := by simp; omega
    have HN := Lib.hid (show refName kind = [] by rw [refName, if_neg (by omega), List.getD_eq_getElem?_getD, List.getElem?_eq_none (by simp [refNames]; omega)]; rfl)
    go_enter Tryd.func11, Tryd.ntmps11
    go_wp2_with fail
    go_ret
    exact ⟨ret_eq (by rw [HN.out]; rfl), (Below.refl _ _).alloc (Nat.le_refl _) _⟩
  · have d1 : decide (kind < 0) = false := by simp; omega
    obtain ⟨n, rfl⟩ := Int.eq_ofNat_of_zero_le h0
    have HN := Lib.hid (show refName (n : Int) = refNames.getD n [] by rw [refName, if_neg (by omega)]; simp)
    have hc : (w.alloc (.cells refNameCells 9)).cell? ⟨w.heap.size, n, none⟩ = some (.string ⟨(refNames.getD n []).toArray⟩) := by
      rw [(Blk.new w _ _).cell]
      have hn : n < refNames.length := by simp [refNames]; omega
      simp [refNameCells, hn, List.getD_eq_getElem?_getD]
    unfold refNameCells refNames at hc
    simp only [List.map_cons, List.map_nil] at hc
    go_enter Tryd.func11, Tryd.ntmps11
    go_wp2_with fail
    go_ret
    exact ⟨ret_eq (by rw [HN.out]; rfl), (Below.refl _ _).alloc (Nat.le_refl _) _⟩

end Go.Proofs.YtcgcfeablbjnaaaDoor
