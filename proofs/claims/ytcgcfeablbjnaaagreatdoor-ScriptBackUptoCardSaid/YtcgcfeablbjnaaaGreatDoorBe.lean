/- Parts of the proof that ScriptBack returns true for every input of bulk at most 1048576. -/
import Derived.Test.YtcgcfeablbjnaaaGreatDoorBb
set_option linter.unusedSimpArgs false
set_option linter.unusedVariables false
set_option maxRecDepth 100000
set_option maxHeartbeats 8000000
namespace Go.Proofs.YtcgcfeablbjnaaaGreatDoor
open Go.RowKit Go.BigFrame
def opNames : List (List UInt8) := [[], [103, 101, 116], [112, 117, 116], [100, 101, 108, 101, 116, 101], [112, 117, 115, 104], [116, 97, 107, 101], [100, 111, 110, 101]]
def opNameCells : Array Value := (opNames.map fun l => Value.string ⟨l.toArray⟩).toArray
def refWord (a : ActD) : List UInt8 := if a.kind = 2 then (if a.op < 0 then [] else opNames.getD a.op.toNat []) else refName a.kind
theorem word_any (a : ActD) (w : World) :
 Calls Tryz.prog 53 #[.agg a.cells] w fun e w' => e = .returned (.string ⟨(refWord a).toArray⟩) ∧ Below w.heap.size w w' := by
 have HCE := Lib.hid (show a.cells = #[.int .i64 a.kind, .int .i64 a.a, .int .i64 a.b, .int .i64 a.n, .int .i64 a.tenant, .int .i64 a.client, .int .i64 a.number, .int .i64 a.op, .int .i64 a.item, .string ⟨a.key.toArray⟩, .string ⟨a.value.toArray⟩] from rfl)
 rw [HCE.out]
 by_cases hk : a.kind = 2
 ·have b1 : (a.kind != 2) = false := by simp [hk]
  by_cases h0 : a.op < 0
  ·have HW := Lib.hid (show refWord a = [] by rw [refWord, if_pos hk, if_pos h0])
   have d1 : decide (a.op < 0) = true := decide_eq_true h0
   clear hk
   go_enter Tryz.func53, Tryz.ntmps53
   go_wp2_with fail
   go_ret
   rw [HW.out]
   exact ⟨rfl, ((Below.refl _ _).alloc (Nat.le_refl _) _).alloc (by simp) _⟩
  ·have d1 : decide (a.op < 0) = false := decide_eq_false h0
   by_cases h7 : 7 ≤ a.op
   ·have HW := Lib.hid (show refWord a = [] by
     rw [refWord, if_pos hk, if_neg h0, List.getD_eq_getElem?_getD, List.getElem?_eq_none (by simp [opNames]; omega)]
     rfl)
    have d2 : decide ((7 : Int) ≤ a.op) = true := decide_eq_true h7
    clear hk
    go_enter Tryz.func53, Tryz.ntmps53
    go_wp2_with fail
    go_ret
    rw [HW.out]
    exact ⟨rfl, ((Below.refl _ _).alloc (Nat.le_refl _) _).alloc (by simp) _⟩
   ·have d2 : decide ((7 : Int) ≤ a.op) = false := decide_eq_false h7
    obtain ⟨k, hk7, hke⟩ : ∃ k : Nat, k < 7 ∧ a.op = k := ⟨a.op.toNat, by omega, by omega⟩
    have HW := Lib.hid (show refWord a = opNames.getD k [] by rw [refWord, if_pos hk, if_neg h0, hke]; rfl)
    have hl : ∀ W : World, (W.alloc (.cells opNameCells 9)).cell? ⟨W.heap.size, k, none⟩ = some (.string ⟨(opNames.getD k []).toArray⟩) := fun W => by
     rw [(Blk.new W _ opNameCells).cell k]
     match k, hk7 with
     | 0, _ => rfl
     | 1, _ => rfl
     | 2, _ => rfl
     | 3, _ => rfl
     | 4, _ => rfl
     | 5, _ => rfl
     | 6, _ => rfl
     | n + 7, h => omega
    have HL := Lib.hid hl
    clear hk hl h0 h7
    generalize a.op = op at *
    subst hke
    go_enter Tryz.func53, Tryz.ntmps53
    have hl2 := HL.out (w.alloc (.cells #[.int .i64 a.kind, .int .i64 a.a, .int .i64 a.b, .int .i64 a.n, .int .i64 a.tenant, .int .i64 a.client, .int .i64 a.number, .int .i64 k, .int .i64 a.item, .string ⟨a.key.toArray⟩, .string ⟨a.value.toArray⟩] 29))
    go_wp2_with fail
    go_ret
    refine ⟨za8 ?_, ((Below.refl _ _).alloc (Nat.le_refl _) _).alloc (by simp) _⟩
    rw [HW.out]
    match k, hk7 with
    | 0, _ => rfl
    | 1, _ => rfl
    | 2, _ => rfl
    | 3, _ => rfl
    | 4, _ => rfl
    | 5, _ => rfl
    | 6, _ => rfl
    | n + 7, h => omega
 ·have b1 : (a.kind != 2) = true := by simp [hk]
  have HW := Lib.hid (show refWord a = refName a.kind by rw [refWord, if_neg hk])
  clear hk
  go_enter Tryz.func53, Tryz.ntmps53
  go_wp2_with fail
  refine (rname_any a.kind _).mono ?_
  rintro e w1 ⟨rfl, hb1⟩
  have HB := Lib.hid hb1
  clear hb1
  go_wp2_with fail
  go_ret
  rw [HW.out]
  exact ⟨rfl, ((Below.refl _ _).alloc (Nat.le_refl _) _).trans (HB.out.mono (by simp))⟩
def upOf (c : UInt8) : UInt8 := if c = 116 then 84 else if c = 99 then 67 else if c = 110 then 77 else if c = 105 then 73 else if c = 107 then 75 else if c = 118 then 86 else c
def shapeL : List (List UInt8) := [[], [78], [], [65], [65], [65], [65], [65, 78], [65], [65], [65, 66, 78], [65, 66], [65, 66], [65], [65, 78], [65, 66], [], [78]]
def shapeCells : Array Value := (shapeL.map fun l => Value.string ⟨l.toArray⟩).toArray
def shapeB (wd : List UInt8) (k : Nat) : Bool := decide (k ≠ 2) && decide (0 < k) && decide (refName k = wd)
theorem shape_plain : ∀ x ∈ lineTab, x.kind ≠ 2 → x.op = 0 ∧ (List.range 18).find? (shapeB x.word) = some x.kind.toNat ∧ shapeL.getD x.kind.toNat [] = x.letters.map upOf ∧ 0 ≤ x.kind ∧ x.kind ≤ 17 := by decide +kernel
theorem shape_other : ∀ x ∈ lineTab, x.kind ≠ 2 → x.word ≠ [103, 101, 116] ∧ x.word ≠ [112, 117, 116] ∧ x.word ≠ [100, 101, 108, 101, 116, 101] ∧ x.word ≠ [112, 117, 115, 104] ∧ x.word ≠ [116, 97, 107, 101] ∧ x.word ≠ [100, 111, 110, 101] := by decide +kernel
theorem shape_req : ∀ x ∈ lineTab, x.kind = 2 → (x.word = [103, 101, 116] ∧ x.op = 1 ∧ x.letters.map upOf = [65, 84, 67, 75]) ∨ (x.word = [112, 117, 116] ∧ x.op = 2 ∧ x.letters.map upOf = [65, 84, 67, 77, 75, 86]) ∨ (x.word = [100, 101, 108, 101, 116, 101] ∧ x.op = 3 ∧ x.letters.map upOf = [65, 84, 67, 77, 75]) ∨ (x.word = [112, 117, 115, 104] ∧ x.op = 4 ∧ x.letters.map upOf = [65, 84, 67, 77, 86]) ∨ (x.word = [116, 97, 107, 101] ∧ x.op = 5 ∧ x.letters.map upOf = [65, 84, 67]) ∨ (x.word = [100, 111, 110, 101] ∧ x.op = 6 ∧ x.letters.map upOf = [65, 84, 67, 77, 73]) := by decide +kernel
theorem shape_any (x : LineK) (hx : x ∈ lineTab) (w : World) :
 Calls Tryz.prog 54 #[.string ⟨x.word.toArray⟩] w fun e w' => e = .returned (.tuple #[.string ⟨(x.letters.map upOf).toArray⟩, .int .i64 x.kind, .int .i64 x.op]) ∧ Below w.heap.size w w' := by
 by_cases hk : x.kind = 2
 ·have h := shape_req x hx hk
  rw [hk]
  rcases h with ⟨h1, h2, h3⟩ | ⟨h1, h2, h3⟩ | ⟨h1, h2, h3⟩ | ⟨h1, h2, h3⟩ | ⟨h1, h2, h3⟩ | ⟨h1, h2, h3⟩
  all_goals
   rw [h1, h2, h3]
   clear h1 h2 h3 hk hx
   go_enter Tryz.func54, Tryz.ntmps54
   go_wp2_with fail
   go_ret3
   exact ⟨rfl, Below.refl _ _⟩
 ·obtain ⟨ho, hf, hl, hk0, hk1⟩ := shape_plain x hx hk
  obtain ⟨n1, n2, n3, n4, n5, n6⟩ := shape_other x hx hk
  obtain ⟨k, hke⟩ : ∃ k : Nat, x.kind = k := ⟨x.kind.toNat, by omega⟩
  rw [hke, Int.toNat_natCast] at hf hl
  rw [hke, ho, ← hl]
  rw [hke] at hk0 hk1
  have HF := Lib.hid hf
  generalize x.word = wd at *
  have e1 : (wd == [103, 101, 116]) = false := beq_eq_false_iff_ne.2 n1
  have e2 : (wd == [112, 117, 116]) = false := beq_eq_false_iff_ne.2 n2
  have e3 : (wd == [100, 101, 108, 101, 116, 101]) = false := beq_eq_false_iff_ne.2 n3
  have e4 : (wd == [112, 117, 115, 104]) = false := beq_eq_false_iff_ne.2 n4
  have e5 : (wd == [116, 97, 107, 101]) = false := beq_eq_false_iff_ne.2 n5
  have e6 : (wd == [100, 111, 110, 101]) = false := beq_eq_false_iff_ne.2 n6
  clear n1 n2 n3 n4 n5 n6 hf hl ho hke hk hx
  go_enter Tryz.func54, Tryz.ntmps54
  go_wp2_with fail
  have hfr := List.find?_range_eq_some.1 HF.out
  have HP := Lib.hid hfr.1
  have HQ := Lib.hid hfr.2.2
  clear hfr
  go_loopw [24] (fun i wr => ∃ j : Nat, j ≤ k ∧ i = .int .i64 j ∧ Blk wr w.heap.size 9 shapeCells ∧ Below w.heap.size w wr) (fun i _ => 18 - (intOf i).toNat)
  case atStart => exact ⟨0, by omega, rfl, Blk.new _ _ _, (Below.refl _ _).alloc (Nat.le_refl _) _⟩
  case round =>
   obtain ⟨j, hj, rfl, hb, hbw⟩ := hrel
   have HB := Lib.hid hb
   have HBW := Lib.hid hbw
   clear hb hbw
   have hj18 : j < 18 := by omega
   have d0 : decide ((j : Int) < 18) = true := decide_eq_true (by omega)
   have cj : wr.cell? ⟨w.heap.size, j, none⟩ = some (.string ⟨(shapeL.getD j []).toArray⟩) := by
    rw [HB.out.cell j]
    have hn : j < shapeL.length := by simp [shapeL]; omega
    simp [shapeCells, hn, List.getD_eq_getElem?_getD]
   by_cases hjk : j < k
   ·have hp : shapeB wd j = false := by have := HQ.out j hjk; simpa using this
    by_cases h2 : j = 2
    ·subst h2
     go_wp2_with fail
     go_roundw
     case rel => exact ⟨3, by omega, by go_num, HB.out, HBW.out⟩
     case measure => simp [intOf]
    ·by_cases h0 : j = 0
     ·subst h0
      go_wp2_with fail
      go_roundw
      case rel => exact ⟨1, by omega, by go_num, HB.out, HBW.out⟩
      case measure => simp [intOf]
     ·have b2 : ((j : Int) != 2) = true := by simp; omega
      have b0 : decide ((0 : Int) < (j : Int)) = true := decide_eq_true (by omega)
      have b0' : decide (0 < j) = true := decide_eq_true (by omega)
      have hne : refName j ≠ wd := by
       intro h
       rw [shapeB, decide_eq_true h2, decide_eq_true (by omega), decide_eq_true h] at hp
       cases hp
      have bn : (refName j == wd) = false := beq_eq_false_iff_ne.2 hne
      clear hp h2 h0 hne
      go_wp2_with fail
      refine (rname_any _ _).mono ?_
      rintro e w2 ⟨rfl, hb2⟩
      have HB2 := Lib.hid (HB.out.below hb2 HB.out.lt)
      have HBW2 := Lib.hid (HBW.out.trans (hb2.mono HBW.out.size))
      clear hb2
      go_wp2_with fail
      go_roundw
      case rel => exact ⟨j + 1, hjk, by go_num, HB2.out, HBW2.out⟩
      case measure => simp [intOf]; omega
   ·obtain rfl : j = k := by omega
    have hp : shapeB wd j = true := by simpa using HP.out
    simp only [shapeB, Bool.and_eq_true, decide_eq_true_eq] at hp
    obtain ⟨⟨h2, h0⟩, hn⟩ := hp
    have b2 : ((j : Int) != 2) = true := by simp; omega
    have b0 : decide ((0 : Int) < (j : Int)) = true := decide_eq_true (by omega)
    have b0' : decide (0 < j) = true := decide_eq_true (by omega)
    have bn : (refName j == wd) = true := beq_iff_eq.2 hn
    clear hn h2 h0
    go_wp2_with fail
    refine (rname_any _ _).mono ?_
    rintro e w2 ⟨rfl, hb2⟩
    have HBW2 := Lib.hid (HBW.out.trans (hb2.mono HBW.out.size))
    clear hb2
    go_wp2_with fail
    go_ret3
    exact ⟨rfl, HBW2.out⟩
def rfld (c : Int) : Nat := if (c == 65) = true then 1 else if (c == 66) = true then 2 else if (c == 78) = true then 3 else if (c == 84) = true then 4 else if (c == 67) = true then 5 else if (c == 77) = true then 6 else 8
theorem field_any (g : Nat) (c : Int) (w : World) : Calls Tryz.prog 56 #[.pointer (some ⟨g, 0, none⟩), .int .u8 c] w fun e w' => e = .returned (.pointer (some ⟨g, rfld c, none⟩)) ∧ w = w' := by
 go_enter Tryz.func56, Tryz.ntmps56
 go_wp2_with fail
 all_goals
  go_ret
  exact ⟨za8 (by simp [rfld, *]), rfl⟩
theorem letter_cases : ∀ x ∈ lineTab, ∀ c ∈ x.letters, (numCell c.toNat = some (rfld (upOf c).toNat) ∧ (upOf c).toNat ≠ 75 ∧ (upOf c).toNat ≠ 86) ∨ (numCell c.toNat = none ∧ txtCell c.toNat = 9 ∧ (upOf c).toNat = 75) ∨ (numCell c.toNat = none ∧ txtCell c.toNat = 10 ∧ (upOf c).toNat = 86) := by decide +kernel
theorem fill_kind (a : ActD) : ∀ (cs : List UInt8) (b : ActD), (fillOf a cs b).kind = b.kind ∧ (fillOf a cs b).op = b.op
 | [], b => ⟨rfl, rfl⟩
 | c :: cs, b => by
   rw [fillOf]
   have h := fill_kind a cs
   constructor
   ·rw [(h _).1]
    split <;> (first | (unfold ActD.setNum; repeat' split) | (unfold ActD.setTxt; split)) <;> rfl
   ·rw [(h _).2]
    split <;> (first | (unfold ActD.setNum; repeat' split) | (unfold ActD.setTxt; split)) <;> rfl
theorem fill_snoc (a : ActD) (c : UInt8) : ∀ (cs : List UInt8) (b : ActD), fillOf a (cs ++ [c]) b = (match numCell c.toNat with
 | some k => (fillOf a cs b).setNum k (a.num k)
 | none => (fillOf a cs b).setTxt (txtCell c.toNat) (a.txt (txtCell c.toNat)))
 | [], b => rfl
 | d :: cs, b => by rw [List.cons_append, fillOf, fill_snoc a c cs, fillOf]
theorem ranges_snoc (a : ActD) (cs : List UInt8) (c : UInt8) : rangesOk a (cs ++ [c]) = (rangesOk a cs && (match numCell c.toNat with | some k => decide (-999999999 ≤ a.num k) && decide (a.num k ≤ 999999999) | none => true)) := by
 cases h : numCell c.toNat <;> simp [rangesOk, h]
def lineTo (a : ActD) (x : LineK) (i : Nat) : List UInt8 := x.word ++ (x.letters.take i).flatMap fun c => 32 :: fldWord a c
theorem lineTo_succ (a : ActD) (x : LineK) (i : Nat) (h : i < x.letters.length) : lineTo a x (i + 1) = lineTo a x i ++ [32] ++ fldWord a x.letters[i] := by
 unfold lineTo
 rw [List.take_succ_eq_append_getElem h, List.flatMap_append]
 simp
theorem join_flat (wd : List UInt8) : ∀ l : List (List UInt8), Lib.join (wd :: l) [32] = wd ++ l.flatMap (fun x => 32 :: x)
 | [] => by simp [Lib.join]
 | y :: l => by
   have : Lib.join (wd :: y :: l) [32] = wd ++ [32] ++ Lib.join (y :: l) [32] := by simp [Lib.join]
   rw [this, join_flat y l]
   simp
theorem lineTo_end (a : ActD) (x : LineK) : lineTo a x x.letters.length ++ [10] = Lib.join (wordsFor a x) [32] ++ [10] := by
 unfold lineTo wordsFor
 rw [List.take_length, join_flat, List.flatMap_map]
theorem lineTo_len (a : ActD) (x : LineK) (hok : ActOk a) (hx : x ∈ lineTab) (i : Nat) (hi : i ≤ x.letters.length) : (lineTo a x i).length ≤ 10 + i * 2300001 := by
 induction i with
 | zero => have := (zde x hx).2; simp [lineTo]; omega
 | succ i ih =>
   have h1 := ih (by omega)
   have h2 := fldWord_len a hok x.letters[i]
   rw [lineTo_succ a x i (by omega), List.length_append, List.length_append, Nat.succ_mul]
   simp only [List.length_cons, List.length_nil]
   omega
theorem refWord_some (a : ActD) (x : LineK) (h : lineTab.find? (lineOf a) = some x) : refWord a = x.word ∧ x.kind = a.kind ∧ x.op = a.op := by
 have hx := List.mem_of_find?_eq_some h
 have hp := List.find?_some h
 simp only [lineOf, Bool.and_eq_true, decide_eq_true_eq] at hp
 obtain ⟨h1, h2⟩ := hp
 refine ⟨?_, h1, h2⟩
 have hall : ∀ x ∈ lineTab, (if x.kind = 2 then (if x.op < 0 then [] else opNames.getD x.op.toNat []) else refName x.kind) = x.word := by decide +kernel
 rw [refWord, ← h1, ← h2]
 exact hall x hx
theorem refWord_none (a : ActD) (h : lineTab.find? (lineOf a) = none) : refWord a = [] ∨ ∃ y ∈ lineTab, refWord a = y.word ∧ y.kind = a.kind ∧ y.op ≠ a.op := by
 have hn : ∀ x ∈ lineTab, x.kind = a.kind → x.op ≠ a.op := by
  intro x hx h1 h2
  have := List.find?_eq_none.1 h x hx
  simp [lineOf, h1, h2] at this
 unfold refWord
 by_cases hk : a.kind = 2
 ·left
  rw [if_pos hk]
  by_cases h0 : a.op < 0
  ·rw [if_pos h0]
  ·rw [if_neg h0]
   by_cases h7 : a.op < 7
   ·by_cases h1 : a.op = 0
    ·rw [h1]; rfl
    ·exfalso
     have hc : a.op = 1 ∨ a.op = 2 ∨ a.op = 3 ∨ a.op = 4 ∨ a.op = 5 ∨ a.op = 6 := by omega
     have hex : ∀ k : Fin 6, ∃ x ∈ lineTab, x.kind = 2 ∧ x.op = (k.val : Int) + 1 := by decide +kernel
     obtain ⟨x, hx, e1, e2⟩ := hex ⟨(a.op - 1).toNat, by omega⟩
     refine hn x hx (by rw [e1, hk]) (by rw [e2]; simp; omega)
   ·rw [List.getD_eq_getElem?_getD, List.getElem?_eq_none (by simp [opNames]; omega)]
    rfl
 ·rw [if_neg hk]
  by_cases hr : 0 ≤ a.kind ∧ a.kind < 18
  ·have hex : ∀ k : Fin 18, k.val ≠ 2 → refName (k.val : Int) = [] ∨ ∃ x ∈ lineTab, refName (k.val : Int) = x.word ∧ x.kind = (k.val : Int) := by decide +kernel
   have := hex ⟨a.kind.toNat, by omega⟩ (by simp; omega)
   simp only [show ((a.kind.toNat : Nat) : Int) = a.kind by omega] at this
   rcases this with h1 | ⟨x, hx, e1, e2⟩
   ·exact .inl h1
   ·exact .inr ⟨x, hx, e1, e2, hn x hx e2⟩
  ·left
   unfold refName
   split
   ·rfl
   ·rw [List.getD_eq_getElem?_getD, List.getElem?_eq_none (by simp [refNames]; omega)]
    rfl
theorem word_ne : ∀ x ∈ lineTab, x.word ≠ [] := by decide +kernel
theorem ranges_false (a : ActD) (cs : List UInt8) (k : Nat) (h : rangesOk a (cs.take k) = false) : rangesOk a cs = false := by
 cases h1 : rangesOk a cs with
 | false => rfl
 | true =>
   have : rangesOk a (cs.take k) = true := by
    unfold rangesOk at h1 ⊢
    rw [List.all_eq_true] at h1 ⊢
    exact fun c hc => h1 c (List.mem_of_mem_take hc)
   rw [this] at h
   cases h
def RefLine (a : ActD) (w : World) (e : Ending) (w' : World) : Prop := ∃ (s : List UInt8) (b : Bool), e = .returned (.tuple #[.string ⟨s.toArray⟩, .bool b]) ∧ b = (writeRes a).2 ∧ (b = true → s = lineText a) ∧ Below w.heap.size w w'
theorem line_some (a : ActD) (y : LineK) (hy : y ∈ lineTab) (hw : refWord a = y.word) (hk : y.kind = a.kind) (w : World) (hok : ActOk a) :
 Calls Tryz.prog 27 #[.agg a.cells] w fun e w' => ∃ (s : List UInt8) (b : Bool), e = .returned (.tuple #[.string ⟨s.toArray⟩, .bool b]) ∧ b = (rangesOk a y.letters && sameAct (fillOf a y.letters { ActD.zero with kind := y.kind, op := y.op }) a) ∧ (b = true → s = Lib.join (wordsFor a y) [32] ++ [10]) ∧ Below w.heap.size w w' := by
 have HCE := Lib.hid (show a.cells = #[.int .i64 a.kind, .int .i64 a.a, .int .i64 a.b, .int .i64 a.n, .int .i64 a.tenant, .int .i64 a.client, .int .i64 a.number, .int .i64 a.op, .int .i64 a.item, .string ⟨a.key.toArray⟩, .string ⟨a.value.toArray⟩] from rfl)
 have HW := Lib.hid hw
 have HY := Lib.hid hy
 have HK := Lib.hid hk
 have hwe : (y.word == []) = false := beq_eq_false_iff_ne.2 (word_ne y hy)
 have hwe2 : y.word.isEmpty = false := by have := word_ne y hy; cases h : y.word <;> simp_all
 clear hw hy hk
 rw [HCE.out]
 go_enter Tryz.func27, Tryz.ntmps27
 have HA0 := Lib.hid (Blk.new w 29 a.cells)
 go_wp2_with fail
 refine (word_any a _).mono ?_
 rintro e w1 ⟨rfl, hb1⟩
 rw [HW.out]
 have HA1 := Lib.hid (show Blk w1 w.heap.size 29 a.cells from HA0.out.below hb1 (by simp))
 have HB1 := Lib.hid (show Below w.heap.size w w1 from ((Below.refl _ _).alloc (Nat.le_refl _) _).trans (hb1.mono (by simp)))
 have hs1 : w.heap.size + 1 ≤ w1.heap.size := by have := hb1.size; simpa using this
 clear hb1
 go_wp2_with fail
 refine (shape_any y HY.out _).mono ?_
 rintro e w2 ⟨rfl, hb2⟩
 have HA2 := Lib.hid (HA1.out.below hb2 (by omega))
 have HB2 := Lib.hid (HB1.out.trans (hb2.mono HB1.out.size))
 have hs2 : w.heap.size + 1 ≤ w2.heap.size := by have := hb2.size; omega
 clear hb2
 have HUL := Lib.hid (show (⟨(y.letters.map upOf).toArray⟩ : ByteArray).size = y.letters.length by rw [zcw, List.length_map])
 have HUI := Lib.hid (show ∀ i (h : i < y.letters.length) (h' : i < (⟨(y.letters.map upOf).toArray⟩ : ByteArray).size), (⟨(y.letters.map upOf).toArray⟩ : ByteArray)[i] = upOf y.letters[i] from fun i h h' => by show (y.letters.map upOf).toArray[i]'_ = _; simp)
 generalize (⟨(y.letters.map upOf).toArray⟩ : ByteArray) = ul at *
 go_wp2_with fail
 go_loopw [4, 9] (fun s i wr => ∃ k : Nat, k ≤ y.letters.length ∧ i = .int .i64 k ∧ s = .string ⟨(lineTo a y k).toArray⟩ ∧ rangesOk a (y.letters.take k) = true ∧ Blk wr w.heap.size 29 a.cells ∧ Blk wr w2.heap.size 29 (fillOf a (y.letters.take k) { ActD.zero with kind := y.kind, op := y.op }).cells ∧ Below w.heap.size w wr) (fun _ i _ => y.letters.length - (intOf i).toNat)
 case atStart =>
  refine ⟨0, by omega, rfl, by simp [lineTo], rfl, HA2.out.alloc _, Blk.newAt _ _ _ _ rfl, HB2.out.alloc HB2.out.size _⟩
 case round =>
  obtain ⟨k, hk, rfl, rfl, hrg, hA, hF, hbw⟩ := hrel
  have HRG := Lib.hid hrg
  have HA := Lib.hid hA
  have HF := Lib.hid hF
  have HBW := Lib.hid hbw
  have hsw := HF.out.lt
  clear hrg hA hF hbw
  have hulen : ul.size = y.letters.length := HUL.out
  by_cases hlt : k < y.letters.length
  ·have hlt' : k < ul.size := by omega
   have d0 : decide (k < ul.size) = true := decide_eq_true hlt'
   have hul : ul[k] = upOf y.letters[k] := HUI.out k hlt hlt'
   have hll := lineTo_len a y hok HY.out k hk
   have hk6 := (zde y HY.out).1
   have z1 := fun W => zc6 Tryz.prog (lineTo a y k) [32] (by simp only [List.length_cons, List.length_nil]; omega) W
   clear hulen
   rcases letter_cases y HY.out y.letters[k] (List.getElem_mem hlt) with ⟨hn, h75, h86⟩ | ⟨hn, ht, hu⟩ | ⟨hn, ht, hu⟩
   ·obtain ⟨kk, hkk⟩ : ∃ kk, kk = rfld (upOf y.letters[k]).toNat := ⟨_, rfl⟩
    rw [← hkk] at hn
    have hin := numCell_in hn
    have b1 : ((ul[k].toNat : Int) == 75) = false := beq_eq_false_iff_ne.2 (by rw [hul]; omega)
    have b2 : ((ul[k].toNat : Int) == 86) = false := beq_eq_false_iff_ne.2 (by rw [hul]; omega)
    have HFW := Lib.hid (show fldWord a y.letters[k] = Lib.itoa (a.num kk) by rw [fldWord, hn])
    have HFS := Lib.hid (show fillOf a (y.letters.take (k + 1)) { ActD.zero with kind := y.kind, op := y.op } = (fillOf a (y.letters.take k) { ActD.zero with kind := y.kind, op := y.op }).setNum kk (a.num kk) by
     rw [List.take_succ_eq_append_getElem hlt, fill_snoc, hn])
    have HRS := Lib.hid (show rangesOk a (y.letters.take (k + 1)) = (decide (-999999999 ≤ a.num kk) && decide (a.num kk ≤ 999999999)) by
     rw [List.take_succ_eq_append_getElem hlt, ranges_snoc, HRG.out, hn]
     simp)
    have HIN := Lib.hid hin
    have HKK := Lib.hid (show rfld (ul[k].toNat : Int) = kk by rw [hul, hkk])
    clear hn h75 h86 hin hkk hul
    have ca := act_num HA.out HIN.out
    have cb := act_num HF.out HIN.out
    have fb := HF.out.free kk
    have hne : w.heap.size ≠ w2.heap.size := by omega
    go_wp2_with fail
    refine (field_any _ _ _).mono ?_
    rintro e w3 ⟨rfl, rfl⟩
    rw [HKK.out]
    by_cases hr1 : a.num kk < -999999999
    ·have e1 : decide (a.num kk < -999999999) = true := decide_eq_true hr1
     go_wp2_with fail
     go_ret2
     refine ⟨[], false, rfl, ?_, (fun h => by cases h), HBW.out⟩
     rw [ranges_false a y.letters (k + 1) (by rw [HRS.out, decide_eq_false (by omega)]; rfl)]
     rfl
    ·have e1 : decide (a.num kk < -999999999) = false := decide_eq_false hr1
     by_cases hr2 : 999999999 < a.num kk
     ·have e2 : decide (999999999 < a.num kk) = true := decide_eq_true hr2
      go_wp2_with fail
      go_ret2
      refine ⟨[], false, rfl, ?_, (fun h => by cases h), HBW.out⟩
      rw [ranges_false a y.letters (k + 1) (by rw [HRS.out, decide_eq_false (show ¬ a.num kk ≤ 999999999 by omega), Bool.and_false])]
      rfl
     ·have e2 : decide (999999999 < a.num kk) = false := decide_eq_false hr2
      have HRT := Lib.hid (show rangesOk a (y.letters.take (k + 1)) = true by rw [HRS.out, decide_eq_true (show -999999999 ≤ a.num kk by omega), decide_eq_true (show a.num kk ≤ 999999999 by omega)]; rfl)
      have z2 := fun W => zc6 Tryz.prog (lineTo a y k ++ [32]) (Lib.itoa (a.num kk)) (by have := Lib.itoa_length_le (a.num kk) (by omega) (by omega); rw [List.length_append]; simp only [List.length_cons, List.length_nil]; omega) W
      rw [← HFW.out, ← lineTo_succ a y k hlt, HFW.out] at z2
      go_wp2_with fail
      refine (field_any _ _ _).mono ?_
      rintro e w3 ⟨rfl, rfl⟩
      rw [HKK.out]
      go_wp2_with fail
      have HA5 := Lib.hid (show Blk (wr.setCell ⟨w2.heap.size, kk, none⟩ (.int .i64 (a.num kk))) w.heap.size 29 a.cells from HA.out.far (by simp; omega) _)
      have HF5 := Lib.hid (show Blk (wr.setCell ⟨w2.heap.size, kk, none⟩ (.int .i64 (a.num kk))) w2.heap.size 29 (fillOf a (y.letters.take (k + 1)) { ActD.zero with kind := y.kind, op := y.op }).cells by rw [HFS.out, setNum_cells _ _ _ HIN.out]; exact HF.out.put kk _)
      have HB5 := Lib.hid (show Below w.heap.size w (wr.setCell ⟨w2.heap.size, kk, none⟩ (.int .i64 (a.num kk))) from HBW.out.setCell (by simp; omega) _)
      clear ca cb fb
      generalize wr.setCell ⟨w2.heap.size, kk, none⟩ (.int .i64 (a.num kk)) = w5 at *
      refine (rnum_below (a.num kk) ⟨by omega, by omega⟩ _).mono ?_
      rintro e w6 ⟨rfl, hb6⟩
      have HA6 := Lib.hid (HA5.out.below hb6 HA5.out.lt)
      have HF6 := Lib.hid (HF5.out.below hb6 HF5.out.lt)
      have HB6 := Lib.hid (HB5.out.trans (hb6.mono HB5.out.size))
      clear hb6
      go_wp2_with fail
      go_roundw
      case rel => exact ⟨k + 1, hlt, by go_num, rfl, HRT.out, HA6.out, HF6.out, HB6.out⟩
      case measure => simp [intOf]; omega
   ·have b1 : ((ul[k].toNat : Int) == 75) = true := by rw [hul, hu]; rfl
    have b2 : ((ul[k].toNat : Int) == 86) = false := by rw [hul, hu]; rfl
    have HFW := Lib.hid (show fldWord a y.letters[k] = txtOf a.key by rw [fldWord, hn]; simp only [ht]; rfl)
    have HFS := Lib.hid (show fillOf a (y.letters.take (k + 1)) { ActD.zero with kind := y.kind, op := y.op } = (fillOf a (y.letters.take k) { ActD.zero with kind := y.kind, op := y.op }).setTxt 9 a.key by
     rw [List.take_succ_eq_append_getElem hlt, fill_snoc, hn]
     simp only [ht]
     rfl)
    have HRS := Lib.hid (show rangesOk a (y.letters.take (k + 1)) = true by
     rw [List.take_succ_eq_append_getElem hlt, ranges_snoc, HRG.out, hn]
     rfl)
    clear hn ht hu hul
    have ca : wr.cell? ⟨w.heap.size, 9, none⟩ = some (.string ⟨a.key.toArray⟩) := HA.out.cell 9
    have cb : wr.cell? ⟨w2.heap.size, 9, none⟩ = some (.string ⟨((fillOf a (y.letters.take k) { ActD.zero with kind := y.kind, op := y.op }).txt 9).toArray⟩) := act_txt HF.out (by simp)
    have fb := HF.out.free 9
    have hne : w.heap.size ≠ w2.heap.size := by omega
    have z2 := fun W => zc6 Tryz.prog (lineTo a y k ++ [32]) (txtOf a.key) (by have := txtOf_len a.key; have := hok.key; rw [List.length_append]; simp only [List.length_cons, List.length_nil]; omega) W
    rw [← HFW.out, ← lineTo_succ a y k hlt, HFW.out] at z2
    go_wp2_with fail
    have HA5 := Lib.hid (show Blk (wr.setCell ⟨w2.heap.size, 9, none⟩ (.string ⟨a.key.toArray⟩)) w.heap.size 29 a.cells from HA.out.far (by simp; omega) _)
    have HF5 := Lib.hid (show Blk (wr.setCell ⟨w2.heap.size, 9, none⟩ (.string ⟨a.key.toArray⟩)) w2.heap.size 29 (fillOf a (y.letters.take (k + 1)) { ActD.zero with kind := y.kind, op := y.op }).cells by rw [HFS.out, setTxt_cells _ _ _ (by simp)]; exact HF.out.put 9 _)
    have HB5 := Lib.hid (show Below w.heap.size w (wr.setCell ⟨w2.heap.size, 9, none⟩ (.string ⟨a.key.toArray⟩)) from HBW.out.setCell (by simp; omega) _)
    clear ca cb fb
    generalize wr.setCell ⟨w2.heap.size, 9, none⟩ (.string ⟨a.key.toArray⟩) = w5 at *
    refine (written_any ⟨a.key.toArray⟩ _ (by have := hok.key; rw [zcw]; omega)).mono ?_
    rintro e w6 ⟨rfl, hb6⟩
    have HA6 := Lib.hid (HA5.out.below hb6 HA5.out.lt)
    have HF6 := Lib.hid (HF5.out.below hb6 HF5.out.lt)
    have HB6 := Lib.hid (HB5.out.trans (hb6.mono HB5.out.size))
    clear hb6
    go_wp2_with fail
    go_roundw
    case rel => exact ⟨k + 1, hlt, by go_num, rfl, HRS.out, HA6.out, HF6.out, HB6.out⟩
    case measure => simp [intOf]; omega
   ·have b1 : ((ul[k].toNat : Int) == 75) = false := by rw [hul, hu]; rfl
    have b2 : ((ul[k].toNat : Int) == 86) = true := by rw [hul, hu]; rfl
    have HFW := Lib.hid (show fldWord a y.letters[k] = txtOf a.value by rw [fldWord, hn]; simp only [ht]; rfl)
    have HFS := Lib.hid (show fillOf a (y.letters.take (k + 1)) { ActD.zero with kind := y.kind, op := y.op } = (fillOf a (y.letters.take k) { ActD.zero with kind := y.kind, op := y.op }).setTxt 10 a.value by
     rw [List.take_succ_eq_append_getElem hlt, fill_snoc, hn]
     simp only [ht]
     rfl)
    have HRS := Lib.hid (show rangesOk a (y.letters.take (k + 1)) = true by
     rw [List.take_succ_eq_append_getElem hlt, ranges_snoc, HRG.out, hn]
     rfl)
    clear hn ht hu hul
    have ca : wr.cell? ⟨w.heap.size, 10, none⟩ = some (.string ⟨a.value.toArray⟩) := HA.out.cell 10
    have cb : wr.cell? ⟨w2.heap.size, 10, none⟩ = some (.string ⟨((fillOf a (y.letters.take k) { ActD.zero with kind := y.kind, op := y.op }).txt 10).toArray⟩) := act_txt HF.out (by simp)
    have fb := HF.out.free 10
    have hne : w.heap.size ≠ w2.heap.size := by omega
    have z2 := fun W => zc6 Tryz.prog (lineTo a y k ++ [32]) (txtOf a.value) (by have := txtOf_len a.value; have := hok.value; rw [List.length_append]; simp only [List.length_cons, List.length_nil]; omega) W
    rw [← HFW.out, ← lineTo_succ a y k hlt, HFW.out] at z2
    go_wp2_with fail
    have HA5 := Lib.hid (show Blk (wr.setCell ⟨w2.heap.size, 10, none⟩ (.string ⟨a.value.toArray⟩)) w.heap.size 29 a.cells from HA.out.far (by simp; omega) _)
    have HF5 := Lib.hid (show Blk (wr.setCell ⟨w2.heap.size, 10, none⟩ (.string ⟨a.value.toArray⟩)) w2.heap.size 29 (fillOf a (y.letters.take (k + 1)) { ActD.zero with kind := y.kind, op := y.op }).cells by rw [HFS.out, setTxt_cells _ _ _ (by simp)]; exact HF.out.put 10 _)
    have HB5 := Lib.hid (show Below w.heap.size w (wr.setCell ⟨w2.heap.size, 10, none⟩ (.string ⟨a.value.toArray⟩)) from HBW.out.setCell (by simp; omega) _)
    clear ca cb fb
    generalize wr.setCell ⟨w2.heap.size, 10, none⟩ (.string ⟨a.value.toArray⟩) = w5 at *
    refine (written_any ⟨a.value.toArray⟩ _ (by have := hok.value; rw [zcw]; omega)).mono ?_
    rintro e w6 ⟨rfl, hb6⟩
    have HA6 := Lib.hid (HA5.out.below hb6 HA5.out.lt)
    have HF6 := Lib.hid (HF5.out.below hb6 HF5.out.lt)
    have HB6 := Lib.hid (HB5.out.trans (hb6.mono HB5.out.size))
    clear hb6
    go_wp2_with fail
    go_roundw
    case rel => exact ⟨k + 1, hlt, by go_num, rfl, HRS.out, HA6.out, HF6.out, HB6.out⟩
    case measure => simp [intOf]; omega
  ·have hke : k = y.letters.length := by omega
   have d0 : decide (k < ul.size) = false := decide_eq_false (by omega)
   subst hke
   rw [List.take_length] at HRG HF
   have hll := lineTo_len a y hok HY.out _ hk
   have hk6 := (zde y HY.out).1
   have z1 := fun W => zc6 Tryz.prog (lineTo a y y.letters.length) [10] (by simp only [List.length_cons, List.length_nil]; omega) W
   obtain ⟨b, hb⟩ : ∃ b, fillOf a y.letters { ActD.zero with kind := y.kind, op := y.op } = b := ⟨_, rfl⟩
   rw [hb] at HF
   have HBE := Lib.hid hb
   clear hb hulen
   obtain ⟨a0, a1, a2, a3, a4, a5, a6, a7, a8, a9, a10⟩ := zcz HA.out
   obtain ⟨b0, b1, b2, b3, b4, b5, b6, b7, b8, b9, b10⟩ := zcz HF.out
   have hq := fun W => run_eqAct b a W
   simp only [ActD.cells] at hq
   go_wp2_with fail
   go_quiet (fail)
   go_wp2_with fail
   go_ret2
   refine ⟨lineTo a y y.letters.length ++ [10], sameAct b a, rfl, ?_, fun _ => lineTo_end a y, zay HBW.out _⟩
   rw [HRG.out, HBE.out]
   rfl
theorem sameAct_comm (a b : ActD) : sameAct a b = sameAct b a := by
 rw [Bool.eq_iff_iff, zcp, zcp]
 exact eq_comm
theorem line_none (a : ActD) (hw : refWord a = []) (w : World) :
 Calls Tryz.prog 27 #[.agg a.cells] w fun e w' => e = .returned (.tuple #[.string ⟨#[]⟩, .bool false]) ∧ Below w.heap.size w w' := by
 have HCE := Lib.hid (show a.cells = #[.int .i64 a.kind, .int .i64 a.a, .int .i64 a.b, .int .i64 a.n, .int .i64 a.tenant, .int .i64 a.client, .int .i64 a.number, .int .i64 a.op, .int .i64 a.item, .string ⟨a.key.toArray⟩, .string ⟨a.value.toArray⟩] from rfl)
 have HW := Lib.hid hw
 clear hw
 rw [HCE.out]
 go_enter Tryz.func27, Tryz.ntmps27
 go_wp2_with fail
 refine (word_any a _).mono ?_
 rintro e w1 ⟨rfl, hb1⟩
 rw [HW.out]
 have HB1 := Lib.hid (show Below w.heap.size w w1 from ((Below.refl _ _).alloc (Nat.le_refl _) _).trans (hb1.mono (by simp)))
 clear hb1
 go_wp2_with fail
 go_ret2
 exact ⟨rfl, HB1.out⟩
theorem line_any (a : ActD) (w : World) (hok : ActOk a) : Calls Tryz.prog 27 #[.agg a.cells] w (RefLine a w) := by
 cases h : lineTab.find? (lineOf a) with
 | some x =>
   obtain ⟨h1, h2, h3⟩ := refWord_some a x h
   refine (line_some a x (List.mem_of_find?_eq_some h) h1 h2 w hok).mono ?_
   rintro e w' ⟨s, b, he, hb, hs, hbw⟩
   have hwr : writeRes a = (wordsFor a x, rangesOk a x.letters && sameAct a (fillOf a x.letters { ActD.zero with kind := x.kind, op := x.op })) := by rw [writeRes_eq, h]
   refine ⟨s, b, he, ?_, fun hbt => ?_, hbw⟩
   ·rw [hb, hwr, sameAct_comm]
   ·rw [hs hbt, lineText, hwr]
 | none =>
   have hwr : (writeRes a).2 = false := by rw [writeRes_eq, h]
   rcases refWord_none a h with h1 | ⟨y, hy, h1, h2, h3⟩
   ·refine (line_none a h1 w).mono ?_
    rintro e w' ⟨he, hbw⟩
    exact ⟨[], false, he, hwr.symm, (fun h => by cases h), hbw⟩
   ·refine (line_some a y hy h1 h2 w hok).mono ?_
    rintro e w' ⟨s, b, he, hb, hs, hbw⟩
    have hbf : b = false := by
     rw [hb]
     cases hsa : sameAct (fillOf a y.letters { ActD.zero with kind := y.kind, op := y.op }) a with
     | false => rw [Bool.and_false]
     | true =>
       exfalso
       have := (zcp _ _).1 hsa
       have h4 := (fill_kind a y.letters { ActD.zero with kind := y.kind, op := y.op }).2
       rw [this] at h4
       exact h3 h4.symm
    subst hbf
    exact ⟨s, false, he, hwr.symm, (fun h => by cases h), hbw⟩
theorem rformat_any (A : Option Addr) (c : Nat) (l : List ActD) (w : World) (hok : ∀ a ∈ l, ActOk a) (hlen : l.length ≤ 1000000) (hR : Rd w w.heap.size A (actsCells l)) :
 Calls Tryz.prog 10 #[.slice A l.length c] w fun e w' => e = .returned (.tuple #[.string ⟨(formatRes l).1.toArray⟩, .int .i64 (formatRes l).2]) ∧ Below w.heap.size w w' := by
 by_cases h4 : 400 < l.length
 ·have d0 : decide (400 < l.length) = true := by simpa using h4
  have HF := Lib.hid (show formatRes l = ([], 2) by rw [formatRes, if_pos h4])
  go_enter Tryz.func10, Tryz.ntmps10
  go_wp2_with fail
  go_ret2
  rw [HF.out]
  exact ⟨rfl, Below.refl _ _⟩
 have d0 : decide (400 < l.length) = false := by simpa using h4
 go_enter Tryz.func10, Tryz.ntmps10
 go_wp2_with fail
 go_loopw [4, 14] (fun s i wr => ∃ k : Nat, k ≤ l.length ∧ i = .int .i64 k ∧ (l.take k).all (fun a => (writeRes a).2) = true ∧ s = .string ⟨((l.take k).flatMap lineText).toArray⟩ ∧ ((l.take k).flatMap lineText).length ≤ k * 40000000 ∧ Below w.heap.size w wr) (fun _ i _ => l.length - (intOf i).toNat)
 case atStart => exact ⟨0, by omega, rfl, rfl, rfl, by simp, Below.refl _ _⟩
 case round =>
  obtain ⟨k, hk, rfl, hall, rfl, hfl, hbw⟩ := hrel
  have HALL := Lib.hid hall
  have HBW := Lib.hid hbw
  have hsw := hbw.size
  clear hall hbw
  by_cases hlt : k < l.length
  ·have d1 : decide (k < l.length) = true := by simpa using hlt
   have hx : l[k]? = some l[k] := List.getElem?_eq_getElem _
   have HOK := Lib.hid (hok l[k] (List.getElem_mem hlt))
   generalize hae : l[k] = a at hx
   have HX := Lib.hid hx
   rw [hae] at HOK
   clear hae hx
   obtain ⟨ad, hade, hadb, _⟩ := hR (k * 11) (.int .i64 a.kind) (acts_get l k 0 a HX.out (by omega))
   subst hade
   have HQ := Lib.hid (show ∀ (j : Nat) (v : Value), a.cells[j]? = some v → wr.cell? ((ad.add (k * 11)).add j) = some v by
    intro j v hj
    have hj11 : j < 11 := (Array.getElem?_eq_some_iff.1 hj).1
    obtain ⟨ad', h1, h2, h3⟩ := hR (k * 11 + j) v ((acts_get l k j a HX.out hj11).trans hj)
    injection h1 with h1
    subst h1
    rw [Addr.add_add]
    exact (HBW.out.cell (by rw [block_add]; exact h2)).trans h3)
   have y0 : wr.cell? (ad.add (k * 11)) = some (.int .i64 a.kind) := HQ.out 0 _ rfl
   have y1 : wr.cell? ⟨(ad.add (k * 11)).block, (ad.add (k * 11)).off + 1, none⟩ = some (.int .i64 a.a) := HQ.out 1 _ rfl
   have y2 : wr.cell? ⟨(ad.add (k * 11)).block, (ad.add (k * 11)).off + 2, none⟩ = some (.int .i64 a.b) := HQ.out 2 _ rfl
   have y3 : wr.cell? ⟨(ad.add (k * 11)).block, (ad.add (k * 11)).off + 3, none⟩ = some (.int .i64 a.n) := HQ.out 3 _ rfl
   have y4 : wr.cell? ⟨(ad.add (k * 11)).block, (ad.add (k * 11)).off + 4, none⟩ = some (.int .i64 a.tenant) := HQ.out 4 _ rfl
   have y5 : wr.cell? ⟨(ad.add (k * 11)).block, (ad.add (k * 11)).off + 5, none⟩ = some (.int .i64 a.client) := HQ.out 5 _ rfl
   have y6 : wr.cell? ⟨(ad.add (k * 11)).block, (ad.add (k * 11)).off + 6, none⟩ = some (.int .i64 a.number) := HQ.out 6 _ rfl
   have y7 : wr.cell? ⟨(ad.add (k * 11)).block, (ad.add (k * 11)).off + 7, none⟩ = some (.int .i64 a.op) := HQ.out 7 _ rfl
   have y8 : wr.cell? ⟨(ad.add (k * 11)).block, (ad.add (k * 11)).off + 8, none⟩ = some (.int .i64 a.item) := HQ.out 8 _ rfl
   have y9 : wr.cell? ⟨(ad.add (k * 11)).block, (ad.add (k * 11)).off + 9, none⟩ = some (.string ⟨a.key.toArray⟩) := HQ.out 9 _ rfl
   have y10 : wr.cell? ⟨(ad.add (k * 11)).block, (ad.add (k * 11)).off + 10, none⟩ = some (.string ⟨a.value.toArray⟩) := HQ.out 10 _ rfl
   have hk4 : k < 400 := by omega
   have hjl := join_len a HOK.out
   have HLT := Lib.hid (show (lineText a).length ≤ 30000001 by rw [lineText, List.length_append]; simp only [List.length_cons, List.length_nil]; omega)
   clear hjl
   go_wp2_with fail
   refine (line_any a _ HOK.out).mono ?_
   rintro e w2 ⟨s, b, rfl, hb, hs, hb2⟩
   have HB2 := Lib.hid ((HBW.out.alloc HBW.out.size _).trans (hb2.mono (by simp; omega)))
   have HB := Lib.hid hb
   clear hb2 hb
   cases b with
   | false =>
     have HFR := Lib.hid (show formatRes l = ([], 1) by
      rw [formatRes, if_neg h4, if_neg]
      intro hh
      have := List.all_eq_true.1 hh a (List.mem_of_getElem? HX.out)
      rw [← HB.out] at this
      cases this)
     go_wp2_with fail
     go_ret2
     rw [HFR.out]
     exact ⟨rfl, HB2.out⟩
   | true =>
     obtain rfl := hs rfl
     have hlt := HLT.out
     have z1 := fun W => zc6 Tryz.prog ((l.take k).flatMap lineText) (lineText a) (by omega) W
     have HTK := Lib.hid (show (l.take (k + 1)).flatMap lineText = (l.take k).flatMap lineText ++ lineText a by
      rw [take_snoc' l k a HX.out, List.flatMap_append]
      simp)
     have HTA := Lib.hid (show (l.take (k + 1)).all (fun a => (writeRes a).2) = true by
      rw [take_snoc' l k a HX.out, List.all_append, HALL.out]
      simp [← HB.out])
     go_wp2_with fail
     go_roundw
     case rel => exact ⟨k + 1, by omega, by go_num, HTA.out, by rw [HTK.out], by rw [HTK.out, List.length_append]; omega, HB2.out⟩
     case measure => simp [intOf]; omega
  ·have d1 : decide (k < l.length) = false := by simpa using hlt
   have hke : k = l.length := by omega
   have htk : l.take k = l := by rw [hke]; exact List.take_length
   rw [htk] at HALL hfl ⊢
   obtain ⟨tx, htx⟩ : ∃ tx, tx = l.flatMap lineText := ⟨_, rfl⟩
   rw [← htx] at hfl ⊢
   by_cases hbig : 16384 < tx.length
   ·have HFR := Lib.hid (show formatRes l = ([], 2) by rw [formatRes, if_neg h4, if_pos HALL.out, ← htx, if_pos hbig])
    have d2 : decide (16384 < tx.length) = true := by simpa using hbig
    clear hke htk htx
    go_wp2_with fail
    go_ret2
    rw [HFR.out]
    exact ⟨rfl, HBW.out⟩
   ·have HFR := Lib.hid (show formatRes l = (tx, 0) by rw [formatRes, if_neg h4, if_pos HALL.out, ← htx, if_neg hbig])
    have d2 : decide (16384 < tx.length) = false := by simpa using hbig
    clear hke htk htx
    go_wp2_with fail
    go_ret2
    rw [HFR.out]
    exact ⟨rfl, HBW.out⟩
end Go.Proofs.YtcgcfeablbjnaaaGreatDoor
