/- Parts of the proof that ScriptBack returns true for every input of bulk at most 1048576. -/
import Derived.Test.YtcgcfeablbjnaaaGreatDoorBa
import Derived.WalkSpells
import Derived.WalkLawsBesides
import Derived.Laws.BytesString
import Derived.Deep.RegionHeld3
import Derived.Lib.OthersKept
import Derived.Lib.FieldsP
import Derived.Laws.RangeAny
import Derived.Lib.QuietBelow
import Derived.Laws.Concat
import Derived.Lib.ItoaNum
import Derived.Lib.ItoaLen
import Derived.Lib.AppendIntMem
import Derived.ChangeArms
import Derived.OpenShut
import Derived.Deep.Slices
import Derived.Lib.SmallJoins
import Derived.Shelf.Strings.BuilderF
import Derived.Shelf.Strings.BuilderK
import Derived.Laws.StructEq
import Derived.DataElems
set_option linter.unusedSimpArgs false
set_option linter.unusedVariables false
set_option maxRecDepth 100000
set_option maxHeartbeats 8000000
namespace Go.Proofs.YtcgcfeablbjnaaaGreatDoor
open Go.RowKit Go.BigFrame
def numCell (c : Int) : Option Nat :=
 if (c == 65) = true then some 1 else if (c == 66) = true then some 2 else if (c == 78) = true then some 3 else if (c == 116) = true then some 4 else if (c == 99) = true then some 5 else if (c == 110) = true then some 6 else if (c == 105) = true then some 8 else none
def numPtr (g : Nat) (c : Int) : Value := .pointer ((numCell c).map fun k => ⟨g, k, none⟩)
def txtCell (c : Int) : Nat := if (c == 107) = true then 9 else 10
theorem za8 {a b : Value} (h : a = b) : Ending.returned a = .returned b := by rw [h]
theorem number_any (c : Int) (g : Nat) (w : World) :
 Calls Tryz.prog 49 #[.pointer (some ⟨g, 0, none⟩), .int .i32 c] w fun e w' => e = .returned (numPtr g c) ∧ w = w' := by
 go_enter Tryz.func49, Tryz.ntmps49
 go_wp2
 all_goals
  go_ret
  exact ⟨za8 (by simp [numPtr, numCell, *]), rfl⟩
theorem text_any (c : Int) (g : Nat) (w : World) :
 Calls Tryz.prog 50 #[.pointer (some ⟨g, 0, none⟩), .int .i32 c] w fun e w' => e = .returned (.pointer (some ⟨g, txtCell c, none⟩)) ∧ w = w' := by
 go_enter Tryz.func50, Tryz.ntmps50
 go_wp2
 all_goals
  go_ret
  exact ⟨za8 (by simp [txtCell, *]), rfl⟩
def isDig (c : UInt8) : Bool := decide (48 ≤ (c.toNat : Int)) && decide ((c.toNat : Int) ≤ 57)
def allDig (l : List UInt8) : Bool := l.all isDig
def decVal (l : List UInt8) : Int := l.foldl (fun n c => 10 * n + ((c.toNat : Int) - 48)) 0
theorem decVal_snoc (l : List UInt8) (c : UInt8) : decVal (l ++ [c]) = 10 * decVal l + ((c.toNat : Int) - 48) := by simp [decVal]
theorem allDig_snoc (l : List UInt8) (c : UInt8) : allDig (l ++ [c]) = (allDig l && isDig c) := by simp [allDig]
theorem decVal_bd : ∀ (n : Nat) (l : List UInt8), l.length = n → allDig l = true → 0 ≤ decVal l ∧ decVal l < 10 ^ n
 | 0, l, h, _ => by
   have : l = [] := List.eq_nil_of_length_eq_zero h
   subst this
   simp [decVal]
 | n + 1, l, h, hd => by
   have hne : l ≠ [] := by intro e; subst e; simp at h
   rw [← List.dropLast_concat_getLast hne] at hd ⊢
   rw [allDig_snoc, Bool.and_eq_true] at hd
   have ih := decVal_bd n l.dropLast (by simp [h]) hd.1
   rw [decVal_snoc]
   have := hd.2
   simp only [isDig, Bool.and_eq_true, decide_eq_true_eq] at this
   rw [Int.pow_succ]
   omega
def numRes (l : List UInt8) : Option Int :=
 if l = [48] then some 0 else
 if (Lib.trimPrefix l [45]).length < 1 ∨ 9 < (Lib.trimPrefix l [45]).length ∨ (Lib.trimPrefix l [45]).head? = some 48 then none else
 if allDig (Lib.trimPrefix l [45]) = true then some (if (Lib.trimPrefix l [45]).length < l.length then - decVal (Lib.trimPrefix l [45]) else decVal (Lib.trimPrefix l [45])) else none
def numVal (l : List UInt8) : Value := .tuple #[.int .i64 ((numRes l).getD 0), .bool (numRes l).isSome]
theorem take_snoc (s : ByteArray) (k : Nat) (h : k < s.size) : s.data.toList.take (k + 1) = s.data.toList.take k ++ [s[k]] := by
 rw [List.take_succ_eq_append_getElem (by simpa using h)]; rfl
theorem toList_eq (s : ByteArray) : s.toList = s.data.toList := ByteArray.toList_eq s
theorem readNumber_any (s : ByteArray) (w : World) :
 Calls Tryz.prog 59 #[.string s] w fun e w' => e = .returned (numVal s.data.toList) ∧ w = w' := by
 by_cases h0 : s.data.toList = [48]
 ·have HF := Lib.hid (show numVal s.data.toList = .tuple #[.int .i64 0, .bool true] by simp [numVal, numRes, h0])
  have h1 : (s.toList == [48]) = true := by rw [toList_eq]; simp [h0]
  clear h0
  go_enter Tryz.func59, Tryz.ntmps59
  go_wp2_with fail
  go_ret2
  exact ⟨za8 HF.out.symm, rfl⟩
 have h1 : (s.toList == [48]) = false := by rw [toList_eq]; simp [h0]
 obtain ⟨t, ht⟩ : ∃ t : ByteArray, t = ⟨(Lib.trimPrefix s.data.toList [45]).toArray⟩ := ⟨_, rfl⟩
 have htl : t.data.toList = Lib.trimPrefix s.data.toList [45] := by rw [ht]
 have hts : t.size = (Lib.trimPrefix s.data.toList [45]).length := by rw [← htl]; simp
 have hss : s.size = s.data.toList.length := by simp
 by_cases hbad : t.size < 1 ∨ 9 < t.size ∨ t.data.toList.head? = some 48
 ·have HF := Lib.hid (show numVal s.data.toList = .tuple #[.int .i64 0, .bool false] by
   have : numRes s.data.toList = none := by
    rw [numRes, if_neg h0, if_pos (by rw [← htl]; simpa using hbad)]
   simp [numVal, this])
  have hcases : (decide ((t.size : Int) < 1) = true) ∨ (decide ((t.size : Int) < 1) = false ∧ decide ((9 : Int) < (t.size : Int)) = true) ∨ (decide ((t.size : Int) < 1) = false ∧ decide ((9 : Int) < (t.size : Int)) = false ∧ ∃ h : 0 < t.size, ((t[0].toNat : Int) == 48) = true) := by
   by_cases q1 : t.size < 1
   ·exact .inl (by simp; omega)
   ·by_cases q2 : 9 < t.size
    ·exact .inr (.inl ⟨by simp; omega, by simp; omega⟩)
    ·refine .inr (.inr ⟨by simp; omega, by simp; omega, by omega, ?_⟩)
     rcases hbad with h | h | h
     ·omega
     ·omega
     ·have hp : 0 < t.size := by omega
      have e : t.data.toList.head? = some t[0] := by
       rw [List.head?_eq_getElem?, List.getElem?_eq_getElem (by simpa using hp)]
       rfl
      rw [e] at h
      injection h with h
      rw [h]
      rfl
  have HT := Lib.hid ht
  clear ht htl hts hss h0 hbad
  rcases hcases with q | ⟨q1, q2⟩ | ⟨q1, q2, hp, q3⟩
  all_goals
   go_enter Tryz.func59, Tryz.ntmps59
   go_wp2_with fail
   refine (Tryz.strings_TrimPrefix _ _ _).mono ?_
   rintro e w' ⟨rfl, rfl⟩
   simp only
   rw [← HT.out]
   go_wp2
   go_ret2
   exact ⟨za8 HF.out.symm, rfl⟩
 have b1 : ¬ t.size < 1 := fun h => hbad (.inl h)
 have b2 : ¬ 9 < t.size := fun h => hbad (.inr (.inl h))
 have hp : 0 < t.size := by omega
 have b3 : ((t[0].toNat : Int) == 48) = false := by
  rw [beq_eq_false_iff_ne]
  intro h
  apply hbad
  refine .inr (.inr ?_)
  rw [List.head?_eq_getElem?, List.getElem?_eq_getElem (by simpa using hp)]
  congr 1
  apply UInt8.toNat_inj.1
  have : t[0].toNat = 48 := by omega
  exact this
 have d1 : decide ((t.size : Int) < 1) = false := by simp; omega
 have d2 : decide ((9 : Int) < (t.size : Int)) = false := by simp; omega
 have HR := Lib.hid (show numRes s.data.toList = if allDig t.data.toList = true then some (if t.size < s.size then - decVal t.data.toList else decVal t.data.toList) else none by
  rw [numRes, if_neg h0, if_neg (by rw [← htl]; simpa using hbad), ← htl]
  simp)
 have HT := Lib.hid ht
 clear ht htl hts hss h0 hbad
 go_enter Tryz.func59, Tryz.ntmps59
 go_wp2_with fail
 refine (Tryz.strings_TrimPrefix _ _ _).mono ?_
 rintro e w' ⟨rfl, rfl⟩
 simp only
 rw [← HT.out]
 go_wp2
 go_loop [5, 26] (fun n i => ∃ k : Nat, k ≤ t.size ∧ i = .int .i64 k ∧ n = .int .i64 (decVal (t.data.toList.take k)) ∧ allDig (t.data.toList.take k) = true) (fun _ i => t.size - (intOf i).toNat)
 case atStart => exact ⟨0, Nat.zero_le _, rfl, rfl, rfl⟩
 case round =>
  obtain ⟨k, hk, rfl, rfl, hdig⟩ := hrel
  have hbd := decVal_bd k (t.data.toList.take k) (by simp; omega) hdig
  have hpw : (10 : Int) ^ k ≤ 1000000000 := by
   have : k ≤ 9 := by omega
   have h9 : (10 : Nat) ^ k ≤ 10 ^ 9 := Nat.pow_le_pow_right (by omega) this
   have h9' : ((10 ^ k : Nat) : Int) ≤ ((10 ^ 9 : Nat) : Int) := by exact_mod_cast h9
   simpa using h9'
  have n1 : 0 ≤ decVal (t.data.toList.take k) := hbd.1
  have n2 : decVal (t.data.toList.take k) < 1000000000 := by omega
  by_cases hlt : k < t.size
  ·have hsn := decVal_snoc (t.data.toList.take k) t[k]
   have hsa := allDig_snoc (t.data.toList.take k) t[k]
   rw [← take_snoc t k hlt] at hsn hsa
   rw [hdig, Bool.true_and] at hsa
   have HSN := Lib.hid hsn
   have HSA := Lib.hid hsa
   have HD := Lib.hid hdig
   clear hsn hsa hdig hbd hpw
   generalize hv : decVal (t.data.toList.take k) = v at *
   clear hv
   have hcb := t[k].toNat_lt
   by_cases hd : (48 : Int) ≤ t[k].toNat ∧ (t[k].toNat : Int) ≤ 57
   ·obtain ⟨e1, e2⟩ := hd
    have HI := Lib.hid (show isDig t[k] = true by simp [isDig, e1, e2])
    have d3 : decide ((t[k].toNat : Int) < 48) = false := by simp; omega
    go_wp2
    go_round
    case rel => exact ⟨k + 1, hlt, by go_num, by rw [HSN.out], by rw [HSA.out]; exact HI.out⟩
    case measure => simp [intOf]; omega
   ·have HN := Lib.hid (show numVal s.data.toList = .tuple #[.int .i64 0, .bool false] by
     have : allDig t.data.toList = false := by
      have hx : isDig t[k] = false := by simp [isDig]; omega
      rw [← List.take_append_drop (k + 1) t.data.toList]
      unfold allDig at HSA ⊢
      rw [List.all_append, HSA.out, hx, Bool.false_and]
     simp [numVal, HR.out, this])
    rcases (show (t[k].toNat : Int) < 48 ∨ (48 ≤ (t[k].toNat : Int) ∧ 57 < (t[k].toNat : Int)) by omega) with q | ⟨q1, q2⟩
    ·have d3 : decide ((t[k].toNat : Int) < 48) = true := by simp; omega
     go_wp2
     go_ret2
     exact ⟨za8 HN.out.symm, rfl⟩
    ·have d3 : decide ((t[k].toNat : Int) < 48) = false := by simp; omega
     go_wp2
     go_ret2
     exact ⟨za8 HN.out.symm, rfl⟩
  ·have e : k = t.size := by omega
   subst e
   have hall : t.data.toList.take t.size = t.data.toList := List.take_of_length_le (by simp)
   rw [hall] at hdig n1 n2
   rw [hall]
   have HN := Lib.hid (show numVal s.data.toList = .tuple #[.int .i64 (if t.size < s.size then - decVal t.data.toList else decVal t.data.toList), .bool true] by
    simp [numVal, HR.out, hdig])
   clear hall hdig hbd hpw
   by_cases hq : t.size < s.size
   ·rw [if_pos hq] at HN
    go_wp2
    go_ret2
    exact ⟨za8 HN.out.symm, rfl⟩
   ·rw [if_neg hq] at HN
    go_wp2
    go_ret2
    exact ⟨za8 HN.out.symm, rfl⟩
theorem foldl_push (l : List UInt8) : ∀ (acc : ByteArray), (l.map fun b : UInt8 => (b.toNat : Int)).foldl (fun r n => r.push (UInt8.ofNat n.toNat)) acc = ⟨(acc.data.toList ++ l).toArray⟩ := by
 induction l with
 | nil => intro acc; simp
 | cons b l ih =>
   intro acc
   rw [List.map_cons, List.foldl_cons, ih]
   simp [ByteArray.push]
theorem run_str {P : Program} (src dst e : TypeId) (hs : P.underlying src = some (.slice e)) (he : P.underlying e = some (.int .u8)) (hd : P.underlying dst = some .string) (l : List UInt8) (A : Option Addr) (n c B : Nat) (hn : n = l.length) (w : World) (hr : Rd w B A (Lib.byteCells l)) :
 (convert src dst (.slice A n c)).run P w = .ok (.string ⟨l.toArray⟩) w := by
 subst hn
 rw [run_convert_bytes_string w src dst e A l.length c hs he hd]
 cases A with
 | none =>
   have : l = [] := by
    cases l with
    | nil => rfl
    | cons b r => obtain ⟨ad, h, _⟩ := hr 0 _ rfl; cases h
   subst this
   rfl
 | some a =>
   have hl : (loadCells a l.length).run P w = .ok ((l.map fun b : UInt8 => (b.toNat : Int)).map (Value.int .u8)).toArray w := by
    have := run_loadCells_list (P := P) w a (Lib.byteCells l) (fun j v hj => by
     obtain ⟨ad, h, _, hc⟩ := hr j v hj
     injection h with h
     subst h
     exact hc)
    rw [show (Lib.byteCells l).length = l.length from by simp [Lib.byteCells]] at this
    rw [this]
    simp [Lib.byteCells]
   rw [run_bytesToString w a l.length c _ hl, foldl_push]
   simp
theorem etU8 : ElemT Tryz.prog 66 5 (.int .u8 0) 1 1 := ElemT.mk' Tryz.underlying66 (by kernel_rfl) rfl (by decide)
def hexD : List UInt8 := [48, 49, 50, 51, 52, 53, 54, 55, 56, 57, 97, 98, 99, 100, 101, 102]
def hexVal (c : UInt8) : Int := Lib.indexByte hexD c
theorem indexByte_bd (c : UInt8) : ∀ l : List UInt8, -1 ≤ Lib.indexByte l c ∧ Lib.indexByte l c < l.length
 | [] => by simp [Lib.indexByte]
 | b :: l => by
   have ih := indexByte_bd c l
   unfold Lib.indexByte
   simp only [List.length_cons]
   split
   ·omega
   ·split <;> omega
theorem hexVal_bd (c : UInt8) : -1 ≤ hexVal c ∧ hexVal c ≤ 15 := by
 have := indexByte_bd c hexD
 unfold hexVal
 simp only [hexD, List.length_cons, List.length_nil] at this ⊢
 omega
def pairsOk (l : List UInt8) (k : Nat) : Prop := ∀ j, j < k → 0 ≤ hexVal (l.getD (2 * j) 0) ∧ 0 ≤ hexVal (l.getD (2 * j + 1) 0)
def pairsTo (l : List UInt8) (k : Nat) : List UInt8 := (List.range k).map fun j => UInt8.ofNat (16 * hexVal (l.getD (2 * j) 0) + hexVal (l.getD (2 * j + 1) 0)).toNat
instance (l : List UInt8) (k : Nat) : Decidable (pairsOk l k) := by unfold pairsOk; infer_instance
def txtRes (l : List UInt8) : Option (List UInt8) :=
 if l = [46] then some [] else
 if l.length = 0 ∨ l.length % 2 = 1 then none else
 if pairsOk l (l.length / 2) then some (pairsTo l (l.length / 2)) else none
def txtVal (l : List UInt8) : Value := .tuple #[.string ⟨((txtRes l).getD []).toArray⟩, .bool (txtRes l).isSome]
theorem pairsTo_succ (l : List UInt8) (k : Nat) : pairsTo l (k + 1) = pairsTo l k ++ [UInt8.ofNat (16 * hexVal (l.getD (2 * k) 0) + hexVal (l.getD (2 * k + 1) 0)).toNat] := by
 unfold pairsTo
 rw [List.range_succ, List.map_append]
 rfl
theorem pairsTo_length (l : List UInt8) (k : Nat) : (pairsTo l k).length = k := by simp [pairsTo]
theorem pairsOk_succ (l : List UInt8) (k : Nat) (h : pairsOk l k) (h1 : 0 ≤ hexVal (l.getD (2 * k) 0)) (h2 : 0 ≤ hexVal (l.getD (2 * k + 1) 0)) : pairsOk l (k + 1) := by
 intro j hj
 rcases Nat.lt_or_ge j k with h' | h'
 ·exact h j h'
 ·have : j = k := by omega
  subst this
  exact ⟨h1, h2⟩
theorem zdh (s : ByteArray) (k : Nat) (h : k < s.size) : s.data.toList.getD k 0 = s[k] := by
 rw [List.getD_eq_getElem?_getD, List.getElem?_eq_getElem (by simpa using h)]
 rfl
theorem u8_back (n : Int) (h0 : 0 ≤ n) (h1 : n ≤ 255) : ((UInt8.ofNat n.toNat).toNat : Int) = n := by
 rw [UInt8.toNat_ofNat']
 omega
theorem byteCells_snoc (l : List UInt8) (b : UInt8) : Lib.byteCells (l ++ [b]) = Lib.byteCells l ++ [.int .u8 b.toNat] := by simp [Lib.byteCells]
theorem indexByte_hex (c : UInt8) (w : World) : Calls Tryz.prog 86 #[.string { data := #[48, 49, 50, 51, 52, 53, 54, 55, 56, 57, 97, 98, 99, 100, 101, 102] }, .int .u8 c.toNat] w fun e w' => e = .returned (.int .i64 (hexVal c)) ∧ w = w' := by
 refine (Tryz.strings_IndexByte _ _ w).mono ?_
 rintro e w' ⟨rfl, rfl⟩
 refine ⟨?_, rfl⟩
 have : ((c.toNat : Int).toNat.toUInt8) = c := by simp
 rw [this]
 rfl
theorem readText_any (s : ByteArray) (w : World) (hs : s.size ≤ 3000000) :
 Calls Tryz.prog 60 #[.string s] w fun e w' => e = .returned (txtVal s.data.toList) ∧ Below w.heap.size w w' := by
 have hss : s.size = s.data.toList.length := by simp
 by_cases h0 : s.data.toList = [46]
 ·have HF := Lib.hid (show txtVal s.data.toList = .tuple #[.string ⟨#[]⟩, .bool true] by simp [txtVal, txtRes, h0])
  have h1 : (s.toList == [46]) = true := by rw [toList_eq]; simp [h0]
  clear h0 hss
  go_enter Tryz.func60, Tryz.ntmps60
  go_wp2_with fail
  go_ret2
  exact ⟨za8 HF.out.symm, Below.refl _ _⟩
 have h1 : (s.toList == [46]) = false := by rw [toList_eq]; simp [h0]
 by_cases hbad : s.size = 0 ∨ s.size % 2 = 1
 ·have HF := Lib.hid (show txtVal s.data.toList = .tuple #[.string ⟨#[]⟩, .bool false] by
   have : txtRes s.data.toList = none := by rw [txtRes, if_neg h0, if_pos (by rw [← hss]; exact hbad)]
   simp [txtVal, this])
  have hc : (((s.size : Int) == 0) = true) ∨ (((s.size : Int) == 0) = false ∧ ((s.size : Int) % 2 == 1) = true) := by
   by_cases q : s.size = 0
   ·exact .inl (by simp [q])
   ·exact .inr ⟨beq_eq_false_iff_ne.2 (by omega), beq_iff_eq.2 (by omega)⟩
  clear h0 hss hbad
  rcases hc with q | ⟨q1, q2⟩
  all_goals
   go_enter Tryz.func60, Tryz.ntmps60
   go_wp2_with fail
   go_ret2
   exact ⟨za8 HF.out.symm, Below.refl _ _⟩
 have q1 : ((s.size : Int) == 0) = false := beq_eq_false_iff_ne.2 (by omega)
 have q2 : ((s.size : Int) % 2 == 1) = false := beq_eq_false_iff_ne.2 (by omega)
 have HR := Lib.hid (show txtRes s.data.toList = if pairsOk s.data.toList (s.size / 2) then some (pairsTo s.data.toList (s.size / 2)) else none by
  rw [txtRes, if_neg h0, if_neg (by rw [← hss]; exact hbad), ← hss])
 have hev : s.size % 2 = 0 := by omega
 have HEV := Lib.hid hev
 clear h0 hss hbad hev
 go_enter Tryz.func60, Tryz.ntmps60
 go_wp2_with fail
 go_loopw [4, 5] (fun v t wr => ∃ i k : Nat, i = 2 * k ∧ i ≤ s.size ∧ t = .int .i64 i ∧ pairsOk s.data.toList k ∧ wr.ownsRow w.heap.size 5 1 v k (Lib.byteCells (pairsTo s.data.toList k)) ∧ Below w.heap.size w wr)
  (fun _ i _ => s.size - (intOf i).toNat)
 case atStart => exact ⟨0, 0, rfl, by omega, rfl, fun j hj => by omega, World.ownsRow_nil _ _ _ _, Below.refl _ _⟩
 case round =>
  obtain ⟨i, k, hik, hk, rfl, hok, hown, hbw⟩ := hrel
  have HIK := Lib.hid hik
  have HOK := Lib.hid hok
  have HO := Lib.hid hown
  have HBW := Lib.hid hbw
  have hsz := hbw.size
  have hkk : k ≤ 1500000 := by omega
  clear hok hown hbw hik
  by_cases hlt : i < s.size
  ·have hlt1 : i + 1 < s.size := by have := HEV.out; have := HIK.out; omega
   obtain ⟨a1, a2⟩ := hexVal_bd s[i]
   obtain ⟨b1, b2⟩ := hexVal_bd s[i + 1]
   have HGA := Lib.hid (show s.data.toList.getD (2 * k) 0 = s[i] by rw [← HIK.out]; exact zdh s i hlt)
   have HGB := Lib.hid (show s.data.toList.getD (2 * k + 1) 0 = s[i + 1] by rw [← HIK.out]; exact zdh s (i + 1) hlt1)
   have w1 : IntKind.i64.wrap ((i : Int) + 1) = (i : Int) + 1 := IntWalk.i64_in _ (by omega)
   have w2 : (0 : Int) ≤ (i : Int) + 1 := by omega
   have w3 : ((i : Int) + 1).toNat = i + 1 := by omega
   have w4 : (i : Int) + 1 < (s.size : Int) := by omega
   generalize hx : hexVal s[i] = x at *
   generalize hy : hexVal s[i + 1] = y at *
   have HX := Lib.hid hx
   have HY := Lib.hid hy
   clear hx hy
   have hcx : ∀ W : World, Calls Tryz.prog 86 #[.string { data := #[48, 49, 50, 51, 52, 53, 54, 55, 56, 57, 97, 98, 99, 100, 101, 102] }, .int .u8 (s[i].toNat : Int)] W fun e w' => e = .returned (.int .i64 x) ∧ W = w' := fun W => by rw [← HX.out]; exact indexByte_hex _ _
   have hcy : ∀ W : World, Calls Tryz.prog 86 #[.string { data := #[48, 49, 50, 51, 52, 53, 54, 55, 56, 57, 97, 98, 99, 100, 101, 102] }, .int .u8 (s[i + 1].toNat : Int)] W fun e w' => e = .returned (.int .i64 y) ∧ W = w' := fun W => by rw [← HY.out]; exact indexByte_hex _ _
   have HCX := Lib.hid hcx
   have HCY := Lib.hid hcy
   clear hcx hcy
   go_wp2_with fail
   go_quiet ((first | (go_at_call 86; exact quiet_same (HCX.out _)) | (go_at_call 86; exact quiet_same (HCY.out _))))
   rcases (show x < 0 ∨ (0 ≤ x ∧ y < 0) ∨ (0 ≤ x ∧ 0 ≤ y) by omega) with q | ⟨q, q'⟩ | ⟨q, q'⟩
   ·have d1 : decide (x < 0) = true := by simp; omega
    have HN := Lib.hid (show txtVal s.data.toList = .tuple #[.string ⟨#[]⟩, .bool false] by
     have : ¬ pairsOk s.data.toList (s.size / 2) := fun h => by
      have := (h k (by have := HIK.out; omega)).1
      rw [HGA.out, HX.out] at this
      omega
     simp [txtVal, HR.out, this])
    go_wp2
    go_ret2
    exact ⟨za8 HN.out.symm, zay HBW.out _⟩
   ·have d1 : decide (x < 0) = false := by simp; omega
    have HN := Lib.hid (show txtVal s.data.toList = .tuple #[.string ⟨#[]⟩, .bool false] by
     have : ¬ pairsOk s.data.toList (s.size / 2) := fun h => by
      have := (h k (by have := HIK.out; omega)).2
      rw [HGB.out, HY.out] at this
      omega
     simp [txtVal, HR.out, this])
    go_wp2
    go_ret2
    exact ⟨za8 HN.out.symm, zay HBW.out _⟩
   ·have d1 : decide (x < 0) = false := by simp; omega
    go_wp2_with (at_builtin; refine zcn etU8 rfl _ _ rfl w.heap.size _ k _ rfl (by exact HO.out) #[.int .u8 (16 * x + y)] rfl (by simp [Value.oneCell']) rfl (by omega) (by omega) (by exact hsz) ?_; intro v' w2 hown2 hg2 hat2)
    go_roundw
    case rel =>
     refine ⟨i + 2, k + 1, by have := HIK.out; omega, by omega, by go_num, pairsOk_succ _ _ HOK.out (by rw [HGA.out, HX.out]; exact q) (by rw [HGB.out, HY.out]; exact q'), ?_, below_app (w := wr.drewN nq) HO.out (zay HBW.out _) (Nat.le_refl _) hsz hg2⟩
     rw [pairsTo_succ, byteCells_snoc, HGA.out, HGB.out, HX.out, HY.out, u8_back _ (by omega) (by omega)]
     simpa using hown2
    case measure => simp [intOf]; omega
  ·have e : i = s.size := by omega
   have HK2 := Lib.hid (show k = s.size / 2 by have := HIK.out; omega)
   obtain ⟨A, c, rfl⟩ := zas HO.out
   have hcv := run_str (P := Tryz.prog) 66 9 5 Tryz.underlying66 Tryz.underlying5 Tryz.underlying9 (pairsTo s.data.toList k) A k c wr.heap.size (by rw [pairsTo_length]) wr (Rd.of_own HO.out)
   have HN := Lib.hid (show txtVal s.data.toList = .tuple #[.string ⟨(pairsTo s.data.toList k).toArray⟩, .bool true] by
    have : pairsOk s.data.toList (s.size / 2) := by rw [← HK2.out]; exact HOK.out
    simp [txtVal, HR.out, this, HK2.out])
   clear e
   go_wp2
   go_ret2
   exact ⟨za8 HN.out.symm, HBW.out⟩
def hexOf (c : UInt8) : List UInt8 := [hexD.getD (c.toNat / 16) 0, hexD.getD (c.toNat % 16) 0]
def txtOf (l : List UInt8) : List UInt8 := if l = [] then [46] else l.flatMap hexOf
theorem hexTo_length (l : List UInt8) : (l.flatMap hexOf).length = 2 * l.length := by
 induction l with
 | nil => rfl
 | cons c l ih => simp [ih, hexOf]; omega
theorem hexTo_snoc (s : ByteArray) (k : Nat) (h : k < s.size) : (s.data.toList.take (k + 1)).flatMap hexOf = (s.data.toList.take k).flatMap hexOf ++ hexOf s[k] := by
 rw [take_snoc s k h, List.flatMap_append]
 simp
theorem zc5 (l m : List UInt8) : Lib.byteCells (l ++ m) = Lib.byteCells l ++ Lib.byteCells m := by simp [Lib.byteCells]
theorem and15_fin : ∀ n : Fin 256, bits .and .u8 (n.val : Int) 15 = (n.val : Int) % 16 := by decide +kernel
theorem and15 (n : Nat) (h : n < 256) : bits .and .u8 (n : Int) 15 = (n : Int) % 16 := and15_fin ⟨n, h⟩
theorem writeText_any (s : ByteArray) (w : World) (hs : s.size ≤ 3000000) :
 Calls Tryz.prog 33 #[.string s] w fun e w' => e = .returned (.string ⟨(txtOf s.data.toList).toArray⟩) ∧ Below w.heap.size w w' := by
 have hss : s.size = s.data.toList.length := by simp
 by_cases h0 : s.data.toList = []
 ·have HF := Lib.hid (show txtOf s.data.toList = [46] by simp [txtOf, h0])
  have h1 : (s.toList.isEmpty) = true := by rw [toList_eq]; simp [h0]
  clear h0 hss
  go_enter Tryz.func33, Tryz.ntmps33
  go_wp2_with fail
  go_ret
  exact ⟨za8 (by rw [HF.out]; rfl), Below.refl _ _⟩
 have h1 : (s.toList.isEmpty) = false := by rw [toList_eq]; exact List.isEmpty_eq_false_iff.2 h0
 have HF := Lib.hid (show txtOf s.data.toList = s.data.toList.flatMap hexOf by rw [txtOf, if_neg h0])
 clear h0 hss
 go_enter Tryz.func33, Tryz.ntmps33
 go_wp2_with fail
 go_loopw [3, 9] (fun v t wr => ∃ k : Nat, k ≤ s.size ∧ t = .int .i64 k ∧ wr.ownsRow w.heap.size 5 1 v (2 * k) (Lib.byteCells ((s.data.toList.take k).flatMap hexOf)) ∧ Below w.heap.size w wr)
  (fun _ i _ => s.size - (intOf i).toNat)
 case atStart => exact ⟨0, by omega, rfl, World.ownsRow_nil _ _ _ _, Below.refl _ _⟩
 case round =>
  obtain ⟨k, hk, rfl, hown, hbw⟩ := hrel
  have HO := Lib.hid hown
  have HBW := Lib.hid hbw
  have hsz := hbw.size
  clear hown hbw
  by_cases hlt : k < s.size
  ·have hb := s[k].toNat_lt
   have e1 : s[k].toNat / 16 < ({ data := #[48, 49, 50, 51, 52, 53, 54, 55, 56, 57, 97, 98, 99, 100, 101, 102] } : ByteArray).size := by show s[k].toNat / 16 < 16; omega
   have e2 : s[k].toNat % 16 < ({ data := #[48, 49, 50, 51, 52, 53, 54, 55, 56, 57, 97, 98, 99, 100, 101, 102] } : ByteArray).size := by show s[k].toNat % 16 < 16; omega
   have HHX := Lib.hid (show Lib.byteCells (hexOf s[k]) = [.int .u8 (({ data := #[48, 49, 50, 51, 52, 53, 54, 55, 56, 57, 97, 98, 99, 100, 101, 102] } : ByteArray)[s[k].toNat / 16].toNat : Int), .int .u8 (({ data := #[48, 49, 50, 51, 52, 53, 54, 55, 56, 57, 97, 98, 99, 100, 101, 102] } : ByteArray)[s[k].toNat % 16].toNat : Int)] by
    rw [← zdh _ _ e1, ← zdh _ _ e2]
    rfl)
   have f1 : 0 ≤ (s[k].toNat : Int) / 16 := by omega
   have f2 : (s[k].toNat : Int) / 16 < 16 := by omega
   have f3 : 0 ≤ (s[k].toNat : Int) % 16 := by omega
   have f4 : (s[k].toNat : Int) % 16 < 16 := by omega
   have f5 : ((s[k].toNat : Int) / 16).toNat = s[k].toNat / 16 := by omega
   have f6 : ((s[k].toNat : Int) % 16).toNat = s[k].toNat % 16 := by omega
   have f7 := and15 s[k].toNat (by omega)
   have HSN := Lib.hid (hexTo_snoc s k hlt)
   go_wp2_with fail
   go_region_held3 (fun _ => True) (trivial) ((refine step_app etU8 rfl _ _ rfl w.heap.size _ (2 * k) _ rfl (by exact HO.out.alloc _) ⟨wr.heap.size, 0, none⟩ 2 2 [.int .u8 (({ data := #[48, 49, 50, 51, 52, 53, 54, 55, 56, 57, 97, 98, 99, 100, 101, 102] } : ByteArray)[s[k].toNat / 16].toNat : Int), .int .u8 (({ data := #[48, 49, 50, 51, 52, 53, 54, 55, 56, 57, 97, 98, 99, 100, 101, 102] } : ByteArray)[s[k].toNat % 16].toNat : Int)] rfl rfl (by exact zbk wr _ _) (by simp [Value.oneCell']) (by omega) (by omega) (by simp; omega) ?_; intro v' w2 hown2 hg2 hat2))
   all_goals
    go_wp2
    go_roundw
    case rel =>
     refine ⟨k + 1, hlt, by go_num, ?_, below_app (w := (wr.alloc _).drew) (HO.out.alloc _) (HBW.out.alloc hsz _).drew (Nat.le_refl _) (by simp; omega) hg2⟩
     rw [HSN.out, zc5, HHX.out]
     exact hown2
    case measure => simp [intOf]; omega
  ·have e : k = s.size := by omega
   subst e
   obtain ⟨A, c, rfl⟩ := zas HO.out
   have hall : s.data.toList.take s.size = s.data.toList := List.take_of_length_le (by simp)
   rw [hall] at HO
   have hcv := run_str (P := Tryz.prog) 66 9 5 Tryz.underlying66 Tryz.underlying5 Tryz.underlying9 (s.data.toList.flatMap hexOf) A (2 * s.size) c wr.heap.size (by rw [hexTo_length]; simp) wr (Rd.of_own HO.out)
   clear hall
   go_wp2
   go_ret
   exact ⟨za8 (by rw [HF.out]; rfl), HBW.out⟩
structure LineK where
 word : List UInt8
 kind : Int
 op : Int
 letters : List UInt8
def lineTab : List LineK := [
 ⟨[116, 105, 99, 107], 1, 0, [78]⟩,
 ⟨[103, 101, 116], 2, 1, [65, 116, 99, 107]⟩,
 ⟨[112, 117, 116], 2, 2, [65, 116, 99, 110, 107, 118]⟩,
 ⟨[100, 101, 108, 101, 116, 101], 2, 3, [65, 116, 99, 110, 107]⟩,
 ⟨[112, 117, 115, 104], 2, 4, [65, 116, 99, 110, 118]⟩,
 ⟨[116, 97, 107, 101], 2, 5, [65, 116, 99]⟩,
 ⟨[100, 111, 110, 101], 2, 6, [65, 116, 99, 110, 105]⟩,
 ⟨[102, 97, 105, 108], 3, 0, [65]⟩,
 ⟨[114, 101, 115, 116, 97, 114, 116], 4, 0, [65]⟩,
 ⟨[105, 115, 111, 108, 97, 116, 101], 5, 0, [65]⟩,
 ⟨[106, 111, 105, 110], 6, 0, [65]⟩,
 ⟨[114, 101, 112, 108, 105, 99, 97], 7, 0, [65, 78]⟩,
 ⟨[108, 111, 115, 101], 8, 0, [65]⟩,
 ⟨[112, 117, 98, 108, 105, 115, 104], 9, 0, [65]⟩,
 ⟨[112, 108, 97, 99, 101], 10, 0, [65, 66, 78]⟩,
 ⟨[115, 116, 97, 110, 100, 98, 121], 11, 0, [65, 66]⟩,
 ⟨[109, 105, 103, 114, 97, 116, 101], 12, 0, [65, 66]⟩,
 ⟨[97, 98, 97, 110, 100, 111, 110], 13, 0, [65]⟩,
 ⟨[101, 118, 97, 99, 117, 97, 116, 101], 14, 0, [65, 78]⟩,
 ⟨[114, 111, 108, 108, 111, 117, 116], 15, 0, [65, 66]⟩,
 ⟨[115, 116, 111, 112], 16, 0, []⟩,
 ⟨[115, 99, 104, 101, 109, 97], 17, 0, [78]⟩]
def LineK.cells (x : LineK) : List Value := [.string ⟨x.word.toArray⟩, .int .i64 x.kind, .int .i64 x.op, .string ⟨x.letters.toArray⟩]
def lineCells : Array Value := (lineTab.flatMap LineK.cells).toArray
theorem lines_any (w : World) :
 Calls Tryz.prog 48 #[] w fun e w' => e = .returned (.slice (some ⟨w.heap.size, 0, none⟩) 22 22) ∧ w.alloc (.cells lineCells 124) = w' := by
 go_enter Tryz.func48, Tryz.ntmps48
 go_wp2
 go_ret
 exact ⟨rfl, rfl⟩
theorem flat_get {α : Type} (f : α → List Value) (m : Nat) (hm : ∀ x, (f x).length = m) : ∀ (l : List α) (k i : Nat), i < m → (l.flatMap f)[k * m + i]? = (l[k]?).bind fun x => (f x)[i]?
 | [], k, i, _ => by simp
 | x :: l, 0, i, h => by
   rw [List.flatMap_cons, List.getElem?_append_left (by rw [hm]; omega)]
   simp
 | x :: l, k + 1, i, h => by
   rw [List.flatMap_cons, List.getElem?_append_right (by rw [hm, Nat.succ_mul]; omega), hm, show (k + 1) * m + i - m = k * m + i by rw [Nat.succ_mul]; omega, flat_get f m hm l k i h]
   simp
theorem zcx {w : World} {g : Nat} (h : Blk w g 124 lineCells) (k i : Nat) (hi : i < 4) (x : LineK) (hx : lineTab[k]? = some x) : w.cell? ⟨g, k * 4 + i, none⟩ = x.cells[i]? := by
 rw [h.cell]
 unfold lineCells
 rw [List.getElem?_toArray, flat_get LineK.cells 4 (fun _ => rfl) lineTab k i hi, hx]
 rfl
theorem find_hit {α : Type} (p : α → Bool) (l : List α) (k : Nat) (x : α) (h : (l.take k).find? p = none) (hx : l[k]? = some x) (hp : p x = true) : l.find? p = some x := by
 obtain ⟨hk, hx'⟩ := List.getElem?_eq_some_iff.1 hx
 have e : l.take k ++ x :: l.drop (k + 1) = l := by rw [← hx', ← List.drop_eq_getElem_cons hk, List.take_append_drop]
 rw [← e, List.find?_append, h]
 simp [hp]
theorem find_miss {α : Type} (p : α → Bool) (l : List α) (k : Nat) (x : α) (h : (l.take k).find? p = none) (hx : l[k]? = some x) (hp : p x = false) : (l.take (k + 1)).find? p = none := by
 obtain ⟨hk, rfl⟩ := List.getElem?_eq_some_iff.1 hx
 rw [List.take_succ_eq_append_getElem hk, List.find?_append, h]
 simp [hp]
def refNames : List (List UInt8) := [[], [116, 105, 99, 107], [114, 101, 113, 117, 101, 115, 116], [102, 97, 105, 108], [114, 101, 115, 116, 97, 114, 116], [105, 115, 111, 108, 97, 116, 101], [106, 111, 105, 110], [114, 101, 112, 108, 105, 99, 97], [108, 111, 115, 101], [112, 117, 98, 108, 105, 115, 104], [112, 108, 97, 99, 101], [115, 116, 97, 110, 100, 98, 121], [109, 105, 103, 114, 97, 116, 101], [97, 98, 97, 110, 100, 111, 110], [101, 118, 97, 99, 117, 97, 116, 101], [114, 111, 108, 108, 111, 117, 116], [115, 116, 111, 112], [115, 99, 104, 101, 109, 97]]
def refNameCells : Array Value := (refNames.map fun l => Value.string ⟨l.toArray⟩).toArray
def refName (kind : Int) : List UInt8 := if kind < 0 then [] else refNames.getD kind.toNat []
theorem rname_any (kind : Int) (w : World) :
 Calls Tryz.prog 83 #[.int .i64 kind] w fun e w' => e = .returned (.string ⟨(refName kind).toArray⟩) ∧ Below w.heap.size w w' := by
 rcases (show kind < 0 ∨ (0 ≤ kind ∧ 18 ≤ kind) ∨ (0 ≤ kind ∧ kind < 18) by omega) with h | ⟨h0, h⟩ | ⟨h0, h⟩
 ·have d1 : decide (kind < 0) = true := by simp; omega
  have HN := Lib.hid (show refName kind = [] by rw [refName, if_pos h])
  go_enter Tryz.func83, Tryz.ntmps83
  go_wp2_with fail
  go_ret
  exact ⟨za8 (by rw [HN.out]; rfl), (Below.refl _ _).alloc (Nat.le_refl _) _⟩
 ·have d1 : decide (kind < 0) = false := by simp; omega
  have HN := Lib.hid (show refName kind = [] by rw [refName, if_neg (by omega), List.getD_eq_getElem?_getD, List.getElem?_eq_none (by simp [refNames]; omega)]; rfl)
  go_enter Tryz.func83, Tryz.ntmps83
  go_wp2_with fail
  go_ret
  exact ⟨za8 (by rw [HN.out]; rfl), (Below.refl _ _).alloc (Nat.le_refl _) _⟩
 ·have d1 : decide (kind < 0) = false := by simp; omega
  obtain ⟨n, rfl⟩ := Int.eq_ofNat_of_zero_le h0
  have HN := Lib.hid (show refName (n : Int) = refNames.getD n [] by rw [refName, if_neg (by omega)]; simp)
  have hc : (w.alloc (.cells refNameCells 9)).cell? ⟨w.heap.size, n, none⟩ = some (.string ⟨(refNames.getD n []).toArray⟩) := by
   rw [(Blk.new w _ _).cell]
   have hn : n < refNames.length := by simp [refNames]; omega
   simp [refNameCells, hn, List.getD_eq_getElem?_getD]
  unfold refNameCells refNames at hc
  simp only [List.map_cons, List.map_nil] at hc
  go_enter Tryz.func83, Tryz.ntmps83
  go_wp2_with fail
  go_ret
  exact ⟨za8 (by rw [HN.out]; rfl), (Below.refl _ _).alloc (Nat.le_refl _) _⟩
structure ActD where
 kind : Int
 a : Int
 b : Int
 n : Int
 tenant : Int
 client : Int
 number : Int
 op : Int
 item : Int
 key : List UInt8
 value : List UInt8
def ActD.zero : ActD := ⟨0, 0, 0, 0, 0, 0, 0, 0, 0, [], []⟩
def ActD.cells (x : ActD) : Array Value := #[.int .i64 x.kind, .int .i64 x.a, .int .i64 x.b, .int .i64 x.n, .int .i64 x.tenant, .int .i64 x.client, .int .i64 x.number, .int .i64 x.op, .int .i64 x.item, .string ⟨x.key.toArray⟩, .string ⟨x.value.toArray⟩]
def ActD.setNum (x : ActD) (k : Nat) (n : Int) : ActD :=
 if k = 1 then { x with a := n } else if k = 2 then { x with b := n } else if k = 3 then { x with n := n } else if k = 4 then { x with tenant := n } else if k = 5 then { x with client := n } else if k = 6 then { x with number := n } else { x with item := n }
def ActD.setTxt (x : ActD) (k : Nat) (l : List UInt8) : ActD := if k = 9 then { x with key := l } else { x with value := l }
theorem numCell_in {c : Int} {k : Nat} (h : numCell c = some k) : k = 1 ∨ k = 2 ∨ k = 3 ∨ k = 4 ∨ k = 5 ∨ k = 6 ∨ k = 8 := by
 unfold numCell at h
 repeat' split at h
 all_goals simp at h
 all_goals omega
theorem txtCell_in (c : Int) : txtCell c = 9 ∨ txtCell c = 10 := by
 unfold txtCell
 split <;> simp
theorem setNum_cells (x : ActD) (k : Nat) (n : Int) (h : k = 1 ∨ k = 2 ∨ k = 3 ∨ k = 4 ∨ k = 5 ∨ k = 6 ∨ k = 8) : (x.setNum k n).cells = x.cells.setIfInBounds k (.int .i64 n) := by
 rcases h with rfl | rfl | rfl | rfl | rfl | rfl | rfl <;> rfl
theorem setTxt_cells (x : ActD) (k : Nat) (l : List UInt8) (h : k = 9 ∨ k = 10) : (x.setTxt k l).cells = x.cells.setIfInBounds k (.string ⟨l.toArray⟩) := by
 rcases h with rfl | rfl <;> rfl
def readStep (x : ActD) (c : UInt8) (wd : List UInt8) : Option ActD :=
 match numCell c.toNat with
 | some k => (numRes wd).map fun n => x.setNum k n
 | none => (txtRes wd).map fun l => x.setTxt (txtCell c.toNat) l
def readFields : List UInt8 → List (List UInt8) → ActD → Option ActD
 | [], _, x => some x
 | _ :: _, [], _ => none
 | c :: cs, wd :: ws, x => (readStep x c wd).bind (readFields cs ws)
def lineFits (ws : List (List UInt8)) (x : LineK) : Bool := decide (x.word = ws.headD []) && decide ((x.letters.length : Int) = (ws.length : Int) - 1)
def readAct (ws : List (List UInt8)) : Option ActD :=
 match lineTab.find? (lineFits ws) with
 | some x => readFields x.letters ws.tail { ActD.zero with kind := x.kind, op := x.op }
 | none => none
def actVal (o : Option ActD) : Value := .tuple #[.agg (o.getD ActD.zero).cells, .bool o.isSome]
theorem letters_ascii : ∀ x ∈ lineTab, ∀ c ∈ x.letters, c.toNat < 128 := by decide +kernel
theorem readFields_drop (cs : List UInt8) (ws : List (List UInt8)) (x : ActD) (i : Nat) (hi : i < cs.length) (hw : i < ws.length) : readFields (cs.drop i) (ws.drop i) x = (readStep x cs[i] ws[i]).bind (readFields (cs.drop (i + 1)) (ws.drop (i + 1))) := by
 rw [List.drop_eq_getElem_cons hi, List.drop_eq_getElem_cons hw]
 rfl
def zeroActCells : Array Value := ActD.zero.cells
theorem number_some (c : Int) (k g : Nat) (w : World) (h : numCell c = some k) :
 Calls Tryz.prog 49 #[.pointer (some ⟨g, 0, none⟩), .int .i32 c] w fun e w' => e = .returned (.pointer (some ⟨g, k, none⟩)) ∧ w = w' := by
 have := number_any c g w
 rw [numPtr, h] at this
 exact this
theorem number_none (c : Int) (g : Nat) (w : World) (h : numCell c = none) :
 Calls Tryz.prog 49 #[.pointer (some ⟨g, 0, none⟩), .int .i32 c] w fun e w' => e = .returned (.pointer none) ∧ w = w' := by
 have := number_any c g w
 rw [numPtr, h] at this
 exact this
theorem readNumber_some (s : ByteArray) (n : Int) (w : World) (h : numRes s.data.toList = some n) :
 Calls Tryz.prog 59 #[.string s] w fun e w' => e = .returned (.tuple #[.int .i64 n, .bool true]) ∧ w = w' := by
 have := readNumber_any s w
 rw [numVal, h] at this
 exact this
theorem readNumber_none (s : ByteArray) (w : World) (h : numRes s.data.toList = none) :
 Calls Tryz.prog 59 #[.string s] w fun e w' => e = .returned (.tuple #[.int .i64 0, .bool false]) ∧ w = w' := by
 have := readNumber_any s w
 rw [numVal, h] at this
 exact this
theorem readText_some (s : ByteArray) (l : List UInt8) (w : World) (hs : s.size ≤ 3000000) (h : txtRes s.data.toList = some l) :
 Calls Tryz.prog 60 #[.string s] w fun e w' => e = .returned (.tuple #[.string ⟨l.toArray⟩, .bool true]) ∧ Below w.heap.size w w' := by
 have := readText_any s w hs
 rw [txtVal, h] at this
 exact this
theorem readText_none (s : ByteArray) (w : World) (hs : s.size ≤ 3000000) (h : txtRes s.data.toList = none) :
 Calls Tryz.prog 60 #[.string s] w fun e w' => e = .returned (.tuple #[.string ⟨#[]⟩, .bool false]) ∧ Below w.heap.size w w' := by
 have := readText_any s w hs
 rw [txtVal, h] at this
 exact this
theorem readFields_at (cs : List UInt8) (ws : List ByteArray) (x : ActD) (i : Nat) (hi : i < cs.length) (hw : i + 1 < ws.length) :
 readFields (cs.drop i) ((ws.map (·.data.toList)).tail.drop i) x = (readStep x cs[i] ws[i + 1].data.toList).bind (readFields (cs.drop (i + 1)) ((ws.map (·.data.toList)).tail.drop (i + 1))) := by
 rw [readFields_drop cs _ x i hi (by simp; omega)]
 simp
theorem zcz {w : World} {g : Nat} {t : TypeId} {x : ActD} (h : Blk w g t x.cells) :
 w.cell? ⟨g, 0, none⟩ = some (.int .i64 x.kind) ∧ w.cell? ⟨g, 1, none⟩ = some (.int .i64 x.a) ∧ w.cell? ⟨g, 2, none⟩ = some (.int .i64 x.b) ∧ w.cell? ⟨g, 3, none⟩ = some (.int .i64 x.n) ∧ w.cell? ⟨g, 4, none⟩ = some (.int .i64 x.tenant) ∧
 w.cell? ⟨g, 5, none⟩ = some (.int .i64 x.client) ∧ w.cell? ⟨g, 6, none⟩ = some (.int .i64 x.number) ∧ w.cell? ⟨g, 7, none⟩ = some (.int .i64 x.op) ∧ w.cell? ⟨g, 8, none⟩ = some (.int .i64 x.item) ∧ w.cell? ⟨g, 9, none⟩ = some (.string ⟨x.key.toArray⟩) ∧ w.cell? ⟨g, 10, none⟩ = some (.string ⟨x.value.toArray⟩) :=
 ⟨h.cell 0, h.cell 1, h.cell 2, h.cell 3, h.cell 4, h.cell 5, h.cell 6, h.cell 7, h.cell 8, h.cell 9, h.cell 10⟩
theorem act_cell_num {w : World} {g k : Nat} {t : TypeId} {x : ActD} (h : Blk w g t x.cells) (hk : k = 1 ∨ k = 2 ∨ k = 3 ∨ k = 4 ∨ k = 5 ∨ k = 6 ∨ k = 8) : ∃ n, w.cell? ⟨g, k, none⟩ = some (.int .i64 n) := by
 rcases hk with rfl | rfl | rfl | rfl | rfl | rfl | rfl <;> exact ⟨_, h.cell _⟩
theorem act_cell_txt {w : World} {g k : Nat} {t : TypeId} {x : ActD} (h : Blk w g t x.cells) (hk : k = 9 ∨ k = 10) : ∃ s, w.cell? ⟨g, k, none⟩ = some (.string s) := by
 rcases hk with rfl | rfl <;> exact ⟨_, h.cell _⟩
theorem blk_iterAt {w : World} {g k : Nat} {t : TypeId} {cs : Array Value} {s : ByteArray} {p : Nat} (h : Blk w g t cs) (hne : g ≠ k) : Blk (w.iterAt k s p) g t cs := (Lib.iterAt_other w k g s p hne).trans h
theorem iter_at (w : World) (s : ByteArray) (p g : Nat) (h : g = w.heap.size) : (w.iter s p).heap[g]? = some (.stringIter s p) := by
 subst h
 exact World.iter_heap w s p
theorem zbn {w : World} {g : Nat} {t : TypeId} {x y : ActD} (h : Blk w g t x.cells) :
 Blk (((((((((((w.setCell ⟨g, 0, none⟩ (.int .i64 y.kind)).setCell ⟨g, 1, none⟩ (.int .i64 y.a)).setCell ⟨g, 2, none⟩ (.int .i64 y.b)).setCell ⟨g, 3, none⟩ (.int .i64 y.n)).setCell ⟨g, 4, none⟩ (.int .i64 y.tenant)).setCell ⟨g, 5, none⟩ (.int .i64 y.client)).setCell ⟨g, 6, none⟩ (.int .i64 y.number)).setCell ⟨g, 7, none⟩ (.int .i64 y.op)).setCell ⟨g, 8, none⟩ (.int .i64 y.item)).setCell ⟨g, 9, none⟩ (.string ⟨y.key.toArray⟩)).setCell ⟨g, 10, none⟩ (.string ⟨y.value.toArray⟩)) g t y.cells := by
 have h1 : Blk (w.setCell ⟨g, 0, none⟩ (.int .i64 y.kind)) g t #[.int .i64 y.kind, .int .i64 x.a, .int .i64 x.b, .int .i64 x.n, .int .i64 x.tenant, .int .i64 x.client, .int .i64 x.number, .int .i64 x.op, .int .i64 x.item, .string ⟨x.key.toArray⟩, .string ⟨x.value.toArray⟩] := h.put 0 (.int .i64 y.kind)
 have h2 : Blk ((w.setCell ⟨g, 0, none⟩ (.int .i64 y.kind)).setCell ⟨g, 1, none⟩ (.int .i64 y.a)) g t #[.int .i64 y.kind, .int .i64 y.a, .int .i64 x.b, .int .i64 x.n, .int .i64 x.tenant, .int .i64 x.client, .int .i64 x.number, .int .i64 x.op, .int .i64 x.item, .string ⟨x.key.toArray⟩, .string ⟨x.value.toArray⟩] := h1.put 1 (.int .i64 y.a)
 have h3 : Blk (((w.setCell ⟨g, 0, none⟩ (.int .i64 y.kind)).setCell ⟨g, 1, none⟩ (.int .i64 y.a)).setCell ⟨g, 2, none⟩ (.int .i64 y.b)) g t #[.int .i64 y.kind, .int .i64 y.a, .int .i64 y.b, .int .i64 x.n, .int .i64 x.tenant, .int .i64 x.client, .int .i64 x.number, .int .i64 x.op, .int .i64 x.item, .string ⟨x.key.toArray⟩, .string ⟨x.value.toArray⟩] := h2.put 2 (.int .i64 y.b)
 have h4 : Blk ((((w.setCell ⟨g, 0, none⟩ (.int .i64 y.kind)).setCell ⟨g, 1, none⟩ (.int .i64 y.a)).setCell ⟨g, 2, none⟩ (.int .i64 y.b)).setCell ⟨g, 3, none⟩ (.int .i64 y.n)) g t #[.int .i64 y.kind, .int .i64 y.a, .int .i64 y.b, .int .i64 y.n, .int .i64 x.tenant, .int .i64 x.client, .int .i64 x.number, .int .i64 x.op, .int .i64 x.item, .string ⟨x.key.toArray⟩, .string ⟨x.value.toArray⟩] := h3.put 3 (.int .i64 y.n)
 have h5 : Blk (((((w.setCell ⟨g, 0, none⟩ (.int .i64 y.kind)).setCell ⟨g, 1, none⟩ (.int .i64 y.a)).setCell ⟨g, 2, none⟩ (.int .i64 y.b)).setCell ⟨g, 3, none⟩ (.int .i64 y.n)).setCell ⟨g, 4, none⟩ (.int .i64 y.tenant)) g t #[.int .i64 y.kind, .int .i64 y.a, .int .i64 y.b, .int .i64 y.n, .int .i64 y.tenant, .int .i64 x.client, .int .i64 x.number, .int .i64 x.op, .int .i64 x.item, .string ⟨x.key.toArray⟩, .string ⟨x.value.toArray⟩] := h4.put 4 (.int .i64 y.tenant)
 have h6 : Blk ((((((w.setCell ⟨g, 0, none⟩ (.int .i64 y.kind)).setCell ⟨g, 1, none⟩ (.int .i64 y.a)).setCell ⟨g, 2, none⟩ (.int .i64 y.b)).setCell ⟨g, 3, none⟩ (.int .i64 y.n)).setCell ⟨g, 4, none⟩ (.int .i64 y.tenant)).setCell ⟨g, 5, none⟩ (.int .i64 y.client)) g t #[.int .i64 y.kind, .int .i64 y.a, .int .i64 y.b, .int .i64 y.n, .int .i64 y.tenant, .int .i64 y.client, .int .i64 x.number, .int .i64 x.op, .int .i64 x.item, .string ⟨x.key.toArray⟩, .string ⟨x.value.toArray⟩] := h5.put 5 (.int .i64 y.client)
 have h7 : Blk (((((((w.setCell ⟨g, 0, none⟩ (.int .i64 y.kind)).setCell ⟨g, 1, none⟩ (.int .i64 y.a)).setCell ⟨g, 2, none⟩ (.int .i64 y.b)).setCell ⟨g, 3, none⟩ (.int .i64 y.n)).setCell ⟨g, 4, none⟩ (.int .i64 y.tenant)).setCell ⟨g, 5, none⟩ (.int .i64 y.client)).setCell ⟨g, 6, none⟩ (.int .i64 y.number)) g t #[.int .i64 y.kind, .int .i64 y.a, .int .i64 y.b, .int .i64 y.n, .int .i64 y.tenant, .int .i64 y.client, .int .i64 y.number, .int .i64 x.op, .int .i64 x.item, .string ⟨x.key.toArray⟩, .string ⟨x.value.toArray⟩] := h6.put 6 (.int .i64 y.number)
 have h8 : Blk ((((((((w.setCell ⟨g, 0, none⟩ (.int .i64 y.kind)).setCell ⟨g, 1, none⟩ (.int .i64 y.a)).setCell ⟨g, 2, none⟩ (.int .i64 y.b)).setCell ⟨g, 3, none⟩ (.int .i64 y.n)).setCell ⟨g, 4, none⟩ (.int .i64 y.tenant)).setCell ⟨g, 5, none⟩ (.int .i64 y.client)).setCell ⟨g, 6, none⟩ (.int .i64 y.number)).setCell ⟨g, 7, none⟩ (.int .i64 y.op)) g t #[.int .i64 y.kind, .int .i64 y.a, .int .i64 y.b, .int .i64 y.n, .int .i64 y.tenant, .int .i64 y.client, .int .i64 y.number, .int .i64 y.op, .int .i64 x.item, .string ⟨x.key.toArray⟩, .string ⟨x.value.toArray⟩] := h7.put 7 (.int .i64 y.op)
 have h9 : Blk (((((((((w.setCell ⟨g, 0, none⟩ (.int .i64 y.kind)).setCell ⟨g, 1, none⟩ (.int .i64 y.a)).setCell ⟨g, 2, none⟩ (.int .i64 y.b)).setCell ⟨g, 3, none⟩ (.int .i64 y.n)).setCell ⟨g, 4, none⟩ (.int .i64 y.tenant)).setCell ⟨g, 5, none⟩ (.int .i64 y.client)).setCell ⟨g, 6, none⟩ (.int .i64 y.number)).setCell ⟨g, 7, none⟩ (.int .i64 y.op)).setCell ⟨g, 8, none⟩ (.int .i64 y.item)) g t #[.int .i64 y.kind, .int .i64 y.a, .int .i64 y.b, .int .i64 y.n, .int .i64 y.tenant, .int .i64 y.client, .int .i64 y.number, .int .i64 y.op, .int .i64 y.item, .string ⟨x.key.toArray⟩, .string ⟨x.value.toArray⟩] := h8.put 8 (.int .i64 y.item)
 have h10 : Blk ((((((((((w.setCell ⟨g, 0, none⟩ (.int .i64 y.kind)).setCell ⟨g, 1, none⟩ (.int .i64 y.a)).setCell ⟨g, 2, none⟩ (.int .i64 y.b)).setCell ⟨g, 3, none⟩ (.int .i64 y.n)).setCell ⟨g, 4, none⟩ (.int .i64 y.tenant)).setCell ⟨g, 5, none⟩ (.int .i64 y.client)).setCell ⟨g, 6, none⟩ (.int .i64 y.number)).setCell ⟨g, 7, none⟩ (.int .i64 y.op)).setCell ⟨g, 8, none⟩ (.int .i64 y.item)).setCell ⟨g, 9, none⟩ (.string ⟨y.key.toArray⟩)) g t #[.int .i64 y.kind, .int .i64 y.a, .int .i64 y.b, .int .i64 y.n, .int .i64 y.tenant, .int .i64 y.client, .int .i64 y.number, .int .i64 y.op, .int .i64 y.item, .string ⟨y.key.toArray⟩, .string ⟨x.value.toArray⟩] := h9.put 9 (.string ⟨y.key.toArray⟩)
 have h11 : Blk (((((((((((w.setCell ⟨g, 0, none⟩ (.int .i64 y.kind)).setCell ⟨g, 1, none⟩ (.int .i64 y.a)).setCell ⟨g, 2, none⟩ (.int .i64 y.b)).setCell ⟨g, 3, none⟩ (.int .i64 y.n)).setCell ⟨g, 4, none⟩ (.int .i64 y.tenant)).setCell ⟨g, 5, none⟩ (.int .i64 y.client)).setCell ⟨g, 6, none⟩ (.int .i64 y.number)).setCell ⟨g, 7, none⟩ (.int .i64 y.op)).setCell ⟨g, 8, none⟩ (.int .i64 y.item)).setCell ⟨g, 9, none⟩ (.string ⟨y.key.toArray⟩)).setCell ⟨g, 10, none⟩ (.string ⟨y.value.toArray⟩)) g t #[.int .i64 y.kind, .int .i64 y.a, .int .i64 y.b, .int .i64 y.n, .int .i64 y.tenant, .int .i64 y.client, .int .i64 y.number, .int .i64 y.op, .int .i64 y.item, .string ⟨y.key.toArray⟩, .string ⟨y.value.toArray⟩] := h10.put 10 (.string ⟨y.value.toArray⟩)
 exact h11
theorem read_any (A : Option Addr) (c : Nat) (ws : List ByteArray) (w : World) (hne : 1 ≤ ws.length) (hsz : ∀ s ∈ ws, s.size ≤ 3000000) (hlen : ws.length ≤ 100000) (hR : Rd w w.heap.size A (ws.map Value.string)) :
 Calls Tryz.prog 31 #[.slice A ws.length c] w fun e w' => e = .returned (actVal (readAct (ws.map (·.data.toList)))) ∧ Below w.heap.size w w' := by
 go_enter Tryz.func31, Tryz.ntmps31
 go_wp2_with fail
 refine (lines_any _).mono ?_
 rintro e w1 ⟨rfl, rfl⟩
 go_wp2_with fail
 go_loopw [14] (fun i wr => ∃ k : Nat, k ≤ 22 ∧ i = .int .i64 k ∧ (lineTab.take k).find? (lineFits (ws.map (·.data.toList))) = none ∧ Blk wr w.heap.size 29 zeroActCells ∧ Blk wr (w.heap.size + 1) 124 lineCells ∧ Below w.heap.size w wr) (fun i _ => 22 - (intOf i).toNat)
 case atStart => exact ⟨0, by omega, rfl, rfl, (Blk.newAt _ _ _ _ rfl).alloc _, Blk.newAt _ _ _ _ (by simp), ((Below.refl _ _).alloc (Nat.le_refl _) _).alloc (by simp) _⟩
 case round =>
  obtain ⟨k, hk, rfl, hno, hbz, hbl, hbw⟩ := hrel
  have HNO := Lib.hid hno
  have HZ := Lib.hid hbz
  have HB := Lib.hid hbl
  have HBW := Lib.hid hbw
  have HR := Lib.hid (hR.below hbw)
  clear hno hbl hbw hbz
  by_cases hlt : k < 22
  ·have dk : decide ((k : Int) < 22) = true := by simp; omega
   have hx : lineTab[k]? = some (lineTab[k]'(by simpa [lineTab] using hlt)) := List.getElem?_eq_getElem _
   generalize (lineTab[k]'(by simpa [lineTab] using hlt)) = x at hx
   have HX := Lib.hid hx
   have c0 := zcx HB.out k 0 (by omega) x hx
   have c1 := zcx HB.out k 1 (by omega) x hx
   have c2 := zcx HB.out k 2 (by omega) x hx
   have c3 := zcx HB.out k 3 (by omega) x hx
   simp only [LineK.cells, Nat.add_zero, List.getElem?_cons_zero, List.getElem?_cons_succ] at c0 c1 c2 c3
   clear hx
   obtain ⟨ad, rfl, hadb, hw0⟩ := HR.out 0 (.string ws[0]) (by simp)
   have hadl : ad.block < wr.heap.size := Nat.lt_of_lt_of_le hadb HBW.out.size
   rw [show ad.add 0 = ad from rfl] at hw0
   have hw0' := fun o => (World.cell?_alloc_lt wr o ad hadl).trans hw0
   have hfit := (show (lineFits (ws.map (·.data.toList)) x) = (decide (x.word = ws[0].data.toList) && decide ((x.letters.length : Int) = (ws.length : Int) - 1)) by
    cases ws with
    | nil => simp at hne
    | cons s0 r => simp [lineFits])
   have HFIT := Lib.hid hfit
   clear hfit
   by_cases hq1 : x.word = ws[0].data.toList
   ·have q1 : (!x.word == ws[0].toList) = false := by rw [toList_eq]; simp [hq1]
    by_cases hq2 : (x.letters.length : Int) = (ws.length : Int) - 1
    ·have q2 : ((x.letters.length : Int) != (ws.length : Int) - 1) = false := by simp [hq2]
     have HF := Lib.hid (show lineFits (ws.map (·.data.toList)) x = true by rw [HFIT.out]; simp [hq1, hq2])
     have HQ2 := Lib.hid hq2
     clear hq1 hq2
     go_wp2_with fail
     go_quiet (fail)
     go_wp2_with fail
     obtain ⟨wo, rfl⟩ : ∃ wo : World, wo = wr := ⟨_, rfl⟩
     have HRA := Lib.hid (show readAct (ws.map (·.data.toList)) = readFields x.letters (ws.map (·.data.toList)).tail { ActD.zero with kind := x.kind, op := x.op } by
      unfold readAct
      rw [find_hit _ _ _ _ HNO.out HX.out HF.out])
     have HAS := Lib.hid (letters_ascii x (List.mem_of_getElem? HX.out))
     go_loopw [7] (fun _ wr => ∃ (i : Nat) (y : ActD), i ≤ x.letters.length ∧ wr.heap[wo.heap.size + 1 + 1]? = some (.stringIter ⟨x.letters.toArray⟩ i) ∧ Blk wr (wo.heap.size + 1) 29 y.cells ∧ readFields (x.letters.drop i) ((ws.map (·.data.toList)).tail.drop i) y = readAct (ws.map (·.data.toList)) ∧ Blk wr w.heap.size 29 zeroActCells ∧ Below w.heap.size w wr ∧ wo.heap.size + 3 ≤ wr.heap.size) (fun _ wr => x.letters.length - wr.iterPos (wo.heap.size + 1 + 1))
     case atStart =>
      refine ⟨0, { ActD.zero with kind := x.kind, op := x.op }, Nat.zero_le _, iter_at _ _ _ _ (by simp), Blk.alloc (Blk.newAt _ _ _ _ (by simp)) _, by rw [HRA.out]; rfl, Blk.alloc (Blk.alloc ((HZ.out.alloc _).drewN _) _) _, ?_, by simp [World.iter]⟩
      exact ((zay (HBW.out.alloc HBW.out.size _) _).alloc (by have := HBW.out.size; simp; omega) _).alloc (by have := HBW.out.size; simp; omega) _
     case round =>
      obtain ⟨i, y, hi, hit, hby, hrf, hbz, hbw, hszz⟩ := hrel
      have HIT := Lib.hid hit
      have HBY := Lib.hid hby
      have HRF := Lib.hid hrf
      have HBZ := Lib.hid hbz
      have HBW2 := Lib.hid hbw
      have HRr := Lib.hid (hR.below hbw)
      have hsw := HBW.out.size
      have hm1 : x.letters.length + 1 ≤ ws.length := by have := HQ2.out; omega
      have hm2 : ws.length ≤ x.letters.length + 1 := by have := HQ2.out; omega
      clear hby hrf hbz hbw hw0 hw0' c0 c1 c2 c3
      by_cases hli : i < x.letters.length
      ·have hlw : i + 1 < ws.length := by omega
       have hca := HAS.out (x.letters[i]) (List.getElem_mem hli)
       have hnx : ∀ ty, (Instr.next (.pointer (some ⟨wo.heap.size + 1 + 1, 0, none⟩)) true ty).run Tryz.prog wr = .ok (.tuple #[.bool true, .int .i64 i, .int .i32 (x.letters[i].toNat : Int)]) (wr.iterAt (wo.heap.size + 1 + 1) ⟨x.letters.toArray⟩ (i + 1)) := fun ty => Lib.run_next_ascii_at wr _ ⟨x.letters.toArray⟩ i ty hit (by show i < x.letters.toArray.size; simpa using hli) hca
       obtain ⟨ad', hade, hadb', hwi⟩ := HRr.out (i + 1) (.string ws[i + 1]) (by simp)
       injection hade with hade
       subst hade
       have hwi' : (wr.iterAt (wo.heap.size + 1 + 1) ⟨x.letters.toArray⟩ (i + 1)).cell? (ad.add (i + 1)) = some (.string ws[i + 1]) := (World.cell?_of_block (Lib.iterAt_other wr _ _ _ _ (by rw [block_add]; omega))).trans hwi
       rw [show ad.add (i + 1) = ⟨ad.block, ad.off + (i + 1), none⟩ from rfl] at hwi'
       have HS := Lib.hid (readFields_at x.letters ws y i hli hlw)
       have HSB := Lib.hid (hsz ws[i + 1] (List.getElem_mem hlw))
       have HBY' := Lib.hid (blk_iterAt (s := ⟨x.letters.toArray⟩) (p := i + 1) (k := wo.heap.size + 1 + 1) HBY.out (by omega))
       have HBZ' := Lib.hid (blk_iterAt (s := ⟨x.letters.toArray⟩) (p := i + 1) (k := wo.heap.size + 1 + 1) HBZ.out (by omega))
       have HBWi := Lib.hid (Lib.below_iterAt HBW2.out (k := wo.heap.size + 1 + 1) (by omega) ⟨x.letters.toArray⟩ (i + 1))
       have HITi := Lib.hid (Lib.iterAt_heap wr (wo.heap.size + 1 + 1) ⟨x.letters.toArray⟩ i (i + 1) hit)
       clear hwi hit
       go_wp2_with fail
       cases hnc : numCell (x.letters[i].toNat : Int) with
       | some kk =>
         have HKK := Lib.hid (numCell_in hnc)
         have HNC := Lib.hid hnc
         clear hnc
         obtain ⟨v0, hv0⟩ := act_cell_num HBY'.out HKK.out
         have fv0 := HBY'.out.free kk
         refine (number_some _ kk _ _ HNC.out).mono ?_
         rintro e w1 ⟨rfl, rfl⟩
         go_wp2_with fail
         cases hnr : numRes ws[i + 1].data.toList with
         | some nn =>
           have HRS := Lib.hid (show readStep y x.letters[i] ws[i + 1].data.toList = some (y.setNum kk nn) by
            unfold readStep
            rw [HNC.out]
            simp [hnr])
           have HNR := Lib.hid hnr
           clear hnr
           refine (readNumber_some _ nn _ HNR.out).mono ?_
           rintro e w1 ⟨rfl, rfl⟩
           go_wp2_with fail
           go_roundw
           case rel =>
            refine ⟨i + 1, y.setNum kk nn, hli, ?_, ?_, ?_, Blk.far HBZ'.out (by simp; omega) _, HBWi.out.setCell (by simp; omega) _, by simp [World.setCell, Lib.iterAt_size]; omega⟩
            ·exact (Below.heap_setCell _ _ _ _ (by simp)).trans HITi.out
            ·rw [setNum_cells _ _ _ HKK.out]
             exact HBY'.out.put kk _
            ·rw [← HRF.out, HS.out, HRS.out]
             rfl
           case measure =>
            have e1 : (World.setCell (wr.iterAt (wo.heap.size + 1 + 1) ⟨x.letters.toArray⟩ (i + 1)) ⟨wo.heap.size + 1, kk, none⟩ (.int .i64 nn)).iterPos (wo.heap.size + 1 + 1) = i + 1 := iterPos_of ((Below.heap_setCell _ _ _ _ (by simp)).trans HITi.out)
            have e2 : wr.iterPos (wo.heap.size + 1 + 1) = i := iterPos_of HIT.out
            rw [e1, e2]
            omega
         | none =>
           have HRS := Lib.hid (show readStep y x.letters[i] ws[i + 1].data.toList = none by
            unfold readStep
            rw [HNC.out]
            simp [hnr])
           have HNR := Lib.hid hnr
           clear hnr
           refine (readNumber_none _ _ HNR.out).mono ?_
           rintro e w1 ⟨rfl, rfl⟩
           have HZ1 := Lib.hid (show Blk ((wr.iterAt (wo.heap.size + 1 + 1) ⟨x.letters.toArray⟩ (i + 1)).setCell ⟨wo.heap.size + 1, kk, none⟩ (.int .i64 0)) w.heap.size 29 ActD.zero.cells from Blk.far HBZ'.out (by simp; omega) _)
           obtain ⟨z0, z1, z2, z3, z4, z5, z6, z7, z8, z9, z10⟩ := zcz HZ1.out
           have y0 := HZ1.out.free 0
           have y1 := HZ1.out.free 1
           have y2 := HZ1.out.free 2
           have y3 := HZ1.out.free 3
           have y4 := HZ1.out.free 4
           have y5 := HZ1.out.free 5
           have y6 := HZ1.out.free 6
           have y7 := HZ1.out.free 7
           have y8 := HZ1.out.free 8
           have y9 := HZ1.out.free 9
           have y10 := HZ1.out.free 10
           simp only [ActD.zero] at z0 z1 z2 z3 z4 z5 z6 z7 z8 z9 z10
           go_wp2_with fail
           refine bodyPost_ret (res_cell_tmp Tryz.results31 Tryz.isAgg29 Tryz.sizeOf29 rfl (zbn (x := ActD.zero) (y := ActD.zero) HZ1.out) rfl) rfl ⟨za8 ?_, ?_⟩
           ·rw [← HRF.out, HS.out, HRS.out]
            rfl
           ·iterate 11 refine Below.setCell ?_ (by simp) _
            exact HBWi.out.setCell (by simp; omega) _
       | none =>
         have HNC := Lib.hid hnc
         clear hnc
         refine (number_none _ _ _ HNC.out).mono ?_
         rintro e w1 ⟨rfl, rfl⟩
         go_wp2_with fail
         refine (text_any _ _ _).mono ?_
         rintro e w1 ⟨rfl, rfl⟩
         have HTC := Lib.hid (txtCell_in (x.letters[i].toNat : Int))
         generalize htc : txtCell (x.letters[i].toNat : Int) = tc at *
         have HTCE := Lib.hid htc
         clear htc
         go_wp2_with fail
         cases hnr : txtRes ws[i + 1].data.toList with
         | some tt =>
           have HRS := Lib.hid (show readStep y x.letters[i] ws[i + 1].data.toList = some (y.setTxt tc tt) by
            unfold readStep
            rw [HNC.out, ← HTCE.out]
            simp [hnr])
           have HNR := Lib.hid hnr
           clear hnr
           refine (readText_some _ tt _ HSB.out HNR.out).mono ?_
           rintro e w2 ⟨rfl, hb2⟩
           have HBY2 := Lib.hid (HBY'.out.below hb2 HBY'.out.lt)
           have HBZ2 := Lib.hid (HBZ'.out.below hb2 HBZ'.out.lt)
           have HBW3 := Lib.hid (HBWi.out.trans (hb2.mono HBWi.out.size))
           have HIT2 := Lib.hid ((hb2.block (wo.heap.size + 1 + 1) (by rw [Lib.iterAt_size]; omega)).trans HITi.out)
           have hs2 : wo.heap.size + 3 ≤ w2.heap.size := by have := hb2.size; rw [Lib.iterAt_size] at this; omega
           clear hb2
           obtain ⟨v0, hv0⟩ := act_cell_txt HBY2.out HTC.out
           have fv0 := HBY2.out.free tc
           go_wp2_with fail
           go_roundw
           case rel =>
            refine ⟨i + 1, y.setTxt tc tt, hli, ?_, ?_, ?_, Blk.far HBZ2.out (by simp; omega) _, HBW3.out.setCell (by simp; omega) _, by simpa [World.setCell] using hs2⟩
            ·exact (Below.heap_setCell _ _ _ _ (by simp)).trans HIT2.out
            ·rw [setTxt_cells _ _ _ HTC.out]
             exact HBY2.out.put tc _
            ·rw [← HRF.out, HS.out, HRS.out]
             rfl
           case measure =>
            have e1 : (World.setCell w2 ⟨wo.heap.size + 1, tc, none⟩ (.string ⟨tt.toArray⟩)).iterPos (wo.heap.size + 1 + 1) = i + 1 := iterPos_of ((Below.heap_setCell _ _ _ _ (by simp)).trans HIT2.out)
            have e2 : wr.iterPos (wo.heap.size + 1 + 1) = i := iterPos_of HIT.out
            rw [e1, e2]
            omega
         | none =>
           have HRS := Lib.hid (show readStep y x.letters[i] ws[i + 1].data.toList = none by
            unfold readStep
            rw [HNC.out]
            simp [hnr])
           have HNR := Lib.hid hnr
           clear hnr
           refine (readText_none _ _ HSB.out HNR.out).mono ?_
           rintro e w2 ⟨rfl, hb2⟩
           have HBY2 := Lib.hid (HBY'.out.below hb2 HBY'.out.lt)
           have HBZ2 := Lib.hid (HBZ'.out.below hb2 HBZ'.out.lt)
           have HBW3 := Lib.hid (HBWi.out.trans (hb2.mono HBWi.out.size))
           clear hb2
           obtain ⟨v0, hv0⟩ := act_cell_txt HBY2.out HTC.out
           have fv0 := HBY2.out.free tc
           have HZ1 := Lib.hid (show Blk (w2.setCell ⟨wo.heap.size + 1, tc, none⟩ (.string ⟨#[]⟩)) w.heap.size 29 ActD.zero.cells from Blk.far HBZ2.out (by simp; omega) _)
           obtain ⟨z0, z1, z2, z3, z4, z5, z6, z7, z8, z9, z10⟩ := zcz HZ1.out
           have y0 := HZ1.out.free 0
           have y1 := HZ1.out.free 1
           have y2 := HZ1.out.free 2
           have y3 := HZ1.out.free 3
           have y4 := HZ1.out.free 4
           have y5 := HZ1.out.free 5
           have y6 := HZ1.out.free 6
           have y7 := HZ1.out.free 7
           have y8 := HZ1.out.free 8
           have y9 := HZ1.out.free 9
           have y10 := HZ1.out.free 10
           simp only [ActD.zero] at z0 z1 z2 z3 z4 z5 z6 z7 z8 z9 z10
           go_wp2_with fail
           refine bodyPost_ret (res_cell_tmp Tryz.results31 Tryz.isAgg29 Tryz.sizeOf29 rfl (zbn (x := ActD.zero) (y := ActD.zero) HZ1.out) rfl) rfl ⟨za8 ?_, ?_⟩
           ·rw [← HRF.out, HS.out, HRS.out]
            rfl
           ·iterate 11 refine Below.setCell ?_ (by simp) _
            exact HBW3.out.setCell (by simp; omega) _
      ·have hie : i = x.letters.length := by omega
       have HIE := Lib.hid hie
       clear hie
       have hnx : ∀ ty, (Instr.next (.pointer (some ⟨wo.heap.size + 1 + 1, 0, none⟩)) true ty).run Tryz.prog wr = .ok (.tuple #[.bool false]) wr := fun ty => Lib.run_next_end_at wr _ ⟨x.letters.toArray⟩ i ty hit (by show ¬ i < x.letters.toArray.size; simpa using hli)
       have HY := Lib.hid (show readAct (ws.map (·.data.toList)) = some y by
        rw [← HRF.out, HIE.out, List.drop_length]
        rfl)
       obtain ⟨u0, u1, u2', u3', u4, u5, u6', u7', u8', u9', u10'⟩ := zcz HBY.out
       have HZ1 := Lib.hid (show Blk wr w.heap.size 29 ActD.zero.cells from HBZ.out)
       obtain ⟨z0, z1, z2, z3, z4, z5, z6, z7, z8, z9, z10⟩ := zcz HZ1.out
       have y0 := HZ1.out.free 0
       have y1 := HZ1.out.free 1
       have y2 := HZ1.out.free 2
       have y3 := HZ1.out.free 3
       have y4 := HZ1.out.free 4
       have y5 := HZ1.out.free 5
       have y6 := HZ1.out.free 6
       have y7 := HZ1.out.free 7
       have y8 := HZ1.out.free 8
       have y9 := HZ1.out.free 9
       have y10 := HZ1.out.free 10
       simp only [ActD.zero] at z0 z1 z2 z3 z4 z5 z6 z7 z8 z9 z10
       clear hit
       go_wp2_with fail
       refine bodyPost_ret (res_cell_tmp Tryz.results31 Tryz.isAgg29 Tryz.sizeOf29 rfl (zbn (x := ActD.zero) (y := y) HZ1.out) rfl) rfl ⟨za8 ?_, ?_⟩
       ·rw [HY.out]
        rfl
       ·iterate 11 refine Below.setCell ?_ (by simp) _
        exact HBW2.out
    ·have q2 : ((x.letters.length : Int) != (ws.length : Int) - 1) = true := by simp [hq2]
     have HF := Lib.hid (show lineFits (ws.map (·.data.toList)) x = false by rw [HFIT.out]; simp [hq2])
     clear hq1 hq2
     go_wp2_with fail
     go_quiet (fail)
     go_wp2_with fail
     go_roundw
     case rel => exact ⟨k + 1, hlt, by go_num, find_miss _ _ _ _ HNO.out HX.out HF.out, (HZ.out.alloc _).drewN _, (HB.out.alloc _).drewN _, zay (HBW.out.alloc HBW.out.size _) _⟩
     case measure => simp [intOf]; omega
   ·have q1 : (!x.word == ws[0].toList) = true := by rw [toList_eq]; simp [hq1]
    have HF := Lib.hid (show lineFits (ws.map (·.data.toList)) x = false by rw [HFIT.out]; simp [hq1])
    clear hq1
    go_wp2_with fail
    go_quiet (fail)
    go_wp2_with fail
    go_roundw
    case rel => exact ⟨k + 1, hlt, by go_num, find_miss _ _ _ _ HNO.out HX.out HF.out, (HZ.out.alloc _).drewN _, (HB.out.alloc _).drewN _, zay (HBW.out.alloc HBW.out.size _) _⟩
    case measure => simp [intOf]; omega
  ·have hie : k = 22 := by omega
   have HY := Lib.hid (show readAct (ws.map (·.data.toList)) = none by
    have := HNO.out
    rw [hie, List.take_of_length_le (by simp [lineTab])] at this
    unfold readAct
    rw [this])
   clear hie
   have dk : decide ((k : Int) < 22) = false := by simp; omega
   have HZ1 := Lib.hid (show Blk wr w.heap.size 29 ActD.zero.cells from HZ.out)
   obtain ⟨z0, z1, z2, z3, z4, z5, z6, z7, z8, z9, z10⟩ := zcz HZ1.out
   have y0 := HZ1.out.free 0
   have y1 := HZ1.out.free 1
   have y2 := HZ1.out.free 2
   have y3 := HZ1.out.free 3
   have y4 := HZ1.out.free 4
   have y5 := HZ1.out.free 5
   have y6 := HZ1.out.free 6
   have y7 := HZ1.out.free 7
   have y8 := HZ1.out.free 8
   have y9 := HZ1.out.free 9
   have y10 := HZ1.out.free 10
   simp only [ActD.zero] at z0 z1 z2 z3 z4 z5 z6 z7 z8 z9 z10
   go_wp2_with fail
   refine bodyPost_ret (res_cell_tmp Tryz.results31 Tryz.isAgg29 Tryz.sizeOf29 rfl (zbn (x := ActD.zero) (y := ActD.zero) HZ1.out) rfl) rfl ⟨za8 ?_, ?_⟩
   ·rw [HY.out]
    rfl
   ·iterate 11 refine Below.setCell ?_ (by simp) _
    exact HBW.out
theorem decode_pos (s : ByteArray) (pos : Nat) (h : pos < s.size) : 1 ≤ (Utf8.decode s pos).2 := by
 rcases Nat.lt_or_ge (s[pos]'h).toNat 128 with ha | ha
 ·rw [decode_ascii s pos h ha]
  exact Nat.le_refl _
 ·exact (decode_high s pos h ha).2
theorem spans_in (p : Nat → Bool) (s : ByteArray) : ∀ (f pos : Nat) (st : Option Nat) (acc : List (Nat × Nat)), (∀ x ∈ acc, x.1 < x.2 ∧ x.2 ≤ s.size) → (∀ a, st = some a → a < pos ∧ a < s.size) →
 (∀ x ∈ (Lib.spansFromP p s f pos st acc).1, x.1 < x.2 ∧ x.2 ≤ s.size) ∧ (∀ a, (Lib.spansFromP p s f pos st acc).2 = some a → a < s.size)
 | 0, pos, st, acc, h1, h2 => ⟨h1, fun a ha => (h2 a ha).2⟩
 | f + 1, pos, st, acc, h1, h2 => by
   unfold Lib.spansFromP
   by_cases hp : pos < s.size
   ·rw [if_pos hp]
    have hd := decode_pos s pos hp
    split
    ·cases st with
     | some a =>
       refine spans_in p s f _ _ _ ?_ (fun b hb => by cases hb)
       intro x hx
       rw [List.mem_append] at hx
       rcases hx with hx | hx
       ·exact h1 x hx
       ·simp at hx
        subst hx
        exact ⟨(h2 a rfl).1, by omega⟩
     | none => exact spans_in p s f _ _ _ h1 (fun b hb => by cases hb)
    ·cases st with
     | some a =>
       refine spans_in p s f _ _ _ h1 (fun b hb => ?_)
       cases hb
       have := h2 a rfl
       exact ⟨by omega, this.2⟩
     | none =>
       refine spans_in p s f _ _ _ h1 (fun b hb => ?_)
       cases hb
       exact ⟨by omega, hp⟩
   ·rw [if_neg hp]
    exact ⟨h1, fun a ha => (h2 a ha).2⟩
theorem fields_in (p : Nat → Bool) (s : ByteArray) : ∀ x ∈ Lib.goFieldsP p s, 1 ≤ x.size ∧ x.size ≤ s.size := by
 intro x hx
 unfold Lib.goFieldsP at hx
 obtain ⟨y, hy, rfl⟩ := List.mem_map.1 hx
 have hs := spans_in p s s.size 0 none [] (by simp) (by simp)
 have hy2 : y.1 < y.2 ∧ y.2 ≤ s.size := by
  unfold Lib.spansOfP Lib.closeSpans at hy
  split at hy
  ·rename_i a ha
   rw [List.mem_append] at hy
   rcases hy with hy | hy
   ·exact hs.1 y hy
   ·simp at hy
    subst hy
    exact ⟨hs.2 a ha, Nat.le_refl _⟩
  ·exact hs.1 y hy
 simp [ByteArray.size_extract]
 omega
def MaxOk (w : World) : Prop := ∃ m : Int, w.cell? ⟨0, 0, none⟩ = some (.int .i64 m)
theorem MaxOk.lt {w : World} (h : MaxOk w) : 0 < w.heap.size := by
 obtain ⟨m, hm⟩ := h
 exact World.block_lt_of_cell? _ _ hm
theorem MaxOk.below {w w' : World} (h : MaxOk w) (hb : Below w.heap.size w w') : MaxOk w' := by
 have hl := h.lt
 obtain ⟨m, hm⟩ := h
 exact ⟨m, (hb.cell hl).trans hm⟩
def isBlank (r : Nat) : Bool := decide ((r : Int) = 32)
def wordsOf (l : List UInt8) : List (List UInt8) := (Lib.goFieldsP isBlank ⟨l.toArray⟩).map (·.data.toList)
theorem blank_any (r : Nat) (w : World) : Calls Tryz.prog 30 #[.int .i32 r] w fun e w' => e = .returned (.bool (isBlank r)) ∧ w = w' := by
 have HB := Lib.hid (show isBlank r = ((r : Int) == 32) by rfl)
 go_enter Tryz.func30, Tryz.ntmps30
 go_wp2
 go_ret
 exact ⟨za8 (by rw [HB.out]; rfl), rfl⟩
theorem blank_at (w : World) : PredAtRunes Tryz.prog 30 #[] isBlank w := fun W x _ _ =>
 (blank_any x W).mono fun _ _ h => ⟨h.1, 0, h.2.symm⟩
theorem fields_any (s : ByteArray) (w : World) (hs : s.size ≤ 4294967296) :
 Calls Tryz.prog 29 #[.string s, .func (.func 30) #[] #[]] w fun e w' => ∃ A, e = .returned (.slice (some A) (Lib.goFieldsP isBlank s).length (Lib.goFieldsP isBlank s).length) ∧ Rd w' w'.heap.size (some A) ((Lib.goFieldsP isBlank s).map Value.string) ∧ Below w.heap.size w w' := by
 refine (Tryz.strings_FieldsFunc_runes 30 #[] (enters_of Tryz.func30 (by kernel_rfl) rfl) isBlank s w hs (blank_at w)).mono ?_
 rintro e w' ⟨A, rfl, _, hown, hb⟩
 exact ⟨_, rfl, Rd.of_own hown, hb⟩
def parseL : Nat → List UInt8 → Nat → List ActD → List ActD × Nat × Int
 | 0, _, n, acts => (acts, n, 0)
 | f + 1, t, n, acts =>
   if t = [] then (acts, n, 0) else
   if wordsOf (Lib.cut t [10]).1 ≠ [] ∧ ((wordsOf (Lib.cut t [10]).1).headD []).headD 0 ≠ 35 then
    match readAct (wordsOf (Lib.cut t [10]).1) with
    | none => ([], n, 1)
    | some a => if acts.length = 400 then ([], n, 2) else parseL f (Lib.cut t [10]).2.1 (n + 1) (acts ++ [a])
   else parseL f (Lib.cut t [10]).2.1 (n + 1) acts
def parseRes (l : List UInt8) : List ActD × Nat × Int := if 16384 < l.length then ([], 0, 2) else parseL l.length l 0 []
theorem cut_shorter (t : List UInt8) (h : t ≠ []) : (Lib.cut t [10]).2.1.length < t.length ∧ (Lib.cut t [10]).1.length ≤ t.length := by
 have hp : 0 < t.length := by cases t <;> simp_all
 unfold Lib.cut
 split
 ·simp only [List.length_drop, List.length_take]
  simp
  omega
 ·simp
  omega
def actsCells (l : List ActD) : List Value := l.flatMap fun a => a.cells.toList
theorem etAct : ElemT Tryz.prog 22 29 (.agg ActD.zero.cells) 11 104 := ElemT.mk' Tryz.underlying22 (by kernel_rfl) rfl (by decide)
def ParseBack (w : World) (r : List ActD × Nat × Int) (e : Ending) (w' : World) : Prop :=
 ∃ v, e = .returned (.tuple #[v, .int .i64 r.2.1, .int .i64 r.2.2]) ∧ w'.ownsRow w.heap.size 29 11 v r.1.length (actsCells r.1) ∧ Below w.heap.size w w'
theorem read_some (A : Option Addr) (c : Nat) (ws : List ByteArray) (w : World) (a : ActD) (hne : 1 ≤ ws.length) (hsz : ∀ s ∈ ws, s.size ≤ 3000000) (hlen : ws.length ≤ 100000) (hR : Rd w w.heap.size A (ws.map Value.string)) (h : readAct (ws.map (·.data.toList)) = some a) :
 Calls Tryz.prog 31 #[.slice A ws.length c] w fun e w' => e = .returned (.tuple #[.agg a.cells, .bool true]) ∧ Below w.heap.size w w' := by
 have := read_any A c ws w hne hsz hlen hR
 rw [h] at this
 exact this
theorem read_none (A : Option Addr) (c : Nat) (ws : List ByteArray) (w : World) (hne : 1 ≤ ws.length) (hsz : ∀ s ∈ ws, s.size ≤ 3000000) (hlen : ws.length ≤ 100000) (hR : Rd w w.heap.size A (ws.map Value.string)) (h : readAct (ws.map (·.data.toList)) = none) :
 Calls Tryz.prog 31 #[.slice A ws.length c] w fun e w' => e = .returned (.tuple #[.agg ActD.zero.cells, .bool false]) ∧ Below w.heap.size w w' := by
 have := read_any A c ws w hne hsz hlen hR
 rw [h] at this
 exact this
theorem zdb (p : Nat → Bool) (s : ByteArray) : ∀ (f pos : Nat) (st : Option Nat) (acc : List (Nat × Nat)), (Lib.spansFromP p s f pos st acc).1.length ≤ acc.length + f
 | 0, _, _, _ => Nat.le_refl _
 | f + 1, pos, st, acc => by
   unfold Lib.spansFromP
   split
   ·split
    ·cases st with
     | some a => have := zdb p s f (pos + (Utf8.decode s pos).2) none (acc ++ [(a, pos)]); simp at this ⊢; omega
     | none => have := zdb p s f (pos + (Utf8.decode s pos).2) none acc; simp at this ⊢; omega
    ·cases st with
     | some a => have := zdb p s f (pos + (Utf8.decode s pos).2) (some a) acc; simp at this ⊢; omega
     | none => have := zdb p s f (pos + (Utf8.decode s pos).2) (some pos) acc; simp at this ⊢; omega
   ·simp
theorem fields_count (p : Nat → Bool) (s : ByteArray) : (Lib.goFieldsP p s).length ≤ s.size + 1 := by
 unfold Lib.goFieldsP Lib.spansOfP Lib.closeSpans
 have := zdb p s s.size 0 none []
 split <;> simp at this ⊢ <;> omega
theorem parse_any (s : ByteArray) (w : World) (hm : MaxOk w) : Calls Tryz.prog 11 #[.string s] w (ParseBack w (parseRes s.data.toList)) := by
 by_cases hbig : 16384 < s.size
 ·have HP := Lib.hid (show parseRes s.data.toList = ([], 0, 2) by rw [parseRes, if_pos (by simpa using hbig)])
  go_enter Tryz.func11, Tryz.ntmps11
  go_wp2_with fail
  go_ret3
  rw [HP.out]
  exact ⟨_, rfl, World.ownsRow_nil _ _ _ _, Below.refl _ _⟩
 have HP := Lib.hid (show parseRes s.data.toList = parseL s.size s.data.toList 0 [] by rw [parseRes, if_neg (by simpa using hbig)]; simp)
 go_enter Tryz.func11, Tryz.ntmps11
 go_wp2_with fail
 go_loopw [0, 5, 6] (fun x v i wr => ∃ (t : ByteArray) (n f : Nat) (acts : List ActD), x = .string t ∧ i = .int .i64 n ∧ n + t.size ≤ 16384 ∧ t.size ≤ f ∧ acts.length ≤ 400 ∧ parseL f t.data.toList n acts = parseRes s.data.toList ∧ wr.ownsRow w.heap.size 29 11 v acts.length (actsCells acts) ∧ Below w.heap.size w wr)
  (fun x _ _ _ => (match x with | .string t => t.size | _ => 0))
 case atStart => exact ⟨s, 0, s.size, [], rfl, rfl, by omega, Nat.le_refl _, by simp, HP.out.symm, World.ownsRow_nil _ _ _ _, Below.refl _ _⟩
 case round =>
  obtain ⟨t, n, f, acts, rfl, rfl, hnt, htf, hal, hpl, hown, hbw⟩ := hrel
  have HPL := Lib.hid hpl
  have HO := Lib.hid hown
  have HBW := Lib.hid hbw
  clear hpl hown hbw
  by_cases ht : 0 < t.size
  ·obtain ⟨m, hmm⟩ := hm.below HBW.out
   go_wp2_with fail
   refine (Tryz.strings_Cut _ _ m _ (by omega) hmm).mono ?_
   rintro e w1 ⟨rfl, nd, rfl⟩
   have htne : t.data.toList ≠ [] := by
    intro e
    have h0 : t.data.toList.length = 0 := by rw [e]; rfl
    rw [Array.length_toList] at h0
    have h1 : t.data.size = t.size := rfl
    omega
   have hsh := cut_shorter t.data.toList htne
   have hts : t.data.toList.length = t.size := by simp
   obtain ⟨f', hf'⟩ : ∃ f', f = f' + 1 := ⟨f - 1, by omega⟩
   have HUN := Lib.hid (show parseL f t.data.toList n acts = if wordsOf (Lib.cut t.data.toList [10]).1 ≠ [] ∧ ((wordsOf (Lib.cut t.data.toList [10]).1).headD []).headD 0 ≠ 35 then
    (match readAct (wordsOf (Lib.cut t.data.toList [10]).1) with
    | none => ([], n, 1)
    | some a => if acts.length = 400 then ([], n, 2) else parseL f' (Lib.cut t.data.toList [10]).2.1 (n + 1) (acts ++ [a]))
    else parseL f' (Lib.cut t.data.toList [10]).2.1 (n + 1) acts by rw [hf', parseL, if_neg htne])
   rw [show (⟨#[10]⟩ : ByteArray).data.toList = [10] from rfl]
   generalize Lib.cut t.data.toList [10] = cc at *
   obtain ⟨l, r, b⟩ := cc
   simp only at hsh HUN ⊢
   have hr1 : r.length < t.size := by omega
   have hr2 : l.length ≤ t.size := by omega
   have hf2 : r.length ≤ f' := by omega
   clear hsh hts htne hf' hmm
   go_wp2_with fail
   refine (fields_any _ _ (by show l.toArray.size ≤ _; simp; omega)).mono ?_
   rintro e w2 ⟨A2, rfl, hR2, hb2⟩
   have hfi := fields_in isBlank ⟨l.toArray⟩
   have hfc := fields_count isBlank ⟨l.toArray⟩
   have hls : (⟨l.toArray⟩ : ByteArray).size = l.length := by show l.toArray.size = _; simp
   rw [hls] at hfc
   have HWO := Lib.hid (show wordsOf l = (Lib.goFieldsP isBlank ⟨l.toArray⟩).map (·.data.toList) from rfl)
   generalize Lib.goFieldsP isBlank ⟨l.toArray⟩ = ws at *
   have HFI := Lib.hid (show ∀ x ∈ ws, 1 ≤ x.size ∧ x.size ≤ 3000000 from fun x hx => ⟨(hfi x hx).1, by have := (hfi x hx).2; rw [hls] at this; omega⟩)
   have HR2 := Lib.hid hR2
   have HO2 := Lib.hid (zb7 (w' := w2) (w := wr.drewN nd) HO.out hb2)
   have HB2 := Lib.hid ((zay HBW.out nd).trans (hb2.mono HBW.out.size))
   clear hfi hls hR2 hb2
   by_cases hw0 : 0 < ws.length
   ·have d0 : decide (0 < ws.length) = true := by simpa using hw0
    obtain ⟨w0, hw0e⟩ : ∃ w0, ws[0]? = some w0 := ⟨ws[0], by simp [hw0]⟩
    obtain ⟨z1, z2⟩ := HFI.out w0 (List.mem_of_getElem? hw0e)
    obtain ⟨ad, hade, hadb, hcw⟩ := HR2.out 0 (.string w0) (by simp [hw0e])
    injection hade with hade
    subst hade
    rw [show A2.add 0 = A2 from rfl] at hcw
    have hz1 : 0 < w0.size := by omega
    have HHD := Lib.hid (show wordsOf l ≠ [] ∧ ((wordsOf l).headD []).headD 0 = w0[0] by
     rw [HWO.out]
     cases ws with
     | nil => simp at hw0
     | cons a r =>
       simp at hw0e
       subst hw0e
       refine ⟨by simp, ?_⟩
       rw [← zdh a 0 hz1]
       simp [List.headD_eq_head?_getD, List.head?_eq_getElem?])
    have HW0 := Lib.hid hw0e
    clear hw0e
    by_cases hc35 : w0[0] = 35
    ·have d1 : ((w0[0].toNat : Int) != 35) = false := by rw [hc35]; rfl
     have HU2 := Lib.hid (show parseL f' r (n + 1) acts = parseRes s.data.toList by
      rw [← HPL.out, HUN.out, if_neg (by rw [HHD.out.2, hc35]; simp)])
     clear hc35
     go_wp2_with fail
     go_roundw
     case rel => exact ⟨⟨r.toArray⟩, n + 1, f', acts, rfl, by go_num, by show n + 1 + r.toArray.size ≤ _; simp; omega, by show r.toArray.size ≤ _; simpa using hf2, hal, HU2.out, HO2.out, HB2.out⟩
     case measure => show r.toArray.size < _; simpa using hr1
    ·have d1 : ((w0[0].toNat : Int) != 35) = true := by
      rw [bne_iff_ne]
      intro e
      apply hc35
      apply UInt8.toNat_inj.1
      have : w0[0].toNat = 35 := by omega
      exact this
     have HU2 := Lib.hid (show (match readAct (wordsOf l) with
      | none => ([], n, 1)
      | some a => if acts.length = 400 then ([], n, 2) else parseL f' r (n + 1) (acts ++ [a])) = parseRes s.data.toList by
      rw [← HPL.out, HUN.out, if_pos ⟨HHD.out.1, by rw [HHD.out.2]; exact hc35⟩])
     clear hc35
     go_wp2_with fail
     cases hra : readAct (ws.map (·.data.toList)) with
     | none =>
       refine (read_none _ _ ws _ hw0 (fun x hx => (HFI.out x hx).2) (by omega) HR2.out hra).mono ?_
       rintro e w3 ⟨rfl, hb3⟩
       have HRE := Lib.hid (show parseRes s.data.toList = ([], n, 1) by rw [← HU2.out, HWO.out, hra])
       have HB3 := Lib.hid (HB2.out.trans (hb3.mono HB2.out.size))
       clear hra hb3
       simp only [ActD.cells, ActD.zero]
       go_wp2_with fail
       go_ret3
       rw [HRE.out]
       exact ⟨_, rfl, World.ownsRow_nil _ _ _ _, HB3.out.alloc HB3.out.size _⟩
     | some a =>
       refine (read_some _ _ ws _ a hw0 (fun x hx => (HFI.out x hx).2) (by omega) HR2.out hra).mono ?_
       rintro e w3 ⟨rfl, hb3⟩
       have HU3 := Lib.hid (show (if acts.length = 400 then ([], n, 2) else parseL f' r (n + 1) (acts ++ [a])) = parseRes s.data.toList by rw [← HU2.out, HWO.out, hra])
       have HB3 := Lib.hid (HB2.out.trans (hb3.mono HB2.out.size))
       have HO3 := Lib.hid (zb7 HO2.out hb3)
       clear hra hb3
       simp only [ActD.cells]
       obtain ⟨A0, c0, rfl⟩ := zas HO3.out
       by_cases h400 : acts.length = 400
       ·have d4 : ((acts.length : Int) == 400) = true := by rw [h400]; rfl
        have HRE := Lib.hid (show parseRes s.data.toList = ([], n, 2) by rw [← HU3.out, if_pos h400])
        clear h400
        go_wp2_with fail
        go_ret3
        rw [HRE.out]
        exact ⟨_, rfl, World.ownsRow_nil _ _ _ _, HB3.out.alloc HB3.out.size _⟩
       ·have d4 : ((acts.length : Int) == 400) = false := beq_eq_false_iff_ne.2 (by omega)
        have HRE := Lib.hid (show parseL f' r (n + 1) (acts ++ [a]) = parseRes s.data.toList by rw [← HU3.out, if_neg h400])
        have hlt4 : acts.length < 400 := by omega
        clear h400
        go_wp2_with (at_builtin; refine wpList_appAt etAct rfl _ _ rfl w.heap.size _ acts.length _ rfl (by exact HO3.out.alloc _) a.cells rfl (by simp [ActD.cells, Value.oneCell']) (w3.heap.size + 1) (by simp) rfl (by omega) (by omega) (by have := HB3.out.size; simp; omega) ?_; intro v' w4 hown4 hg4 hat4)
        go_roundw
        case rel =>
         refine ⟨⟨r.toArray⟩, n + 1, f', acts ++ [a], rfl, by go_num, by show n + 1 + r.toArray.size ≤ _; simp; omega, by show r.toArray.size ≤ _; simpa using hf2, by simp; omega, HRE.out, ?_, below_app (HO3.out.alloc _) (HB3.out.alloc HB3.out.size _) (Nat.le_refl _) (by have := HB3.out.size; simp; omega) hg4⟩
         rw [List.length_append, actsCells, List.flatMap_append]
         simpa [actsCells] using hown4
        case measure => show r.toArray.size < _; simpa using hr1
   ·have d0 : decide (0 < ws.length) = false := by simpa using hw0
    have HU2 := Lib.hid (show parseL f' r (n + 1) acts = parseRes s.data.toList by
     have : wordsOf l = [] := by
      rw [HWO.out]
      cases ws with
      | nil => rfl
      | cons a r => simp at hw0
     rw [← HPL.out, HUN.out, if_neg (by rw [this]; simp)])
    go_wp2_with fail
    go_roundw
    case rel => exact ⟨⟨r.toArray⟩, n + 1, f', acts, rfl, by go_num, by show n + 1 + r.toArray.size ≤ _; simp; omega, by show r.toArray.size ≤ _; simpa using hf2, hal, HU2.out, HO2.out, HB2.out⟩
    case measure => show r.toArray.size < _; simpa using hr1
  ·have HE := Lib.hid (show parseRes s.data.toList = (acts, n, 0) by
    rw [← HPL.out]
    have h0 : t.data.toList = [] := by
     apply List.eq_nil_of_length_eq_zero
     rw [Array.length_toList]
     have h1 : t.data.size = t.size := rfl
     omega
    rw [h0]
    cases f <;> rfl)
   go_wp2_with fail
   go_ret3
   rw [HE.out]
   exact ⟨_, rfl, HO.out, HBW.out⟩
structure Env (w : World) : Prop where
 max : MaxOk w
 pow : Lib.TabIs Tryz.prog w "internal/strconv.uint64pow10" .u64 Lib.pow10Tab
theorem tab_below {n : String} {g : Nat} {k : IntKind} {zs : List Int} {w w' : World} (hg : Tryz.prog.globalNamed n = some g) (h : Lib.TabIs Tryz.prog w n k zs) (hb : Below w.heap.size w w') : Lib.TabIs Tryz.prog w' n k zs := by
 unfold Lib.TabIs World.var? at h ⊢
 simp only [hg, Option.bind_some] at h ⊢
 have hlt : g < w.heap.size := by
  rcases Nat.lt_or_ge g w.heap.size with h' | h'
  ·exact h'
  ·rw [Array.getElem?_eq_none h'] at h; simp at h
 rw [hb.block g hlt]
 exact h
theorem Env.below {w w' : World} (h : Env w) (hb : Below w.heap.size w w') : Env w' :=
 ⟨h.max.below hb, tab_below (g := 1) (by kernel_rfl) h.pow hb⟩
theorem itoa_any (n : Int) (h0 : -9223372036854775808 ≤ n) (h1 : n ≤ 9223372036854775807) (w : World) (he : Env w) :
 Calls Tryz.prog 32 #[.int .i64 n] w fun e w' => e = .returned (.string ⟨(Lib.itoa n).toArray⟩) ∧ Below w.heap.size w w' :=
 (Tryz.strconv_Itoa n h0 h1 w he.pow).mono fun _ _ ⟨h, k, os, hw⟩ => ⟨h, by rw [hw]; exact Lib.below_grow _ w (Nat.le_refl _) k os⟩
theorem drewN_drewN (w : World) (a b : Nat) : ∃ c, (w.drewN a).drewN b = w.drewN c := by
 refine ⟨a + b, ?_⟩
 simp [World.drewN, Nat.add_assoc]
theorem quiet_more {P : Program} {f : FuncId} {args : Array Value} {w : World} {n : Nat} {v : Value}
 (h : Calls P f args (w.drewN n) fun e w' => e = .returned v ∧ ∃ m, w' = (w.drewN n).drewN m) : Calls P f args (w.drewN n) fun e w'' => e = .returned v ∧ ∃ m, w'' = w.drewN m :=
 h.mono fun _ _ ⟨he, m, hm⟩ => ⟨he, by obtain ⟨c, hc⟩ := drewN_drewN w n m; exact ⟨c, by rw [hm, hc]⟩⟩
def dig16 : ByteArray := { data := #[48, 49, 50, 51, 52, 53, 54, 55, 56, 57, 97, 98, 99, 100, 101, 102] }
theorem dig_fin : ∀ u : Fin 10, dig16.extract u.val (u.val + 1) = ⟨#[UInt8.ofNat (48 + u.val)]⟩ := by decide +kernel
theorem dig_at (u : Nat) (h : u < 10) : dig16.extract u (u + 1) = ⟨#[UInt8.ofNat (48 + u)]⟩ := dig_fin ⟨u, h⟩
theorem bytes_app (a b : List UInt8) : (⟨a.toArray⟩ : ByteArray) ++ ⟨b.toArray⟩ = ⟨(a ++ b).toArray⟩ := by
 apply ByteArray.ext
 simp [ByteArray.data_append]
theorem rnum_nat (w0 : World) : ∀ (f u : Nat), u < f → u ≤ 9223372036854775807 → ∀ w, Calls Tryz.prog 57 #[.int .i64 u] w fun e w' => e = .returned (.string ⟨(Lib.decDigits u).toArray⟩) ∧ ∃ n, w' = w.drewN n
 | 0, u, h, _, _ => absurd h (by omega)
 | f + 1, u, h, hu, w => by
   by_cases h10 : u < 10
   ·have d0 : decide ((u : Int) < 0) = false := by simp
    have d1 : decide ((u : Int) < 10) = true := by simp; omega
    have HE := Lib.hid (show Lib.decDigits u = [UInt8.ofNat (48 + u)] from Lib.decDigits_one h10)
    have HD := Lib.hid (dig_at u h10)
    have w1 : IntKind.i64.wrap ((u : Int) + 1) = (u : Int) + 1 := IntWalk.i64_in _ (by omega)
    go_enter Tryz.func57, Tryz.ntmps57
    go_wp2_with fail
    go_ret
    exact ⟨za8 (by rw [HE.out]; exact congrArg Value.string HD.out), 0, rfl⟩
   ·have d0 : decide ((u : Int) < 0) = false := by simp
    have d1 : decide ((u : Int) < 10) = false := by simp; omega
    obtain ⟨q, r, hq, hr, hr10⟩ : ∃ q r : Nat, u / 10 = q ∧ u % 10 = r ∧ r < 10 := ⟨_, _, rfl, rfl, by omega⟩
    have HE := Lib.hid (show Lib.decDigits u = Lib.decDigits q ++ [UInt8.ofNat (48 + r)] by rw [Lib.decDigits, dif_neg h10, hq, hr])
    have HD := Lib.hid (dig_at r hr10)
    have IH := Lib.hid (rnum_nat w0 f q (by omega) (by omega))
    have HL := Lib.hid (Lib.itoa_length_le u (by omega) (by omega))
    rw [Lib.itoa_nonneg] at HL
    have hln := HL.out
    have q1 : (u : Int) / 10 = (q : Int) := by omega
    have q2 : (u : Int) % 10 = (r : Int) := by omega
    have q3 : IntKind.i64.wrap (q : Int) = (q : Int) := IntWalk.i64_in _ (by omega)
    have q4 : IntKind.i64.wrap (r : Int) = (r : Int) := IntWalk.i64_in _ (by omega)
    have q5 : IntKind.i64.wrap ((r : Int) + 1) = (r : Int) + 1 := IntWalk.i64_in _ (by omega)
    have z1 : (⟨(Lib.decDigits q).toArray⟩ : ByteArray).size + (({ data := #[48, 49, 50, 51, 52, 53, 54, 55, 56, 57, 97, 98, 99, 100, 101, 102] } : ByteArray).extract r (r + 1)).size ≤ 9223372036854775807 := by
     have e1 : (⟨(Lib.decDigits q).toArray⟩ : ByteArray).size = (Lib.decDigits q).length := by show (Lib.decDigits q).toArray.size = _; simp
     rw [HE.out] at hln
     simp at hln
     rw [e1]
     have e2 := congrArg ByteArray.size HD.out
     have e3 : (⟨#[UInt8.ofNat (48 + r)]⟩ : ByteArray).size = 1 := rfl
     simp only [dig16] at e2
     omega
    have z2 := fun w => run_string_add_sum (P := Tryz.prog) w _ _ z1
    clear hq hr hln z1 HL
    go_enter Tryz.func57, Tryz.ntmps57
    go_wp2_with fail
    go_quiet ((go_at_call 57; exact quiet_more (IH.out _)))
    go_wp2_with fail
    go_ret
    exact ⟨za8 (by rw [HE.out, ← bytes_app]; exact congrArg Value.string (congrArg _ HD.out)), _, rfl⟩
theorem rnum_any (n : Int) (h0 : -9223372036854775807 ≤ n) (h1 : n ≤ 9223372036854775807) (w : World) : Calls Tryz.prog 57 #[.int .i64 n] w fun e w' => e = .returned (.string ⟨(Lib.itoa n).toArray⟩) ∧ ∃ n, w' = w.drewN n := by
 by_cases hn : n < 0
 ·obtain ⟨u, rfl⟩ : ∃ u : Nat, n = -(u : Int) := ⟨n.natAbs, by omega⟩
  have HE := Lib.hid (Lib.itoa_neg u (by omega))
  have IH := Lib.hid (rnum_nat w (u + 1) u (by omega) (by omega))
  have hln := Lib.itoa_length_le u (by omega) (by omega)
  rw [Lib.itoa_nonneg] at hln
  have q1 : IntKind.i64.wrap (u : Int) = (u : Int) := IntWalk.i64_in _ (by omega)
  have d0 : decide (-(u : Int) < 0) = true := by simp; omega
  have z1 : ({ data := #[45] } : ByteArray).size + (⟨(Lib.decDigits u).toArray⟩ : ByteArray).size ≤ 9223372036854775807 := by
   have e1 : (⟨(Lib.decDigits u).toArray⟩ : ByteArray).size = (Lib.decDigits u).length := by show (Lib.decDigits u).toArray.size = _; simp
   have e2 : ({ data := #[45] } : ByteArray).size = 1 := rfl
   omega
  have z2 := fun w => run_string_add_sum (P := Tryz.prog) w _ _ z1
  clear hln z1
  go_enter Tryz.func57, Tryz.ntmps57
  go_wp2_with fail
  refine (IH.out _).mono ?_
  rintro e w' ⟨rfl, m, rfl⟩
  go_wp2_with fail
  go_ret
  exact ⟨za8 (by rw [HE.out]; exact congrArg Value.string (bytes_app [45] _)), m, rfl⟩
 ·obtain ⟨u, rfl⟩ : ∃ u : Nat, n = (u : Int) := ⟨n.natAbs, by omega⟩
  rw [Lib.itoa_nonneg]
  exact rnum_nat w (u + 1) u (by omega) (by omega) w
theorem written_any (s : ByteArray) (w : World) (hs : s.size ≤ 3000000) :
 Calls Tryz.prog 55 #[.string s] w fun e w' => e = .returned (.string ⟨(txtOf s.data.toList).toArray⟩) ∧ Below w.heap.size w w' := by
 have hss : s.size = s.data.toList.length := by simp
 by_cases h0 : s.data.toList = []
 ·have HF := Lib.hid (show txtOf s.data.toList = [46] by simp [txtOf, h0])
  have h1 : (s.toList.isEmpty) = true := by rw [toList_eq]; simp [h0]
  clear h0 hss
  go_enter Tryz.func55, Tryz.ntmps55
  go_wp2_with fail
  go_ret
  exact ⟨za8 (by rw [HF.out]; rfl), Below.refl _ _⟩
 have h1 : (s.toList.isEmpty) = false := by rw [toList_eq]; exact List.isEmpty_eq_false_iff.2 h0
 have HF := Lib.hid (show txtOf s.data.toList = s.data.toList.flatMap hexOf by rw [txtOf, if_neg h0])
 clear h0 hss
 go_enter Tryz.func55, Tryz.ntmps55
 go_wp2_with fail
 go_loopw [3, 4] (fun v t wr => ∃ k : Nat, k ≤ s.size ∧ t = .int .i64 k ∧ wr.ownsRow w.heap.size 5 1 v (2 * k) (Lib.byteCells ((s.data.toList.take k).flatMap hexOf)) ∧ Below w.heap.size w wr)
  (fun _ i _ => s.size - (intOf i).toNat)
 case atStart => exact ⟨0, by omega, rfl, World.ownsRow_nil _ _ _ _, Below.refl _ _⟩
 case round =>
  obtain ⟨k, hk, rfl, hown, hbw⟩ := hrel
  have HO := Lib.hid hown
  have HBW := Lib.hid hbw
  have hsz := hbw.size
  clear hown hbw
  by_cases hlt : k < s.size
  ·have hb := s[k].toNat_lt
   have e1 : s[k].toNat / 16 < ({ data := #[48, 49, 50, 51, 52, 53, 54, 55, 56, 57, 97, 98, 99, 100, 101, 102] } : ByteArray).size := by show s[k].toNat / 16 < 16; omega
   have e2 : s[k].toNat % 16 < ({ data := #[48, 49, 50, 51, 52, 53, 54, 55, 56, 57, 97, 98, 99, 100, 101, 102] } : ByteArray).size := by show s[k].toNat % 16 < 16; omega
   have HHX := Lib.hid (show Lib.byteCells (hexOf s[k]) = [.int .u8 (({ data := #[48, 49, 50, 51, 52, 53, 54, 55, 56, 57, 97, 98, 99, 100, 101, 102] } : ByteArray)[s[k].toNat / 16].toNat : Int), .int .u8 (({ data := #[48, 49, 50, 51, 52, 53, 54, 55, 56, 57, 97, 98, 99, 100, 101, 102] } : ByteArray)[s[k].toNat % 16].toNat : Int)] by
    rw [← zdh _ _ e1, ← zdh _ _ e2]
    rfl)
   have f1 : 0 ≤ (s[k].toNat : Int) / 16 := by omega
   have f2 : (s[k].toNat : Int) / 16 < 16 := by omega
   have f3 : 0 ≤ (s[k].toNat : Int) % 16 := by omega
   have f4 : (s[k].toNat : Int) % 16 < 16 := by omega
   have f5 : ((s[k].toNat : Int) / 16).toNat = s[k].toNat / 16 := by omega
   have f6 : ((s[k].toNat : Int) % 16).toNat = s[k].toNat % 16 := by omega
   have f7 := and15 s[k].toNat (by omega)
   have HSN := Lib.hid (hexTo_snoc s k hlt)
   go_wp2_with fail
   go_region_held3 (fun _ => True) (trivial) ((refine step_app etU8 rfl _ _ rfl w.heap.size _ (2 * k) _ rfl (by exact HO.out.alloc _) ⟨wr.heap.size, 0, none⟩ 2 2 [.int .u8 (({ data := #[48, 49, 50, 51, 52, 53, 54, 55, 56, 57, 97, 98, 99, 100, 101, 102] } : ByteArray)[s[k].toNat / 16].toNat : Int), .int .u8 (({ data := #[48, 49, 50, 51, 52, 53, 54, 55, 56, 57, 97, 98, 99, 100, 101, 102] } : ByteArray)[s[k].toNat % 16].toNat : Int)] rfl rfl (by exact zbk wr _ _) (by simp [Value.oneCell']) (by omega) (by omega) (by simp; omega) ?_; intro v' w2 hown2 hg2 hat2))
   all_goals
    go_wp2
    go_roundw
    case rel =>
     refine ⟨k + 1, hlt, by go_num, ?_, below_app (w := (wr.alloc _).drew) (HO.out.alloc _) (HBW.out.alloc hsz _).drew (Nat.le_refl _) (by simp; omega) hg2⟩
     rw [HSN.out, zc5, HHX.out]
     exact hown2
    case measure => simp [intOf]; omega
  ·have e : k = s.size := by omega
   subst e
   obtain ⟨A, c, rfl⟩ := zas HO.out
   have hall : s.data.toList.take s.size = s.data.toList := List.take_of_length_le (by simp)
   rw [hall] at HO
   have hcv := run_str (P := Tryz.prog) 66 9 5 Tryz.underlying66 Tryz.underlying5 Tryz.underlying9 (s.data.toList.flatMap hexOf) A (2 * s.size) c wr.heap.size (by rw [hexTo_length]; simp) wr (Rd.of_own HO.out)
   clear hall
   go_wp2
   go_ret
   exact ⟨za8 (by rw [HF.out]; rfl), HBW.out⟩
def replyL (kind err seq item : Int) (val : List UInt8) : List UInt8 :=
 if err ≠ 0 ∧ err ≠ 31 then [101, 114, 114, 111, 114, 32] ++ Lib.itoa err ++ [10]
 else if kind ≠ 2 then [111, 107, 10]
 else (if err = 31 then [119, 97, 105, 116] else [111, 107]) ++ [32] ++ Lib.itoa seq ++ [32] ++ Lib.itoa item ++ [32] ++ txtOf val ++ [10]
def repV (err seq item : Int) (val : ByteArray) : Value := .agg #[.int .i64 err, .int .i64 seq, .int .i64 item, .string val]
theorem zcw (l : List UInt8) : (⟨l.toArray⟩ : ByteArray).size = l.length := by show l.toArray.size = _; simp
theorem txtOf_len (l : List UInt8) : (txtOf l).length ≤ 2 * l.length + 1 := by
 unfold txtOf
 split
 ·simp
 ·rw [hexTo_length]; omega
def I63 (n : Int) : Prop := -9223372036854775807 ≤ n ∧ n ≤ 9223372036854775807
theorem zc6 (P : Program) (a b : List UInt8) (h : a.length + b.length ≤ 9223372036854775807) (w : World) : (Op.stringOp .add ⟨a.toArray⟩ ⟨b.toArray⟩).run P w = .ok (.string ⟨(a ++ b).toArray⟩) w := by
 rw [run_string_add_sum w _ _ (by rw [zcw, zcw]; exact h), bytes_app]
theorem join4 (a b c d : List UInt8) (x : ByteArray) (hx : x.data.toList = a) : Lib.join ([x, ⟨b.toArray⟩, ⟨c.toArray⟩, ⟨d.toArray⟩].map (·.data.toList)) [32] = a ++ [32] ++ b ++ [32] ++ c ++ [32] ++ d := by
 simp [Lib.join, hx]
theorem join4_any (x : ByteArray) (b c d out : List UInt8) (h : out = x.data.toList ++ [32] ++ b ++ [32] ++ c ++ [32] ++ d) (hol : out.length ≤ 1000000) (W : World) :
 Calls Tryz.prog 23 #[.slice (some ⟨W.heap.size, 0, none⟩) 4 4, .string { data := #[32] }] (W.alloc (.cells #[.string x, .string ⟨b.toArray⟩, .string ⟨c.toArray⟩, .string ⟨d.toArray⟩] 9)) fun e w' => e = .returned (.string ⟨out.toArray⟩) ∧ Below W.heap.size W w' := by
 have hj := join4 x.data.toList b c d x rfl
 have := Tryz.strings_Join W.heap.size 0 4 [x, ⟨b.toArray⟩, ⟨c.toArray⟩, ⟨d.toArray⟩] ⟨#[32]⟩ (W.alloc (.cells #[.string x, .string ⟨b.toArray⟩, .string ⟨c.toArray⟩, .string ⟨d.toArray⟩] 9)) (by
  intro j y hy
  match j with
  | 0 => simp at hy; subst hy; simp [go_sem]
  | 1 => simp at hy; subst hy; simp [go_sem]
  | 2 => simp at hy; subst hy; simp [go_sem]
  | 3 => simp at hy; subst hy; simp [go_sem]
  | j + 4 => simp at hy) (by simp) (by simp) (by simp) (by
    rw [show (⟨#[32]⟩ : ByteArray).data.toList = [32] from rfl, hj, ← h]; omega)
 rw [show (⟨#[32]⟩ : ByteArray).data.toList = [32] from rfl, hj, ← h] at this
 refine this.mono fun e w' hh => ⟨hh.1, ?_⟩
 exact ((Below.refl W.heap.size W).alloc (Nat.le_refl _) _).trans (hh.2.mono (by simp))
theorem reply_words (a : ActD) (err : Int) (word : List UInt8) (seq item : Int) (val : ByteArray) (w : World) (he : Env w) (hs : I63 seq) (hi : I63 item) (hv : val.size ≤ 100000) (hk : a.kind = 2) (herr : err = 0 ∧ word = [111, 107] ∨ err = 31 ∧ word = [119, 97, 105, 116]) :
 Calls Tryz.prog 14 #[.agg a.cells, repV err seq item val] w fun e w' => e = .returned (.string ⟨(word ++ [32] ++ Lib.itoa seq ++ [32] ++ Lib.itoa item ++ [32] ++ txtOf val.data.toList ++ [10]).toArray⟩) ∧ Below w.heap.size w w' := by
 have hl1 := Lib.itoa_length_le seq (by have := hs.1; omega) hs.2
 have hl2 := Lib.itoa_length_le item (by have := hi.1; omega) hi.2
 have hl3 := txtOf_len val.data.toList
 have hl4 : val.data.toList.length = val.size := by simp
 obtain ⟨out, hout⟩ : ∃ out, out = word ++ [32] ++ Lib.itoa seq ++ [32] ++ Lib.itoa item ++ [32] ++ txtOf val.data.toList := ⟨_, rfl⟩
 have hol : out.length ≤ 1000000 := by
  rw [hout]
  rcases herr with ⟨_, rfl⟩ | ⟨_, rfl⟩ <;> simp only [List.length_append, List.length_cons, List.length_nil] <;> omega
 rw [← hout]
 have HOUT := Lib.hid hout
 have z2 := fun W => zc6 Tryz.prog out [10] (by simp; omega) W
 have z3 : (⟨[10].toArray⟩ : ByteArray) = ⟨#[10]⟩ := rfl
 rw [z3] at z2
 clear z3 hl1 hl2 hl3 hl4 hout
 simp only [ActD.cells, repV, hk]
 clear hk
 rcases herr with ⟨rfl, rfl⟩ | ⟨rfl, rfl⟩
 all_goals
  go_enter Tryz.func14, Tryz.ntmps14
  go_wp2_with fail
  generalize hWe : (w.alloc (Obj.cells _ 29)).alloc (Obj.cells _ 51) = W
  have c1 : W.cell? ⟨w.heap.size + 1, 1, none⟩ = some (.int .i64 seq) := by rw [← hWe]; simp [go_sem]
  have c2 : W.cell? ⟨w.heap.size + 1, 2, none⟩ = some (.int .i64 item) := by rw [← hWe]; simp [go_sem]
  have c3 : W.cell? ⟨w.heap.size + 1, 3, none⟩ = some (.string val) := by rw [← hWe]; simp [go_sem]
  have hbW : Below w.heap.size w W := by rw [← hWe]; exact (Below.refl _ _).alloc (Nat.le_refl _) _ |>.alloc (by simp) _
  have HEW := Lib.hid (he.below hbW)
  have HBW := Lib.hid hbW
  clear hWe hbW
  have k1 := cell_regrown c1
  have k2 := cell_regrown c2
  have k3 := cell_regrown c3
  clear c1 c2 c3
  refine wp_region_head (fun w' => ∃ p : Regrown, w' = Go.Sort.grow (redrawn W p.d) p.os) 10 (by kernel_rfl) (by kernel_rfl) ⟨⟨W.drawn + 1, #[]⟩, by rw [Go.Sort.grow_empty]; rfl⟩ ?_
  simp only [List.take_succ_cons, List.take_zero, List.drop_succ_cons, List.drop_zero]
  repeat (go_big_quiet_step ((first
   | (go_at_call 33; exact Calls.regrown_of (writeText_any val _ (by omega)))
   | (go_at_call 32; exact Calls.regrown_of (itoa_any _ (by first | (have := hs.1; omega) | (have := hi.1; omega)) (by first | exact hs.2 | exact hi.2) _ (by exact HEW.out.below (below_regrown W _ _)))))))
  refine wpQuiet_nil ?_
  rintro _ ⟨⟨dq, osq⟩, rfl⟩
  have HB2 := Lib.hid (HBW.out.trans ((below_regrown W dq osq).mono HBW.out.size))
  have HE2 := Lib.hid (HEW.out.below (below_regrown W dq osq))
  clear k1 k2 k3
  generalize Go.Sort.grow (redrawn W dq) osq = W2 at *
  go_wp2_with fail
  refine (join4_any _ _ _ _ out HOUT.out hol W2).mono ?_
  rintro e w3 ⟨rfl, hb3⟩
  have HB3 := Lib.hid (HB2.out.trans (hb3.mono HB2.out.size))
  clear hb3
  go_wp2_with fail
  go_ret
  exact ⟨rfl, HB3.out⟩
theorem reply_any (a : ActD) (err seq item : Int) (val : ByteArray) (w : World) (he : Env w) (hr : I63 err) (hs : I63 seq) (hi : I63 item) (hv : val.size ≤ 100000) :
 Calls Tryz.prog 14 #[.agg a.cells, repV err seq item val] w fun e w' => e = .returned (.string ⟨(replyL a.kind err seq item val.data.toList).toArray⟩) ∧ Below w.heap.size w w' := by
 by_cases h1 : err ≠ 0 ∧ err ≠ 31
 ·rw [replyL, if_pos h1]
  have d1 : (err != 0) = true := bne_iff_ne.2 h1.1
  have d2 : (err != 31) = true := bne_iff_ne.2 h1.2
  have hl1 := Lib.itoa_length_le err (by have := hr.1; omega) hr.2
  have z1 := fun W => zc6 Tryz.prog [101, 114, 114, 111, 114, 32] (Lib.itoa err) (by simp; omega) W
  have z2 := fun W => zc6 Tryz.prog ([101, 114, 114, 111, 114, 32] ++ Lib.itoa err) [10] (by simp; omega) W
  generalize ([101, 114, 114, 111, 114, 32] ++ Lib.itoa err : List UInt8) = s1 at *
  generalize s1 ++ [10] = s2 at *
  have e1 : (⟨[101, 114, 114, 111, 114, 32].toArray⟩ : ByteArray) = ⟨#[101, 114, 114, 111, 114, 32]⟩ := rfl
  have e2 : (⟨[10].toArray⟩ : ByteArray) = ⟨#[10]⟩ := rfl
  rw [e1] at z1
  rw [e2] at z2
  clear e1 e2 h1 hl1
  simp only [ActD.cells, repV]
  go_enter Tryz.func14, Tryz.ntmps14
  go_wp2_with fail
  refine (itoa_any _ (by have := hr.1; omega) hr.2 _ (by exact he.below ((Below.refl _ _).alloc (Nat.le_refl _) _ |>.alloc (by simp) _))).mono ?_
  rintro e w1 ⟨rfl, hb⟩
  have HB := Lib.hid (((Below.refl w.heap.size w).alloc (Nat.le_refl _) _ |>.alloc (by simp) _).trans (hb.mono (by simp; omega)))
  clear hb
  go_wp2_with fail
  go_ret
  exact ⟨rfl, HB.out⟩
 by_cases h2 : a.kind ≠ 2
 ·rw [replyL, if_neg h1, if_pos h2]
  have d3 : (a.kind != 2) = true := bne_iff_ne.2 h2
  simp only [ActD.cells, repV]
  rcases (show err = 0 ∨ err = 31 by omega) with rfl | rfl
  all_goals
   clear h1 h2
   go_enter Tryz.func14, Tryz.ntmps14
   go_wp2_with fail
   go_ret
   exact ⟨rfl, (Below.refl _ _).alloc (Nat.le_refl _) _ |>.alloc (by simp) _⟩
 ·rw [replyL, if_neg h1, if_neg h2]
  refine reply_words a err _ seq item val w he hs hi hv (by omega) ?_
  by_cases h3 : err = 31
  ·exact .inr ⟨h3, if_pos h3⟩
  ·exact .inl ⟨by omega, if_neg h3⟩
theorem rnum_below (n : Int) (h : I63 n) (w : World) : Calls Tryz.prog 57 #[.int .i64 n] w fun e w' => e = .returned (.string ⟨(Lib.itoa n).toArray⟩) ∧ Below w.heap.size w w' :=
 (rnum_any n h.1 h.2 w).mono fun _ _ ⟨he, m, hm⟩ => ⟨he, by rw [hm]; exact zay (Below.refl _ _) m⟩
def txt1 : ByteArray := { data := #[116, 105, 99, 107, 32, 51, 10, 112, 117, 116, 32, 48, 32, 48, 32, 49, 32, 49, 32, 54, 49, 32, 46, 10] }
def txt2 : ByteArray := { data := #[116, 105, 99, 107, 32, 48, 51] }
def actTick3 : ActD := ⟨1, 0, 0, 3, 0, 0, 0, 0, 0, [], []⟩
def actPut : ActD := ⟨2, 0, 0, 0, 0, 1, 1, 2, 0, [97], []⟩
theorem parse1 : parseRes txt1.data.toList = ([actTick3, actPut], 2, 0) := by kernel_rfl
theorem parse2 : parseRes txt2.data.toList = ([], 0, 1) := by kernel_rfl
theorem reply1 : replyL 2 0 1 0 [] = [111, 107, 32, 49, 32, 48, 32, 46, 10] := by kernel_rfl
theorem rows_of_own {w : World} {A : Option Addr} {xs : List Value} {base : Nat} {e : TypeId} {m n c : Nat} (h : w.ownsRow base e m (.slice A n c) n xs) (hp : 0 < n) : ∃ g, A = some ⟨g, 0, none⟩ ∧ g < w.heap.size ∧ ∀ j u, xs[j]? = some u → w.cell? ⟨g, j, none⟩ = some u := by
 rcases h.2 with ⟨h1, h2⟩ | ⟨g, cap, cur, h1, _, hh, _⟩
 ·omega
 ·have hA : A = some ⟨g, 0, none⟩ := by injection h1
  subst hA
  exact ⟨g, rfl, Blk.lt (t := e) hh, fun j u hu => by
   have := h.cells (g := g) rfl j u hu
   rwa [show (⟨g, 0, none⟩ : Addr).add j = ⟨g, j, none⟩ by cases j <;> simp [Addr.add]] at this⟩
theorem rep1 (w : World) (he : Env w) : Calls Tryz.prog 14 #[.agg #[.int .i64 2, .int .i64 0, .int .i64 0, .int .i64 0, .int .i64 0, .int .i64 1, .int .i64 1, .int .i64 2, .int .i64 0, .string { data := #[97] }, .string { data := #[] }], .agg #[.int .i64 0, .int .i64 1, .int .i64 0, .string { data := #[] }]] w fun e w' => e = .returned (.string { data := #[111, 107, 32, 49, 32, 48, 32, 46, 10] }) ∧ Below w.heap.size w w' := by
 have := reply_any actPut 0 1 0 ⟨#[]⟩ w he ⟨by decide, by decide⟩ ⟨by decide, by decide⟩ ⟨by decide, by decide⟩ (by decide)
 rw [show actPut.kind = 2 from rfl, show (⟨#[]⟩ : ByteArray).data.toList = [] from rfl, reply1] at this
 exact this
theorem awake_any (w : World) (he : Env w) : Calls Tryz.prog 5 #[] w fun e w' => e = .returned (.bool true) ∧ Below w.heap.size w w' := by
 have P1 := fun W (h : MaxOk W) => parse_any txt1 W h
 have P2 := fun W (h : MaxOk W) => parse_any txt2 W h
 rw [parse1] at P1
 rw [parse2] at P2
 unfold txt1 at P1
 unfold txt2 at P2
 have HP1 := Lib.hid P1
 have HP2 := Lib.hid P2
 clear P1 P2
 go_enter Tryz.func5, Tryz.ntmps5
 go_wp2_with fail
 refine (HP1.out _ he.max).mono ?_
 rintro e w1 ⟨v1, rfl, ho1, hb1⟩
 have HO1 := Lib.hid ho1
 have HB1 := Lib.hid hb1
 clear ho1 hb1
 obtain ⟨A1, c1, rfl⟩ := zas HO1.out
 go_wp2_with fail
 refine (HP2.out _ (he.max.below HB1.out)).mono ?_
 rintro e w2 ⟨v2, rfl, ho2, hb2⟩
 have HO2 := Lib.hid (zb7 HO1.out hb2)
 have HB2 := Lib.hid (HB1.out.trans (hb2.mono HB1.out.size))
 obtain ⟨A2, c2, rfl⟩ := zas ho2
 clear ho2 hb2
 go_wp2_with fail
 generalize hWe : w2.alloc (Obj.cells _ 29) = W
 obtain ⟨g, hge, hgl, hR⟩ := rows_of_own HO2.out (by decide)
 subst hge
 have HF := Lib.hid (show ∀ (i : Nat) (v : Value), (actsCells [actTick3, actPut])[i]? = some v → W.cell? ⟨g, i, none⟩ = some v by
  intro i v hi
  rw [← hWe]
  exact (((Below.refl w2.heap.size w2).alloc (Nat.le_refl _) _).cell hgl).trans (hR i v hi))
 have HFP := Lib.hid (show ∀ (i : Nat) (v : Value), actPut.cells[i]? = some v → W.cell? ⟨w2.heap.size, i, none⟩ = some v by
  intro i v hi
  rw [← hWe]
  exact ((Blk.new w2 29 actPut.cells).cell i).trans hi)
 have hbW : Below w.heap.size w W := by rw [← hWe]; exact HB2.out.alloc HB2.out.size _
 have HEW := Lib.hid (he.below hbW)
 have HBW := Lib.hid hbW
 clear hbW hWe hR
 have k0 : ∀ d os, (Go.Sort.grow (redrawn W d) os).cell? ⟨g, 0, none⟩ = some (.int .i64 1) := fun d os => cell_regrown (HF.out 0 _ rfl) d os
 have k1 : ∀ d os, (Go.Sort.grow (redrawn W d) os).cell? ⟨g, 1, none⟩ = some (.int .i64 0) := fun d os => cell_regrown (HF.out 1 _ rfl) d os
 have k2 : ∀ d os, (Go.Sort.grow (redrawn W d) os).cell? ⟨g, 2, none⟩ = some (.int .i64 0) := fun d os => cell_regrown (HF.out 2 _ rfl) d os
 have k3 : ∀ d os, (Go.Sort.grow (redrawn W d) os).cell? ⟨g, 3, none⟩ = some (.int .i64 3) := fun d os => cell_regrown (HF.out 3 _ rfl) d os
 have k4 : ∀ d os, (Go.Sort.grow (redrawn W d) os).cell? ⟨g, 4, none⟩ = some (.int .i64 0) := fun d os => cell_regrown (HF.out 4 _ rfl) d os
 have k5 : ∀ d os, (Go.Sort.grow (redrawn W d) os).cell? ⟨g, 5, none⟩ = some (.int .i64 0) := fun d os => cell_regrown (HF.out 5 _ rfl) d os
 have k6 : ∀ d os, (Go.Sort.grow (redrawn W d) os).cell? ⟨g, 6, none⟩ = some (.int .i64 0) := fun d os => cell_regrown (HF.out 6 _ rfl) d os
 have k7 : ∀ d os, (Go.Sort.grow (redrawn W d) os).cell? ⟨g, 7, none⟩ = some (.int .i64 0) := fun d os => cell_regrown (HF.out 7 _ rfl) d os
 have k8 : ∀ d os, (Go.Sort.grow (redrawn W d) os).cell? ⟨g, 8, none⟩ = some (.int .i64 0) := fun d os => cell_regrown (HF.out 8 _ rfl) d os
 have k9 : ∀ d os, (Go.Sort.grow (redrawn W d) os).cell? ⟨g, 9, none⟩ = some (.string { data := #[] }) := fun d os => cell_regrown (HF.out 9 _ rfl) d os
 have k10 : ∀ d os, (Go.Sort.grow (redrawn W d) os).cell? ⟨g, 10, none⟩ = some (.string { data := #[] }) := fun d os => cell_regrown (HF.out 10 _ rfl) d os
 have k11 : ∀ d os, (Go.Sort.grow (redrawn W d) os).cell? ⟨g, 11, none⟩ = some (.int .i64 2) := fun d os => cell_regrown (HF.out 11 _ rfl) d os
 have k12 : ∀ d os, (Go.Sort.grow (redrawn W d) os).cell? ⟨g, 12, none⟩ = some (.int .i64 0) := fun d os => cell_regrown (HF.out 12 _ rfl) d os
 have k13 : ∀ d os, (Go.Sort.grow (redrawn W d) os).cell? ⟨g, 13, none⟩ = some (.int .i64 0) := fun d os => cell_regrown (HF.out 13 _ rfl) d os
 have k14 : ∀ d os, (Go.Sort.grow (redrawn W d) os).cell? ⟨g, 14, none⟩ = some (.int .i64 0) := fun d os => cell_regrown (HF.out 14 _ rfl) d os
 have k15 : ∀ d os, (Go.Sort.grow (redrawn W d) os).cell? ⟨g, 15, none⟩ = some (.int .i64 0) := fun d os => cell_regrown (HF.out 15 _ rfl) d os
 have k16 : ∀ d os, (Go.Sort.grow (redrawn W d) os).cell? ⟨g, 16, none⟩ = some (.int .i64 1) := fun d os => cell_regrown (HF.out 16 _ rfl) d os
 have k17 : ∀ d os, (Go.Sort.grow (redrawn W d) os).cell? ⟨g, 17, none⟩ = some (.int .i64 1) := fun d os => cell_regrown (HF.out 17 _ rfl) d os
 have k18 : ∀ d os, (Go.Sort.grow (redrawn W d) os).cell? ⟨g, 18, none⟩ = some (.int .i64 2) := fun d os => cell_regrown (HF.out 18 _ rfl) d os
 have k19 : ∀ d os, (Go.Sort.grow (redrawn W d) os).cell? ⟨g, 19, none⟩ = some (.int .i64 0) := fun d os => cell_regrown (HF.out 19 _ rfl) d os
 have k20 : ∀ d os, (Go.Sort.grow (redrawn W d) os).cell? ⟨g, 20, none⟩ = some (.string { data := #[97] }) := fun d os => cell_regrown (HF.out 20 _ rfl) d os
 have k21 : ∀ d os, (Go.Sort.grow (redrawn W d) os).cell? ⟨g, 21, none⟩ = some (.string { data := #[] }) := fun d os => cell_regrown (HF.out 21 _ rfl) d os
 have p0 : ∀ d os, (Go.Sort.grow (redrawn W d) os).cell? ⟨w2.heap.size, 0, none⟩ = some (.int .i64 2) := fun d os => cell_regrown (HFP.out 0 _ rfl) d os
 have p1 : ∀ d os, (Go.Sort.grow (redrawn W d) os).cell? ⟨w2.heap.size, 1, none⟩ = some (.int .i64 0) := fun d os => cell_regrown (HFP.out 1 _ rfl) d os
 have p2 : ∀ d os, (Go.Sort.grow (redrawn W d) os).cell? ⟨w2.heap.size, 2, none⟩ = some (.int .i64 0) := fun d os => cell_regrown (HFP.out 2 _ rfl) d os
 have p3 : ∀ d os, (Go.Sort.grow (redrawn W d) os).cell? ⟨w2.heap.size, 3, none⟩ = some (.int .i64 0) := fun d os => cell_regrown (HFP.out 3 _ rfl) d os
 have p4 : ∀ d os, (Go.Sort.grow (redrawn W d) os).cell? ⟨w2.heap.size, 4, none⟩ = some (.int .i64 0) := fun d os => cell_regrown (HFP.out 4 _ rfl) d os
 have p5 : ∀ d os, (Go.Sort.grow (redrawn W d) os).cell? ⟨w2.heap.size, 5, none⟩ = some (.int .i64 1) := fun d os => cell_regrown (HFP.out 5 _ rfl) d os
 have p6 : ∀ d os, (Go.Sort.grow (redrawn W d) os).cell? ⟨w2.heap.size, 6, none⟩ = some (.int .i64 1) := fun d os => cell_regrown (HFP.out 6 _ rfl) d os
 have p7 : ∀ d os, (Go.Sort.grow (redrawn W d) os).cell? ⟨w2.heap.size, 7, none⟩ = some (.int .i64 2) := fun d os => cell_regrown (HFP.out 7 _ rfl) d os
 have p8 : ∀ d os, (Go.Sort.grow (redrawn W d) os).cell? ⟨w2.heap.size, 8, none⟩ = some (.int .i64 0) := fun d os => cell_regrown (HFP.out 8 _ rfl) d os
 have p9 : ∀ d os, (Go.Sort.grow (redrawn W d) os).cell? ⟨w2.heap.size, 9, none⟩ = some (.string { data := #[97] }) := fun d os => cell_regrown (HFP.out 9 _ rfl) d os
 have p10 : ∀ d os, (Go.Sort.grow (redrawn W d) os).cell? ⟨w2.heap.size, 10, none⟩ = some (.string { data := #[] }) := fun d os => cell_regrown (HFP.out 10 _ rfl) d os
 refine wp_region_quiet_below (by kernel_rfl) (by kernel_rfl) ?_
 repeat (go_big_quiet_step ((go_at_call 14; exact Calls.regrown_of (rep1 _ (by exact HEW.out.below (below_regrown W _ _))))))
 refine wpQuiet_nil ?_
 rintro _ ⟨⟨dq, osq⟩, rfl⟩
 have HB3 := Lib.hid (HBW.out.trans ((below_regrown W dq osq).mono HBW.out.size))
 clear k0 k1 p1
 go_wp2_with fail
 go_ret
 exact ⟨rfl, HB3.out⟩
theorem emod_of_tmod (v n : Int) (hn : 1 ≤ n) : (if v.tmod n < 0 then v.tmod n + n else v.tmod n) = v % n := by
 have a1 := Int.tmod_lt_of_pos v (show 0 < n by omega)
 have e : v.tmod n = v - n * (v.tdiv n) := by have := Int.tmod_add_mul_tdiv v n; omega
 have a2 : -n < v.tmod n := by
  have := Int.tmod_lt_of_pos (-v) (show 0 < n by omega)
  rw [Int.neg_tmod] at this
  omega
 have b1 : (v - n * (v.tdiv n)) % n = v % n := by rw [Int.sub_mul_emod_self_left]
 split
 ·rw [← b1, ← e, ← Int.add_emod_right, Int.emod_eq_of_lt (by omega) (by omega)]
 ·rw [← b1, ← e, Int.emod_eq_of_lt (by omega) (by omega)]
theorem mod_any (v n : Int) (w : World) (h1 : 1 ≤ n) (h2 : n ≤ 1000000000) :
 Calls Tryz.prog 34 #[.int .i64 v, .int .i64 n] w fun e w' => e = .returned (.int .i64 (v % n)) ∧ w = w' := by
 have HM := Lib.hid (emod_of_tmod v n h1)
 have a1 := Int.tmod_lt_of_pos v (show 0 < n by omega)
 have a2 : -n < v.tmod n := by
  have := Int.tmod_lt_of_pos (-v) (show 0 < n by omega)
  rw [Int.neg_tmod] at this
  omega
 have n0 : n ≠ 0 := by omega
 have w1 : IntKind.i64.wrap (v.tmod n) = v.tmod n := IntWalk.i64_in _ (by omega)
 by_cases h : v.tmod n < 0
 ·rw [if_pos h] at HM
  have d0 : decide (v.tmod n < 0) = true := by simpa using h
  have w2 : IntKind.i64.wrap (v.tmod n + n) = v.tmod n + n := IntWalk.i64_in _ (by omega)
  go_enter Tryz.func34, Tryz.ntmps34
  go_wp2_with fail
  go_ret
  exact ⟨congrArg (fun x => Ending.returned (.int .i64 x)) HM.out, rfl⟩
 ·rw [if_neg h] at HM
  have d0 : decide (v.tmod n < 0) = false := by simpa using h
  go_enter Tryz.func34, Tryz.ntmps34
  go_wp2_with fail
  go_ret
  exact ⟨congrArg (fun x => Ending.returned (.int .i64 x)) HM.out, rfl⟩
end Go.Proofs.YtcgcfeablbjnaaaGreatDoor
namespace Go.Proofs.YtcgcfeablbjnaaaGreatDoor
open Go.ChangeShapes Go.WideShapes Go.ChangeAt Go.RowKit
theorem list7 {α : Type} : ∀ {l : List α}, l.length = 7 → ∃ c0 c1 c2 c3 c4 c5 c6, l = [c0, c1, c2, c3, c4, c5, c6]
 | [c0, c1, c2, c3, c4, c5, c6], _ => ⟨c0, c1, c2, c3, c4, c5, c6, rfl⟩
theorem list11 {α : Type} : ∀ {l : List α}, l.length = 11 → ∃ c0 c1 c2 c3 c4 c5 c6 c7 c8 c9 c10, l = [c0, c1, c2, c3, c4, c5, c6, c7, c8, c9, c10]
 | [c0, c1, c2, c3, c4, c5, c6, c7, c8, c9, c10], _ => ⟨c0, c1, c2, c3, c4, c5, c6, c7, c8, c9, c10, rfl⟩
section
variable {H : Type} {enc : TypeId × Value → H} {P : Program} {w : World} {base fuel : Nat} {spare : Nat → Bool} {held : Bool} {t : TypeId} {cs : List Value} {fs : Array Field} {xs : List (DataW H × List MemPlace)}
theorem fld_int {n i : Nat} {f : Field} {k : IntKind} (hlen : xs.length = fs.size) (hf : ∀ (i : Nat) (f : Field), fs[i]? = some f → DataW.trod enc P w base spare held n f.type ((cs.drop f.offset).take (P.cellsOf f.type)) = xs[i]?) (hi : fs[i]? = some f) (ht : P.underlying f.type = some (.int k)) :
 ∃ m, (cs.drop f.offset).take (P.cellsOf f.type) = [.int k m] := by
 have h := hf i f hi
 have hl : i < xs.length := by rw [hlen]; exact (Array.getElem?_eq_some_iff.1 hi).1
 rw [List.getElem?_eq_getElem hl] at h
 obtain ⟨m, e, _⟩ := DataW.trod_int ht h
 exact ⟨m, e⟩
theorem fld_str {n i : Nat} {f : Field} (hlen : xs.length = fs.size) (hf : ∀ (i : Nat) (f : Field), fs[i]? = some f → DataW.trod enc P w base spare held n f.type ((cs.drop f.offset).take (P.cellsOf f.type)) = xs[i]?) (hi : fs[i]? = some f) (ht : P.underlying f.type = some .string) :
 ∃ s : ByteArray, (cs.drop f.offset).take (P.cellsOf f.type) = [.string s] := by
 have h := hf i f hi
 have hl : i < xs.length := by rw [hlen]; exact (Array.getElem?_eq_some_iff.1 hi).1
 rw [List.getElem?_eq_getElem hl] at h
 obtain ⟨m, e, _⟩ := DataW.trod_string ht h
 exact ⟨m, e⟩
end
section
variable {H : Type} {enc : TypeId × Value → H} {w : World} {base fuel : Nat} {spare : Nat → Bool} {held : Bool} {cs : List Value} {x : DataW H × List MemPlace}
theorem co_int : Tryz.prog.cellsOf 3 = 1 := by kernel_rfl
theorem co_str : Tryz.prog.cellsOf 9 = 1 := by kernel_rfl
theorem co_req : Tryz.prog.cellsOf 27 = 7 := by kernel_rfl
theorem co_act : Tryz.prog.cellsOf 29 = 11 := by kernel_rfl
end
end Go.Proofs.YtcgcfeablbjnaaaGreatDoor
namespace Go.Proofs.YtcgcfeablbjnaaaGreatDoor
open Go.RowKit Go.Proofs
def lays166_ren : Go.Shelf.Ren := ⟨fun | 166 => 22 | 240 => 51 | 276 => 81 | n => n, fun | 31 => 47 | 9 => 9 | 3 => 3 | 4 => 4 | 0 => 0 | 20 => 20 | 72 => 68 | 76 => 73 | 70 => 65 | 37 => 66 | 75 => 72 | 164 => 151 | 5 => 5 | 80 => 78 | n => n, fun | n => n⟩
theorem lays166 : Go.Proofs.Lays.n166 Tryz.prog lays166_ren := {
 mixed := by kernel_rfl
 f166 := Tryz.func22.trans (congrArg some (by kernel_rfl))
 f240 := Tryz.func51.trans (congrArg some (by kernel_rfl))
 f276 := Tryz.func81.trans (congrArg some (by kernel_rfl))
 t0 := Tryz.underlying0
 a0 := Tryz.isAgg0
 z0 := Tryz.sizeOf0
 v0 := Tryz.zeroValue0
 t3 := Tryz.underlying3
 a3 := Tryz.isAgg3
 z3 := Tryz.sizeOf3
 v3 := Tryz.zeroValue3
 t4 := Tryz.underlying4
 a4 := Tryz.isAgg4
 z4 := Tryz.sizeOf4
 v4 := Tryz.zeroValue4
 t9 := Tryz.underlying9
 a9 := Tryz.isAgg9
 z9 := Tryz.sizeOf9
 v9 := Tryz.zeroValue9
 t20 := Tryz.underlying20
 a20 := Tryz.isAgg20
 z20 := Tryz.sizeOf20
 v20 := Tryz.zeroValue20
 t37 := Tryz.underlying66
 a37 := Tryz.isAgg66
 z37 := Tryz.sizeOf66
 v37 := Tryz.zeroValue66
 t70 := Tryz.underlying65
 a70 := Tryz.isAgg65
 z70 := Tryz.sizeOf65
 v70 := Tryz.zeroValue65
 t72 := Tryz.underlying68
 a72 := Tryz.isAgg68
 z72 := Tryz.sizeOf68
 v72 := Tryz.zeroValue68
 t75 := Tryz.underlying72
 a75 := Tryz.isAgg72
 z75 := Tryz.sizeOf72
 v75 := Tryz.zeroValue72
 t164 := Tryz.underlying151
 a164 := Tryz.isAgg151
 z164 := Tryz.sizeOf151
 v164 := Tryz.zeroValue151 }
theorem extra166 : Builder.Extra Tryz.prog lays166_ren := {
 sizeBuilder := by kernel_rfl
 liesBuilder := by kernel_rfl
 t5 := Tryz.underlying5
 a5 := Tryz.isAgg5
 z5 := Tryz.sizeOf5
 v5 := Tryz.zeroValue5
 infoByte := by kernel_rfl
 cellsByte := by kernel_rfl
 sizeByte := by kernel_rfl
 neB5 := by decide }
def lays167_ren : Go.Shelf.Ren := ⟨fun | 167 => 24 | 240 => 51 | 276 => 81 | n => n, fun | 31 => 47 | 9 => 9 | 3 => 3 | 4 => 4 | 0 => 0 | 20 => 20 | 72 => 68 | 76 => 73 | 70 => 65 | 37 => 66 | 75 => 72 | 164 => 151 | 5 => 5 | 80 => 78 | n => n, fun | n => n⟩
theorem lays167 : Go.Proofs.Lays.n167 Tryz.prog lays167_ren := {
 mixed := by kernel_rfl
 f167 := Tryz.func24.trans (congrArg some (by kernel_rfl))
 f240 := Tryz.func51.trans (congrArg some (by kernel_rfl))
 f276 := Tryz.func81.trans (congrArg some (by kernel_rfl))
 t0 := Tryz.underlying0
 a0 := Tryz.isAgg0
 z0 := Tryz.sizeOf0
 v0 := Tryz.zeroValue0
 t4 := Tryz.underlying4
 a4 := Tryz.isAgg4
 z4 := Tryz.sizeOf4
 v4 := Tryz.zeroValue4
 t5 := Tryz.underlying5
 a5 := Tryz.isAgg5
 z5 := Tryz.sizeOf5
 v5 := Tryz.zeroValue5
 t9 := Tryz.underlying9
 a9 := Tryz.isAgg9
 z9 := Tryz.sizeOf9
 v9 := Tryz.zeroValue9
 t20 := Tryz.underlying20
 a20 := Tryz.isAgg20
 z20 := Tryz.sizeOf20
 v20 := Tryz.zeroValue20
 t37 := Tryz.underlying66
 a37 := Tryz.isAgg66
 z37 := Tryz.sizeOf66
 v37 := Tryz.zeroValue66
 t70 := Tryz.underlying65
 a70 := Tryz.isAgg65
 z70 := Tryz.sizeOf65
 v70 := Tryz.zeroValue65
 t72 := Tryz.underlying68
 a72 := Tryz.isAgg68
 z72 := Tryz.sizeOf68
 v72 := Tryz.zeroValue68
 t75 := Tryz.underlying72
 a75 := Tryz.isAgg72
 z75 := Tryz.sizeOf72
 v75 := Tryz.zeroValue72
 t164 := Tryz.underlying151
 a164 := Tryz.isAgg151
 z164 := Tryz.sizeOf151
 v164 := Tryz.zeroValue151 }
theorem extra167 : Builder.Extra Tryz.prog lays167_ren := {
 sizeBuilder := by kernel_rfl
 liesBuilder := by kernel_rfl
 t5 := Tryz.underlying5
 a5 := Tryz.isAgg5
 z5 := Tryz.sizeOf5
 v5 := Tryz.zeroValue5
 infoByte := by kernel_rfl
 cellsByte := by kernel_rfl
 sizeByte := by kernel_rfl
 neB5 := by decide }
theorem writeString_any (B b : Nat) (bs : List Value) (s : ByteArray) (w : World) (h : Lib.IsBuilder 68 5 B b bs w) (hlen : bs.length + s.size ≤ 140737488355328) (hBw : B ≤ w.heap.size) :
 Calls Tryz.prog 22 #[.pointer (some ⟨b, 0, none⟩), .string s] w fun e w' => e = .returned (.tuple #[.int .i64 s.size, .nilIface]) ∧ (Lib.BuilderAt 68 5 B b (.pointer (some ⟨b, 0, none⟩)) (bs ++ Lib.strCells s) w' ∧ Below B w w') :=
 Any.Builder_WriteString lays166 extra166 B b bs s w h hlen hBw
theorem writeByte_any (B b : Nat) (bs : List Value) (c : Int) (w : World) (h : Lib.IsBuilder 68 5 B b bs w) (hlen : bs.length + 1 ≤ 140737488355328) (hBw : B ≤ w.heap.size) :
 Calls Tryz.prog 24 #[.pointer (some ⟨b, 0, none⟩), .int .u8 c] w fun e w' => e = .returned .nilIface ∧ (Lib.BuilderAt 68 5 B b (.pointer (some ⟨b, 0, none⟩)) (bs ++ [.int .u8 c]) w' ∧ Below B w w') :=
 Any.Builder_WriteByte lays167 extra167 B b bs c w h hlen hBw
end Go.Proofs.YtcgcfeablbjnaaaGreatDoor
namespace Go.Proofs.YtcgcfeablbjnaaaGreatDoor
open Go.RowKit Go.BigFrame
def ActD.num (x : ActD) (k : Nat) : Int :=
 if k = 1 then x.a else if k = 2 then x.b else if k = 3 then x.n else if k = 4 then x.tenant else if k = 5 then x.client else if k = 6 then x.number else x.item
def ActD.txt (x : ActD) (k : Nat) : List UInt8 := if k = 9 then x.key else x.value
def fldWord (a : ActD) (c : UInt8) : List UInt8 :=
 match numCell c.toNat with
 | some k => Lib.itoa (a.num k)
 | none => txtOf (a.txt (txtCell c.toNat))
def lineOf (a : ActD) (x : LineK) : Bool := decide (x.kind = a.kind) && decide (x.op = a.op)
def wordsFor (a : ActD) (x : LineK) : List (List UInt8) := x.word :: x.letters.map (fldWord a)
def sameAct (a b : ActD) : Bool := a.kind == b.kind && (a.a == b.a && (a.b == b.b && (a.n == b.n && (a.tenant == b.tenant && (a.client == b.client && (a.number == b.number && (a.op == b.op && (a.item == b.item && (a.key == b.key && a.value == b.value)))))))))
theorem zcp (a b : ActD) : sameAct a b = true ↔ a = b := by
 obtain ⟨a1, a2, a3, a4, a5, a6, a7, a8, a9, a10, a11⟩ := a
 obtain ⟨b1, b2, b3, b4, b5, b6, b7, b8, b9, b10, b11⟩ := b
 simp [sameAct]
theorem run_eqAct (a b : ActD) (W : World) : (Go.binOp .eql 29 (.agg a.cells) (.agg b.cells)).run Tryz.prog W = .ok (.bool (sameAct a b)) W := by
 rw [run_eql_struct]
 simp only [ActD.cells]
 have hs : Tryz.prog.stoodInHeld 29 = false := by kernel_rfl
 have hs2 : Tryz.prog.stoodInHeld 27 = false := by kernel_rfl
 simp [go_sem, hs, hs2, sameAct]
 repeat' split
 all_goals simp_all
def writeRes (a : ActD) : List (List UInt8) × Bool :=
 match lineTab.find? (lineOf a) with
 | some x => (wordsFor a x, ((readAct (wordsFor a x)).map (sameAct a)).getD false)
 | none => ([], false)
structure ActOk (a : ActD) : Prop where
 num : ∀ k, -9223372036854775808 ≤ a.num k ∧ a.num k ≤ 9223372036854775807
 key : a.key.length ≤ 1100000
 value : a.value.length ≤ 1100000
theorem act_num {w : World} {g k : Nat} {t : TypeId} {x : ActD} (h : Blk w g t x.cells) (hk : k = 1 ∨ k = 2 ∨ k = 3 ∨ k = 4 ∨ k = 5 ∨ k = 6 ∨ k = 8) : w.cell? ⟨g, k, none⟩ = some (.int .i64 (x.num k)) := by
 rcases hk with rfl | rfl | rfl | rfl | rfl | rfl | rfl <;> exact h.cell _
theorem act_txt {w : World} {g k : Nat} {t : TypeId} {x : ActD} (h : Blk w g t x.cells) (hk : k = 9 ∨ k = 10) : w.cell? ⟨g, k, none⟩ = some (.string ⟨(x.txt k).toArray⟩) := by
 rcases hk with rfl | rfl <;> exact h.cell _
theorem own_ne {w : World} {base : Nat} {e : TypeId} {size n g : Nat} {v : Value} {xs : List Value} {o : Obj} (hown : w.ownsRow base e size v n xs) (ho : w.heap[g]? = some o) (hne : ∀ cur fz, o ≠ .cells cur e fz) : some g ≠ v.ownBlock := by
 rcases hown.2 with ⟨rfl, _⟩ | ⟨g', cap, cur, rfl, _, hh, _⟩
 ·simp [Value.ownBlock]
 ·intro he
  simp [Value.ownBlock] at he
  subst he
  rw [hh] at ho
  exact hne _ _ (Option.some.inj ho).symm
theorem etStr : ElemT Tryz.prog 47 9 (.string ⟨#[]⟩) 1 16 := ElemT.mk' Tryz.underlying47 (by kernel_rfl) rfl (by decide)
theorem own_new1 (w : World) (e : TypeId) (u : Value) (base : Nat) (hb : base ≤ w.heap.size) (g : Nat) (hg : g = w.heap.size) : (w.alloc (.cells #[u] e)).ownsRow base e 1 (.slice (some ⟨g, 0, none⟩) 1 1) 1 [u] := by
 subst hg
 exact ⟨rfl, .inr ⟨w.heap.size, 1, #[u], rfl, hb, Blk.new w e #[u], Nat.le_refl _, by decide, rfl, rfl⟩⟩
def strV (l : List UInt8) : Value := .string ⟨l.toArray⟩
theorem own_cap {w : World} {base : Nat} {e : TypeId} {size n c : Nat} {A : Option Addr} {xs : List Value} (h : w.ownsRow base e size (.slice A n c) n xs) : n ≤ c := by
 rcases h.2 with ⟨h1, h2⟩ | ⟨g, cap, cur, h1, _, _, h3, _⟩
 ·omega
 ·injection h1 with _ _ h4
  omega
theorem read_words (wl : List (List UInt8)) (A : Option Addr) (n c : Nat) (w : World) (hn : n = wl.length) (h1 : 1 ≤ n) (h2 : n ≤ 100000) (hsz : ∀ l ∈ wl, l.length ≤ 3000000) (hR : Rd w w.heap.size A (wl.map strV)) :
 Calls Tryz.prog 31 #[.slice A n c] w fun e w' => e = .returned (actVal (readAct wl)) ∧ Below w.heap.size w w' := by
 have e1 : (wl.map fun l => (⟨l.toArray⟩ : ByteArray)).map (·.data.toList) = wl := by
  rw [List.map_map]
  exact List.map_id'' (fun _ => rfl) wl
 have := read_any A c (wl.map fun l => (⟨l.toArray⟩ : ByteArray)) w (by simp; omega) (by
  intro s hs
  obtain ⟨l, hl, rfl⟩ := List.mem_map.1 hs
  rw [zcw]
  exact hsz l hl) (by simp; omega) (by
  rw [List.map_map]
  exact hR)
 rw [e1, List.length_map, ← hn] at this
 exact this
theorem read_words_some (wl : List (List UInt8)) (A : Option Addr) (n c : Nat) (w : World) (b : ActD) (hn : n = wl.length) (h1 : 1 ≤ n) (h2 : n ≤ 100000) (hsz : ∀ l ∈ wl, l.length ≤ 3000000) (hR : Rd w w.heap.size A (wl.map strV)) (h : readAct wl = some b) :
 Calls Tryz.prog 31 #[.slice A n c] w fun e w' => e = .returned (.tuple #[.agg b.cells, .bool true]) ∧ Below w.heap.size w w' := by
 have := read_words wl A n c w hn h1 h2 hsz hR
 rw [h] at this
 exact this
theorem read_words_none (wl : List (List UInt8)) (A : Option Addr) (n c : Nat) (w : World) (hn : n = wl.length) (h1 : 1 ≤ n) (h2 : n ≤ 100000) (hsz : ∀ l ∈ wl, l.length ≤ 3000000) (hR : Rd w w.heap.size A (wl.map strV)) (h : readAct wl = none) :
 Calls Tryz.prog 31 #[.slice A n c] w fun e w' => e = .returned (.tuple #[.agg ActD.zero.cells, .bool false]) ∧ Below w.heap.size w w' := by
 have := read_words wl A n c w hn h1 h2 hsz hR
 rw [h] at this
 exact this
theorem own_iterAt {w : World} {base : Nat} {e : TypeId} {size n g i : Nat} {v : Value} {xs : List Value} {s : ByteArray} (hown : w.ownsRow base e size v n xs) (hit : w.heap[g]? = some (.stringIter s i)) {p : Nat} : (w.iterAt g s p).ownsRow base e size v n xs := by
 have hne := own_ne (g := g) hown hit (by simp)
 rcases hown.2 with ⟨rfl, h0⟩ | ⟨g', cap, cur, rfl, hb, hh, r⟩
 ·exact ⟨hown.1, .inl ⟨rfl, h0⟩⟩
 ·refine ⟨hown.1, .inr ⟨g', cap, cur, rfl, hb, ?_, r⟩⟩
  exact (Lib.iterAt_other w g g' s p (by simp [Value.ownBlock] at hne; omega)).trans hh
theorem fldWord_len (a : ActD) (h : ActOk a) (c : UInt8) : (fldWord a c).length ≤ 2300000 := by
 unfold fldWord
 split
 ·rename_i k _
  have := Lib.itoa_length_le (a.num k) (h.num k).1 (h.num k).2
  omega
 ·have := txtOf_len (a.txt (txtCell c.toNat))
  have : (a.txt (txtCell c.toNat)).length ≤ 1100000 := by
   unfold ActD.txt
   split
   ·exact h.key
   ·exact h.value
  omega
theorem zde : ∀ x ∈ lineTab, x.letters.length ≤ 6 ∧ x.word.length ≤ 10 := by decide +kernel
theorem write_any (a : ActD) (w : World) (he : Env w) (hok : ActOk a) :
 Calls Tryz.prog 21 #[.agg a.cells] w fun e w' => ∃ A c, e = .returned (.tuple #[.slice A (writeRes a).1.length c, .bool (writeRes a).2]) ∧ w'.ownsRow w.heap.size 9 1 (.slice A (writeRes a).1.length c) (writeRes a).1.length ((writeRes a).1.map strV) ∧ Below w.heap.size w w' := by
 have HCE := Lib.hid (show a.cells = #[.int .i64 a.kind, .int .i64 a.a, .int .i64 a.b, .int .i64 a.n, .int .i64 a.tenant, .int .i64 a.client, .int .i64 a.number, .int .i64 a.op, .int .i64 a.item, .string ⟨a.key.toArray⟩, .string ⟨a.value.toArray⟩] from rfl)
 rw [HCE.out]
 go_enter Tryz.func21, Tryz.ntmps21
 go_wp2_with fail
 refine (lines_any _).mono ?_
 rintro e w1 ⟨rfl, rfl⟩
 go_wp2_with fail
 rw [← HCE.out]
 go_loopw [14] (fun i wr => ∃ k : Nat, k ≤ 22 ∧ i = .int .i64 k ∧ (lineTab.take k).find? (lineOf a) = none ∧ Blk wr w.heap.size 29 a.cells ∧ Blk wr (w.heap.size + 1) 124 lineCells ∧ Below w.heap.size w wr) (fun i _ => 22 - (intOf i).toNat)
 case atStart => exact ⟨0, by omega, rfl, rfl, (Blk.newAt _ _ _ _ rfl).alloc _, Blk.newAt _ _ _ _ (by simp), ((Below.refl _ _).alloc (Nat.le_refl _) _).alloc (by simp) _⟩
 case round =>
  obtain ⟨k, hk, rfl, hno, hba, hbl, hbw⟩ := hrel
  have HNO := Lib.hid hno
  have HA := Lib.hid hba
  have HB := Lib.hid hbl
  have HBW := Lib.hid hbw
  have hsw := hbw.size
  clear hno hbl hbw hba
  by_cases hlt : k < 22
  ·have dk : decide ((k : Int) < 22) = true := by simp; omega
   have hx : lineTab[k]? = some (lineTab[k]'(by simpa [lineTab] using hlt)) := List.getElem?_eq_getElem _
   generalize (lineTab[k]'(by simpa [lineTab] using hlt)) = x at hx
   have HX := Lib.hid hx
   have c0 := zcx HB.out k 0 (by omega) x hx
   have c1 := zcx HB.out k 1 (by omega) x hx
   have c2 := zcx HB.out k 2 (by omega) x hx
   have c3 := zcx HB.out k 3 (by omega) x hx
   simp only [LineK.cells, Nat.add_zero, List.getElem?_cons_zero, List.getElem?_cons_succ] at c0 c1 c2 c3
   clear hx
   have hal := HA.out.lt
   have a0 : wr.cell? ⟨w.heap.size, 0, none⟩ = some (.int .i64 a.kind) := HA.out.cell 0
   have a7 : wr.cell? ⟨w.heap.size, 7, none⟩ = some (.int .i64 a.op) := HA.out.cell 7
   by_cases hq1 : x.kind = a.kind
   ·have q1 : (x.kind != a.kind) = false := by simp [hq1]
    by_cases hq2 : x.op = a.op
    ·have q2 : (x.op != a.op) = false := by simp [hq2]
     have HF := Lib.hid (show lineOf a x = true by simp [lineOf, hq1, hq2])
     clear hq1 hq2
     go_wp2_with fail
     obtain ⟨wo, rfl⟩ : ∃ wo : World, wo = wr := ⟨_, rfl⟩
     have HAS := Lib.hid (letters_ascii x (List.mem_of_getElem? HX.out))
     have HFEW := Lib.hid (zde x (List.mem_of_getElem? HX.out))
     go_loopw [6] (fun v wr => ∃ i : Nat, i ≤ x.letters.length ∧ wr.heap[wo.heap.size + 1 + 1]? = some (.stringIter ⟨x.letters.toArray⟩ i) ∧ Blk wr w.heap.size 29 a.cells ∧ wr.ownsRow w.heap.size 9 1 v (i + 1) ((x.word :: (x.letters.take i).map (fldWord a)).map strV) ∧ Below w.heap.size w wr ∧ wo.heap.size + 3 ≤ wr.heap.size) (fun _ wr => x.letters.length - wr.iterPos (wo.heap.size + 1 + 1))
     case atStart =>
      refine ⟨0, Nat.zero_le _, iter_at _ _ _ _ (by simp), Blk.alloc ((HA.out.alloc _).alloc _) _, ?_, ?_, by simp [World.iter]⟩
      ·exact (own_new1 _ _ _ _ (by simp; omega) _ (by simp)).alloc _
      ·exact ((HBW.out.alloc HBW.out.size _).alloc (by simp; omega) _).alloc (by simp; omega) _
     case round =>
      obtain ⟨i, hi, hit, hba, hown, hbw, hszz⟩ := hrel
      have HIT := Lib.hid hit
      have HA2 := Lib.hid hba
      have HO := Lib.hid hown
      have HBW2 := Lib.hid hbw
      clear hba hown hbw c0 c1 c2 c3 a0 a7
      by_cases hli : i < x.letters.length
      ·have hca := HAS.out (x.letters[i]) (List.getElem_mem hli)
       have hnx : ∀ ty, (Instr.next (.pointer (some ⟨wo.heap.size + 1 + 1, 0, none⟩)) true ty).run Tryz.prog wr = .ok (.tuple #[.bool true, .int .i64 i, .int .i32 (x.letters[i].toNat : Int)]) (wr.iterAt (wo.heap.size + 1 + 1) ⟨x.letters.toArray⟩ (i + 1)) := fun ty => Lib.run_next_ascii_at wr _ ⟨x.letters.toArray⟩ i ty hit (by show i < x.letters.toArray.size; simpa using hli) hca
       have HAi := Lib.hid (blk_iterAt (s := ⟨x.letters.toArray⟩) (p := i + 1) (k := wo.heap.size + 1 + 1) HA2.out (by omega))
       have HBWi := Lib.hid (Lib.below_iterAt HBW2.out (k := wo.heap.size + 1 + 1) (by omega) ⟨x.letters.toArray⟩ (i + 1))
       have HITi := Lib.hid (Lib.iterAt_heap wr (wo.heap.size + 1 + 1) ⟨x.letters.toArray⟩ i (i + 1) hit)
       have hszi : wo.heap.size + 3 ≤ (wr.iterAt (wo.heap.size + 1 + 1) ⟨x.letters.toArray⟩ (i + 1)).heap.size := by rw [Lib.iterAt_size]; exact hszz
       have HOi := Lib.hid (show (wr.iterAt (wo.heap.size + 1 + 1) ⟨x.letters.toArray⟩ (i + 1)).ownsRow w.heap.size 9 1 _ (i + 1) ((x.word :: (x.letters.take i).map (fldWord a)).map strV) from own_iterAt HO.out hit)
       have HTK := Lib.hid (show (x.word :: (x.letters.take (i + 1)).map (fldWord a)).map strV = (x.word :: (x.letters.take i).map (fldWord a)).map strV ++ [strV (fldWord a x.letters[i])] by
        rw [List.take_succ_eq_append_getElem hli]
        simp only [List.map_append, List.map_cons, List.map_nil, List.cons_append])
       clear hit
       obtain ⟨A0, cc0, rfl⟩ := zas HO.out
       generalize wr.iterAt (wo.heap.size + 1 + 1) ⟨x.letters.toArray⟩ (i + 1) = wi at *
       go_wp2_with fail
       cases hnc : numCell (x.letters[i].toNat : Int) with
       | some kk =>
         have HKK := Lib.hid (numCell_in hnc)
         have HFW := Lib.hid (show fldWord a x.letters[i] = Lib.itoa (a.num kk) by unfold fldWord; rw [hnc])
         have HNC := Lib.hid hnc
         clear hnc
         have hv0 := act_num HAi.out HKK.out
         refine (number_some _ kk _ _ HNC.out).mono ?_
         rintro e w1 ⟨rfl, rfl⟩
         go_wp2_with fail
         refine (itoa_any _ (hok.num kk).1 (hok.num kk).2 _ (he.below HBWi.out)).mono ?_
         rintro e w2 ⟨rfl, hb2⟩
         have HA3 := Lib.hid (HAi.out.below hb2 HAi.out.lt)
         have HO3 := Lib.hid (zb7 HOi.out hb2)
         have HBW3 := Lib.hid (HBWi.out.trans (hb2.mono HBWi.out.size))
         have HIT3 := Lib.hid ((hb2.block (wo.heap.size + 1 + 1) (by omega)).trans HITi.out)
         have hs2 : wo.heap.size + 3 ≤ w2.heap.size := by have := hb2.size; omega
         clear hb2
         go_wp2_with (at_builtin; refine zcn etStr rfl _ _ rfl w.heap.size _ (i + 1) _ rfl (by exact HO3.out) #[.string ⟨(Lib.itoa (a.num kk)).toArray⟩] rfl (by simp [Value.oneCell']) rfl (by have := HFEW.out; omega) (by omega) (by omega) ?_; intro v' w4 hown4 hg4 hat4)
         have hn1 := own_ne (g := wo.heap.size + 1 + 1) HO3.out HIT3.out (by simp)
         have hn2 := own_ne (g := w.heap.size) HO3.out HA3.out (by simp)
         have HIT4 := Lib.hid ((hg4.block _ (by omega) hn1).trans HIT3.out)
         go_roundw
         case rel =>
          refine ⟨i + 1, hli, HIT4.out, HA3.out.grown hg4 hn2, ?_, below_app HO3.out HBW3.out (Nat.le_refl _) (by omega) hg4, by have := hg4.size; omega⟩
          rw [HTK.out, HFW.out]
          exact hown4
         case measure =>
          have e1 : w4.iterPos (wo.heap.size + 1 + 1) = i + 1 := iterPos_of HIT4.out
          have e2 : wr.iterPos (wo.heap.size + 1 + 1) = i := iterPos_of HIT.out
          rw [e1, e2]
          omega
       | none =>
         have HTC := Lib.hid (txtCell_in (x.letters[i].toNat : Int))
         have HFW := Lib.hid (show fldWord a x.letters[i] = txtOf (a.txt (txtCell x.letters[i].toNat)) by unfold fldWord; rw [hnc])
         have HNC := Lib.hid hnc
         clear hnc
         refine (number_none _ _ _ HNC.out).mono ?_
         rintro e w1 ⟨rfl, rfl⟩
         go_wp2_with fail
         refine (text_any _ _ _).mono ?_
         rintro e w1 ⟨rfl, rfl⟩
         generalize txtCell (x.letters[i].toNat : Int) = tc at *
         have hv0 := act_txt HAi.out HTC.out
         have HTL := Lib.hid (show (a.txt tc).length ≤ 1100000 by
          unfold ActD.txt
          split
          ·exact hok.key
          ·exact hok.value)
         go_wp2_with fail
         refine (writeText_any _ _ (by rw [zcw]; have := HTL.out; omega)).mono ?_
         rintro e w2 ⟨rfl, hb2⟩
         have HA3 := Lib.hid (HAi.out.below hb2 HAi.out.lt)
         have HO3 := Lib.hid (zb7 HOi.out hb2)
         have HBW3 := Lib.hid (HBWi.out.trans (hb2.mono HBWi.out.size))
         have HIT3 := Lib.hid ((hb2.block (wo.heap.size + 1 + 1) (by omega)).trans HITi.out)
         have hs2 : wo.heap.size + 3 ≤ w2.heap.size := by have := hb2.size; omega
         clear hb2
         go_wp2_with (at_builtin; refine zcn etStr rfl _ _ rfl w.heap.size _ (i + 1) _ rfl (by exact HO3.out) #[.string ⟨(txtOf (a.txt tc)).toArray⟩] rfl (by simp [Value.oneCell']) rfl (by have := HFEW.out; omega) (by omega) (by omega) ?_; intro v' w4 hown4 hg4 hat4)
         have hn1 := own_ne (g := wo.heap.size + 1 + 1) HO3.out HIT3.out (by simp)
         have hn2 := own_ne (g := w.heap.size) HO3.out HA3.out (by simp)
         have HIT4 := Lib.hid ((hg4.block _ (by omega) hn1).trans HIT3.out)
         go_roundw
         case rel =>
          refine ⟨i + 1, hli, HIT4.out, HA3.out.grown hg4 hn2, ?_, below_app HO3.out HBW3.out (Nat.le_refl _) (by omega) hg4, by have := hg4.size; omega⟩
          rw [HTK.out, HFW.out]
          exact hown4
         case measure =>
          have e1 : w4.iterPos (wo.heap.size + 1 + 1) = i + 1 := iterPos_of HIT4.out
          have e2 : wr.iterPos (wo.heap.size + 1 + 1) = i := iterPos_of HIT.out
          rw [e1, e2]
          omega
      ·have hie : i = x.letters.length := by omega
       have hnx : ∀ ty, (Instr.next (.pointer (some ⟨wo.heap.size + 1 + 1, 0, none⟩)) true ty).run Tryz.prog wr = .ok (.tuple #[.bool false]) wr := fun ty => Lib.run_next_end_at wr _ ⟨x.letters.toArray⟩ i ty hit (by show ¬ i < x.letters.toArray.size; simpa using hli)
       have HWR := Lib.hid (show writeRes a = (wordsFor a x, ((readAct (wordsFor a x)).map (sameAct a)).getD false) by
        unfold writeRes
        rw [find_hit _ _ _ _ HNO.out HX.out HF.out])
       have HOW := Lib.hid (show wr.ownsRow w.heap.size 9 1 _ (i + 1) ((wordsFor a x).map strV) by
        have := HO.out
        rw [hie, List.take_length] at this
        rw [hie]
        exact this)
       have HLN := Lib.hid (show i + 1 = (wordsFor a x).length by rw [hie]; simp [wordsFor])
       have HWL := Lib.hid (show ∀ l ∈ wordsFor a x, l.length ≤ 3000000 by
        intro l hl
        rcases List.mem_cons.1 hl with rfl | hl
        ·have := HFEW.out.2; omega
        ·obtain ⟨c, _, rfl⟩ := List.mem_map.1 hl
         have := fldWord_len a hok c
         omega)
       clear hit hie
       obtain ⟨A0, cc0, rfl⟩ := zas HO.out
       go_wp2_with fail
       cases hra : readAct (wordsFor a x) with
       | none =>
         refine (read_words_none (wordsFor a x) A0 (i + 1) cc0 _ HLN.out (by omega) (by have := HFEW.out.1; omega) HWL.out (Rd.of_own HOW.out) hra).mono ?_
         rintro e w5 ⟨rfl, hb5⟩
         have HO5 := Lib.hid (zb7 HOW.out hb5)
         have HBW5 := Lib.hid (HBW2.out.trans (hb5.mono HBW2.out.size))
         have HRA := Lib.hid hra
         clear hb5 hra
         simp only [ActD.cells, ActD.zero]
         go_wp2_with fail
         go_quiet (fail)
         go_wp2_with fail
         go_ret2
         rw [HWR.out, HRA.out]
         refine ⟨A0, cc0, ?_, ?_, ?_⟩
         ·rw [HLN.out]; rfl
         ·rw [← HLN.out]; exact (HO5.out.alloc _)
         ·exact zay (HBW5.out.alloc HBW5.out.size _) _
       | some b =>
         refine (read_words_some (wordsFor a x) A0 (i + 1) cc0 _ b HLN.out (by omega) (by have := HFEW.out.1; omega) HWL.out (Rd.of_own HOW.out) hra).mono ?_
         rintro e w5 ⟨rfl, hb5⟩
         have HO5 := Lib.hid (zb7 HOW.out hb5)
         have HA5 := Lib.hid (HA2.out.below hb5 HA2.out.lt)
         have HBW5 := Lib.hid (HBW2.out.trans (hb5.mono HBW2.out.size))
         have HRA := Lib.hid hra
         clear hb5 hra
         have hl5 := HA5.out.lt
         obtain ⟨z0, z1, z2, z3, z4, z5, z6, z7, z8, z9, z10⟩ := zcz HA5.out
         have heq := fun W => run_eqAct a b W
         simp only [ActD.cells] at heq ⊢
         go_wp2_with fail
         go_quiet (fail)
         clear heq
         go_wp2_with fail
         go_ret2
         rw [HWR.out, HRA.out]
         refine ⟨A0, cc0, ?_, ?_, ?_⟩
         ·rw [HLN.out]; rfl
         ·rw [← HLN.out]; exact (HO5.out.alloc _)
         ·exact zay (HBW5.out.alloc HBW5.out.size _) _
    ·have q2 : (x.op != a.op) = true := by simp [hq2]
     have HF := Lib.hid (show lineOf a x = false by simp [lineOf, hq2])
     clear hq1 hq2
     go_wp2_with fail
     go_roundw
     case rel => exact ⟨k + 1, hlt, by go_num, find_miss _ _ _ _ HNO.out HX.out HF.out, HA.out.alloc _, HB.out.alloc _, HBW.out.alloc HBW.out.size _⟩
     case measure => simp [intOf]; omega
   ·have q1 : (x.kind != a.kind) = true := by simp [hq1]
    have HF := Lib.hid (show lineOf a x = false by simp [lineOf, hq1])
    clear hq1
    go_wp2_with fail
    go_roundw
    case rel => exact ⟨k + 1, hlt, by go_num, find_miss _ _ _ _ HNO.out HX.out HF.out, HA.out.alloc _, HB.out.alloc _, HBW.out.alloc HBW.out.size _⟩
    case measure => simp [intOf]; omega
  ·have hie : k = 22 := by omega
   have HY := Lib.hid (show writeRes a = ([], false) by
    have := HNO.out
    rw [hie, List.take_of_length_le (by simp [lineTab])] at this
    unfold writeRes
    rw [this])
   clear hie
   have dk : decide ((k : Int) < 22) = false := by simp; omega
   go_wp2_with fail
   go_ret2
   rw [HY.out]
   exact ⟨none, 0, rfl, World.ownsRow_nil _ _ _ _, HBW.out⟩
def lineText (a : ActD) : List UInt8 := Lib.join (writeRes a).1 [32] ++ [10]
def formatRes (l : List ActD) : List UInt8 × Int :=
 if 400 < l.length then ([], 2)
 else if l.all (fun a => (writeRes a).2) = true then (if 16384 < (l.flatMap lineText).length then ([], 2) else (l.flatMap lineText, 0))
 else ([], 1)
abbrev IsB (B b : Nat) (bs : List Value) (w : World) : Prop := Lib.IsBuilder 68 5 B b bs w
theorem isB_new (w : World) (B b : Nat) (hB : B ≤ b) (hb : b = w.heap.size) : IsB B b [] (w.alloc (.cells #[.pointer none, .slice none 0 0] 68)) := by
 subst hb
 exact .inl ⟨hB, .slice none 0 0, Blk.new _ _ _, World.ownsRow_nil _ _ _ _, by simp [Value.ownBlock]⟩
theorem isB_below {B b : Nat} {bs : List Value} {w w' : World} (h : IsB B b bs w) (hb : Below w.heap.size w w') : IsB B b bs w' := by
 rcases h with ⟨h1, v, h2, h3⟩ | ⟨h1, v, h2, h3⟩
 ·exact .inl ⟨h1, v, Blk.below (t := 68) h2 hb (Blk.lt h2), zb7 h3.1 hb, h3.2⟩
 ·exact .inr ⟨h1, v, Blk.below (t := 68) h2 hb (Blk.lt h2), zb7 h3.1 hb, h3.2⟩
theorem acts_get (l : List ActD) (k j : Nat) (a : ActD) (h : l[k]? = some a) (hj : j < 11) : (actsCells l)[k * 11 + j]? = a.cells[j]? := by
 unfold actsCells
 rw [flat_get (fun a : ActD => a.cells.toList) 11 (fun _ => rfl) l k j hj, h]
 simp
theorem zcm (l : List UInt8) : (Lib.byteCells l).length = l.length := by simp [Lib.byteCells]
theorem take_snoc' (l : List ActD) (k : Nat) (a : ActD) (h : l[k]? = some a) : l.take (k + 1) = l.take k ++ [a] := by
 obtain ⟨hk, rfl⟩ := List.getElem?_eq_some_iff.1 h
 exact List.take_succ_eq_append_getElem hk
theorem join_bound (sep : List UInt8) (M : Nat) : ∀ l : List (List UInt8), (∀ x ∈ l, x.length ≤ M) → (Lib.join l sep).length ≤ l.length * (M + sep.length)
 | [], _ => by simp [Lib.join]
 | [x], h => by
   have := h x (by simp)
   simp [Lib.join]
   omega
 | x :: y :: l, h => by
   have h1 := h x (by simp)
   have ih := join_bound sep M (y :: l) (fun z hz => h z (List.mem_cons_of_mem _ hz))
   have e : Lib.join (x :: y :: l) sep = x ++ sep ++ Lib.join (y :: l) sep := by simp [Lib.join]
   have e2 : (x :: y :: l).length * (M + sep.length) = (y :: l).length * (M + sep.length) + (M + sep.length) := by
    show ((y :: l).length + 1) * _ = _
    rw [Nat.succ_mul]
   rw [e, List.length_append, List.length_append, e2]
   omega
theorem writeRes_words (a : ActD) (h : ActOk a) : (writeRes a).1.length ≤ 7 ∧ ∀ x ∈ (writeRes a).1, x.length ≤ 2300000 := by
 unfold writeRes
 split
 ·rename_i x hx
  have hf := zde x (List.mem_of_find?_eq_some hx)
  refine ⟨by simp [wordsFor]; omega, ?_⟩
  intro y hy
  rcases List.mem_cons.1 hy with rfl | hy
  ·omega
  ·obtain ⟨c, _, rfl⟩ := List.mem_map.1 hy
   exact fldWord_len a h c
 ·simp
theorem join_len (a : ActD) (h : ActOk a) : (Lib.join (writeRes a).1 [32]).length ≤ 30000000 := by
 obtain ⟨h1, h2⟩ := writeRes_words a h
 have := join_bound [32] 2300000 _ h2
 simp at this
 omega
theorem join_words (a : ActD) (A : Option Addr) (c : Nat) (w : World) (base : Nat) (hw : (writeRes a).2 = true) (h : ActOk a) (hO : w.ownsRow base 9 1 (.slice A (writeRes a).1.length c) (writeRes a).1.length ((writeRes a).1.map strV)) :
 Calls Tryz.prog 23 #[.slice A (writeRes a).1.length c, .string { data := #[32] }] w fun e w' => e = .returned (.string ⟨(Lib.join (writeRes a).1 [32]).toArray⟩) ∧ Below w.heap.size w w' := by
 have hp : 0 < (writeRes a).1.length := by
  unfold writeRes at hw ⊢
  split
  ·simp [wordsFor]
  ·rename_i hn
   rw [hn] at hw
   cases hw
 have hc := own_cap hO
 obtain ⟨h7, hx⟩ := writeRes_words a h
 have hjl := join_len a h
 obtain ⟨g, rfl, hg, hcs⟩ := rows_of_own hO hp
 generalize (writeRes a).1 = wl at *
 have e1 : (wl.map fun l => (⟨l.toArray⟩ : ByteArray)).map (·.data.toList) = wl := by
  rw [List.map_map]
  exact List.map_id'' (fun _ => rfl) wl
 have := Tryz.strings_Join g 0 c (wl.map fun l => (⟨l.toArray⟩ : ByteArray)) ⟨#[32]⟩ w (by
  intro j y hy
  rw [Nat.zero_add]
  refine hcs j (.string y) ?_
  rw [List.getElem?_map] at hy ⊢
  obtain ⟨z, hz, rfl⟩ := Option.map_eq_some_iff.1 hy
  rw [hz]
  rfl) hg (by simp; omega) (by simpa using hc) (by
   rw [e1, show (⟨#[32]⟩ : ByteArray).data.toList = [32] from rfl]; omega)
 rw [e1, List.length_map, show (⟨#[32]⟩ : ByteArray).data.toList = [32] from rfl] at this
 exact this
theorem strCells_list (l : List UInt8) : Lib.strCells ⟨l.toArray⟩ = Lib.byteCells l := by
 simp [Lib.strCells, Lib.byteCells]
theorem zc8 (A : Option Addr) (c : Nat) (l : List ActD) (w : World) (he : Env w) (hok : ∀ a ∈ l, ActOk a) (hlen : l.length ≤ 1000000) (hR : Rd w w.heap.size A (actsCells l)) :
 Calls Tryz.prog 9 #[.slice A l.length c] w fun e w' => e = .returned (.tuple #[.string ⟨(formatRes l).1.toArray⟩, .int .i64 (formatRes l).2]) ∧ Below w.heap.size w w' := by
 by_cases h4 : 400 < l.length
 ·have d0 : decide (400 < l.length) = true := by simpa using h4
  have HF := Lib.hid (show formatRes l = ([], 2) by rw [formatRes, if_pos h4])
  go_enter Tryz.func9, Tryz.ntmps9
  go_wp2_with fail
  go_ret2
  rw [HF.out]
  exact ⟨rfl, Below.refl _ _⟩
 have d0 : decide (400 < l.length) = false := by simpa using h4
 go_enter Tryz.func9, Tryz.ntmps9
 go_wp2_with fail
 go_loopw [14] (fun i wr => ∃ k : Nat, k ≤ l.length ∧ i = .int .i64 k ∧ (l.take k).all (fun a => (writeRes a).2) = true ∧ IsB w.heap.size w.heap.size (Lib.byteCells ((l.take k).flatMap lineText)) wr ∧ ((l.take k).flatMap lineText).length ≤ k * 40000000 ∧ Below w.heap.size w wr) (fun i _ => l.length - (intOf i).toNat)
 case atStart => exact ⟨0, by omega, rfl, rfl, isB_new w _ _ (Nat.le_refl _) rfl, by simp, (Below.refl _ _).alloc (Nat.le_refl _) _⟩
 case round =>
  obtain ⟨k, hk, rfl, hall, hisb, hfl, hbw⟩ := hrel
  have HALL := Lib.hid hall
  have HI := Lib.hid hisb
  have HFL := Lib.hid hfl
  have HBW := Lib.hid hbw
  have hsw := hbw.size
  clear hall hisb hfl hbw
  by_cases hlt : k < l.length
  ·have hx : l[k]? = some l[k] := List.getElem?_eq_getElem _
   have HOK := Lib.hid (hok l[k] (List.getElem_mem hlt))
   generalize hae : l[k] = a at hx
   have HX := Lib.hid hx
   rw [hae] at HOK
   clear hae hx
   obtain ⟨ad, hade, hadb, _⟩ := hR (k * 11) (.int .i64 a.kind) (acts_get l k 0 a HX.out (by omega))
   subst hade
   have HQ := Lib.hid (show ∀ (j : Nat) (v : Value), a.cells[j]? = some v → wr.cell? ((ad.add (k * 11)).add j) = some v by
    intro j v hj
    have hj11 : j < 11 := (Array.getElem?_eq_some_iff.1 hj).1
    obtain ⟨ad', h1, h2, h3⟩ := hR (k * 11 + j) v ((acts_get l k j a HX.out hj11).trans hj)
    injection h1 with h1
    subst h1
    rw [Addr.add_add]
    exact (HBW.out.cell (by rw [block_add]; exact h2)).trans h3)
   have y0 : wr.cell? (ad.add (k * 11)) = some (.int .i64 a.kind) := HQ.out 0 _ rfl
   have y1 : wr.cell? ⟨(ad.add (k * 11)).block, (ad.add (k * 11)).off + 1, none⟩ = some (.int .i64 a.a) := HQ.out 1 _ rfl
   have y2 : wr.cell? ⟨(ad.add (k * 11)).block, (ad.add (k * 11)).off + 2, none⟩ = some (.int .i64 a.b) := HQ.out 2 _ rfl
   have y3 : wr.cell? ⟨(ad.add (k * 11)).block, (ad.add (k * 11)).off + 3, none⟩ = some (.int .i64 a.n) := HQ.out 3 _ rfl
   have y4 : wr.cell? ⟨(ad.add (k * 11)).block, (ad.add (k * 11)).off + 4, none⟩ = some (.int .i64 a.tenant) := HQ.out 4 _ rfl
   have y5 : wr.cell? ⟨(ad.add (k * 11)).block, (ad.add (k * 11)).off + 5, none⟩ = some (.int .i64 a.client) := HQ.out 5 _ rfl
   have y6 : wr.cell? ⟨(ad.add (k * 11)).block, (ad.add (k * 11)).off + 6, none⟩ = some (.int .i64 a.number) := HQ.out 6 _ rfl
   have y7 : wr.cell? ⟨(ad.add (k * 11)).block, (ad.add (k * 11)).off + 7, none⟩ = some (.int .i64 a.op) := HQ.out 7 _ rfl
   have y8 : wr.cell? ⟨(ad.add (k * 11)).block, (ad.add (k * 11)).off + 8, none⟩ = some (.int .i64 a.item) := HQ.out 8 _ rfl
   have y9 : wr.cell? ⟨(ad.add (k * 11)).block, (ad.add (k * 11)).off + 9, none⟩ = some (.string ⟨a.key.toArray⟩) := HQ.out 9 _ rfl
   have y10 : wr.cell? ⟨(ad.add (k * 11)).block, (ad.add (k * 11)).off + 10, none⟩ = some (.string ⟨a.value.toArray⟩) := HQ.out 10 _ rfl
   cases hwr : (writeRes a).2 with
   | false =>
     have HFR := Lib.hid (show formatRes l = ([], 1) by
      rw [formatRes, if_neg h4, if_neg]
      intro hh
      have := List.all_eq_true.1 hh a (List.mem_of_getElem? HX.out)
      rw [hwr] at this
      cases this)
     go_wp2_with fail
     refine (write_any a _ (by exact he.below (HBW.out.alloc HBW.out.size _)) HOK.out).mono ?_
     rintro e w2 ⟨A2, c2, rfl, _, hb2⟩
     have HB2 := Lib.hid ((HBW.out.alloc HBW.out.size _).trans (hb2.mono (by simp; omega)))
     rw [hwr]
     clear hb2
     go_wp2_with fail
     go_ret2
     rw [HFR.out]
     exact ⟨rfl, HB2.out⟩
   | true =>
     have HWR := Lib.hid hwr
     clear hwr
     go_wp2_with fail
     refine (write_any a _ (by exact he.below (HBW.out.alloc HBW.out.size _)) HOK.out).mono ?_
     rintro e w2 ⟨A2, c2, rfl, hR2, hb2⟩
     have HB2 := Lib.hid ((HBW.out.alloc HBW.out.size _).trans (hb2.mono (by simp; omega)))
     have HI2 := Lib.hid (isB_below (isB_below HI.out ((Below.refl _ _).alloc (Nat.le_refl _) _)) hb2)
     have HR2 := Lib.hid hR2
     rw [HWR.out]
     clear hb2 hR2
     go_wp2_with fail
     refine (join_words a A2 c2 w2 _ HWR.out HOK.out HR2.out).mono ?_
     rintro e w3 ⟨rfl, hb3⟩
     have HB3 := Lib.hid (HB2.out.trans (hb3.mono HB2.out.size))
     have HI3 := Lib.hid (isB_below HI2.out hb3)
     clear hb3
     have HJL := Lib.hid (join_len a HOK.out)
     have HTK := Lib.hid (show (l.take (k + 1)).flatMap lineText = (l.take k).flatMap lineText ++ Lib.join (writeRes a).1 [32] ++ [10] by
      rw [take_snoc' l k a HX.out, List.flatMap_append]
      simp [lineText])
     have HTA := Lib.hid (show (l.take (k + 1)).all (fun a => (writeRes a).2) = true by
      rw [take_snoc' l k a HX.out, List.all_append, HALL.out]
      simp [HWR.out])
     have hk4 : k < 400 := by omega
     have hfl := HFL.out
     have hjl := HJL.out
     go_wp2_with fail
     refine (writeString_any _ _ _ _ _ HI3.out (by rw [zcm, zcw]; omega) (by have := HB3.out.size; omega)).mono ?_
     rintro e w4 ⟨rfl, hi4, hb4⟩
     have HI4 := Lib.hid hi4
     have HB4 := Lib.hid (HB3.out.trans hb4)
     clear hi4 hb4
     go_wp2_with fail
     refine (writeByte_any _ _ _ _ _ (.inr HI4.out) (by rw [strCells_list, List.length_append, zcm, zcm]; omega) (by have := HB4.out.size; omega)).mono ?_
     rintro e w5 ⟨rfl, hi5, hb5⟩
     have HI5 := Lib.hid hi5
     have HB5 := Lib.hid (HB4.out.trans hb5)
     clear hi5 hb5
     go_wp2_with fail
     go_roundw
     case rel =>
      refine ⟨k + 1, hlt, by go_num, HTA.out, .inr ?_, ?_, HB5.out⟩
      ·rw [HTK.out, zc5, zc5]
       have := HI5.out
       rw [strCells_list] at this
       exact this
      ·rw [HTK.out, List.length_append, List.length_append]
       simp only [List.length_cons, List.length_nil]
       omega
     case measure => simp [intOf]; omega
  ·have hke : k = l.length := by omega
   have htk : l.take k = l := by rw [hke]; exact List.take_length
   rw [htk] at HI HALL HFL
   obtain ⟨tx, htx⟩ : ∃ tx, tx = l.flatMap lineText := ⟨_, rfl⟩
   rw [← htx] at HI HFL
   by_cases hbig : 16384 < tx.length
   ·have HFR := Lib.hid (show formatRes l = ([], 2) by rw [formatRes, if_neg h4, if_pos HALL.out, ← htx, if_pos hbig])
    have d2 : decide (16384 < tx.length) = true := by simpa using hbig
    clear hke htk htx
    go_wp2_with fail
    refine (Tryz.Builder_Len _ _ _ _ HI.out).mono ?_
    rintro e w2 ⟨rfl, rfl⟩
    rw [zcm]
    go_wp2_with fail
    go_ret2
    rw [HFR.out]
    exact ⟨rfl, HBW.out⟩
   ·have HFR := Lib.hid (show formatRes l = (tx, 0) by rw [formatRes, if_neg h4, if_pos HALL.out, ← htx, if_neg hbig])
    have d2 : decide (16384 < tx.length) = false := by simpa using hbig
    clear hke htk htx
    go_wp2_with fail
    refine (Tryz.Builder_Len _ _ _ _ HI.out).mono ?_
    rintro e w2 ⟨rfl, rfl⟩
    rw [zcm]
    go_wp2_with fail
    refine (Tryz.Builder_String_any _ _ _ _ HI.out (by omega)).mono ?_
    rintro e w3 ⟨rfl, hb3⟩
    have HB3 := Lib.hid (HBW.out.trans hb3)
    clear hb3
    go_wp2_with fail
    go_ret2
    rw [HFR.out]
    exact ⟨rfl, HB3.out⟩
end Go.Proofs.YtcgcfeablbjnaaaGreatDoor
namespace Go.Proofs.YtcgcfeablbjnaaaGreatDoor
open Go.Lib
theorem dig_toNat (d : Nat) (h : d < 10) : (UInt8.ofNat (48 + d)).toNat = 48 + d := by rw [UInt8.toNat_ofNat']; omega
theorem dd_ind {p : Nat → List UInt8 → Prop} (h1 : ∀ u, u < 10 → p u [UInt8.ofNat (48 + u)]) (h2 : ∀ u, ¬ u < 10 → p (u / 10) (decDigits (u / 10)) → p u (decDigits (u / 10) ++ [UInt8.ofNat (48 + u % 10)])) (u : Nat) : p u (decDigits u) := by
 induction u using Nat.strongRecOn with
 | _ u ih =>
   rw [decDigits]
   by_cases h : u < 10
   ·rw [dif_pos h]; exact h1 u h
   ·rw [dif_neg h]; exact h2 u h (ih (u / 10) (by omega))
theorem dd_val (u : Nat) : decVal (decDigits u) = u := by
 refine dd_ind (p := fun u l => decVal l = u) (fun u h => ?_) (fun u h ih => ?_) u
 ·simp only [decVal, List.foldl_cons, List.foldl_nil, dig_toNat u h]; omega
 ·rw [decVal_snoc, ih, dig_toNat _ (by omega)]; omega
theorem dd_all (u : Nat) : allDig (decDigits u) = true := by
 refine dd_ind (p := fun u l => allDig l = true) (fun u h => ?_) (fun u h ih => ?_) u
 ·simp [allDig, isDig]; omega
 ·rw [allDig_snoc, ih]
  simp [isDig]; omega
theorem dd_head (u : Nat) (hu : 1 ≤ u) : ∃ c l, decDigits u = c :: l ∧ 49 ≤ c.toNat ∧ c.toNat ≤ 57 := by
 revert hu
 refine dd_ind (p := fun u l => 1 ≤ u → ∃ c r, l = c :: r ∧ 49 ≤ c.toNat ∧ c.toNat ≤ 57) (fun u h hu => ?_) (fun u h ih hu => ?_) u
 ·exact ⟨_, [], rfl, by rw [dig_toNat u h]; omega, by rw [dig_toNat u h]; omega⟩
 ·obtain ⟨c, l, e, h1, h2⟩ := ih (by omega)
  exact ⟨c, l ++ [UInt8.ofNat (48 + u % 10)], by rw [e]; rfl, h1, h2⟩
theorem nDigits_le9 (u : Nat) (h : u ≤ 999999999) : nDigits u ≤ 9 := by
 refine Decidable.byContradiction fun hn => ?_
 have hk : ∀ k u : Nat, nDigits u = k + 1 → 10 ^ k ≤ u ∨ k = 0 := by
  intro k
  induction k with
  | zero => intro u _; exact .inr rfl
  | succ k ih =>
    intro u hu
    have h10 : ¬ u < 10 := fun h => by rw [nDigits_small h] at hu; omega
    rw [nDigits_big h10] at hu
    rcases ih (u / 10) (by omega) with h1 | h1
    ·left; rw [Nat.pow_succ]; omega
    ·left; subst h1; simp; omega
 rcases hk (nDigits u - 1) u (by omega) with h1 | h1
 ·have : 10 ^ 9 ≤ 10 ^ (nDigits u - 1) := Nat.pow_le_pow_right (by omega) (by omega)
  omega
 ·omega
theorem nDigits_gt9 (u : Nat) (h : 999999999 < u) : 9 < nDigits u := by
 refine Decidable.byContradiction fun hn => ?_
 have h1 := lt_pow_nDigits u
 have : 10 ^ nDigits u ≤ 10 ^ 9 := Nat.pow_le_pow_right (by omega) (by omega)
 omega
theorem numRes_dd (u : Nat) (hu : 1 ≤ u) : numRes (decDigits u) = if u ≤ 999999999 then some (u : Int) else none := by
 obtain ⟨c, l, e, h1, h2⟩ := dd_head u hu
 have hne : decDigits u ≠ [48] := fun h => by
  rw [e] at h
  injection h with h _
  subst h
  simp at h1
 have hc45 : c ≠ 45 := fun h => by subst h; simp at h1
 have hc48 : c ≠ 48 := fun h => by subst h; simp at h1
 have ht : trimPrefix (decDigits u) [45] = decDigits u := by
  rw [e]
  simp [trimPrefix, hasPrefix, hc45.symm]
 unfold numRes
 rw [if_neg hne, ht, decDigits_length]
 by_cases h9 : u ≤ 999999999
 ·have := nDigits_le9 u h9
  have hp := nDigits_pos u
  rw [if_neg (by rw [e]; simp [hc48]; omega), if_pos (dd_all u), dd_val, if_neg (by omega), if_pos h9]
 ·have := nDigits_gt9 u (by omega)
  rw [if_pos (by omega), if_neg h9]
theorem numRes_neg (u : Nat) (hu : 1 ≤ u) : numRes (45 :: decDigits u) = if u ≤ 999999999 then some (-(u : Int)) else none := by
 obtain ⟨c, l, e, h1, h2⟩ := dd_head u hu
 have hc48 : c ≠ 48 := fun h => by subst h; simp at h1
 have ht : trimPrefix (45 :: decDigits u) [45] = decDigits u := by simp [trimPrefix, hasPrefix]
 unfold numRes
 rw [if_neg (by simp), ht, decDigits_length]
 by_cases h9 : u ≤ 999999999
 ·have := nDigits_le9 u h9
  have hp := nDigits_pos u
  rw [if_neg (by rw [e]; simp [hc48]; omega), if_pos (dd_all u), dd_val, if_pos (by simp [decDigits_length]), if_pos h9]
 ·have := nDigits_gt9 u (by omega)
  rw [if_pos (by omega), if_neg h9]
theorem numRes_itoa (n : Int) : numRes (itoa n) = if -999999999 ≤ n ∧ n ≤ 999999999 then some n else none := by
 rcases Int.lt_trichotomy n 0 with h | h | h
 ·obtain ⟨u, hu, rfl⟩ : ∃ u : Nat, 1 ≤ u ∧ n = -(u : Int) := ⟨n.natAbs, by omega, by omega⟩
  rw [itoa, if_pos h, show (-(u : Int)).natAbs = u by omega, numRes_neg u hu]
  by_cases h9 : u ≤ 999999999
  ·rw [if_pos h9, if_pos (by omega)]
  ·rw [if_neg h9, if_neg (by omega)]
 ·subst h
  rw [if_pos (by omega), itoa, if_neg (by omega), show (0 : Int).toNat = 0 from rfl, decDigits_one (by omega)]
  rfl
 ·obtain ⟨u, hu, rfl⟩ : ∃ u : Nat, 1 ≤ u ∧ n = (u : Int) := ⟨n.toNat, by omega, by omega⟩
  rw [itoa, if_neg (by omega), show ((u : Int)).toNat = u by omega, numRes_dd u hu]
  by_cases h9 : u ≤ 999999999
  ·rw [if_pos h9, if_pos (by omega)]
  ·rw [if_neg h9, if_neg (by omega)]
theorem hex_fin : ∀ d : Fin 16, hexVal (hexD.getD d.val 0) = (d.val : Int) := by decide +kernel
theorem hex_at (d : Nat) (h : d < 16) : hexVal (hexD.getD d 0) = (d : Int) := hex_fin ⟨d, h⟩
theorem hexOf_len (c : UInt8) : (hexOf c).length = 2 := rfl
theorem flatHex_len (l : List UInt8) : (l.flatMap hexOf).length = 2 * l.length := by
 induction l with
 | nil => rfl
 | cons c l ih => rw [List.flatMap_cons, List.length_append, ih, hexOf_len]; simp; omega
theorem flatHex_at : ∀ (l : List UInt8) (j : Nat) (h : j < l.length), (l.flatMap hexOf).getD (2 * j) 0 = hexD.getD (l[j].toNat / 16) 0 ∧ (l.flatMap hexOf).getD (2 * j + 1) 0 = hexD.getD (l[j].toNat % 16) 0
 | c :: l, 0, _ => by simp [hexOf]
 | c :: l, j + 1, h => by
   have ih := flatHex_at l j (by simpa using h)
   rw [List.flatMap_cons]
   have e1 : (hexOf c ++ l.flatMap hexOf).getD (2 * (j + 1)) 0 = (l.flatMap hexOf).getD (2 * j) 0 := by
    rw [List.getD_eq_getElem?_getD, List.getElem?_append_right (by rw [hexOf_len]; omega), hexOf_len, show 2 * (j + 1) - 2 = 2 * j by omega, ← List.getD_eq_getElem?_getD]
   have e2 : (hexOf c ++ l.flatMap hexOf).getD (2 * (j + 1) + 1) 0 = (l.flatMap hexOf).getD (2 * j + 1) 0 := by
    rw [List.getD_eq_getElem?_getD, List.getElem?_append_right (by rw [hexOf_len]; omega), hexOf_len, show 2 * (j + 1) + 1 - 2 = 2 * j + 1 by omega, ← List.getD_eq_getElem?_getD]
   rw [e1, e2]
   simpa using ih
theorem txtRes_txtOf (l : List UInt8) : txtRes (txtOf l) = some l := by
 by_cases h : l = []
 ·subst h; rfl
 ·have hl : 1 ≤ l.length := by cases l with | nil => exact absurd rfl h | cons _ _ => simp
  have e : txtOf l = l.flatMap hexOf := by rw [txtOf, if_neg h]
  have hlen := flatHex_len l
  have h16 : ∀ j (hj : j < l.length), l[j].toNat < 256 := fun j hj => l[j].toNat_lt
  unfold txtRes
  rw [e, if_neg (fun h => by have := congrArg List.length h; rw [hlen] at this; simp at this; omega), if_neg (by rw [hlen]; omega), hlen, show 2 * l.length / 2 = l.length by omega, if_pos]
  ·congr 1
   apply List.ext_getElem
   ·simp [pairsTo]
   ·intro j h1 h2
    simp only [pairsTo, List.getElem_map, List.getElem_range]
    obtain ⟨e1, e2⟩ := flatHex_at l j h2
    have := h16 j h2
    rw [e1, e2, hex_at _ (by omega), hex_at _ (by omega), show ((16 : Int) * ((l[j].toNat / 16 : Nat) : Int) + ((l[j].toNat % 16 : Nat) : Int)).toNat = l[j].toNat by omega]
    exact UInt8.ofNat_toNat
  ·intro j hj
   obtain ⟨e1, e2⟩ := flatHex_at l j hj
   have := h16 j hj
   rw [e1, e2, hex_at _ (by omega), hex_at _ (by omega)]
   omega
def fillOf (a : ActD) : List UInt8 → ActD → ActD
 | [], b => b
 | c :: cs, b => fillOf a cs (match numCell c.toNat with
   | some k => b.setNum k (a.num k)
   | none => b.setTxt (txtCell c.toNat) (a.txt (txtCell c.toNat)))
def rangesOk (a : ActD) (cs : List UInt8) : Bool := cs.all fun c => match numCell c.toNat with
 | some k => decide (-999999999 ≤ a.num k) && decide (a.num k ≤ 999999999)
 | none => true
theorem zdc (a : ActD) : ∀ (cs : List UInt8) (b : ActD), readFields cs (cs.map (fldWord a)) b = if rangesOk a cs = true then some (fillOf a cs b) else none
 | [], b => by simp [readFields, rangesOk, fillOf]
 | c :: cs, b => by
   rw [List.map_cons, readFields]
   have hr : rangesOk a (c :: cs) = ((match numCell c.toNat with | some k => decide (-999999999 ≤ a.num k) && decide (a.num k ≤ 999999999) | none => true) && rangesOk a cs) := by simp [rangesOk]
   rw [hr, fillOf]
   unfold readStep fldWord
   cases hn : numCell c.toNat with
   | some k =>
     simp only [numRes_itoa]
     by_cases h : -999999999 ≤ a.num k ∧ a.num k ≤ 999999999
     ·rw [if_pos h]
      simp only [Option.map_some, Option.bind_some, decide_eq_true h.1, decide_eq_true h.2, Bool.true_and]
      exact zdc a cs _
     ·rw [if_neg h]
      simp only [Option.map_none, Option.bind_none]
      rw [if_neg]
      intro hh
      simp only [Bool.and_eq_true, decide_eq_true_eq] at hh
      exact h hh.1
   | none =>
     simp only [txtRes_txtOf, Option.map_some, Option.bind_some, Bool.true_and]
     exact zdc a cs _
theorem words_uniq : ∀ x ∈ lineTab, (lineTab.find? fun y => decide (y.word = x.word) && decide ((y.letters.length : Int) = (x.letters.length : Int))).map LineK.word = some x.word := by decide +kernel
theorem lines_uniq : ∀ x ∈ lineTab, ∀ y ∈ lineTab, x.word = y.word → x.kind = y.kind ∧ x.op = y.op ∧ x.letters = y.letters := by decide +kernel
theorem find_words (a : ActD) (x : LineK) (hx : x ∈ lineTab) : lineTab.find? (lineFits (wordsFor a x)) = some x := by
 have e : lineFits (wordsFor a x) = fun y => decide (y.word = x.word) && decide ((y.letters.length : Int) = (x.letters.length : Int)) := by
  funext y
  simp [lineFits, wordsFor]
 rw [e]
 have h := words_uniq x hx
 cases hf : lineTab.find? (fun y => decide (y.word = x.word) && decide ((y.letters.length : Int) = (x.letters.length : Int))) with
 | none => rw [hf] at h; cases h
 | some y =>
   rw [hf] at h
   have hw : y.word = x.word := by simpa using h
   obtain ⟨h1, h2, h3⟩ := lines_uniq y (List.mem_of_find?_eq_some hf) x hx hw
   congr 1
   cases x; cases y
   simp_all
theorem readAct_words (a : ActD) (x : LineK) (hx : x ∈ lineTab) : readAct (wordsFor a x) = if rangesOk a x.letters = true then some (fillOf a x.letters { ActD.zero with kind := x.kind, op := x.op }) else none := by
 unfold readAct
 rw [find_words a x hx]
 exact zdc a x.letters _
theorem writeRes_eq (a : ActD) : writeRes a = match lineTab.find? (lineOf a) with
 | some x => (wordsFor a x, rangesOk a x.letters && sameAct a (fillOf a x.letters { ActD.zero with kind := x.kind, op := x.op }))
 | none => ([], false) := by
 unfold writeRes
 cases h : lineTab.find? (lineOf a) with
 | none => rfl
 | some x =>
   simp only [readAct_words a x (List.mem_of_find?_eq_some h)]
   cases hr : rangesOk a x.letters <;> simp
end Go.Proofs.YtcgcfeablbjnaaaGreatDoor
