/- Contracts of script.number, script.text, script.readNumber. -/
import Derived.Test.YtcgcfeablbjnaaaDoorShelf
import Derived.Test.YtcgcfeablbjnaaaDoorSlice
import Derived.Test.YtcgcfeablbjnaaaDoorRegion
import Derived.WalkSpells
import Derived.WalkLawsBesides
namespace Go.Proofs.YtcgcfeablbjnaaaDoor
open Go.RowKit Go.BigFrame

/-- Which cell of an act the letter of a number names. -/
def numCell (c : Int) : Option Nat :=
  if (c == 65) = true then some 1 else if (c == 66) = true then some 2 else if (c == 78) = true then some 3 else if (c == 116) = true then some 4 else if (c == 99) = true then some 5 else if (c == 110) = true then some 6 else if (c == 105) = true then some 8 else none
def numPtr (g : Nat) (c : Int) : Value := .pointer ((numCell c).map fun k => ⟨g, k, none⟩)
def txtCell (c : Int) : Nat := if (c == 107) = true then 9 else 10

theorem ret_eq {a b : Value} (h : a = b) : Ending.returned a = .returned b := by rw [h]

set_option maxHeartbeats 1000000 in
theorem number_any (c : Int) (g : Nat) (w : World) :
    Calls Tryd.prog 32 #[.pointer (some ⟨g, 0, none⟩), .int .i32 c] w fun e w' => e = .returned (numPtr g c) ∧ w = w' := by
  go_enter Tryd.func32, Tryd.ntmps32
  go_wp2
  all_goals
    go_ret
    exact ⟨ret_eq (by simp [numPtr, numCell, *]), rfl⟩

set_option maxHeartbeats 1000000 in
theorem text_any (c : Int) (g : Nat) (w : World) :
    Calls Tryd.prog 35 #[.pointer (some ⟨g, 0, none⟩), .int .i32 c] w fun e w' => e = .returned (.pointer (some ⟨g, txtCell c, none⟩)) ∧ w = w' := by
  go_enter Tryd.func35, Tryd.ntmps35
  go_wp2
  all_goals
    go_ret
    exact ⟨ret_eq (by simp [txtCell, *]), rfl⟩

def isDig (c : UInt8) : Bool := decide (48 ≤ (c.toNat : Int)) && decide ((c.toNat : Int) ≤ 57)
def allDig (l : List UInt8) : Bool := l.all isDig
def decVal (l : List UInt8) : Int := l.foldl (fun n c => 10 * n + ((c.toNat : Int) - 48)) 0
theorem decVal_snoc (l : List UInt8) (c : UInt8) : decVal (l ++ [c]) = 10 * decVal l + ((c.toNat : Int) - 48) := by simp [decVal]
theorem allDig_snoc (l : List UInt8) (c : UInt8) : allDig (l ++ [c]) = (allDig l && isDig c) := by simp [allDig]
theorem decVal_bd : ∀ (n : Nat) (l : List UInt8), l.length = n → allDig l = true → 0 ≤ decVal l ∧ decVal l < 10 ^ n
  | 0, l, h, _ => by
    have : l = [] := List.eq_nil_of_length_eq_zero h
    subst this
    simp [decVal]
  | n + 1, l, h, hd => by
    have hne : l ≠ [] := by intro e; subst e; simp at h
    rw [← List.dropLast_concat_getLast hne] at hd ⊢
    rw [allDig_snoc, Bool.and_eq_true] at hd
    have ih := decVal_bd n l.dropLast (by simp [h]) hd.1
    rw [decVal_snoc]
    have := hd.2
    simp only [isDig, Bool.and_eq_true, decide_eq_true_eq] at this
    rw [Int.pow_succ]
    omega

/-- The number that a word is. -/
def numRes (l : List UInt8) : Option Int :=
  if l = [48] then some 0 else
  if (Lib.trimPrefix l [45]).length < 1 ∨ 9 < (Lib.trimPrefix l [45]).length ∨ (Lib.trimPrefix l [45]).head? = some 48 then none else
  if allDig (Lib.trimPrefix l [45]) = true then some (if (Lib.trimPrefix l [45]).length < l.length then - decVal (Lib.trimPrefix l [45]) else decVal (Lib.trimPrefix l [45])) else none

/-- What readNumber hands back. -/
def numVal (l : List UInt8) : Value := .tuple #[.int .i64 ((numRes l).getD 0), .bool (numRes l).isSome]

theorem take_snoc (s : ByteArray) (k : Nat) (h : k < s.size) : s.data.toList.take (k + 1) = s.data.toList.take k ++ [s[k]] := by
  rw [List.take_succ_eq_append_getElem (by simpa using h)]; rfl
theorem toList_eq (s : ByteArray) : s.toList = s.data.toList := ByteArray.toList_eq s

set_option maxHeartbeats 2000000 in
theorem readNumber_any (s : ByteArray) (w : World) :
    Calls Tryd.prog 33 #[.string s] w fun e w' => e = .returned (numVal s.data.toList) ∧ w = w' := by
  by_cases h0 : s.data.toList = [48]
  · have HF := Lib.hid (show numVal s.data.toList = .tuple #[.int .i64 0, .bool true] by simp [numVal, numRes, h0])
    have h1 : (s.toList == [48]) = true := by rw [toList_eq]; simp [h0]
    clear h0
    go_enter Tryd.func33, Tryd.ntmps33
    go_wp2_with fail
    go_ret2
    exact ⟨ret_eq HF.out.symm, rfl⟩
  have h1 : (s.toList == [48]) = false := by rw [toList_eq]; simp [h0]
  obtain ⟨t, ht⟩ : ∃ t : ByteArray, t = ⟨(Lib.trimPrefix s.data.toList [45]).toArray⟩ := ⟨_, rfl⟩
  have htl : t.data.toList = Lib.trimPrefix s.data.toList [45] := by rw [ht]
  have hts : t.size = (Lib.trimPrefix s.data.toList [45]).length := by rw [← htl]; simp
  have hss : s.size = s.data.toList.length := by simp
  by_cases hbad : t.size < 1 ∨ 9 < t.size ∨ t.data.toList.head? = some 48
  · have HF := Lib.hid (show numVal s.data.toList = .tuple #[.int .i64 0, .bool false] by
      have : numRes s.data.toList = none := by
        rw [numRes, if_neg h0, if_pos (by rw [← htl]; simpa using hbad)]
      simp [numVal, this])
    have hcases : (decide ((t.size : Int) < 1) = true) ∨ (decide ((t.size : Int) < 1) = false ∧ decide ((9 : Int) < (t.size : Int)) = true) ∨ (decide ((t.size : Int) < 1) = false ∧ decide ((9 : Int) < (t.size : Int)) = false ∧ ∃ h : 0 < t.size, ((t[0].toNat : Int) == 48) = true) := by
      by_cases q1 : t.size < 1
      · exact .inl (by simp; omega)
      · by_cases q2 : 9 < t.size
        · exact .inr (.inl ⟨by simp; omega, by simp; omega⟩)
        · refine .inr (.inr ⟨by simp; omega, by simp; omega, by omega, ?_⟩)
          rcases hbad with h | h | h
          · omega
          · omega
          · have hp : 0 < t.size := by omega
            have e : t.data.toList.head? = some t[0] := by
              rw [List.head?_eq_getElem?, List.getElem?_eq_getElem (by simpa using hp)]
              rfl
            rw [e] at h
            injection h with h
            rw [h]
            rfl
    have HT := Lib.hid ht
    clear ht htl hts hss h0 hbad
    rcases hcases with q | ⟨q1, q2⟩ | ⟨q1, q2, hp, q3⟩
    all_goals
      go_enter Tryd.func33, Tryd.ntmps33
      go_wp2_with fail
      refine (Tryd.strings_TrimPrefix _ _ _).mono ?_
      rintro e w' ⟨rfl, rfl⟩
      simp only
      rw [← HT.out]
      go_wp2
      go_ret2
      exact ⟨ret_eq HF.out.symm, rfl⟩
  have b1 : ¬ t.size < 1 := fun h => hbad (.inl h)
  have b2 : ¬ 9 < t.size := fun h => hbad (.inr (.inl h))
  have hp : 0 < t.size := by omega
  have b3 : ((t[0].toNat : Int) == 48) = false := by
    rw [beq_eq_false_iff_ne]
    intro h
    apply hbad
    refine .inr (.inr ?_)
    rw [List.head?_eq_getElem?, List.getElem?_eq_getElem (by simpa using hp)]
    congr 1
    apply UInt8.toNat_inj.1
    have : t[0].toNat = 48 := by omega
    exact this
  have d1 : decide ((t.size : Int) < 1) = false := by simp; omega
  have d2 : decide ((9 : Int) < (t.size : Int)) = false := by simp; omega
  have HR := Lib.hid (show numRes s.data.toList = if allDig t.data.toList = true then some (if t.size < s.size then - decVal t.data.toList else decVal t.data.toList) else none by
    rw [numRes, if_neg h0, if_neg (by rw [← htl]; simpa using hbad), ← htl]
    simp)
  have HT := Lib.hid ht
  clear ht htl hts hss h0 hbad
  go_enter Tryd.func33, Tryd.ntmps33
  go_wp2_with fail
  refine (Tryd.strings_TrimPrefix _ _ _).mono ?_
  rintro e w' ⟨rfl, rfl⟩
  simp only
  rw [← HT.out]
  go_wp2
  go_loop [5, 26] (fun n i => ∃ k : Nat, k ≤ t.size ∧ i = .int .i64 k ∧ n = .int .i64 (decVal (t.data.toList.take k)) ∧ allDig (t.data.toList.take k) = true) (fun _ i => t.size - (intOf i).toNat)
  case atStart => exact ⟨0, Nat.zero_le _, rfl, rfl, rfl⟩
  case round =>
    obtain ⟨k, hk, rfl, rfl, hdig⟩ := hrel
    have hbd := decVal_bd k (t.data.toList.take k) (by simp; omega) hdig
    have hpw : (10 : Int) ^ k ≤ 1000000000 := by
      have : k ≤ 9 := by omega
      have h9 : (10 : Nat) ^ k ≤ 10 ^ 9 := Nat.pow_le_pow_right (by omega) this
      have h9' : ((10 ^ k : Nat) : Int) ≤ ((10 ^ 9 : Nat) : Int) := by exact_mod_cast h9
      simpa using h9'
    have n1 : 0 ≤ decVal (t.data.toList.take k) := hbd.1
    have n2 : decVal (t.data.toList.take k) < 1000000000 := by omega
    by_cases hlt : k < t.size
    · have hsn := decVal_snoc (t.data.toList.take k) t[k]
      have hsa := allDig_snoc (t.data.toList.take k) t[k]
      rw [← take_snoc t k hlt] at hsn hsa
      rw [hdig, Bool.true_and] at hsa
      have HSN := Lib.hid hsn
      have HSA := Lib.hid hsa
      have HD := Lib.hid hdig
      clear hsn hsa hdig hbd hpw
      generalize hv : decVal (t.data.toList.take k) = v at *
      clear hv
      have hcb := t[k].toNat_lt
      by_cases hd : (48 : Int) ≤ t[k].toNat ∧ (t[k].toNat : Int) ≤ 57
      · obtain ⟨e1, e2⟩ := hd
        have HI := Lib.hid (show isDig t[k] = true by simp [isDig, e1, e2])
        have d3 : decide ((t[k].toNat : Int) < 48) = false := by simp; omega
        go_wp2
        go_round
        case rel => exact ⟨k + 1, hlt, by go_num, by rw [HSN.out], by rw [HSA.out]; exact HI.out⟩
        case measure => simp [intOf]; omega
      · have HN := Lib.hid (show numVal s.data.toList = .tuple #[.int .i64 0, .bool false] by
          have : allDig t.data.toList = false := by
            have hx : isDig t[k] = false := by simp [isDig]; omega
            rw [← List.take_append_drop (k + 1) t.data.toList]
            unfold allDig at HSA ⊢
            rw [List.all_append, HSA.out, hx, Bool.false_and]
          simp [numVal, HR.out, this])
        rcases (show (t[k].toNat : Int) < 48 ∨ (48 ≤ (t[k].toNat : Int) ∧ 57 < (t[k].toNat : Int)) by omega) with q | ⟨q1, q2⟩
        · have d3 : decide ((t[k].toNat : Int) < 48) = true := by simp; omega
          go_wp2
          go_ret2
          exact ⟨ret_eq HN.out.symm, rfl⟩
        · have d3 : decide ((t[k].toNat : Int) < 48) = false := by simp; omega
          go_wp2
          go_ret2
          exact ⟨ret_eq HN.out.symm, rfl⟩
    · have e : k = t.size := by omega
      subst e
      have hall : t.data.toList.take t.size = t.data.toList := List.take_of_length_le (by simp)
      rw [hall] at hdig n1 n2
      rw [hall]
      have HN := Lib.hid (show numVal s.data.toList = .tuple #[.int .i64 (if t.size < s.size then - decVal t.data.toList else decVal t.data.toList), .bool true] by
          simp [numVal, HR.out, hdig])
      clear hall hdig hbd hpw
      by_cases hq : t.size < s.size
      · rw [if_pos hq] at HN
        go_wp2
        go_ret2
        exact ⟨ret_eq HN.out.symm, rfl⟩
      · rw [if_neg hq] at HN
        go_wp2
        go_ret2
        exact ⟨ret_eq HN.out.symm, rfl⟩

end Go.Proofs.YtcgcfeablbjnaaaDoor
