/- Contracts of script.readText and script.writeText. -/
import Derived.Test.YtcgcfeablbjnaaaDoorScrA
import Derived.Laws.BytesString
import Derived.Deep.RegionHeld3
namespace Go.Proofs.YtcgcfeablbjnaaaDoor
open Go.RowKit Go.BigFrame

theorem foldl_push (l : List UInt8) : ∀ (acc : ByteArray), (l.map fun b : UInt8 => (b.toNat : Int)).foldl (fun r n => r.push (UInt8.ofNat n.toNat)) acc = ⟨(acc.data.toList ++ l).toArray⟩ := by
  induction l with
  | nil => intro acc; simp
  | cons b l ih =>
    intro acc
    rw [List.map_cons, List.foldl_cons, ih]
    simp [ByteArray.push]

/-- 'string(b)': the bytes that lie there. -/
theorem run_str {P : Program} (src dst e : TypeId) (hs : P.underlying src = some (.slice e)) (he : P.underlying e = some (.int .u8)) (hd : P.underlying dst = some .string) (l : List UInt8) (A : Option Addr) (n c B : Nat) (hn : n = l.length) (w : World) (hr : Rd w B A (Lib.byteCells l)) :
    (convert src dst (.slice A n c)).run P w = .ok (.string ⟨l.toArray⟩) w := by
  subst hn
  rw [run_convert_bytes_string w src dst e A l.length c hs he hd]
  cases A with
  | none =>
    have : l = [] := by
      cases l with
      | nil => rfl
      | cons b r => obtain ⟨ad, h, _⟩ := hr 0 _ rfl; cases h
    subst this
    rfl
  | some a =>
    have hl : (loadCells a l.length).run P w = .ok ((l.map fun b : UInt8 => (b.toNat : Int)).map (Value.int .u8)).toArray w := by
      have := run_loadCells_list (P := P) w a (Lib.byteCells l) (fun j v hj => by
        obtain ⟨ad, h, _, hc⟩ := hr j v hj
        injection h with h
        subst h
        exact hc)
      rw [show (Lib.byteCells l).length = l.length from by simp [Lib.byteCells]] at this
      rw [this]
      simp [Lib.byteCells]
    rw [run_bytesToString w a l.length c _ hl, foldl_push]
    simp

theorem etU8 : ElemT Tryd.prog 40 5 (.int .u8 0) 1 1 := ElemT.mk' Tryd.underlying40 (by kernel_rfl) rfl (by decide)

/-- The digits of strings. -/
def hexD : List UInt8 := [48, 49, 50, 51, 52, 53, 54, 55, 56, 57, 97, 98, 99, 100, 101, 102]
def hexVal (c : UInt8) : Int := Lib.indexByte hexD c
theorem indexByte_bd (c : UInt8) : ∀ l : List UInt8, -1 ≤ Lib.indexByte l c ∧ Lib.indexByte l c < l.length
  | [] => by simp [Lib.indexByte]
  | b :: l => by
    have ih := indexByte_bd c l
    unfold Lib.indexByte
    simp only [List.length_cons]
    split
    · omega
    · split <;> omega
theorem hexVal_bd (c : UInt8) : -1 ≤ hexVal c ∧ hexVal c ≤ 15 := by
  have := indexByte_bd c hexD
  unfold hexVal
  simp only [hexD, List.length_cons, List.length_nil] at this ⊢
  omega

/-- The first k pairs of digits are good. -/
def pairsOk (l : List UInt8) (k : Nat) : Prop := ∀ j, j < k → 0 ≤ hexVal (l.getD (2 * j) 0) ∧ 0 ≤ hexVal (l.getD (2 * j + 1) 0)
/-- The bytes of the first k pairs. -/
def pairsTo (l : List UInt8) (k : Nat) : List UInt8 := (List.range k).map fun j => UInt8.ofNat (16 * hexVal (l.getD (2 * j) 0) + hexVal (l.getD (2 * j + 1) 0)).toNat

instance (l : List UInt8) (k : Nat) : Decidable (pairsOk l k) := by unfold pairsOk; infer_instance

/-- The string that a word is written for. -/
def txtRes (l : List UInt8) : Option (List UInt8) :=
  if l = [46] then some [] else
  if l.length = 0 ∨ l.length % 2 = 1 then none else
  if pairsOk l (l.length / 2) then some (pairsTo l (l.length / 2)) else none
def txtVal (l : List UInt8) : Value := .tuple #[.string ⟨((txtRes l).getD []).toArray⟩, .bool (txtRes l).isSome]

theorem pairsTo_succ (l : List UInt8) (k : Nat) : pairsTo l (k + 1) = pairsTo l k ++ [UInt8.ofNat (16 * hexVal (l.getD (2 * k) 0) + hexVal (l.getD (2 * k + 1) 0)).toNat] := by
  unfold pairsTo
  rw [List.range_succ, List.map_append]
  rfl
theorem pairsTo_length (l : List UInt8) (k : Nat) : (pairsTo l k).length = k := by simp [pairsTo]
theorem pairsOk_succ (l : List UInt8) (k : Nat) (h : pairsOk l k) (h1 : 0 ≤ hexVal (l.getD (2 * k) 0)) (h2 : 0 ≤ hexVal (l.getD (2 * k + 1) 0)) : pairsOk l (k + 1) := by
  intro j hj
  rcases Nat.lt_or_ge j k with h' | h'
  · exact h j h'
  · have : j = k := by omega
    subst this
    exact ⟨h1, h2⟩
theorem getD_byte (s : ByteArray) (k : Nat) (h : k < s.size) : s.data.toList.getD k 0 = s[k] := by
  rw [List.getD_eq_getElem?_getD, List.getElem?_eq_getElem (by simpa using h)]
  rfl
theorem u8_back (n : Int) (h0 : 0 ≤ n) (h1 : n ≤ 255) : ((UInt8.ofNat n.toNat).toNat : Int) = n := by
  rw [UInt8.toNat_ofNat']
  omega
theorem byteCells_snoc (l : List UInt8) (b : UInt8) : Lib.byteCells (l ++ [b]) = Lib.byteCells l ++ [.int .u8 b.toNat] := by simp [Lib.byteCells]

theorem indexByte_hex (c : UInt8) (w : World) : Calls Tryd.prog 41 #[.string { data := #[48, 49, 50, 51, 52, 53, 54, 55, 56, 57, 97, 98, 99, 100, 101, 102] }, .int .u8 c.toNat] w fun e w' => e = .returned (.int .i64 (hexVal c)) ∧ w = w' := by
  refine (Tryd.strings_IndexByte _ _ w).mono ?_
  rintro e w' ⟨rfl, rfl⟩
  refine ⟨?_, rfl⟩
  have : ((c.toNat : Int).toNat.toUInt8) = c := by simp
  rw [this]
  rfl

set_option maxHeartbeats 2000000 in
theorem readText_any (s : ByteArray) (w : World) (hs : s.size ≤ 100000) :
    Calls Tryd.prog 34 #[.string s] w fun e w' => e = .returned (txtVal s.data.toList) ∧ Below w.heap.size w w' := by
  have hss : s.size = s.data.toList.length := by simp
  by_cases h0 : s.data.toList = [46]
  · have HF := Lib.hid (show txtVal s.data.toList = .tuple #[.string ⟨#[]⟩, .bool true] by simp [txtVal, txtRes, h0])
    have h1 : (s.toList == [46]) = true := by rw [toList_eq]; simp [h0]
    clear h0 hss
    go_enter Tryd.func34, Tryd.ntmps34
    go_wp2_with fail
    go_ret2
    exact ⟨ret_eq HF.out.symm, Below.refl _ _⟩
  have h1 : (s.toList == [46]) = false := by rw [toList_eq]; simp [h0]
  by_cases hbad : s.size = 0 ∨ s.size % 2 = 1
  · have HF := Lib.hid (show txtVal s.data.toList = .tuple #[.string ⟨#[]⟩, .bool false] by
      have : txtRes s.data.toList = none := by rw [txtRes, if_neg h0, if_pos (by rw [← hss]; exact hbad)]
      simp [txtVal, this])
    have hc : (((s.size : Int) == 0) = true) ∨ (((s.size : Int) == 0) = false ∧ ((s.size : Int) % 2 == 1) = true) := by
      by_cases q : s.size = 0
      · exact .inl (by simp [q])
      · exact .inr ⟨beq_eq_false_iff_ne.2 (by omega), beq_iff_eq.2 (by omega)⟩
    clear h0 hss hbad
    rcases hc with q | ⟨q1, q2⟩
    all_goals
      go_enter Tryd.func34, Tryd.ntmps34
      go_wp2_with fail
      go_ret2
      exact ⟨ret_eq HF.out.symm, Below.refl _ _⟩
  have q1 : ((s.size : Int) == 0) = false := beq_eq_false_iff_ne.2 (by omega)
  have q2 : ((s.size : Int) % 2 == 1) = false := beq_eq_false_iff_ne.2 (by omega)
  have HR := Lib.hid (show txtRes s.data.toList = if pairsOk s.data.toList (s.size / 2) then some (pairsTo s.data.toList (s.size / 2)) else none by
    rw [txtRes, if_neg h0, if_neg (by rw [← hss]; exact hbad), ← hss])
  have hev : s.size % 2 = 0 := by omega
  have HEV := Lib.hid hev
  clear h0 hss hbad hev
  go_enter Tryd.func34, Tryd.ntmps34
  go_wp2_with fail
  go_loopw [4, 5] (fun v t wr => ∃ i k : Nat, i = 2 * k ∧ i ≤ s.size ∧ t = .int .i64 i ∧ pairsOk s.data.toList k ∧ wr.ownsRow w.heap.size 5 1 v k (Lib.byteCells (pairsTo s.data.toList k)) ∧ Below w.heap.size w wr)
    (fun _ i _ => s.size - (intOf i).toNat)
  case atStart => exact ⟨0, 0, rfl, by omega, rfl, fun j hj => by omega, World.ownsRow_nil _ _ _ _, Below.refl _ _⟩
  case round =>
    obtain ⟨i, k, hik, hk, rfl, hok, hown, hbw⟩ := hrel
    have HIK := Lib.hid hik
    have HOK := Lib.hid hok
    have HO := Lib.hid hown
    have HBW := Lib.hid hbw
    have hsz := hbw.size
    have hkk : k ≤ 50000 := by omega
    clear hok hown hbw hik
    by_cases hlt : i < s.size
    · have hlt1 : i + 1 < s.size := by have := HEV.out; have := HIK.out; omega
      obtain ⟨a1, a2⟩ := hexVal_bd s[i]
      obtain ⟨b1, b2⟩ := hexVal_bd s[i + 1]
      have HGA := Lib.hid (show s.data.toList.getD (2 * k) 0 = s[i] by rw [← HIK.out]; exact getD_byte s i hlt)
      have HGB := Lib.hid (show s.data.toList.getD (2 * k + 1) 0 = s[i + 1] by rw [← HIK.out]; exact getD_byte s (i + 1) hlt1)
      have w1 : IntKind.i64.wrap ((i : Int) + 1) = (i : Int) + 1 := IntWalk.i64_in _ (by omega)
      have w2 : (0 : Int) ≤ (i : Int) + 1 := by omega
      have w3 : ((i : Int) + 1).toNat = i + 1 := by omega
      have w4 : (i : Int) + 1 < (s.size : Int) := by omega
      generalize hx : hexVal s[i] = x at *
      generalize hy : hexVal s[i + 1] = y at *
      have HX := Lib.hid hx
      have HY := Lib.hid hy
      clear hx hy
      have hcx : ∀ W : World, Calls Tryd.prog 41 #[.string { data := #[48, 49, 50, 51, 52, 53, 54, 55, 56, 57, 97, 98, 99, 100, 101, 102] }, .int .u8 (s[i].toNat : Int)] W fun e w' => e = .returned (.int .i64 x) ∧ W = w' := fun W => by rw [← HX.out]; exact indexByte_hex _ _
      have hcy : ∀ W : World, Calls Tryd.prog 41 #[.string { data := #[48, 49, 50, 51, 52, 53, 54, 55, 56, 57, 97, 98, 99, 100, 101, 102] }, .int .u8 (s[i + 1].toNat : Int)] W fun e w' => e = .returned (.int .i64 y) ∧ W = w' := fun W => by rw [← HY.out]; exact indexByte_hex _ _
      have HCX := Lib.hid hcx
      have HCY := Lib.hid hcy
      clear hcx hcy
      go_wp2_with fail
      go_quiet ((first | (go_at_call 41; exact quiet_same (HCX.out _)) | (go_at_call 41; exact quiet_same (HCY.out _))))
      rcases (show x < 0 ∨ (0 ≤ x ∧ y < 0) ∨ (0 ≤ x ∧ 0 ≤ y) by omega) with q | ⟨q, q'⟩ | ⟨q, q'⟩
      · have d1 : decide (x < 0) = true := by simp; omega
        have HN := Lib.hid (show txtVal s.data.toList = .tuple #[.string ⟨#[]⟩, .bool false] by
          have : ¬ pairsOk s.data.toList (s.size / 2) := fun h => by
            have := (h k (by have := HIK.out; omega)).1
            rw [HGA.out, HX.out] at this
            omega
          simp [txtVal, HR.out, this])
        go_wp2
        go_ret2
        exact ⟨ret_eq HN.out.symm, below_drewN HBW.out _⟩
      · have d1 : decide (x < 0) = false := by simp; omega
        have HN := Lib.hid (show txtVal s.data.toList = .tuple #[.string ⟨#[]⟩, .bool false] by
          have : ¬ pairsOk s.data.toList (s.size / 2) := fun h => by
            have := (h k (by have := HIK.out; omega)).2
            rw [HGB.out, HY.out] at this
            omega
          simp [txtVal, HR.out, this])
        go_wp2
        go_ret2
        exact ⟨ret_eq HN.out.symm, below_drewN HBW.out _⟩
      · have d1 : decide (x < 0) = false := by simp; omega
        go_wp2_with (at_builtin; refine wpList_app etU8 rfl _ _ rfl w.heap.size _ k _ rfl (by exact HO.out) #[.int .u8 (16 * x + y)] rfl (by simp [Value.oneCell']) rfl (by omega) (by omega) (by exact hsz) ?_; intro v' w2 hown2 hg2 hat2)
        go_roundw
        case rel =>
          refine ⟨i + 2, k + 1, by have := HIK.out; omega, by omega, by go_num, pairsOk_succ _ _ HOK.out (by rw [HGA.out, HX.out]; exact q) (by rw [HGB.out, HY.out]; exact q'), ?_, below_app (w := wr.drewN nq) HO.out (below_drewN HBW.out _) (Nat.le_refl _) hsz hg2⟩
          rw [pairsTo_succ, byteCells_snoc, HGA.out, HGB.out, HX.out, HY.out, u8_back _ (by omega) (by omega)]
          simpa using hown2
        case measure => simp [intOf]; omega
    · have e : i = s.size := by omega
      have HK2 := Lib.hid (show k = s.size / 2 by have := HIK.out; omega)
      obtain ⟨A, c, rfl⟩ := own_form HO.out
      have hcv := run_str (P := Tryd.prog) 40 9 5 Tryd.underlying40 Tryd.underlying5 Tryd.underlying9 (pairsTo s.data.toList k) A k c wr.heap.size (by rw [pairsTo_length]) wr (Rd.of_own HO.out)
      have HN := Lib.hid (show txtVal s.data.toList = .tuple #[.string ⟨(pairsTo s.data.toList k).toArray⟩, .bool true] by
        have : pairsOk s.data.toList (s.size / 2) := by rw [← HK2.out]; exact HOK.out
        simp [txtVal, HR.out, this, HK2.out])
      clear e
      go_wp2
      go_ret2
      exact ⟨ret_eq HN.out.symm, HBW.out⟩

end Go.Proofs.YtcgcfeablbjnaaaDoor
