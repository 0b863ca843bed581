/- The variables' state; contracts of the reference's Number and Written. -/
import Derived.Test.YtcgcfeablbjnaaaDoorScrH
import Derived.Lib.QuietBelow
import Derived.Laws.Concat
import Derived.Lib.ItoaNum
import Derived.Lib.ItoaLen
import Derived.Lib.AppendIntMem
namespace Go.Proofs.YtcgcfeablbjnaaaDoor
open Go.RowKit Go.BigFrame

/-- What the walks ask of the package variables. -/
structure Env (w : World) : Prop where
  max : MaxOk w
  pow : Lib.TabIs Tryd.prog w "internal/strconv.uint64pow10" .u64 Lib.pow10Tab

theorem tab_below {n : String} {g : Nat} {k : IntKind} {zs : List Int} {w w' : World} (hg : Tryd.prog.globalNamed n = some g) (h : Lib.TabIs Tryd.prog w n k zs) (hb : Below w.heap.size w w') : Lib.TabIs Tryd.prog w' n k zs := by
  unfold Lib.TabIs World.var? at h ⊢
  simp only [hg, Option.bind_some] at h ⊢
  have hlt : g < w.heap.size := by
    rcases Nat.lt_or_ge g w.heap.size with h' | h'
    · exact h'
    · rw [Array.getElem?_eq_none h'] at h; simp at h
  rw [hb.block g hlt]
  exact h
theorem Env.below {w w' : World} (h : Env w) (hb : Below w.heap.size w w') : Env w' :=
  ⟨h.max.below hb, tab_below (g := 1) (by kernel_rfl) h.pow hb⟩

theorem itoa_any (n : Int) (h0 : -9223372036854775808 ≤ n) (h1 : n ≤ 9223372036854775807) (w : World) (he : Env w) :
    Calls Tryd.prog 14 #[.int .i64 n] w fun e w' => e = .returned (.string ⟨(Lib.itoa n).toArray⟩) ∧ Below w.heap.size w w' :=
  (Tryd.strconv_Itoa n h0 h1 w he.pow).mono fun _ _ ⟨h, k, os, hw⟩ => ⟨h, by rw [hw]; exact Lib.below_grow _ w (Nat.le_refl _) k os⟩

theorem drewN_drewN (w : World) (a b : Nat) : ∃ c, (w.drewN a).drewN b = w.drewN c := by
  refine ⟨a + b, ?_⟩
  simp [World.drewN, Nat.add_assoc]

theorem quiet_more {P : Program} {f : FuncId} {args : Array Value} {w : World} {n : Nat} {v : Value}
    (h : Calls P f args (w.drewN n) fun e w' => e = .returned v ∧ ∃ m, w' = (w.drewN n).drewN m) : Calls P f args (w.drewN n) fun e w'' => e = .returned v ∧ ∃ m, w'' = w.drewN m :=
  h.mono fun _ _ ⟨he, m, hm⟩ => ⟨he, by obtain ⟨c, hc⟩ := drewN_drewN w n m; exact ⟨c, by rw [hm, hc]⟩⟩

def dig16 : ByteArray := { data := #[48, 49, 50, 51, 52, 53, 54, 55, 56, 57, 97, 98, 99, 100, 101, 102] }
theorem dig_fin : ∀ u : Fin 10, dig16.extract u.val (u.val + 1) = ⟨#[UInt8.ofNat (48 + u.val)]⟩ := by decide +kernel
theorem dig_at (u : Nat) (h : u < 10) : dig16.extract u (u + 1) = ⟨#[UInt8.ofNat (48 + u)]⟩ := dig_fin ⟨u, h⟩

theorem bytes_app (a b : List UInt8) : (⟨a.toArray⟩ : ByteArray) ++ ⟨b.toArray⟩ = ⟨(a ++ b).toArray⟩ := by
  apply ByteArray.ext
  simp [ByteArray.data_append]

set_option maxHeartbeats 2000000 in
theorem rnum_nat (w0 : World) : ∀ (f u : Nat), u < f → u ≤ 9223372036854775807 → ∀ w, Calls Tryd.prog 17 #[.int .i64 u] w fun e w' => e = .returned (.string ⟨(Lib.decDigits u).toArray⟩) ∧ ∃ n, w' = w.drewN n
  | 0, u, h, _, _ => absurd h (by omega)
  | f + 1, u, h, hu, w => by
    by_cases h10 : u < 10
    · have d0 : decide ((u : Int) < 0) = false := by simp
      have d1 : decide ((u : Int) < 10) = true := by simp; omega
      have HE := Lib.hid (show Lib.decDigits u = [UInt8.ofNat (48 + u)] from Lib.decDigits_one h10)
      have HD := Lib.hid (dig_at u h10)
      have w1 : IntKind.i64.wrap ((u : Int) + 1) = (u : Int) + 1 := IntWalk.i64_in _ (by omega)
      go_enter Tryd.func17, Tryd.ntmps17
      go_wp2_with fail
      go_ret
      exact ⟨ret_eq (by rw [HE.out]; exact congrArg Value.string HD.out), 0, rfl⟩
    · have d0 : decide ((u : Int) < 0) = false := by simp
      have d1 : decide ((u : Int) < 10) = false := by simp; omega
      obtain ⟨q, r, hq, hr, hr10⟩ : ∃ q r : Nat, u / 10 = q ∧ u % 10 = r ∧ r < 10 := ⟨_, _, rfl, rfl, by omega⟩
      have HE := Lib.hid (show Lib.decDigits u = Lib.decDigits q ++ [UInt8.ofNat (48 + r)] by rw [Lib.decDigits, dif_neg h10, hq, hr])
      have HD := Lib.hid (dig_at r hr10)
      have IH := Lib.hid (rnum_nat w0 f q (by omega) (by omega))
      have HL := Lib.hid (Lib.itoa_length_le u (by omega) (by omega))
      rw [Lib.itoa_nonneg] at HL
      have hln := HL.out
      have q1 : (u : Int) / 10 = (q : Int) := by omega
      have q2 : (u : Int) % 10 = (r : Int) := by omega
      have q3 : IntKind.i64.wrap (q : Int) = (q : Int) := IntWalk.i64_in _ (by omega)
      have q4 : IntKind.i64.wrap (r : Int) = (r : Int) := IntWalk.i64_in _ (by omega)
      have q5 : IntKind.i64.wrap ((r : Int) + 1) = (r : Int) + 1 := IntWalk.i64_in _ (by omega)
      have z1 : (⟨(Lib.decDigits q).toArray⟩ : ByteArray).size + (({ data := #[48, 49, 50, 51, 52, 53, 54, 55, 56, 57, 97, 98, 99, 100, 101, 102] } : ByteArray).extract r (r + 1)).size ≤ 9223372036854775807 := by
        have e1 : (⟨(Lib.decDigits q).toArray⟩ : ByteArray).size = (Lib.decDigits q).length := by show (Lib.decDigits q).toArray.size = _; simp
        rw [HE.out] at hln
        simp at hln
        rw [e1]
        have e2 := congrArg ByteArray.size HD.out
        have e3 : (⟨#[UInt8.ofNat (48 + r)]⟩ : ByteArray).size = 1 := rfl
        simp only [dig16] at e2
        omega
      have z2 := fun w => run_string_add_sum (P := Tryd.prog) w _ _ z1
      clear hq hr hln z1 HL
      go_enter Tryd.func17, Tryd.ntmps17
      go_wp2_with fail
      go_quiet ((go_at_call 17; exact quiet_more (IH.out _)))
      go_wp2_with fail
      go_ret
      exact ⟨ret_eq (by rw [HE.out, ← bytes_app]; exact congrArg Value.string (congrArg _ HD.out)), _, rfl⟩

set_option maxHeartbeats 2000000 in
theorem rnum_any (n : Int) (h0 : -9223372036854775807 ≤ n) (h1 : n ≤ 9223372036854775807) (w : World) : Calls Tryd.prog 17 #[.int .i64 n] w fun e w' => e = .returned (.string ⟨(Lib.itoa n).toArray⟩) ∧ ∃ n, w' = w.drewN n := by
  by_cases hn : n < 0
  · obtain ⟨u, rfl⟩ : ∃ u : Nat, n = -(u : Int) := ⟨n.natAbs, by omega⟩
    have HE := Lib.hid (Lib.itoa_neg u (by omega))
    have IH := Lib.hid (rnum_nat w (u + 1) u (by omega) (by omega))
    have hln := Lib.itoa_length_le u (by omega) (by omega)
    rw [Lib.itoa_nonneg] at hln
    have q1 : IntKind.i64.wrap (u : Int) = (u : Int) := IntWalk.i64_in _ (by omega)
    have d0 : decide (-(u : Int) < 0) = true := by simp; omega
    have z1 : ({ data := #[45] } : ByteArray).size + (⟨(Lib.decDigits u).toArray⟩ : ByteArray).size ≤ 9223372036854775807 := by
      have e1 : (⟨(Lib.decDigits u).toArray⟩ : ByteArray).size = (Lib.decDigits u).length := by show (Lib.decDigits u).toArray.size = _; simp
      have e2 : ({ data := #[45] } : ByteArray).size = 1 := rfl
      omega
    have z2 := fun w => run_string_add_sum (P := Tryd.prog) w _ _ z1
    clear hln z1
    go_enter Tryd.func17, Tryd.ntmps17
    go_wp2_with fail
    refine (IH.out _).mono ?_
    rintro e w' ⟨rfl, m, rfl⟩
    go_wp2_with fail
    go_ret
    exact ⟨ret_eq (by rw [HE.out]; exact congrArg Value.string (bytes_app [45] _)), m, rfl⟩
  · obtain ⟨u, rfl⟩ : ∃ u : Nat, n = (u : Int) := ⟨n.natAbs, by omega⟩
    rw [Lib.itoa_nonneg]
    exact rnum_nat w (u + 1) u (by omega) (by omega) w

set_option maxHeartbeats 2000000 in
theorem written_any (s : ByteArray) (w : World) (hs : s.size ≤ 100000) :
    Calls Tryd.prog 18 #[.string s] w fun e w' => e = .returned (.string ⟨(txtOf s.data.toList).toArray⟩) ∧ Below w.heap.size w w' := by
  have hss : s.size = s.data.toList.length := by simp
  by_cases h0 : s.data.toList = []
  · have HF := Lib.hid (show txtOf s.data.toList = [46] by simp [txtOf, h0])
    have h1 : (s.toList.isEmpty) = true := by rw [toList_eq]; simp [h0]
    clear h0 hss
    go_enter Tryd.func18, Tryd.ntmps18
    go_wp2_with fail
    go_ret
    exact ⟨ret_eq (by rw [HF.out]; rfl), Below.refl _ _⟩
  have h1 : (s.toList.isEmpty) = false := by rw [toList_eq]; exact List.isEmpty_eq_false_iff.2 h0
  have HF := Lib.hid (show txtOf s.data.toList = s.data.toList.flatMap hexOf by rw [txtOf, if_neg h0])
  clear h0 hss
  go_enter Tryd.func18, Tryd.ntmps18
  go_wp2_with fail
  go_loopw [3, 4] (fun v t wr => ∃ k : Nat, k ≤ s.size ∧ t = .int .i64 k ∧ wr.ownsRow w.heap.size 5 1 v (2 * k) (Lib.byteCells ((s.data.toList.take k).flatMap hexOf)) ∧ Below w.heap.size w wr)
    (fun _ i _ => s.size - (intOf i).toNat)
  case atStart => exact ⟨0, by omega, rfl, World.ownsRow_nil _ _ _ _, Below.refl _ _⟩
  case round =>
    obtain ⟨k, hk, rfl, hown, hbw⟩ := hrel
    have HO := Lib.hid hown
    have HBW := Lib.hid hbw
    have hsz := hbw.size
    clear hown hbw
    by_cases hlt : k < s.size
    · have hb := s[k].toNat_lt
      have e1 : s[k].toNat / 16 < ({ data := #[48, 49, 50, 51, 52, 53, 54, 55, 56, 57, 97, 98, 99, 100, 101, 102] } : ByteArray).size := by show s[k].toNat / 16 < 16; omega
      have e2 : s[k].toNat % 16 < ({ data := #[48, 49, 50, 51, 52, 53, 54, 55, 56, 57, 97, 98, 99, 100, 101, 102] } : ByteArray).size := by show s[k].toNat % 16 < 16; omega
      have HHX := Lib.hid (show Lib.byteCells (hexOf s[k]) = [.int .u8 (({ data := #[48, 49, 50, 51, 52, 53, 54, 55, 56, 57, 97, 98, 99, 100, 101, 102] } : ByteArray)[s[k].toNat / 16].toNat : Int), .int .u8 (({ data := #[48, 49, 50, 51, 52, 53, 54, 55, 56, 57, 97, 98, 99, 100, 101, 102] } : ByteArray)[s[k].toNat % 16].toNat : Int)] by
        rw [← getD_byte _ _ e1, ← getD_byte _ _ e2]
        rfl)
      have f1 : 0 ≤ (s[k].toNat : Int) / 16 := by omega
      have f2 : (s[k].toNat : Int) / 16 < 16 := by omega
      have f3 : 0 ≤ (s[k].toNat : Int) % 16 := by omega
      have f4 : (s[k].toNat : Int) % 16 < 16 := by omega
      have f5 : ((s[k].toNat : Int) / 16).toNat = s[k].toNat / 16 := by omega
      have f6 : ((s[k].toNat : Int) % 16).toNat = s[k].toNat % 16 := by omega
      have f7 := and15 s[k].toNat (by omega)
      have HSN := Lib.hid (hexTo_snoc s k hlt)
      go_wp2_with fail
      go_region_held3 (fun _ => True) (trivial) ((refine step_app etU8 rfl _ _ rfl w.heap.size _ (2 * k) _ rfl (by exact HO.out.alloc _) ⟨wr.heap.size, 0, none⟩ 2 2 [.int .u8 (({ data := #[48, 49, 50, 51, 52, 53, 54, 55, 56, 57, 97, 98, 99, 100, 101, 102] } : ByteArray)[s[k].toNat / 16].toNat : Int), .int .u8 (({ data := #[48, 49, 50, 51, 52, 53, 54, 55, 56, 57, 97, 98, 99, 100, 101, 102] } : ByteArray)[s[k].toNat % 16].toNat : Int)] rfl rfl (by exact cell_new_add wr _ _) (by simp [Value.oneCell']) (by omega) (by omega) (by simp; omega) ?_; intro v' w2 hown2 hg2 hat2))
      all_goals
        go_wp2
        go_roundw
        case rel =>
          refine ⟨k + 1, hlt, by go_num, ?_, below_app (w := (wr.alloc _).drew) (HO.out.alloc _) (HBW.out.alloc hsz _).drew (Nat.le_refl _) (by simp; omega) hg2⟩
          rw [HSN.out, byteCells_app, HHX.out]
          exact hown2
        case measure => simp [intOf]; omega
    · have e : k = s.size := by omega
      subst e
      obtain ⟨A, c, rfl⟩ := own_form HO.out
      have hall : s.data.toList.take s.size = s.data.toList := List.take_of_length_le (by simp)
      rw [hall] at HO
      have hcv := run_str (P := Tryd.prog) 40 9 5 Tryd.underlying40 Tryd.underlying5 Tryd.underlying9 (s.data.toList.flatMap hexOf) A (2 * s.size) c wr.heap.size (by rw [hexTo_length]; simp) wr (Rd.of_own HO.out)
      clear hall
      go_wp2
      go_ret
      exact ⟨ret_eq (by rw [HF.out]; rfl), HBW.out⟩

end Go.Proofs.YtcgcfeablbjnaaaDoor
