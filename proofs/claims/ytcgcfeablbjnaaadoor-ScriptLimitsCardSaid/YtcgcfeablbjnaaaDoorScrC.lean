/- Contract of script.writeText. -/
import Derived.Test.YtcgcfeablbjnaaaDoorScrB
namespace Go.Proofs.YtcgcfeablbjnaaaDoor
open Go.RowKit Go.BigFrame

/-- The two digits of a byte. -/
def hexOf (c : UInt8) : List UInt8 := [hexD.getD (c.toNat / 16) 0, hexD.getD (c.toNat % 16) 0]
/-- The word for a string. -/
def txtOf (l : List UInt8) : List UInt8 := if l = [] then [46] else l.flatMap hexOf
theorem hexTo_length (l : List UInt8) : (l.flatMap hexOf).length = 2 * l.length := by
  induction l with
  | nil => rfl
  | cons c l ih => simp [ih, hexOf]; omega
theorem hexTo_snoc (s : ByteArray) (k : Nat) (h : k < s.size) : (s.data.toList.take (k + 1)).flatMap hexOf = (s.data.toList.take k).flatMap hexOf ++ hexOf s[k] := by
  rw [take_snoc s k h, List.flatMap_append]
  simp
theorem byteCells_app (l m : List UInt8) : Lib.byteCells (l ++ m) = Lib.byteCells l ++ Lib.byteCells m := by simp [Lib.byteCells]

theorem and15_fin : ∀ n : Fin 256, bits .and .u8 (n.val : Int) 15 = (n.val : Int) % 16 := by decide +kernel
theorem and15 (n : Nat) (h : n < 256) : bits .and .u8 (n : Int) 15 = (n : Int) % 16 := and15_fin ⟨n, h⟩

set_option maxHeartbeats 2000000 in
theorem writeText_any (s : ByteArray) (w : World) (hs : s.size ≤ 100000) :
    Calls Tryd.prog 15 #[.string s] w fun e w' => e = .returned (.string ⟨(txtOf s.data.toList).toArray⟩) ∧ Below w.heap.size w w' := by
  have hss : s.size = s.data.toList.length := by simp
  by_cases h0 : s.data.toList = []
  · have HF := Lib.hid (show txtOf s.data.toList = [46] by simp [txtOf, h0])
    have h1 : (s.toList.isEmpty) = true := by rw [toList_eq]; simp [h0]
    clear h0 hss
    go_enter Tryd.func15, Tryd.ntmps15
    go_wp2_with fail
    go_ret
    exact ⟨ret_eq (by rw [HF.out]; rfl), Below.refl _ _⟩
  have h1 : (s.toList.isEmpty) = false := by rw [toList_eq]; exact List.isEmpty_eq_false_iff.2 h0
  have HF := Lib.hid (show txtOf s.data.toList = s.data.toList.flatMap hexOf by rw [txtOf, if_neg h0])
  clear h0 hss
  go_enter Tryd.func15, Tryd.ntmps15
  go_wp2_with fail
  go_loopw [3, 9] (fun v t wr => ∃ k : Nat, k ≤ s.size ∧ t = .int .i64 k ∧ wr.ownsRow w.heap.size 5 1 v (2 * k) (Lib.byteCells ((s.data.toList.take k).flatMap hexOf)) ∧ Below w.heap.size w wr)
    (fun _ i _ => s.size - (intOf i).toNat)
  case atStart => exact ⟨0, by omega, rfl, World.ownsRow_nil _ _ _ _, Below.refl _ _⟩
  case round =>
    obtain ⟨k, hk, rfl, hown, hbw⟩ := hrel
    have HO := Lib.hid hown
    have HBW := Lib.hid hbw
    have hsz := hbw.size
    clear hown hbw
    by_cases hlt : k < s.size
    · have hb := s[k].toNat_lt
      have e1 : s[k].toNat / 16 < ({ data := #[48, 49, 50, 51, 52, 53, 54, 55, 56, 57, 97, 98, 99, 100, 101, 102] } : ByteArray).size := by show s[k].toNat / 16 < 16; omega
      have e2 : s[k].toNat % 16 < ({ data := #[48, 49, 50, 51, 52, 53, 54, 55, 56, 57, 97, 98, 99, 100, 101, 102] } : ByteArray).size := by show s[k].toNat % 16 < 16; omega
      have HHX := Lib.hid (show Lib.byteCells (hexOf s[k]) = [.int .u8 (({ data := #[48, 49, 50, 51, 52, 53, 54, 55, 56, 57, 97, 98, 99, 100, 101, 102] } : ByteArray)[s[k].toNat / 16].toNat : Int), .int .u8 (({ data := #[48, 49, 50, 51, 52, 53, 54, 55, 56, 57, 97, 98, 99, 100, 101, 102] } : ByteArray)[s[k].toNat % 16].toNat : Int)] by
        rw [← getD_byte _ _ e1, ← getD_byte _ _ e2]
        rfl)
      have f1 : 0 ≤ (s[k].toNat : Int) / 16 := by omega
      have f2 : (s[k].toNat : Int) / 16 < 16 := by omega
      have f3 : 0 ≤ (s[k].toNat : Int) % 16 := by omega
      have f4 : (s[k].toNat : Int) % 16 < 16 := by omega
      have f5 : ((s[k].toNat : Int) / 16).toNat = s[k].toNat / 16 := by omega
      have f6 : ((s[k].toNat : Int) % 16).toNat = s[k].toNat % 16 := by omega
      have f7 := and15 s[k].toNat (by omega)
      have HSN := Lib.hid (hexTo_snoc s k hlt)
      go_wp2_with fail
      go_region_held3 (fun _ => True) (trivial) ((refine step_app etU8 rfl _ _ rfl w.heap.size _ (2 * k) _ rfl (by exact HO.out.alloc _) ⟨wr.heap.size, 0, none⟩ 2 2 [.int .u8 (({ data := #[48, 49, 50, 51, 52, 53, 54, 55, 56, 57, 97, 98, 99, 100, 101, 102] } : ByteArray)[s[k].toNat / 16].toNat : Int), .int .u8 (({ data := #[48, 49, 50, 51, 52, 53, 54, 55, 56, 57, 97, 98, 99, 100, 101, 102] } : ByteArray)[s[k].toNat % 16].toNat : Int)] rfl rfl (by exact cell_new_add wr _ _) (by simp [Value.oneCell']) (by omega) (by omega) (by simp; omega) ?_; intro v' w2 hown2 hg2 hat2))
      all_goals
        go_wp2
        go_roundw
        case rel =>
          refine ⟨k + 1, hlt, by go_num, ?_, below_app (w := (wr.alloc _).drew) (HO.out.alloc _) (HBW.out.alloc hsz _).drew (Nat.le_refl _) (by simp; omega) hg2⟩
          rw [HSN.out, byteCells_app, HHX.out]
          exact hown2
        case measure => simp [intOf]; omega
    · have e : k = s.size := by omega
      subst e
      obtain ⟨A, c, rfl⟩ := own_form HO.out
      have hall : s.data.toList.take s.size = s.data.toList := List.take_of_length_le (by simp)
      rw [hall] at HO
      have hcv := run_str (P := Tryd.prog) 40 9 5 Tryd.underlying40 Tryd.underlying5 Tryd.underlying9 (s.data.toList.flatMap hexOf) A (2 * s.size) c wr.heap.size (by rw [hexTo_length]; simp) wr (Rd.of_own HO.out)
      clear hall
      go_wp2
      go_ret
      exact ⟨ret_eq (by rw [HF.out]; rfl), HBW.out⟩

end Go.Proofs.YtcgcfeablbjnaaaDoor
