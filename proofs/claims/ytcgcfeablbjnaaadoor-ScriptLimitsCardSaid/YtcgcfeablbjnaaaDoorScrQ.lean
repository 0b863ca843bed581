/- The law ScriptLimits, walked. -/
import Derived.Test.YtcgcfeablbjnaaaDoorScrP
import Derived.Test.YtcgcfeablbjnaaaDoorScrM
import Derived.Laws.MakeOwn
import Derived.Laws.OwnMore
namespace Go.Proofs.YtcgcfeablbjnaaaDoor
open Go.RowKit Go.BigFrame

theorem info_act : (Tryd.prog.info? 25).map (fun i => (i.zero, i.size, i.bytes)) = some (some (.agg ActD.zero.cells), 11, 104) := by kernel_rfl
theorem info_u8 : (Tryd.prog.info? 5).map (fun i => (i.zero, i.size, i.bytes)) = some (some (.int .u8 0), 1, 1) := by kernel_rfl

theorem make_acts (n : Nat) (hn : n ≤ 1000) (W : World) : (Instr.makeSlice 35 (.int .i64 n) (.int .i64 n)).run Tryd.prog W = .ok (.slice (some ⟨W.heap.size, 0, none⟩) n n) (W.alloc (.cells (madeCells ActD.zero.cells (n * 11)) 25)) := by
  obtain ⟨i0, hi, hz0, hz1, hz2⟩ := info_parts info_act
  have h := run_make (P := Tryd.prog) W 35 25 i0 (.agg ActD.zero.cells) Tryd.underlying35 hi hz0 .i64 .i64 (n : Int) (n : Int) (by omega) (Int.le_refl _) (by rw [hz2]; omega) (by omega)
  rw [hz1] at h
  simpa [Value.cells] using h
theorem make_bytes (n : Nat) (hn : n ≤ 100000) (W : World) : (Instr.makeSlice 40 (.int .i64 n) (.int .i64 n)).run Tryd.prog W = .ok (.slice (some ⟨W.heap.size, 0, none⟩) n n) (W.alloc (.cells (madeCells #[.int .u8 0] n) 5)) := by
  obtain ⟨i0, hi, hz0, hz1, hz2⟩ := info_parts info_u8
  have h := run_make (P := Tryd.prog) W 40 5 i0 (.int .u8 0) Tryd.underlying40 hi hz0 .i64 .i64 (n : Int) (n : Int) (by omega) (Int.le_refl _) (by rw [hz2]; omega) (by omega)
  rw [hz1] at h
  simpa [Value.cells] using h

theorem format_big (A : Option Addr) (n c : Nat) (w : World) (h4 : 400 < n) :
    Calls Tryd.prog 13 #[.slice A n c] w fun e w' => e = .returned (.tuple #[.string ⟨#[]⟩, .int .i64 2]) ∧ Below w.heap.size w w' := by
  have d0 : decide (400 < n) = true := by simpa using h4
  go_enter Tryd.func13, Tryd.ntmps13
  go_wp2_with fail
  go_ret2
  exact ⟨rfl, Below.refl _ _⟩

theorem rd_of_ownN {w : World} {A : Option Addr} {xs : List Value} {base : Nat} {e : TypeId} {m n c : Nat} (h : w.ownsRow base e m (.slice A n c) n xs) : Rd w w.heap.size A xs := by
  by_cases hn : 0 < n
  · obtain ⟨g, rfl, hg, hc⟩ := rows_of_own h hn
    intro j u hu
    refine ⟨_, rfl, hg, ?_⟩
    rw [show (⟨g, 0, none⟩ : Addr).add j = ⟨g, j, none⟩ by cases j <;> simp [Addr.add]]
    exact hc j u hu
  · have h0 : xs = [] := by
      have := h.1
      rw [show n = 0 by omega] at this
      exact List.eq_nil_of_length_eq_zero (by simpa using this)
    subst h0
    exact Rd.nil

/-- Bytes of which the first k are blanks. -/
def blankCells (M k : Nat) : Array Value := (List.replicate k (Value.int .u8 32) ++ List.replicate (M - k) (Value.int .u8 0)).toArray
theorem blankC_at (M k : Nat) (h : k < M) : (blankCells M k)[k]? = some (.int .u8 0) := by
  unfold blankCells
  rw [List.getElem?_toArray, List.getElem?_append_right (by simp), List.length_replicate, Nat.sub_self, List.getElem?_replicate, if_pos (by omega)]
theorem blank_set (M k : Nat) (h : k < M) : (blankCells M k).setIfInBounds k (.int .u8 32) = blankCells M (k + 1) := by
  unfold blankCells
  rw [List.setIfInBounds_toArray]
  congr 1
  obtain ⟨d, hd⟩ : ∃ d, M - k = d + 1 := ⟨M - k - 1, by omega⟩
  rw [hd, show M - (k + 1) = d by omega, List.replicate_succ, List.replicate_succ']
  have := Lib.set_mid (List.replicate k (Value.int .u8 32)) (.int .u8 0) (.int .u8 32) (List.replicate d (Value.int .u8 0))
  rw [List.length_replicate] at this
  rw [this]
  simp
theorem blank_start (M : Nat) : madeCells #[Value.int .u8 0] M = blankCells M 0 := by
  apply Array.toList_inj.1
  rw [toList_madeCells_one]
  simp [blankCells]
theorem blank_end (M : Nat) : (blankCells M M).toList = Lib.byteCells (List.replicate M 32) := by
  simp [blankCells, Lib.byteCells]

set_option maxRecDepth 100000 in
set_option maxHeartbeats 8000000 in
theorem lawLimits (n0 bl : Int) (w : World) (he : Env w) : Calls Tryd.prog 5 #[.int .i64 n0, .int .i64 bl] w fun e w' => e = .returned (.bool true) ∧ Below w.heap.size w w' := by
  obtain ⟨r, hr⟩ : ∃ r : Nat, n0 % 5 = (r : Int) := ⟨(n0 % 5).toNat, by omega⟩
  have hr5 : r < 5 := by omega
  obtain ⟨N, hN⟩ : ∃ N : Nat, N = 398 + r := ⟨_, rfl⟩
  have eN : (398 : Int) + (r : Int) = (N : Int) := by omega
  have wN : IntKind.i64.wrap (N : Int) = (N : Int) := IntWalk.i64_in _ (by omega)
  have HM1 := Lib.hid (fun W => mod_any n0 5 W (by omega) (by omega))
  rw [hr] at HM1
  have hNl : 398 ≤ N := by omega
  have hNu : N ≤ 402 := by omega
  clear hN hr hr5
  go_enter Tryd.func5, Tryd.ntmps5
  go_wp2_with fail
  refine (awake_any w he).mono ?_
  rintro e w1 ⟨rfl, hb1⟩
  have HB1 := Lib.hid hb1
  clear hb1
  go_wp2_with fail
  refine (HM1.out w1).mono ?_
  rintro e w2 ⟨rfl, rfl⟩
  go_wp2_with fail
  go_loopw [5, 24] (fun s i wr => ∃ k : Nat, k ≤ N ∧ i = .int .i64 k ∧ s = .string ⟨(stops k).toArray⟩ ∧ Below w.heap.size w wr) (fun _ i _ => N - (intOf i).toNat)
  case atStart => exact ⟨0, by omega, rfl, rfl, HB1.out⟩
  case round =>
    obtain ⟨k, hk, rfl, rfl, hbw⟩ := hrel
    have HBW := Lib.hid hbw
    clear hbw
    by_cases hlt : k < N
    · have d0 : decide (k < N) = true := by simpa using hlt
      have z1 := fun W => add_list Tryd.prog (stops k) stopB (by rw [stops_len]; simp [stopB]; omega) W
      rw [stops_snoc] at z1
      have z2 : (⟨stopB.toArray⟩ : ByteArray) = ⟨#[115, 116, 111, 112, 10]⟩ := rfl
      rw [z2] at z1
      clear z2
      go_wp2_with fail
      go_roundw
      case rel => exact ⟨k + 1, hlt, by go_num, rfl, HBW.out⟩
      case measure => simp [intOf]; omega
    · have d0 : decide (k < N) = false := by simpa using hlt
      have hkN : k = N := by omega
      subst hkN
      have HPS := Lib.hid (parse_stops k (by omega))
      go_wp2_with fail
      refine (parse_any ⟨(stops k).toArray⟩ _ (he.max.below HBW.out)).mono ?_
      rintro e w3 ⟨v, rfl, hown, hb3⟩
      rw [show (⟨(stops k).toArray⟩ : ByteArray).data.toList = stops k from rfl, HPS.out] at hown ⊢
      have HB3 := Lib.hid (HBW.out.trans (hb3.mono HBW.out.size))
      clear hb3
      by_cases h4 : k ≤ 400
      · rw [if_pos h4] at hown ⊢
        have d4 : decide (400 < k) = false := by simpa using h4
        obtain ⟨A, c, rfl⟩ := own_form hown
        have HR3 := Lib.hid (rd_of_ownN hown)
        have hlr : (List.replicate k actStop).length = k := List.length_replicate
        have HFM := Lib.hid (format_any A c (List.replicate k actStop) w3 (he.below HB3.out) (fun a ha => by rw [List.eq_of_mem_replicate ha]; exact stop_ok) (by rw [hlr]; omega) HR3.out)
        rw [format_stops k h4, hlr] at HFM
        simp only [hlr]
        clear hown hlr
        go_wp2_with fail
        refine HFM.out.mono ?_
        rintro e w4 ⟨rfl, hb4⟩
        have HB4 := Lib.hid (HB3.out.trans (hb4.mono HB3.out.size))
        clear hb4 HFM HR3
        obtain ⟨r2, hr2⟩ : ∃ r2 : Nat, bl % 4 = (r2 : Int) := ⟨(bl % 4).toNat, by omega⟩
        have hr24 : r2 < 4 := by omega
        obtain ⟨M, hM⟩ : ∃ M : Nat, M = 16383 + r2 := ⟨_, rfl⟩
        have eM : (16383 : Int) + (r2 : Int) = (M : Int) := by omega
        have wM : IntKind.i64.wrap (M : Int) = (M : Int) := IntWalk.i64_in _ (by omega)
        have HM2 := Lib.hid (fun W => mod_any bl 4 W (by omega) (by omega))
        rw [hr2] at HM2
        have hMl : 16383 ≤ M := by omega
        have hMu : M ≤ 16386 := by omega
        clear hM hr2 hr24
        have hmk := fun W => make_bytes M (by omega) W
        rw [blank_start] at hmk
        go_wp2_with fail
        refine (HM2.out w4).mono ?_
        rintro e w5 ⟨rfl, rfl⟩
        go_wp2_with fail
        go_loopw [91] (fun i wr => ∃ j : Nat, j ≤ M ∧ i = .int .i64 j ∧ Blk wr w4.heap.size 5 (blankCells M j) ∧ Below w.heap.size w wr) (fun i _ => M - (intOf i).toNat)
        case atStart => exact ⟨0, by omega, rfl, Blk.newAt _ _ _ _ rfl, HB4.out.alloc HB4.out.size _⟩
        case round =>
          obtain ⟨j, hj, rfl, hbk, hbw⟩ := hrel
          have HK := Lib.hid hbk
          have HW := Lib.hid hbw
          have hs4 := HB4.out.size
          clear hbk hbw
          by_cases hlt2 : j < M
          · have d5 : decide (j < M) = true := by simpa using hlt2
            have c5 : wr.cell? ⟨w4.heap.size, j, none⟩ = some (.int .u8 0) := (HK.out.cell j).trans (blankC_at M j hlt2)
            have f5 := HK.out.free j
            go_wp2_with fail
            go_roundw
            case rel =>
              refine ⟨j + 1, hlt2, by go_num, ?_, HW.out.setCell (by simp; omega) _⟩
              rw [← blank_set M j hlt2]
              exact HK.out.put j _
            case measure => simp [intOf]; omega
          · have d5 : decide (j < M) = false := by simpa using hlt2
            have hjM : j = M := by omega
            subst hjM
            have hcv := run_str (P := Tryd.prog) 40 9 5 Tryd.underlying40 Tryd.underlying5 Tryd.underlying9 (List.replicate j 32) (some ⟨w4.heap.size, 0, none⟩) j j wr.heap.size (by simp) wr (by
              rw [← blank_end]
              exact Rd.of_blk HK.out)
            have HPB := Lib.hid (parse_blanks j (by omega))
            go_wp2_with fail
            refine (parse_any ⟨(List.replicate j 32).toArray⟩ _ (he.max.below HW.out)).mono ?_
            rintro e w6 ⟨v6, rfl, ho6, hb6⟩
            rw [show (⟨(List.replicate j (32 : UInt8)).toArray⟩ : ByteArray).data.toList = List.replicate j 32 from rfl, HPB.out] at ho6 ⊢
            have HB6 := Lib.hid (HW.out.trans (hb6.mono HW.out.size))
            clear hb6 hcv
            by_cases hbig : 16384 < j
            · rw [if_pos hbig] at ho6 ⊢
              have d6 : decide (16384 < j) = true := by simpa using hbig
              have d7 : decide ((16384 : Int) < (j : Int)) = true := by simp; omega
              obtain ⟨A6, c6, rfl⟩ := own_form ho6
              clear ho6
              go_wp2_with fail
              go_ret
              exact ⟨rfl, HB6.out⟩
            · rw [if_neg hbig] at ho6 ⊢
              have d6 : decide (16384 < j) = false := by simpa using hbig
              have d7 : decide ((16384 : Int) < (j : Int)) = false := by simp; omega
              obtain ⟨A6, c6, rfl⟩ := own_form ho6
              clear ho6
              go_wp2_with fail
              go_ret
              exact ⟨rfl, HB6.out⟩
      · rw [if_neg h4] at hown ⊢
        have d4 : decide (400 < k) = true := by simp; omega
        obtain ⟨A, c, rfl⟩ := own_form hown
        clear hown
        have hmk := fun W => make_acts k (by omega) W
        go_wp2_with fail
        refine (format_big _ _ _ _ (by omega)).mono ?_
        rintro e w4 ⟨rfl, hb4⟩
        have HB4 := Lib.hid ((HB3.out.alloc HB3.out.size _).trans (hb4.mono (by have := HB3.out.size; simp; omega)))
        clear hb4
        go_wp2_with fail
        go_ret
        exact ⟨rfl, HB4.out⟩

end Go.Proofs.YtcgcfeablbjnaaaDoor
