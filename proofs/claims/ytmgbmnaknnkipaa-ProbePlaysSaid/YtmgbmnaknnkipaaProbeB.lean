/- Contracts of Verdicts and Same of the program and of the reference. -/
import Derived.Test.YtmgbmnaknnkipaaProbeA
import Derived.Test.YtmgbmnaknnkipaaSlice
namespace Go.Proofs.Ytmgbmnaknnkipaa
open Go.RowKit Go.BigFrame

/-- The state behind the first k results. -/
def stAt (step : Bool → Int → Bool → Bool × Int) (l : List Bool) (k : Nat) : Bool × Int := (l.take k).foldl (fun s g => step s.1 s.2 g) (false, 0)
/-- The verdicts behind the first k results. -/
def verd (step : Bool → Int → Bool → Bool × Int) (l : List Bool) (k : Nat) : List Bool := (List.range k).map fun i => (stAt step l (i + 1)).1

theorem stAt_zero (step : Bool → Int → Bool → Bool × Int) (l : List Bool) : stAt step l 0 = (false, 0) := rfl
theorem stAt_succ (step : Bool → Int → Bool → Bool × Int) (l : List Bool) (k : Nat) (h : k < l.length) : stAt step l (k + 1) = step (stAt step l k).1 (stAt step l k).2 l[k] := by
  unfold stAt
  rw [List.take_succ_eq_append_getElem h, List.foldl_append]
  rfl
theorem verd_succ (step : Bool → Int → Bool → Bool × Int) (l : List Bool) (k : Nat) : verd step l (k + 1) = verd step l k ++ [(stAt step l (k + 1)).1] := by
  unfold verd
  rw [List.range_succ, List.map_append]
  rfl
theorem verd_length (step : Bool → Int → Bool → Bool × Int) (l : List Bool) (k : Nat) : (verd step l k).length = k := by simp [verd]

/-- What the made slice holds behind k rounds. -/
def curB (n k : Nat) (vs : List Bool) : Array Value := ((vs.map Value.bool) ++ List.replicate (n - k) (Value.bool false)).toArray
theorem curB_zero (n : Nat) : curB n 0 [] = (List.replicate n (Value.bool false)).toArray := by simp [curB]
theorem curB_set (n k : Nat) (vs : List Bool) (b : Bool) (hl : vs.length = k) (hk : k < n) : (curB n k vs).setIfInBounds k (.bool b) = curB n (k + 1) (vs ++ [b]) := by
  unfold curB
  obtain ⟨m, hm⟩ : ∃ m, n - k = m + 1 := ⟨n - k - 1, by omega⟩
  rw [hm, show n - (k + 1) = m from by omega]
  simp only [List.setIfInBounds_toArray]
  congr 1
  rw [List.set_append_right _ _ (by simp [hl])]
  simp [hl, List.replicate_succ]
theorem curB_at (n k : Nat) (vs : List Bool) (hl : vs.length = k) (hk : k < n) : (curB n k vs)[k]? = some (.bool false) := by
  unfold curB
  obtain ⟨m, hm⟩ : ∃ m, n - k = m + 1 := ⟨n - k - 1, by omega⟩
  simp [hl, hm, List.replicate_succ]
theorem curB_done (n : Nat) (vs : List Bool) : (curB n n vs).toList = vs.map Value.bool := by simp [curB]

theorem infoB : (Try.prog.info? 4).map (fun i => (i.zero, i.size, i.bytes)) = some (some (.bool false), 1, 1) := by kernel_rfl

/-- The run's bounds. -/
def StOk (a b : Int) (s : Bool × Int) : Prop := 0 ≤ s.2 ∧ s.2 < (if s.1 = true then b else a)
theorem pstep_ok (a b : Int) (s : Bool × Int) (g : Bool) (ha : 1 ≤ a) (hb : 1 ≤ b) (h : StOk a b s) : StOk a b (pstep a b s.1 s.2 g) ∧ rstep a b s.1 s.2 g = pstep a b s.1 s.2 g := by
  obtain ⟨s1, s2⟩ := s
  unfold StOk at *
  cases g <;> cases s1 <;> simp only [pstep, rstep] at *
  · by_cases hq : a ≤ s2 + 1
    · have e : s2 + 1 = a := by simp at h; omega
      simp [e]; omega
    · have e : ¬ s2 + 1 = a := by omega
      simp at h
      simp [hq, e]; omega
  · simp; omega
  · simp; omega
  · by_cases hq : b ≤ s2 + 1
    · have e : s2 + 1 = b := by simp at h; omega
      simp [e]; omega
    · have e : ¬ s2 + 1 = b := by omega
      simp at h
      simp [hq, e]; omega
theorem stAt_ok (a b : Int) (ha : 1 ≤ a) (hb : 1 ≤ b) (l : List Bool) : ∀ k, k ≤ l.length → StOk a b (stAt (pstep a b) l k) ∧ stAt (rstep a b) l k = stAt (pstep a b) l k
  | 0, _ => ⟨⟨by simp [stAt_zero], by simp [stAt_zero]; omega⟩, rfl⟩
  | k + 1, h => by
    obtain ⟨h1, h2⟩ := stAt_ok a b ha hb l k (by omega)
    rw [stAt_succ _ _ _ (by omega), stAt_succ _ _ _ (by omega), h2]
    exact pstep_ok a b _ _ ha hb h1
theorem stAt_bd (a b : Int) (ha : 1 ≤ a) (hb : 1 ≤ b) (ha2 : a ≤ 100) (hb2 : b ≤ 100) (l : List Bool) (k : Nat) (h : k ≤ l.length) : 0 ≤ (stAt (pstep a b) l k).2 ∧ (stAt (pstep a b) l k).2 ≤ 1000 := by
  have := (stAt_ok a b ha hb l k h).1
  unfold StOk at this
  refine ⟨this.1, ?_⟩
  have h2 := this.2
  split at h2 <;> omega

set_option maxHeartbeats 1000000 in
theorem verdicts_yes (a b : Int) (A : Option Addr) (c : Nat) (l : List Bool) (w : World) (h1 : 1 ≤ a) (h2 : a ≤ 100) (h3 : 1 ≤ b) (h4 : b ≤ 100) (hl : l.length ≤ 1000) (hA : Rd w w.heap.size A (l.map Value.bool)) :
    Calls Try.prog 10 #[.agg #[.int .i64 a, .int .i64 b], .slice A l.length c] w fun e w' =>
      ∃ g, e = .returned (.tuple #[.slice (some ⟨g, 0, none⟩) l.length l.length, .int .i64 0]) ∧ Blk w' g 4 ((verd (pstep a b) l l.length).map Value.bool).toArray ∧ Below w.heap.size w w' := by
  obtain ⟨i0, hi0, hz0, hz1, hz2⟩ := info_parts infoB
  have hmk := fun W => run_make_one (P := Try.prog) 24 4 i0 _ Try.underlying24 hi0 hz0 hz1 rfl l.length (by rw [hz2]; omega) (by omega) W
  go_enter Try.func10, Try.ntmps10
  go_wp2_with (go_at_call 17; refine (new_yes _ _ _ h1 h2 h3 h4).mono ?_; rintro e w' ⟨rfl, rfl⟩)
  go_loopw [24] (fun i wr => ∃ k : Nat, k ≤ l.length ∧ i = .int .i64 k ∧ Pr wr (w.heap.size + 1 + 1) 51 a b (stAt (pstep a b) l k) ∧ Blk wr (w.heap.size + 1 + 1 + 1) 4 (curB l.length k (verd (pstep a b) l k)) ∧ Below w.heap.size w wr)
    (fun i _ => l.length - (intOf i).toNat)
  case atStart =>
    refine ⟨0, Nat.zero_le _, rfl, ?_, ?_, ?_⟩
    · exact Blk.alloc (Blk.newAt _ _ _ _ (by simp)) _
    · have e : curB l.length 0 (verd (pstep a b) l 0) = Array.replicate l.length (Value.bool false) := by simp [curB, verd]
      rw [e]
      exact Blk.newAt _ _ _ _ (by simp)
    · repeat (first | exact Below.refl _ _ | refine Below.alloc ?_ (by simp; try omega) _)
  case round =>
    obtain ⟨k, hk, rfl, hp, hbl, hbw⟩ := hrel
    have bd := stAt_bd a b h1 h3 h2 h4 l k hk
    have HP := Lib.hid hp
    have HB := Lib.hid hbl
    have HBW := Lib.hid hbw
    have HA := Lib.hid (hA.below hbw)
    clear hp hbl hbw hmk
    by_cases hlt : k < l.length
    · obtain ⟨ad, rfl, hadb, hcell⟩ := HA.out k (.bool l[k]) (by simp [hlt])
      clear hadb
      have HS := Lib.hid (stAt_succ (pstep a b) l k hlt)
      have hat := curB_at l.length k _ (verd_length (pstep a b) l k) hlt
      go_wp2_with (go_at_call 19; refine (add_any _ _ _ _ _ _ _ HP.out bd.1 bd.2).mono ?_; rintro e w1 ⟨rfl, hp1, hg1⟩; have hb1 := HB.out.grown hg1 (by simp); have c1 := (hb1.cell k).trans hat; have f1 := hb1.free k)
      go_roundw
      case rel =>
        refine ⟨k + 1, hlt, by go_num, ?_, ?_, ?_⟩
        · rw [HS.out]
          exact hp1.far (by simp) _
        · rw [verd_succ, HS.out, ← curB_set _ _ _ _ (verd_length _ _ _) hlt]
          exact hb1.put k _
        · exact (HBW.out.grown hg1 HBW.out.size (by simp; omega)).setCell (by simp; omega) _
      case measure => simp [intOf]; omega
    · have e : k = l.length := by omega
      subst e
      go_wp2
      go_ret2
      refine ⟨_, rfl, ?_, HBW.out⟩
      have := HB.out
      rw [show curB l.length l.length (verd (pstep a b) l l.length) = ((verd (pstep a b) l l.length).map Value.bool).toArray from by simp [curB]] at this
      exact this

set_option maxHeartbeats 400000 in
theorem verdicts_no (a b : Int) (A : Option Addr) (n c : Nat) (w : World) (h : ¬ (1 ≤ a ∧ a ≤ 100 ∧ 1 ≤ b ∧ b ≤ 100)) :
    Calls Try.prog 10 #[.agg #[.int .i64 a, .int .i64 b], .slice A n c] w fun e w' => e = .returned (.tuple #[.slice none 0 0, .int .i64 1]) ∧ Below w.heap.size w w' := by
  go_enter Try.func10, Try.ntmps10
  go_wp2_with (go_at_call 17; refine (new_no _ _ _ h).mono ?_; rintro e w' ⟨rfl, hb⟩)
  go_ret2
  exact ⟨rfl, (below1 _ _).trans (hb.mono (by simp))⟩

set_option maxHeartbeats 400000 in
theorem rverdicts_no (a b : Int) (A : Option Addr) (n c : Nat) (w : World) (h : ¬ (1 ≤ a ∧ a ≤ 100 ∧ 1 ≤ b ∧ b ≤ 100)) :
    Calls Try.prog 11 #[.agg #[.int .i64 a, .int .i64 b], .slice A n c] w fun e w' => e = .returned (.tuple #[.slice none 0 0, .int .i64 1]) ∧ Below w.heap.size w w' := by
  go_enter Try.func11, Try.ntmps11
  go_wp2_with (go_at_call 18; refine (rnew_no _ _ _ h).mono ?_; rintro e w' ⟨rfl, hb⟩)
  go_ret2
  exact ⟨rfl, (below1 _ _).trans (hb.mono (by simp))⟩

theorem etB : ElemT Try.prog 24 4 (.bool false) 1 1 := ElemT.mk' Try.underlying24 infoB rfl (by decide)

set_option maxHeartbeats 1000000 in
theorem rverdicts_yes (a b : Int) (A : Option Addr) (c : Nat) (l : List Bool) (w : World) (h1 : 1 ≤ a) (h2 : a ≤ 100) (h3 : 1 ≤ b) (h4 : b ≤ 100) (hl : l.length ≤ 1000) (hA : Rd w w.heap.size A (l.map Value.bool)) :
    Calls Try.prog 11 #[.agg #[.int .i64 a, .int .i64 b], .slice A l.length c] w fun e w' =>
      ∃ v, e = .returned (.tuple #[v, .int .i64 0]) ∧ w'.ownsRow (w.heap.size + 3) 4 1 v l.length ((verd (pstep a b) l l.length).map Value.bool) ∧ Below w.heap.size w w' := by
  go_enter Try.func11, Try.ntmps11
  go_wp2_with (go_at_call 18; refine (rnew_yes _ _ _ h1 h2 h3 h4).mono ?_; rintro e w' ⟨rfl, rfl⟩)
  go_loopw [8, 9] (fun v i wr => ∃ k : Nat, k ≤ l.length ∧ i = .int .i64 k ∧ Pr wr (w.heap.size + 1 + 1) 46 a b (stAt (pstep a b) l k) ∧ wr.ownsRow (w.heap.size + 3) 4 1 v k ((verd (pstep a b) l k).map Value.bool) ∧ w.heap.size + 3 ≤ wr.heap.size ∧ Below w.heap.size w wr)
    (fun _ i _ => l.length - (intOf i).toNat)
  case atStart =>
    refine ⟨0, Nat.zero_le _, rfl, ?_, World.ownsRow_nil _ _ _ _, by simp, ?_⟩
    · exact Blk.newAt _ _ _ _ (by simp)
    · repeat (first | exact Below.refl _ _ | refine Below.alloc ?_ (by simp; try omega) _)
  case round =>
    obtain ⟨k, hk, rfl, hp, hown, hsz, hbw⟩ := hrel
    have bd := stAt_bd a b h1 h3 h2 h4 l k hk
    have HP := Lib.hid hp
    have HO := Lib.hid hown
    have HBW := Lib.hid hbw
    have HA := Lib.hid (hA.below hbw)
    clear hp hown hbw
    by_cases hlt : k < l.length
    · obtain ⟨ad, rfl, hadb, hcell⟩ := HA.out k (.bool l[k]) (by simp [hlt])
      clear hadb
      have HS := Lib.hid (stAt_succ (pstep a b) l k hlt)
      have HR := Lib.hid ((pstep_ok a b _ l[k] h1 h3 (stAt_ok a b h1 h3 l k hk).1).2)
      go_wp2_with (first
        | (go_at_call 20; refine (radd_any l[k] (stAt (pstep a b) l k).1 a b (stAt (pstep a b) l k).2 _ _ HP.out bd.1 bd.2).mono ?_; rintro e w1 ⟨rfl, hp1, hg1⟩; have hs1 := hg1.size; have HO1 := Lib.hid (own_grown HO.out hg1 (by omega)))
        | (at_builtin; refine wpList_app etB rfl _ _ rfl (w.heap.size + 3) _ k _ rfl HO1.out #[.bool (rstep a b (stAt (pstep a b) l k).1 (stAt (pstep a b) l k).2 l[k]).1] rfl (by simp [Value.oneCell']) rfl (by omega) (by omega) (by omega) ?_; intro v' w2 hown2 hg2 hat2; have hs2 := hg2.size))
      go_roundw
      case rel =>
        refine ⟨k + 1, hlt, by go_num, ?_, ?_, by omega, ?_⟩
        · rw [HS.out, ← HR.out]
          exact Blk.grown hp1 hg2 (fun e => by have := (HO1.out.lt _ e.symm).1; omega)
        · rw [verd_succ, HS.out, ← HR.out]
          simpa using hown2
        · exact below_app HO1.out (HBW.out.grown hg1 HBW.out.size (by simp; omega)) (by omega) (by omega) hg2
      case measure => simp [intOf]; omega
    · have e : k = l.length := by omega
      subst e
      go_wp2
      go_ret2
      exact ⟨_, rfl, HO.out, HBW.out⟩

end Go.Proofs.Ytmgbmnaknnkipaa
