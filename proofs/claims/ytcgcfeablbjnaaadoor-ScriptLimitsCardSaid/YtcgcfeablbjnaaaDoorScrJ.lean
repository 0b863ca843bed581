/- Contracts of script.Reply and of the reference's. -/
import Derived.Test.YtcgcfeablbjnaaaDoorScrI
namespace Go.Proofs.YtcgcfeablbjnaaaDoor
open Go.RowKit Go.BigFrame

/-- The line of a reply. -/
def replyL (kind err seq item : Int) (val : List UInt8) : List UInt8 :=
  if err ≠ 0 ∧ err ≠ 31 then [101, 114, 114, 111, 114, 32] ++ Lib.itoa err ++ [10]
  else if kind ≠ 2 then [111, 107, 10]
  else (if err = 31 then [119, 97, 105, 116] else [111, 107]) ++ [32] ++ Lib.itoa seq ++ [32] ++ Lib.itoa item ++ [32] ++ txtOf val ++ [10]

/-- A reply as a value. -/
def repV (err seq item : Int) (val : ByteArray) : Value := .agg #[.int .i64 err, .int .i64 seq, .int .i64 item, .string val]

theorem size_list (l : List UInt8) : (⟨l.toArray⟩ : ByteArray).size = l.length := by show l.toArray.size = _; simp
theorem txtOf_len (l : List UInt8) : (txtOf l).length ≤ 2 * l.length + 1 := by
  unfold txtOf
  split
  · simp
  · rw [hexTo_length]; omega

/-- Ints of 64 bits. -/
def I63 (n : Int) : Prop := -9223372036854775807 ≤ n ∧ n ≤ 9223372036854775807

theorem add_list (P : Program) (a b : List UInt8) (h : a.length + b.length ≤ 9223372036854775807) (w : World) : (Op.stringOp .add ⟨a.toArray⟩ ⟨b.toArray⟩).run P w = .ok (.string ⟨(a ++ b).toArray⟩) w := by
  rw [run_string_add_sum w _ _ (by rw [size_list, size_list]; exact h), bytes_app]

theorem join4 (a b c d : List UInt8) (x : ByteArray) (hx : x.data.toList = a) : Lib.join ([x, ⟨b.toArray⟩, ⟨c.toArray⟩, ⟨d.toArray⟩].map (·.data.toList)) [32] = a ++ [32] ++ b ++ [32] ++ c ++ [32] ++ d := by
  simp [Lib.join, hx]

theorem join4_any (x : ByteArray) (b c d out : List UInt8) (h : out = x.data.toList ++ [32] ++ b ++ [32] ++ c ++ [32] ++ d) (hol : out.length ≤ 1000000) (W : World) :
    Calls Tryd.prog 16 #[.slice (some ⟨W.heap.size, 0, none⟩) 4 4, .string { data := #[32] }] (W.alloc (.cells #[.string x, .string ⟨b.toArray⟩, .string ⟨c.toArray⟩, .string ⟨d.toArray⟩] 9)) fun e w' => e = .returned (.string ⟨out.toArray⟩) ∧ Below W.heap.size W w' := by
  have hj := join4 x.data.toList b c d x rfl
  have := Tryd.strings_Join W.heap.size 0 4 [x, ⟨b.toArray⟩, ⟨c.toArray⟩, ⟨d.toArray⟩] ⟨#[32]⟩ (W.alloc (.cells #[.string x, .string ⟨b.toArray⟩, .string ⟨c.toArray⟩, .string ⟨d.toArray⟩] 9)) (by
    intro j y hy
    match j with
    | 0 => simp at hy; subst hy; simp [go_sem]
    | 1 => simp at hy; subst hy; simp [go_sem]
    | 2 => simp at hy; subst hy; simp [go_sem]
    | 3 => simp at hy; subst hy; simp [go_sem]
    | j + 4 => simp at hy) (by simp) (by simp) (by simp) (by
      rw [show (⟨#[32]⟩ : ByteArray).data.toList = [32] from rfl, hj, ← h]; omega)
  rw [show (⟨#[32]⟩ : ByteArray).data.toList = [32] from rfl, hj, ← h] at this
  refine this.mono fun e w' hh => ⟨hh.1, ?_⟩
  exact ((Below.refl W.heap.size W).alloc (Nat.le_refl _) _).trans (hh.2.mono (by simp))

set_option maxHeartbeats 4000000 in
/-- The last part of Reply. -/
theorem reply_words (a : ActD) (err : Int) (word : List UInt8) (seq item : Int) (val : ByteArray) (w : World) (he : Env w) (hs : I63 seq) (hi : I63 item) (hv : val.size ≤ 100000) (hk : a.kind = 2) (herr : err = 0 ∧ word = [111, 107] ∨ err = 31 ∧ word = [119, 97, 105, 116]) :
    Calls Tryd.prog 8 #[.agg a.cells, repV err seq item val] w fun e w' => e = .returned (.string ⟨(word ++ [32] ++ Lib.itoa seq ++ [32] ++ Lib.itoa item ++ [32] ++ txtOf val.data.toList ++ [10]).toArray⟩) ∧ Below w.heap.size w w' := by
  have hl1 := Lib.itoa_length_le seq (by have := hs.1; omega) hs.2
  have hl2 := Lib.itoa_length_le item (by have := hi.1; omega) hi.2
  have hl3 := txtOf_len val.data.toList
  have hl4 : val.data.toList.length = val.size := by simp
  obtain ⟨out, hout⟩ : ∃ out, out = word ++ [32] ++ Lib.itoa seq ++ [32] ++ Lib.itoa item ++ [32] ++ txtOf val.data.toList := ⟨_, rfl⟩
  have hol : out.length ≤ 1000000 := by
    rw [hout]
    rcases herr with ⟨_, rfl⟩ | ⟨_, rfl⟩ <;> simp only [List.length_append, List.length_cons, List.length_nil] <;> omega
  rw [← hout]
  have HOUT := Lib.hid hout
  have z2 := fun W => add_list Tryd.prog out [10] (by simp; omega) W
  have z3 : (⟨[10].toArray⟩ : ByteArray) = ⟨#[10]⟩ := rfl
  rw [z3] at z2
  clear z3 hl1 hl2 hl3 hl4 hout
  simp only [ActD.cells, repV, hk]
  clear hk
  rcases herr with ⟨rfl, rfl⟩ | ⟨rfl, rfl⟩
  all_goals
    go_enter Tryd.func8, Tryd.ntmps8
    go_wp2_with fail
    generalize hWe : (w.alloc (Obj.cells _ 25)).alloc (Obj.cells _ 28) = W
    have c1 : W.cell? ⟨w.heap.size + 1, 1, none⟩ = some (.int .i64 seq) := by rw [← hWe]; simp [go_sem]
    have c2 : W.cell? ⟨w.heap.size + 1, 2, none⟩ = some (.int .i64 item) := by rw [← hWe]; simp [go_sem]
    have c3 : W.cell? ⟨w.heap.size + 1, 3, none⟩ = some (.string val) := by rw [← hWe]; simp [go_sem]
    have hbW : Below w.heap.size w W := by rw [← hWe]; exact (Below.refl _ _).alloc (Nat.le_refl _) _ |>.alloc (by simp) _
    have HEW := Lib.hid (he.below hbW)
    have HBW := Lib.hid hbW
    clear hWe hbW
    have k1 := cell_regrown c1
    have k2 := cell_regrown c2
    have k3 := cell_regrown c3
    clear c1 c2 c3
    refine wp_region_head (fun w' => ∃ p : Regrown, w' = Go.Sort.grow (redrawn W p.d) p.os) 10 (by kernel_rfl) (by kernel_rfl) ⟨⟨W.drawn + 1, #[]⟩, by rw [Go.Sort.grow_empty]; rfl⟩ ?_
    simp only [List.take_succ_cons, List.take_zero, List.drop_succ_cons, List.drop_zero]
    repeat (go_big_quiet_step ((first
      | (go_at_call 15; exact Calls.regrown_of (writeText_any val _ hv))
      | (go_at_call 14; exact Calls.regrown_of (itoa_any _ (by first | (have := hs.1; omega) | (have := hi.1; omega)) (by first | exact hs.2 | exact hi.2) _ (by exact HEW.out.below (below_regrown W _ _)))))))
    refine wpQuiet_nil ?_
    rintro _ ⟨⟨dq, osq⟩, rfl⟩
    have HB2 := Lib.hid (HBW.out.trans ((below_regrown W dq osq).mono HBW.out.size))
    have HE2 := Lib.hid (HEW.out.below (below_regrown W dq osq))
    clear k1 k2 k3
    generalize Go.Sort.grow (redrawn W dq) osq = W2 at *
    go_wp2_with fail
    refine (join4_any _ _ _ _ out HOUT.out hol W2).mono ?_
    rintro e w3 ⟨rfl, hb3⟩
    have HB3 := Lib.hid (HB2.out.trans (hb3.mono HB2.out.size))
    clear hb3
    go_wp2_with fail
    go_ret
    exact ⟨rfl, HB3.out⟩

set_option maxHeartbeats 4000000 in
theorem reply_any (a : ActD) (err seq item : Int) (val : ByteArray) (w : World) (he : Env w) (hr : I63 err) (hs : I63 seq) (hi : I63 item) (hv : val.size ≤ 100000) :
    Calls Tryd.prog 8 #[.agg a.cells, repV err seq item val] w fun e w' => e = .returned (.string ⟨(replyL a.kind err seq item val.data.toList).toArray⟩) ∧ Below w.heap.size w w' := by
  by_cases h1 : err ≠ 0 ∧ err ≠ 31
  · rw [replyL, if_pos h1]
    have d1 : (err != 0) = true := bne_iff_ne.2 h1.1
    have d2 : (err != 31) = true := bne_iff_ne.2 h1.2
    have hl1 := Lib.itoa_length_le err (by have := hr.1; omega) hr.2
    have z1 := fun W => add_list Tryd.prog [101, 114, 114, 111, 114, 32] (Lib.itoa err) (by simp; omega) W
    have z2 := fun W => add_list Tryd.prog ([101, 114, 114, 111, 114, 32] ++ Lib.itoa err) [10] (by simp; omega) W
    generalize ([101, 114, 114, 111, 114, 32] ++ Lib.itoa err : List UInt8) = s1 at *
    generalize s1 ++ [10] = s2 at *
    have e1 : (⟨[101, 114, 114, 111, 114, 32].toArray⟩ : ByteArray) = ⟨#[101, 114, 114, 111, 114, 32]⟩ := rfl
    have e2 : (⟨[10].toArray⟩ : ByteArray) = ⟨#[10]⟩ := rfl
    rw [e1] at z1
    rw [e2] at z2
    clear e1 e2 h1 hl1
    simp only [ActD.cells, repV]
    go_enter Tryd.func8, Tryd.ntmps8
    go_wp2_with fail
    refine (itoa_any _ (by have := hr.1; omega) hr.2 _ (by exact he.below ((Below.refl _ _).alloc (Nat.le_refl _) _ |>.alloc (by simp) _))).mono ?_
    rintro e w1 ⟨rfl, hb⟩
    have HB := Lib.hid (((Below.refl w.heap.size w).alloc (Nat.le_refl _) _ |>.alloc (by simp) _).trans (hb.mono (by simp; omega)))
    clear hb
    go_wp2_with fail
    go_ret
    exact ⟨rfl, HB.out⟩
  by_cases h2 : a.kind ≠ 2
  · rw [replyL, if_neg h1, if_pos h2]
    have d3 : (a.kind != 2) = true := bne_iff_ne.2 h2
    simp only [ActD.cells, repV]
    rcases (show err = 0 ∨ err = 31 by omega) with rfl | rfl
    all_goals
      clear h1 h2
      go_enter Tryd.func8, Tryd.ntmps8
      go_wp2_with fail
      go_ret
      exact ⟨rfl, (Below.refl _ _).alloc (Nat.le_refl _) _ |>.alloc (by simp) _⟩
  · rw [replyL, if_neg h1, if_neg h2]
    refine reply_words a err _ seq item val w he hs hi hv (by omega) ?_
    by_cases h3 : err = 31
    · exact .inr ⟨h3, if_pos h3⟩
    · exact .inl ⟨by omega, if_neg h3⟩

theorem rnum_below (n : Int) (h : I63 n) (w : World) : Calls Tryd.prog 17 #[.int .i64 n] w fun e w' => e = .returned (.string ⟨(Lib.itoa n).toArray⟩) ∧ Below w.heap.size w w' :=
  (rnum_any n h.1 h.2 w).mono fun _ _ ⟨he, m, hm⟩ => ⟨he, by rw [hm]; exact below_drewN (Below.refl _ _) m⟩

set_option maxHeartbeats 4000000 in
/-- The last part of the reference's Reply. -/
theorem rreply_words (a : ActD) (err : Int) (word : List UInt8) (seq item : Int) (val : ByteArray) (w : World) (hs : I63 seq) (hi : I63 item) (hv : val.size ≤ 100000) (hk : a.kind = 2) (herr : err = 0 ∧ word = [111, 107] ∨ err = 31 ∧ word = [119, 97, 105, 116]) :
    Calls Tryd.prog 9 #[.agg a.cells, repV err seq item val] w fun e w' => e = .returned (.string ⟨(word ++ [32] ++ Lib.itoa seq ++ [32] ++ Lib.itoa item ++ [32] ++ txtOf val.data.toList ++ [10]).toArray⟩) ∧ Below w.heap.size w w' := by
  have hl1 := Lib.itoa_length_le seq (by have := hs.1; omega) hs.2
  have hl2 := Lib.itoa_length_le item (by have := hi.1; omega) hi.2
  have hl3 := txtOf_len val.data.toList
  have hl4 : val.data.toList.length = val.size := by simp
  have hl0 : word.length ≤ 4 := by rcases herr with ⟨_, rfl⟩ | ⟨_, rfl⟩ <;> simp
  have z1 := fun W => add_list Tryd.prog word [32] (by simp only [List.length_cons, List.length_nil]; omega) W
  have z2 := fun W => add_list Tryd.prog (word ++ [32]) (Lib.itoa seq) (by simp only [List.length_append, List.length_cons, List.length_nil]; omega) W
  have z3 := fun W => add_list Tryd.prog (word ++ [32] ++ Lib.itoa seq) [32] (by simp only [List.length_append, List.length_cons, List.length_nil]; omega) W
  have z4 := fun W => add_list Tryd.prog (word ++ [32] ++ Lib.itoa seq ++ [32]) (Lib.itoa item) (by simp only [List.length_append, List.length_cons, List.length_nil]; omega) W
  have z5 := fun W => add_list Tryd.prog (word ++ [32] ++ Lib.itoa seq ++ [32] ++ Lib.itoa item) [32] (by simp only [List.length_append, List.length_cons, List.length_nil]; omega) W
  have z6 := fun W => add_list Tryd.prog (word ++ [32] ++ Lib.itoa seq ++ [32] ++ Lib.itoa item ++ [32]) (txtOf val.data.toList) (by simp only [List.length_append, List.length_cons, List.length_nil]; omega) W
  have z7 := fun W => add_list Tryd.prog (word ++ [32] ++ Lib.itoa seq ++ [32] ++ Lib.itoa item ++ [32] ++ txtOf val.data.toList) [10] (by simp only [List.length_append, List.length_cons, List.length_nil]; omega) W
  generalize word ++ [32] = s1 at *
  generalize s1 ++ Lib.itoa seq = s2 at *
  generalize s2 ++ [32] = s3 at *
  generalize s3 ++ Lib.itoa item = s4 at *
  generalize s4 ++ [32] = s5 at *
  generalize s5 ++ txtOf val.data.toList = s6 at *
  generalize s6 ++ [10] = s7 at *
  have e1 : (⟨[32].toArray⟩ : ByteArray) = ⟨#[32]⟩ := rfl
  have e2 : (⟨[10].toArray⟩ : ByteArray) = ⟨#[10]⟩ := rfl
  rw [e1] at z1 z3 z5
  rw [e2] at z7
  clear e1 e2 hl0 hl1 hl2 hl3 hl4
  simp only [ActD.cells, repV, hk]
  clear hk
  rcases herr with ⟨rfl, rfl⟩ | ⟨rfl, rfl⟩
  all_goals
    simp only [List.toArray] at z1
    go_enter Tryd.func9, Tryd.ntmps9
    go_wp2_with fail
    generalize hWe : (w.alloc (Obj.cells _ 25)).alloc (Obj.cells _ 28) = W
    have c1 : W.cell? ⟨w.heap.size + 1, 1, none⟩ = some (.int .i64 seq) := by rw [← hWe]; simp [go_sem]
    have c2 : W.cell? ⟨w.heap.size + 1, 2, none⟩ = some (.int .i64 item) := by rw [← hWe]; simp [go_sem]
    have c3 : W.cell? ⟨w.heap.size + 1, 3, none⟩ = some (.string val) := by rw [← hWe]; simp [go_sem]
    have hbW : Below w.heap.size w W := by rw [← hWe]; exact (Below.refl _ _).alloc (Nat.le_refl _) _ |>.alloc (by simp) _
    have HBW := Lib.hid hbW
    clear hWe hbW
    have k1 := cell_regrown c1
    have k2 := cell_regrown c2
    have k3 := cell_regrown c3
    clear c1 c2 c3
    refine wp_region_quiet_below (by kernel_rfl) (by kernel_rfl) ?_
    repeat (go_big_quiet_step ((first
      | (go_at_call 18; exact Calls.regrown_of (written_any val _ hv))
      | (go_at_call 17; exact Calls.regrown_of (rnum_below _ (by first | exact hs | exact hi) _)))))
    refine wpQuiet_nil ?_
    rintro _ ⟨⟨dq, osq⟩, rfl⟩
    have HB2 := Lib.hid (HBW.out.trans ((below_regrown W dq osq).mono HBW.out.size))
    clear k1 k2 k3
    generalize Go.Sort.grow (redrawn W dq) osq = W2 at *
    go_wp2_with fail
    go_ret
    exact ⟨rfl, HB2.out⟩

set_option maxHeartbeats 4000000 in
theorem rreply_any (a : ActD) (err seq item : Int) (val : ByteArray) (w : World) (hr : I63 err) (hs : I63 seq) (hi : I63 item) (hv : val.size ≤ 100000) :
    Calls Tryd.prog 9 #[.agg a.cells, repV err seq item val] w fun e w' => e = .returned (.string ⟨(replyL a.kind err seq item val.data.toList).toArray⟩) ∧ Below w.heap.size w w' := by
  by_cases h1 : err ≠ 0 ∧ err ≠ 31
  · rw [replyL, if_pos h1]
    have d1 : (err != 0) = true := bne_iff_ne.2 h1.1
    have d2 : (err != 31) = true := bne_iff_ne.2 h1.2
    have hl1 := Lib.itoa_length_le err (by have := hr.1; omega) hr.2
    have z1 := fun W => add_list Tryd.prog [101, 114, 114, 111, 114, 32] (Lib.itoa err) (by simp; omega) W
    have z2 := fun W => add_list Tryd.prog ([101, 114, 114, 111, 114, 32] ++ Lib.itoa err) [10] (by simp; omega) W
    generalize ([101, 114, 114, 111, 114, 32] ++ Lib.itoa err : List UInt8) = s1 at *
    generalize s1 ++ [10] = s2 at *
    have e1 : (⟨[101, 114, 114, 111, 114, 32].toArray⟩ : ByteArray) = ⟨#[101, 114, 114, 111, 114, 32]⟩ := rfl
    have e2 : (⟨[10].toArray⟩ : ByteArray) = ⟨#[10]⟩ := rfl
    rw [e1] at z1
    rw [e2] at z2
    clear e1 e2 h1 hl1
    simp only [ActD.cells, repV]
    go_enter Tryd.func9, Tryd.ntmps9
    go_wp2_with fail
    refine (rnum_below _ hr _).mono ?_
    rintro e w1 ⟨rfl, hb⟩
    have HB := Lib.hid (((Below.refl w.heap.size w).alloc (Nat.le_refl _) _ |>.alloc (by simp) _).trans (hb.mono (by simp; omega)))
    clear hb
    go_wp2_with fail
    go_ret
    exact ⟨rfl, HB.out⟩
  by_cases h2 : a.kind ≠ 2
  · rw [replyL, if_neg h1, if_pos h2]
    have d3 : (a.kind != 2) = true := bne_iff_ne.2 h2
    simp only [ActD.cells, repV]
    rcases (show err = 0 ∨ err = 31 by omega) with rfl | rfl
    all_goals
      clear h1 h2
      go_enter Tryd.func9, Tryd.ntmps9
      go_wp2_with fail
      go_ret
      exact ⟨rfl, (Below.refl _ _).alloc (Nat.le_refl _) _ |>.alloc (by simp) _⟩
  · rw [replyL, if_neg h1, if_neg h2]
    refine rreply_words a err _ seq item val w hs hi hv (by omega) ?_
    by_cases h3 : err = 31
    · exact .inr ⟨h3, if_pos h3⟩
    · exact .inl ⟨by omega, if_neg h3⟩

end Go.Proofs.YtcgcfeablbjnaaaDoor
