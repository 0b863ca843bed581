/- The contract of script.Format. -/
import Derived.Test.YtcgcfeablbjnaaaDoorScrN
import Derived.DataElems
namespace Go.Proofs.YtcgcfeablbjnaaaDoor
open Go.RowKit Go.BigFrame

/-- The text of an act's line; of acts; what Format hands back. -/
def lineText (a : ActD) : List UInt8 := Lib.join (writeRes a).1 [32] ++ [10]
def formatRes (l : List ActD) : List UInt8 × Int :=
  if 400 < l.length then ([], 2)
  else if l.all (fun a => (writeRes a).2) = true then (if 16384 < (l.flatMap lineText).length then ([], 2) else (l.flatMap lineText, 0))
  else ([], 1)

abbrev IsB (B b : Nat) (bs : List Value) (w : World) : Prop := Lib.IsBuilder 57 5 B b bs w

theorem isB_new (w : World) (B b : Nat) (hB : B ≤ b) (hb : b = w.heap.size) : IsB B b [] (w.alloc (.cells #[.pointer none, .slice none 0 0] 57)) := by
  subst hb
  exact .inl ⟨hB, .slice none 0 0, Blk.new _ _ _, World.ownsRow_nil _ _ _ _, by simp [Value.ownBlock]⟩

theorem isB_below {B b : Nat} {bs : List Value} {w w' : World} (h : IsB B b bs w) (hb : Below w.heap.size w w') : IsB B b bs w' := by
  rcases h with ⟨h1, v, h2, h3⟩ | ⟨h1, v, h2, h3⟩
  · exact .inl ⟨h1, v, Blk.below (t := 57) h2 hb (Blk.lt h2), own_below h3.1 hb, h3.2⟩
  · exact .inr ⟨h1, v, Blk.below (t := 57) h2 hb (Blk.lt h2), own_below h3.1 hb, h3.2⟩

theorem acts_get (l : List ActD) (k j : Nat) (a : ActD) (h : l[k]? = some a) (hj : j < 11) : (actsCells l)[k * 11 + j]? = a.cells[j]? := by
  unfold actsCells
  rw [flat_get (fun a : ActD => a.cells.toList) 11 (fun _ => rfl) l k j hj, h]
  simp

theorem byteCells_len (l : List UInt8) : (Lib.byteCells l).length = l.length := by simp [Lib.byteCells]
theorem take_snoc' (l : List ActD) (k : Nat) (a : ActD) (h : l[k]? = some a) : l.take (k + 1) = l.take k ++ [a] := by
  obtain ⟨hk, rfl⟩ := List.getElem?_eq_some_iff.1 h
  exact List.take_succ_eq_append_getElem hk

theorem join_bound (sep : List UInt8) (M : Nat) : ∀ l : List (List UInt8), (∀ x ∈ l, x.length ≤ M) → (Lib.join l sep).length ≤ l.length * (M + sep.length)
  | [], _ => by simp [Lib.join]
  | [x], h => by
    have := h x (by simp)
    simp [Lib.join]
    omega
  | x :: y :: l, h => by
    have h1 := h x (by simp)
    have ih := join_bound sep M (y :: l) (fun z hz => h z (List.mem_cons_of_mem _ hz))
    have e : Lib.join (x :: y :: l) sep = x ++ sep ++ Lib.join (y :: l) sep := by simp [Lib.join]
    have e2 : (x :: y :: l).length * (M + sep.length) = (y :: l).length * (M + sep.length) + (M + sep.length) := by
      show ((y :: l).length + 1) * _ = _
      rw [Nat.succ_mul]
    rw [e, List.length_append, List.length_append, e2]
    omega

theorem writeRes_words (a : ActD) (h : ActOk a) : (writeRes a).1.length ≤ 7 ∧ ∀ x ∈ (writeRes a).1, x.length ≤ 90000 := by
  unfold writeRes
  split
  · rename_i x hx
    have hf := letters_few x (List.mem_of_find?_eq_some hx)
    refine ⟨by simp [wordsFor]; omega, ?_⟩
    intro y hy
    rcases List.mem_cons.1 hy with rfl | hy
    · omega
    · obtain ⟨c, _, rfl⟩ := List.mem_map.1 hy
      exact fldWord_len a h c
  · simp
theorem join_len (a : ActD) (h : ActOk a) : (Lib.join (writeRes a).1 [32]).length ≤ 900000 := by
  obtain ⟨h1, h2⟩ := writeRes_words a h
  have := join_bound [32] 90000 _ h2
  simp at this
  omega

theorem join_words (a : ActD) (A : Option Addr) (c : Nat) (w : World) (base : Nat) (hw : (writeRes a).2 = true) (h : ActOk a) (hO : w.ownsRow base 9 1 (.slice A (writeRes a).1.length c) (writeRes a).1.length ((writeRes a).1.map strV)) :
    Calls Tryd.prog 16 #[.slice A (writeRes a).1.length c, .string { data := #[32] }] w fun e w' => e = .returned (.string ⟨(Lib.join (writeRes a).1 [32]).toArray⟩) ∧ Below w.heap.size w w' := by
  have hp : 0 < (writeRes a).1.length := by
    unfold writeRes at hw ⊢
    split
    · simp [wordsFor]
    · rename_i hn
      rw [hn] at hw
      cases hw
  have hc := own_cap hO
  obtain ⟨h7, hx⟩ := writeRes_words a h
  have hjl := join_len a h
  obtain ⟨g, rfl, hg, hcs⟩ := rows_of_own hO hp
  generalize (writeRes a).1 = wl at *
  have e1 : (wl.map fun l => (⟨l.toArray⟩ : ByteArray)).map (·.data.toList) = wl := by
    rw [List.map_map]
    exact List.map_id'' (fun _ => rfl) wl
  have := Tryd.strings_Join g 0 c (wl.map fun l => (⟨l.toArray⟩ : ByteArray)) ⟨#[32]⟩ w (by
    intro j y hy
    rw [Nat.zero_add]
    refine hcs j (.string y) ?_
    rw [List.getElem?_map] at hy ⊢
    obtain ⟨z, hz, rfl⟩ := Option.map_eq_some_iff.1 hy
    rw [hz]
    rfl) hg (by simp; omega) (by simpa using hc) (by
      rw [e1, show (⟨#[32]⟩ : ByteArray).data.toList = [32] from rfl]; omega)
  rw [e1, List.length_map, show (⟨#[32]⟩ : ByteArray).data.toList = [32] from rfl] at this
  exact this

theorem strCells_list (l : List UInt8) : Lib.strCells ⟨l.toArray⟩ = Lib.byteCells l := by
  simp [Lib.strCells, Lib.byteCells]

set_option maxRecDepth 100000 in
set_option maxHeartbeats 4000000 in
theorem format_any (A : Option Addr) (c : Nat) (l : List ActD) (w : World) (he : Env w) (hok : ∀ a ∈ l, ActOk a) (hlen : l.length ≤ 1000000) (hR : Rd w w.heap.size A (actsCells l)) :
    Calls Tryd.prog 13 #[.slice A l.length c] w fun e w' => e = .returned (.tuple #[.string ⟨(formatRes l).1.toArray⟩, .int .i64 (formatRes l).2]) ∧ Below w.heap.size w w' := by
  by_cases h4 : 400 < l.length
  · have d0 : decide (400 < l.length) = true := by simpa using h4
    have HF := Lib.hid (show formatRes l = ([], 2) by rw [formatRes, if_pos h4])
    go_enter Tryd.func13, Tryd.ntmps13
    go_wp2_with fail
    go_ret2
    rw [HF.out]
    exact ⟨rfl, Below.refl _ _⟩
  have d0 : decide (400 < l.length) = false := by simpa using h4
  go_enter Tryd.func13, Tryd.ntmps13
  go_wp2_with fail
  go_loopw [14] (fun i wr => ∃ k : Nat, k ≤ l.length ∧ i = .int .i64 k ∧ (l.take k).all (fun a => (writeRes a).2) = true ∧ IsB w.heap.size w.heap.size (Lib.byteCells ((l.take k).flatMap lineText)) wr ∧ ((l.take k).flatMap lineText).length ≤ k * 1000000 ∧ Below w.heap.size w wr) (fun i _ => l.length - (intOf i).toNat)
  case atStart => exact ⟨0, by omega, rfl, rfl, isB_new w _ _ (Nat.le_refl _) rfl, by simp, (Below.refl _ _).alloc (Nat.le_refl _) _⟩
  case round =>
    obtain ⟨k, hk, rfl, hall, hisb, hfl, hbw⟩ := hrel
    have HALL := Lib.hid hall
    have HI := Lib.hid hisb
    have HFL := Lib.hid hfl
    have HBW := Lib.hid hbw
    have hsw := hbw.size
    clear hall hisb hfl hbw
    by_cases hlt : k < l.length
    · have hx : l[k]? = some l[k] := List.getElem?_eq_getElem _
      have HOK := Lib.hid (hok l[k] (List.getElem_mem hlt))
      generalize hae : l[k] = a at hx
      have HX := Lib.hid hx
      rw [hae] at HOK
      clear hae hx
      obtain ⟨ad, hade, hadb, _⟩ := hR (k * 11) (.int .i64 a.kind) (acts_get l k 0 a HX.out (by omega))
      subst hade
      have HQ := Lib.hid (show ∀ (j : Nat) (v : Value), a.cells[j]? = some v → wr.cell? ((ad.add (k * 11)).add j) = some v by
        intro j v hj
        have hj11 : j < 11 := (Array.getElem?_eq_some_iff.1 hj).1
        obtain ⟨ad', h1, h2, h3⟩ := hR (k * 11 + j) v ((acts_get l k j a HX.out hj11).trans hj)
        injection h1 with h1
        subst h1
        rw [Addr.add_add]
        exact (HBW.out.cell (by rw [block_add]; exact h2)).trans h3)
      have y0 : wr.cell? (ad.add (k * 11)) = some (.int .i64 a.kind) := HQ.out 0 _ rfl
      have y1 : wr.cell? ⟨(ad.add (k * 11)).block, (ad.add (k * 11)).off + 1, none⟩ = some (.int .i64 a.a) := HQ.out 1 _ rfl
      have y2 : wr.cell? ⟨(ad.add (k * 11)).block, (ad.add (k * 11)).off + 2, none⟩ = some (.int .i64 a.b) := HQ.out 2 _ rfl
      have y3 : wr.cell? ⟨(ad.add (k * 11)).block, (ad.add (k * 11)).off + 3, none⟩ = some (.int .i64 a.n) := HQ.out 3 _ rfl
      have y4 : wr.cell? ⟨(ad.add (k * 11)).block, (ad.add (k * 11)).off + 4, none⟩ = some (.int .i64 a.tenant) := HQ.out 4 _ rfl
      have y5 : wr.cell? ⟨(ad.add (k * 11)).block, (ad.add (k * 11)).off + 5, none⟩ = some (.int .i64 a.client) := HQ.out 5 _ rfl
      have y6 : wr.cell? ⟨(ad.add (k * 11)).block, (ad.add (k * 11)).off + 6, none⟩ = some (.int .i64 a.number) := HQ.out 6 _ rfl
      have y7 : wr.cell? ⟨(ad.add (k * 11)).block, (ad.add (k * 11)).off + 7, none⟩ = some (.int .i64 a.op) := HQ.out 7 _ rfl
      have y8 : wr.cell? ⟨(ad.add (k * 11)).block, (ad.add (k * 11)).off + 8, none⟩ = some (.int .i64 a.item) := HQ.out 8 _ rfl
      have y9 : wr.cell? ⟨(ad.add (k * 11)).block, (ad.add (k * 11)).off + 9, none⟩ = some (.string ⟨a.key.toArray⟩) := HQ.out 9 _ rfl
      have y10 : wr.cell? ⟨(ad.add (k * 11)).block, (ad.add (k * 11)).off + 10, none⟩ = some (.string ⟨a.value.toArray⟩) := HQ.out 10 _ rfl
      cases hwr : (writeRes a).2 with
      | false =>
        have HFR := Lib.hid (show formatRes l = ([], 1) by
          rw [formatRes, if_neg h4, if_neg]
          intro hh
          have := List.all_eq_true.1 hh a (List.mem_of_getElem? HX.out)
          rw [hwr] at this
          cases this)
        go_wp2_with fail
        refine (write_any a _ (by exact he.below (HBW.out.alloc HBW.out.size _)) HOK.out).mono ?_
        rintro e w2 ⟨A2, c2, rfl, _, hb2⟩
        have HB2 := Lib.hid ((HBW.out.alloc HBW.out.size _).trans (hb2.mono (by simp; omega)))
        rw [hwr]
        clear hb2
        go_wp2_with fail
        go_ret2
        rw [HFR.out]
        exact ⟨rfl, HB2.out⟩
      | true =>
        have HWR := Lib.hid hwr
        clear hwr
        go_wp2_with fail
        refine (write_any a _ (by exact he.below (HBW.out.alloc HBW.out.size _)) HOK.out).mono ?_
        rintro e w2 ⟨A2, c2, rfl, hR2, hb2⟩
        have HB2 := Lib.hid ((HBW.out.alloc HBW.out.size _).trans (hb2.mono (by simp; omega)))
        have HI2 := Lib.hid (isB_below (isB_below HI.out ((Below.refl _ _).alloc (Nat.le_refl _) _)) hb2)
        have HR2 := Lib.hid hR2
        rw [HWR.out]
        clear hb2 hR2
        go_wp2_with fail
        refine (join_words a A2 c2 w2 _ HWR.out HOK.out HR2.out).mono ?_
        rintro e w3 ⟨rfl, hb3⟩
        have HB3 := Lib.hid (HB2.out.trans (hb3.mono HB2.out.size))
        have HI3 := Lib.hid (isB_below HI2.out hb3)
        clear hb3
        have HJL := Lib.hid (join_len a HOK.out)
        have HTK := Lib.hid (show (l.take (k + 1)).flatMap lineText = (l.take k).flatMap lineText ++ Lib.join (writeRes a).1 [32] ++ [10] by
          rw [take_snoc' l k a HX.out, List.flatMap_append]
          simp [lineText])
        have HTA := Lib.hid (show (l.take (k + 1)).all (fun a => (writeRes a).2) = true by
          rw [take_snoc' l k a HX.out, List.all_append, HALL.out]
          simp [HWR.out])
        have hk4 : k < 400 := by omega
        have hfl := HFL.out
        have hjl := HJL.out
        go_wp2_with fail
        refine (writeString_any _ _ _ _ _ HI3.out (by rw [byteCells_len, size_list]; omega) (by have := HB3.out.size; omega)).mono ?_
        rintro e w4 ⟨rfl, hi4, hb4⟩
        have HI4 := Lib.hid hi4
        have HB4 := Lib.hid (HB3.out.trans hb4)
        clear hi4 hb4
        go_wp2_with fail
        refine (writeByte_any _ _ _ _ _ (.inr HI4.out) (by rw [strCells_list, List.length_append, byteCells_len, byteCells_len]; omega) (by have := HB4.out.size; omega)).mono ?_
        rintro e w5 ⟨rfl, hi5, hb5⟩
        have HI5 := Lib.hid hi5
        have HB5 := Lib.hid (HB4.out.trans hb5)
        clear hi5 hb5
        go_wp2_with fail
        go_roundw
        case rel =>
          refine ⟨k + 1, hlt, by go_num, HTA.out, .inr ?_, ?_, HB5.out⟩
          · rw [HTK.out, byteCells_app, byteCells_app]
            have := HI5.out
            rw [strCells_list] at this
            exact this
          · rw [HTK.out, List.length_append, List.length_append]
            simp only [List.length_cons, List.length_nil]
            omega
        case measure => simp [intOf]; omega
    · have hke : k = l.length := by omega
      have htk : l.take k = l := by rw [hke]; exact List.take_length
      rw [htk] at HI HALL HFL
      obtain ⟨tx, htx⟩ : ∃ tx, tx = l.flatMap lineText := ⟨_, rfl⟩
      rw [← htx] at HI HFL
      by_cases hbig : 16384 < tx.length
      · have HFR := Lib.hid (show formatRes l = ([], 2) by rw [formatRes, if_neg h4, if_pos HALL.out, ← htx, if_pos hbig])
        have d2 : decide (16384 < tx.length) = true := by simpa using hbig
        clear hke htk htx
        go_wp2_with fail
        refine (Tryd.Builder_Len _ _ _ _ HI.out).mono ?_
        rintro e w2 ⟨rfl, rfl⟩
        rw [byteCells_len]
        go_wp2_with fail
        go_ret2
        rw [HFR.out]
        exact ⟨rfl, HBW.out⟩
      · have HFR := Lib.hid (show formatRes l = (tx, 0) by rw [formatRes, if_neg h4, if_pos HALL.out, ← htx, if_neg hbig])
        have d2 : decide (16384 < tx.length) = false := by simpa using hbig
        clear hke htk htx
        go_wp2_with fail
        refine (Tryd.Builder_Len _ _ _ _ HI.out).mono ?_
        rintro e w2 ⟨rfl, rfl⟩
        rw [byteCells_len]
        go_wp2_with fail
        refine (Tryd.Builder_String_any _ _ _ _ HI.out (by omega)).mono ?_
        rintro e w3 ⟨rfl, hb3⟩
        have HB3 := Lib.hid (HBW.out.trans hb3)
        clear hb3
        go_wp2_with fail
        go_ret2
        rw [HFR.out]
        exact ⟨rfl, HB3.out⟩

end Go.Proofs.YtcgcfeablbjnaaaDoor
