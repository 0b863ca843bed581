/- The contract of script.Parse. -/
import Derived.Test.YtcgcfeablbjnaaaDoorScrG
import Derived.Lib.FieldsP
import Derived.Laws.RangeAny
namespace Go.Proofs.YtcgcfeablbjnaaaDoor
open Go.RowKit Go.BigFrame

theorem decode_pos (s : ByteArray) (pos : Nat) (h : pos < s.size) : 1 ≤ (Utf8.decode s pos).2 := by
  rcases Nat.lt_or_ge (s[pos]'h).toNat 128 with ha | ha
  · rw [decode_ascii s pos h ha]
    exact Nat.le_refl _
  · exact (decode_high s pos h ha).2

theorem spans_in (p : Nat → Bool) (s : ByteArray) : ∀ (f pos : Nat) (st : Option Nat) (acc : List (Nat × Nat)), (∀ x ∈ acc, x.1 < x.2 ∧ x.2 ≤ s.size) → (∀ a, st = some a → a < pos ∧ a < s.size) →
    (∀ x ∈ (Lib.spansFromP p s f pos st acc).1, x.1 < x.2 ∧ x.2 ≤ s.size) ∧ (∀ a, (Lib.spansFromP p s f pos st acc).2 = some a → a < s.size)
  | 0, pos, st, acc, h1, h2 => ⟨h1, fun a ha => (h2 a ha).2⟩
  | f + 1, pos, st, acc, h1, h2 => by
    unfold Lib.spansFromP
    by_cases hp : pos < s.size
    · rw [if_pos hp]
      have hd := decode_pos s pos hp
      split
      · cases st with
        | some a =>
          refine spans_in p s f _ _ _ ?_ (fun b hb => by cases hb)
          intro x hx
          rw [List.mem_append] at hx
          rcases hx with hx | hx
          · exact h1 x hx
          · simp at hx
            subst hx
            exact ⟨(h2 a rfl).1, by omega⟩
        | none => exact spans_in p s f _ _ _ h1 (fun b hb => by cases hb)
      · cases st with
        | some a =>
          refine spans_in p s f _ _ _ h1 (fun b hb => ?_)
          cases hb
          have := h2 a rfl
          exact ⟨by omega, this.2⟩
        | none =>
          refine spans_in p s f _ _ _ h1 (fun b hb => ?_)
          cases hb
          exact ⟨by omega, hp⟩
    · rw [if_neg hp]
      exact ⟨h1, fun a ha => (h2 a ha).2⟩

theorem fields_in (p : Nat → Bool) (s : ByteArray) : ∀ x ∈ Lib.goFieldsP p s, 1 ≤ x.size ∧ x.size ≤ s.size := by
  intro x hx
  unfold Lib.goFieldsP at hx
  obtain ⟨y, hy, rfl⟩ := List.mem_map.1 hx
  have hs := spans_in p s s.size 0 none [] (by simp) (by simp)
  have hy2 : y.1 < y.2 ∧ y.2 ≤ s.size := by
    unfold Lib.spansOfP Lib.closeSpans at hy
    split at hy
    · rename_i a ha
      rw [List.mem_append] at hy
      rcases hy with hy | hy
      · exact hs.1 y hy
      · simp at hy
        subst hy
        exact ⟨hs.2 a ha, Nat.le_refl _⟩
    · exact hs.1 y hy
  simp [ByteArray.size_extract]
  omega

/-- internal/bytealg's variable holds some number. -/
def MaxOk (w : World) : Prop := ∃ m : Int, w.cell? ⟨0, 0, none⟩ = some (.int .i64 m)
theorem MaxOk.lt {w : World} (h : MaxOk w) : 0 < w.heap.size := by
  obtain ⟨m, hm⟩ := h
  exact World.block_lt_of_cell? _ _ hm
theorem MaxOk.below {w w' : World} (h : MaxOk w) (hb : Below w.heap.size w w') : MaxOk w' := by
  have hl := h.lt
  obtain ⟨m, hm⟩ := h
  exact ⟨m, (hb.cell hl).trans hm⟩

/-- The words of a line. -/
def isBlank (r : Nat) : Bool := decide ((r : Int) = 32)
def wordsOf (l : List UInt8) : List (List UInt8) := (Lib.goFieldsP isBlank ⟨l.toArray⟩).map (·.data.toList)

theorem blank_any (r : Nat) (w : World) : Calls Tryd.prog 22 #[.int .i32 r] w fun e w' => e = .returned (.bool (isBlank r)) ∧ w = w' := by
  have HB := Lib.hid (show isBlank r = ((r : Int) == 32) by rfl)
  go_enter Tryd.func22, Tryd.ntmps22
  go_wp2
  go_ret
  exact ⟨ret_eq (by rw [HB.out]; rfl), rfl⟩

theorem blank_at (w : World) : PredAtRunes Tryd.prog 22 #[] isBlank w := fun W x _ _ =>
  (blank_any x W).mono fun _ _ h => ⟨h.1, 0, h.2.symm⟩

theorem fields_any (s : ByteArray) (w : World) (hs : s.size ≤ 4294967296) :
    Calls Tryd.prog 21 #[.string s, .func (.func 22) #[] #[]] w fun e w' => ∃ A, e = .returned (.slice (some A) (Lib.goFieldsP isBlank s).length (Lib.goFieldsP isBlank s).length) ∧ Rd w' w'.heap.size (some A) ((Lib.goFieldsP isBlank s).map Value.string) ∧ Below w.heap.size w w' := by
  refine (Tryd.strings_FieldsFunc_runes 22 #[] (enters_of Tryd.func22 (by kernel_rfl) rfl) isBlank s w hs (blank_at w)).mono ?_
  rintro e w' ⟨A, rfl, _, hown, hb⟩
  exact ⟨_, rfl, Rd.of_own hown, hb⟩

/-- The acts of a text, how many lines were read, the code. -/
def parseL : Nat → List UInt8 → Nat → List ActD → List ActD × Nat × Int
  | 0, _, n, acts => (acts, n, 0)
  | f + 1, t, n, acts =>
    if t = [] then (acts, n, 0) else
    if wordsOf (Lib.cut t [10]).1 ≠ [] ∧ ((wordsOf (Lib.cut t [10]).1).headD []).headD 0 ≠ 35 then
      match readAct (wordsOf (Lib.cut t [10]).1) with
      | none => ([], n, 1)
      | some a => if acts.length = 400 then ([], n, 2) else parseL f (Lib.cut t [10]).2.1 (n + 1) (acts ++ [a])
    else parseL f (Lib.cut t [10]).2.1 (n + 1) acts
def parseRes (l : List UInt8) : List ActD × Nat × Int := if 16384 < l.length then ([], 0, 2) else parseL l.length l 0 []

theorem cut_shorter (t : List UInt8) (h : t ≠ []) : (Lib.cut t [10]).2.1.length < t.length ∧ (Lib.cut t [10]).1.length ≤ t.length := by
  have hp : 0 < t.length := by cases t <;> simp_all
  unfold Lib.cut
  split
  · simp only [List.length_drop, List.length_take]
    simp
    omega
  · simp
    omega

/-- A slice of acts. -/
def actsCells (l : List ActD) : List Value := l.flatMap fun a => a.cells.toList
theorem etAct : ElemT Tryd.prog 35 25 (.agg ActD.zero.cells) 11 104 := ElemT.mk' Tryd.underlying35 (by kernel_rfl) rfl (by decide)
/-- What Parse hands back. -/
def ParseBack (w : World) (r : List ActD × Nat × Int) (e : Ending) (w' : World) : Prop :=
  ∃ v, e = .returned (.tuple #[v, .int .i64 r.2.1, .int .i64 r.2.2]) ∧ w'.ownsRow w.heap.size 25 11 v r.1.length (actsCells r.1) ∧ Below w.heap.size w w'

theorem read_some (A : Option Addr) (c : Nat) (ws : List ByteArray) (w : World) (a : ActD) (hne : 1 ≤ ws.length) (hsz : ∀ s ∈ ws, s.size ≤ 100000) (hlen : ws.length ≤ 100000) (hR : Rd w w.heap.size A (ws.map Value.string)) (h : readAct (ws.map (·.data.toList)) = some a) :
    Calls Tryd.prog 23 #[.slice A ws.length c] w fun e w' => e = .returned (.tuple #[.agg a.cells, .bool true]) ∧ Below w.heap.size w w' := by
  have := read_any A c ws w hne hsz hlen hR
  rw [h] at this
  exact this
theorem read_none (A : Option Addr) (c : Nat) (ws : List ByteArray) (w : World) (hne : 1 ≤ ws.length) (hsz : ∀ s ∈ ws, s.size ≤ 100000) (hlen : ws.length ≤ 100000) (hR : Rd w w.heap.size A (ws.map Value.string)) (h : readAct (ws.map (·.data.toList)) = none) :
    Calls Tryd.prog 23 #[.slice A ws.length c] w fun e w' => e = .returned (.tuple #[.agg ActD.zero.cells, .bool false]) ∧ Below w.heap.size w w' := by
  have := read_any A c ws w hne hsz hlen hR
  rw [h] at this
  exact this

theorem spans_count (p : Nat → Bool) (s : ByteArray) : ∀ (f pos : Nat) (st : Option Nat) (acc : List (Nat × Nat)), (Lib.spansFromP p s f pos st acc).1.length ≤ acc.length + f
  | 0, _, _, _ => Nat.le_refl _
  | f + 1, pos, st, acc => by
    unfold Lib.spansFromP
    split
    · split
      · cases st with
        | some a => have := spans_count p s f (pos + (Utf8.decode s pos).2) none (acc ++ [(a, pos)]); simp at this ⊢; omega
        | none => have := spans_count p s f (pos + (Utf8.decode s pos).2) none acc; simp at this ⊢; omega
      · cases st with
        | some a => have := spans_count p s f (pos + (Utf8.decode s pos).2) (some a) acc; simp at this ⊢; omega
        | none => have := spans_count p s f (pos + (Utf8.decode s pos).2) (some pos) acc; simp at this ⊢; omega
    · simp
theorem fields_count (p : Nat → Bool) (s : ByteArray) : (Lib.goFieldsP p s).length ≤ s.size + 1 := by
  unfold Lib.goFieldsP Lib.spansOfP Lib.closeSpans
  have := spans_count p s s.size 0 none []
  split <;> simp at this ⊢ <;> omega

set_option maxRecDepth 100000 in
set_option maxHeartbeats 4000000 in
theorem parse_any (s : ByteArray) (w : World) (hm : MaxOk w) : Calls Tryd.prog 12 #[.string s] w (ParseBack w (parseRes s.data.toList)) := by
  by_cases hbig : 16384 < s.size
  · have HP := Lib.hid (show parseRes s.data.toList = ([], 0, 2) by rw [parseRes, if_pos (by simpa using hbig)])
    go_enter Tryd.func12, Tryd.ntmps12
    go_wp2_with fail
    go_ret3
    rw [HP.out]
    exact ⟨_, rfl, World.ownsRow_nil _ _ _ _, Below.refl _ _⟩
  have HP := Lib.hid (show parseRes s.data.toList = parseL s.size s.data.toList 0 [] by rw [parseRes, if_neg (by simpa using hbig)]; simp)
  go_enter Tryd.func12, Tryd.ntmps12
  go_wp2_with fail
  go_loopw [0, 5, 6] (fun x v i wr => ∃ (t : ByteArray) (n f : Nat) (acts : List ActD), x = .string t ∧ i = .int .i64 n ∧ n + t.size ≤ 16384 ∧ t.size ≤ f ∧ acts.length ≤ 400 ∧ parseL f t.data.toList n acts = parseRes s.data.toList ∧ wr.ownsRow w.heap.size 25 11 v acts.length (actsCells acts) ∧ Below w.heap.size w wr)
    (fun x _ _ _ => (match x with | .string t => t.size | _ => 0))
  case atStart => exact ⟨s, 0, s.size, [], rfl, rfl, by omega, Nat.le_refl _, by simp, HP.out.symm, World.ownsRow_nil _ _ _ _, Below.refl _ _⟩
  case round =>
    obtain ⟨t, n, f, acts, rfl, rfl, hnt, htf, hal, hpl, hown, hbw⟩ := hrel
    have HPL := Lib.hid hpl
    have HO := Lib.hid hown
    have HBW := Lib.hid hbw
    clear hpl hown hbw
    by_cases ht : 0 < t.size
    · obtain ⟨m, hmm⟩ := hm.below HBW.out
      go_wp2_with fail
      refine (Tryd.strings_Cut _ _ m _ (by omega) hmm).mono ?_
      rintro e w1 ⟨rfl, nd, rfl⟩
      have htne : t.data.toList ≠ [] := by
        intro e
        have h0 : t.data.toList.length = 0 := by rw [e]; rfl
        rw [Array.length_toList] at h0
        have h1 : t.data.size = t.size := rfl
        omega
      have hsh := cut_shorter t.data.toList htne
      have hts : t.data.toList.length = t.size := by simp
      obtain ⟨f', hf'⟩ : ∃ f', f = f' + 1 := ⟨f - 1, by omega⟩
      have HUN := Lib.hid (show parseL f t.data.toList n acts = if wordsOf (Lib.cut t.data.toList [10]).1 ≠ [] ∧ ((wordsOf (Lib.cut t.data.toList [10]).1).headD []).headD 0 ≠ 35 then
          (match readAct (wordsOf (Lib.cut t.data.toList [10]).1) with
          | none => ([], n, 1)
          | some a => if acts.length = 400 then ([], n, 2) else parseL f' (Lib.cut t.data.toList [10]).2.1 (n + 1) (acts ++ [a]))
        else parseL f' (Lib.cut t.data.toList [10]).2.1 (n + 1) acts by rw [hf', parseL, if_neg htne])
      rw [show (⟨#[10]⟩ : ByteArray).data.toList = [10] from rfl]
      generalize Lib.cut t.data.toList [10] = cc at *
      obtain ⟨l, r, b⟩ := cc
      simp only at hsh HUN ⊢
      have hr1 : r.length < t.size := by omega
      have hr2 : l.length ≤ t.size := by omega
      have hf2 : r.length ≤ f' := by omega
      clear hsh hts htne hf' hmm
      go_wp2_with fail
      refine (fields_any _ _ (by show l.toArray.size ≤ _; simp; omega)).mono ?_
      rintro e w2 ⟨A2, rfl, hR2, hb2⟩
      have hfi := fields_in isBlank ⟨l.toArray⟩
      have hfc := fields_count isBlank ⟨l.toArray⟩
      have hls : (⟨l.toArray⟩ : ByteArray).size = l.length := by show l.toArray.size = _; simp
      rw [hls] at hfc
      have HWO := Lib.hid (show wordsOf l = (Lib.goFieldsP isBlank ⟨l.toArray⟩).map (·.data.toList) from rfl)
      generalize Lib.goFieldsP isBlank ⟨l.toArray⟩ = ws at *
      have HFI := Lib.hid (show ∀ x ∈ ws, 1 ≤ x.size ∧ x.size ≤ 100000 from fun x hx => ⟨(hfi x hx).1, by have := (hfi x hx).2; rw [hls] at this; omega⟩)
      have HR2 := Lib.hid hR2
      have HO2 := Lib.hid (own_below (w' := w2) (w := wr.drewN nd) HO.out hb2)
      have HB2 := Lib.hid ((below_drewN HBW.out nd).trans (hb2.mono HBW.out.size))
      clear hfi hls hR2 hb2
      by_cases hw0 : 0 < ws.length
      · have d0 : decide (0 < ws.length) = true := by simpa using hw0
        obtain ⟨w0, hw0e⟩ : ∃ w0, ws[0]? = some w0 := ⟨ws[0], by simp [hw0]⟩
        obtain ⟨z1, z2⟩ := HFI.out w0 (List.mem_of_getElem? hw0e)
        obtain ⟨ad, hade, hadb, hcw⟩ := HR2.out 0 (.string w0) (by simp [hw0e])
        injection hade with hade
        subst hade
        rw [show A2.add 0 = A2 from rfl] at hcw
        have hz1 : 0 < w0.size := by omega
        have HHD := Lib.hid (show wordsOf l ≠ [] ∧ ((wordsOf l).headD []).headD 0 = w0[0] by
          rw [HWO.out]
          cases ws with
          | nil => simp at hw0
          | cons a r =>
            simp at hw0e
            subst hw0e
            refine ⟨by simp, ?_⟩
            rw [← getD_byte a 0 hz1]
            simp [List.headD_eq_head?_getD, List.head?_eq_getElem?])
        have HW0 := Lib.hid hw0e
        clear hw0e
        by_cases hc35 : w0[0] = 35
        · have d1 : ((w0[0].toNat : Int) != 35) = false := by rw [hc35]; rfl
          have HU2 := Lib.hid (show parseL f' r (n + 1) acts = parseRes s.data.toList by
            rw [← HPL.out, HUN.out, if_neg (by rw [HHD.out.2, hc35]; simp)])
          clear hc35
          go_wp2_with fail
          go_roundw
          case rel => exact ⟨⟨r.toArray⟩, n + 1, f', acts, rfl, by go_num, by show n + 1 + r.toArray.size ≤ _; simp; omega, by show r.toArray.size ≤ _; simpa using hf2, hal, HU2.out, HO2.out, HB2.out⟩
          case measure => show r.toArray.size < _; simpa using hr1
        · have d1 : ((w0[0].toNat : Int) != 35) = true := by
            rw [bne_iff_ne]
            intro e
            apply hc35
            apply UInt8.toNat_inj.1
            have : w0[0].toNat = 35 := by omega
            exact this
          have HU2 := Lib.hid (show (match readAct (wordsOf l) with
            | none => ([], n, 1)
            | some a => if acts.length = 400 then ([], n, 2) else parseL f' r (n + 1) (acts ++ [a])) = parseRes s.data.toList by
            rw [← HPL.out, HUN.out, if_pos ⟨HHD.out.1, by rw [HHD.out.2]; exact hc35⟩])
          clear hc35
          go_wp2_with fail
          cases hra : readAct (ws.map (·.data.toList)) with
          | none =>
            refine (read_none _ _ ws _ hw0 (fun x hx => (HFI.out x hx).2) (by omega) HR2.out hra).mono ?_
            rintro e w3 ⟨rfl, hb3⟩
            have HRE := Lib.hid (show parseRes s.data.toList = ([], n, 1) by rw [← HU2.out, HWO.out, hra])
            have HB3 := Lib.hid (HB2.out.trans (hb3.mono HB2.out.size))
            clear hra hb3
            simp only [ActD.cells, ActD.zero]
            go_wp2_with fail
            go_ret3
            rw [HRE.out]
            exact ⟨_, rfl, World.ownsRow_nil _ _ _ _, HB3.out.alloc HB3.out.size _⟩
          | some a =>
            refine (read_some _ _ ws _ a hw0 (fun x hx => (HFI.out x hx).2) (by omega) HR2.out hra).mono ?_
            rintro e w3 ⟨rfl, hb3⟩
            have HU3 := Lib.hid (show (if acts.length = 400 then ([], n, 2) else parseL f' r (n + 1) (acts ++ [a])) = parseRes s.data.toList by rw [← HU2.out, HWO.out, hra])
            have HB3 := Lib.hid (HB2.out.trans (hb3.mono HB2.out.size))
            have HO3 := Lib.hid (own_below HO2.out hb3)
            clear hra hb3
            simp only [ActD.cells]
            obtain ⟨A0, c0, rfl⟩ := own_form HO3.out
            by_cases h400 : acts.length = 400
            · have d4 : ((acts.length : Int) == 400) = true := by rw [h400]; rfl
              have HRE := Lib.hid (show parseRes s.data.toList = ([], n, 2) by rw [← HU3.out, if_pos h400])
              clear h400
              go_wp2_with fail
              go_ret3
              rw [HRE.out]
              exact ⟨_, rfl, World.ownsRow_nil _ _ _ _, HB3.out.alloc HB3.out.size _⟩
            · have d4 : ((acts.length : Int) == 400) = false := beq_eq_false_iff_ne.2 (by omega)
              have HRE := Lib.hid (show parseL f' r (n + 1) (acts ++ [a]) = parseRes s.data.toList by rw [← HU3.out, if_neg h400])
              have hlt4 : acts.length < 400 := by omega
              clear h400
              go_wp2_with (at_builtin; refine wpList_appAt etAct rfl _ _ rfl w.heap.size _ acts.length _ rfl (by exact HO3.out.alloc _) a.cells rfl (by simp [ActD.cells, Value.oneCell']) (w3.heap.size + 1) (by simp) rfl (by omega) (by omega) (by have := HB3.out.size; simp; omega) ?_; intro v' w4 hown4 hg4 hat4)
              go_roundw
              case rel =>
                refine ⟨⟨r.toArray⟩, n + 1, f', acts ++ [a], rfl, by go_num, by show n + 1 + r.toArray.size ≤ _; simp; omega, by show r.toArray.size ≤ _; simpa using hf2, by simp; omega, HRE.out, ?_, below_app (HO3.out.alloc _) (HB3.out.alloc HB3.out.size _) (Nat.le_refl _) (by have := HB3.out.size; simp; omega) hg4⟩
                rw [List.length_append, actsCells, List.flatMap_append]
                simpa [actsCells] using hown4
              case measure => show r.toArray.size < _; simpa using hr1
      · have d0 : decide (0 < ws.length) = false := by simpa using hw0
        have HU2 := Lib.hid (show parseL f' r (n + 1) acts = parseRes s.data.toList by
          have : wordsOf l = [] := by
            rw [HWO.out]
            cases ws with
            | nil => rfl
            | cons a r => simp at hw0
          rw [← HPL.out, HUN.out, if_neg (by rw [this]; simp)])
        go_wp2_with fail
        go_roundw
        case rel => exact ⟨⟨r.toArray⟩, n + 1, f', acts, rfl, by go_num, by show n + 1 + r.toArray.size ≤ _; simp; omega, by show r.toArray.size ≤ _; simpa using hf2, hal, HU2.out, HO2.out, HB2.out⟩
        case measure => show r.toArray.size < _; simpa using hr1
    · have HE := Lib.hid (show parseRes s.data.toList = (acts, n, 0) by
        rw [← HPL.out]
        have h0 : t.data.toList = [] := by
          apply List.eq_nil_of_length_eq_zero
          rw [Array.length_toList]
          have h1 : t.data.size = t.size := rfl
          omega
        rw [h0]
        cases f <;> rfl)
      go_wp2_with fail
      go_ret3
      rw [HE.out]
      exact ⟨_, rfl, HO.out, HBW.out⟩

end Go.Proofs.YtcgcfeablbjnaaaDoor
