/- The contract of script.write. -/
import Derived.Test.YtcgcfeablbjnaaaDoorBuild
import Derived.Laws.StructEq
namespace Go.Proofs.YtcgcfeablbjnaaaDoor
open Go.RowKit Go.BigFrame

/-- A number, and a text, of an act. -/
def ActD.num (x : ActD) (k : Nat) : Int :=
  if k = 1 then x.a else if k = 2 then x.b else if k = 3 then x.n else if k = 4 then x.tenant else if k = 5 then x.client else if k = 6 then x.number else x.item
def ActD.txt (x : ActD) (k : Nat) : List UInt8 := if k = 9 then x.key else x.value
/-- The word of a letter. -/
def fldWord (a : ActD) (c : UInt8) : List UInt8 :=
  match numCell c.toNat with
  | some k => Lib.itoa (a.num k)
  | none => txtOf (a.txt (txtCell c.toNat))
def lineOf (a : ActD) (x : LineK) : Bool := decide (x.kind = a.kind) && decide (x.op = a.op)
def wordsFor (a : ActD) (x : LineK) : List (List UInt8) := x.word :: x.letters.map (fldWord a)
/-- Are two acts the same? -/
def sameAct (a b : ActD) : Bool := a.kind == b.kind && (a.a == b.a && (a.b == b.b && (a.n == b.n && (a.tenant == b.tenant && (a.client == b.client && (a.number == b.number && (a.op == b.op && (a.item == b.item && (a.key == b.key && a.value == b.value)))))))))
theorem sameAct_iff (a b : ActD) : sameAct a b = true ↔ a = b := by
  obtain ⟨a1, a2, a3, a4, a5, a6, a7, a8, a9, a10, a11⟩ := a
  obtain ⟨b1, b2, b3, b4, b5, b6, b7, b8, b9, b10, b11⟩ := b
  simp [sameAct]
set_option maxHeartbeats 2000000 in
theorem run_eqAct (a b : ActD) (W : World) : (Go.binOp .eql 25 (.agg a.cells) (.agg b.cells)).run Tryd.prog W = .ok (.bool (sameAct a b)) W := by
  rw [run_eql_struct]
  simp only [ActD.cells]
  have hs : Tryd.prog.stoodInHeld 25 = false := by kernel_rfl
  have hs2 : Tryd.prog.stoodInHeld 23 = false := by kernel_rfl
  simp [go_sem, hs, hs2, sameAct]
  repeat' split
  all_goals simp_all
/-- The words of an act's line; does the line describe the act? -/
def writeRes (a : ActD) : List (List UInt8) × Bool :=
  match lineTab.find? (lineOf a) with
  | some x => (wordsFor a x, ((readAct (wordsFor a x)).map (sameAct a)).getD false)
  | none => ([], false)

/-- An act as the walks can bear it. -/
structure ActOk (a : ActD) : Prop where
  num : ∀ k, -9223372036854775808 ≤ a.num k ∧ a.num k ≤ 9223372036854775807
  key : a.key.length ≤ 40000
  value : a.value.length ≤ 40000

theorem act_num {w : World} {g k : Nat} {t : TypeId} {x : ActD} (h : Blk w g t x.cells) (hk : k = 1 ∨ k = 2 ∨ k = 3 ∨ k = 4 ∨ k = 5 ∨ k = 6 ∨ k = 8) : w.cell? ⟨g, k, none⟩ = some (.int .i64 (x.num k)) := by
  rcases hk with rfl | rfl | rfl | rfl | rfl | rfl | rfl <;> exact h.cell _
theorem act_txt {w : World} {g k : Nat} {t : TypeId} {x : ActD} (h : Blk w g t x.cells) (hk : k = 9 ∨ k = 10) : w.cell? ⟨g, k, none⟩ = some (.string ⟨(x.txt k).toArray⟩) := by
  rcases hk with rfl | rfl <;> exact h.cell _

theorem own_ne {w : World} {base : Nat} {e : TypeId} {size n g : Nat} {v : Value} {xs : List Value} {o : Obj} (hown : w.ownsRow base e size v n xs) (ho : w.heap[g]? = some o) (hne : ∀ cur fz, o ≠ .cells cur e fz) : some g ≠ v.ownBlock := by
  rcases hown.2 with ⟨rfl, _⟩ | ⟨g', cap, cur, rfl, _, hh, _⟩
  · simp [Value.ownBlock]
  · intro he
    simp [Value.ownBlock] at he
    subst he
    rw [hh] at ho
    exact hne _ _ (Option.some.inj ho).symm

theorem etStr : ElemT Tryd.prog 43 9 (.string ⟨#[]⟩) 1 16 := ElemT.mk' Tryd.underlying43 (by kernel_rfl) rfl (by decide)

theorem own_new1 (w : World) (e : TypeId) (u : Value) (base : Nat) (hb : base ≤ w.heap.size) (g : Nat) (hg : g = w.heap.size) : (w.alloc (.cells #[u] e)).ownsRow base e 1 (.slice (some ⟨g, 0, none⟩) 1 1) 1 [u] := by
  subst hg
  exact ⟨rfl, .inr ⟨w.heap.size, 1, #[u], rfl, hb, Blk.new w e #[u], Nat.le_refl _, by decide, rfl, rfl⟩⟩

def strV (l : List UInt8) : Value := .string ⟨l.toArray⟩

theorem own_cap {w : World} {base : Nat} {e : TypeId} {size n c : Nat} {A : Option Addr} {xs : List Value} (h : w.ownsRow base e size (.slice A n c) n xs) : n ≤ c := by
  rcases h.2 with ⟨h1, h2⟩ | ⟨g, cap, cur, h1, _, _, h3, _⟩
  · omega
  · injection h1 with _ _ h4
    omega

theorem read_words (wl : List (List UInt8)) (A : Option Addr) (n c : Nat) (w : World) (hn : n = wl.length) (h1 : 1 ≤ n) (h2 : n ≤ 100000) (hsz : ∀ l ∈ wl, l.length ≤ 100000) (hR : Rd w w.heap.size A (wl.map strV)) :
    Calls Tryd.prog 23 #[.slice A n c] w fun e w' => e = .returned (actVal (readAct wl)) ∧ Below w.heap.size w w' := by
  have e1 : (wl.map fun l => (⟨l.toArray⟩ : ByteArray)).map (·.data.toList) = wl := by
    rw [List.map_map]
    exact List.map_id'' (fun _ => rfl) wl
  have := read_any A c (wl.map fun l => (⟨l.toArray⟩ : ByteArray)) w (by simp; omega) (by
    intro s hs
    obtain ⟨l, hl, rfl⟩ := List.mem_map.1 hs
    rw [size_list]
    exact hsz l hl) (by simp; omega) (by
    rw [List.map_map]
    exact hR)
  rw [e1, List.length_map, ← hn] at this
  exact this
theorem read_words_some (wl : List (List UInt8)) (A : Option Addr) (n c : Nat) (w : World) (b : ActD) (hn : n = wl.length) (h1 : 1 ≤ n) (h2 : n ≤ 100000) (hsz : ∀ l ∈ wl, l.length ≤ 100000) (hR : Rd w w.heap.size A (wl.map strV)) (h : readAct wl = some b) :
    Calls Tryd.prog 23 #[.slice A n c] w fun e w' => e = .returned (.tuple #[.agg b.cells, .bool true]) ∧ Below w.heap.size w w' := by
  have := read_words wl A n c w hn h1 h2 hsz hR
  rw [h] at this
  exact this
theorem read_words_none (wl : List (List UInt8)) (A : Option Addr) (n c : Nat) (w : World) (hn : n = wl.length) (h1 : 1 ≤ n) (h2 : n ≤ 100000) (hsz : ∀ l ∈ wl, l.length ≤ 100000) (hR : Rd w w.heap.size A (wl.map strV)) (h : readAct wl = none) :
    Calls Tryd.prog 23 #[.slice A n c] w fun e w' => e = .returned (.tuple #[.agg ActD.zero.cells, .bool false]) ∧ Below w.heap.size w w' := by
  have := read_words wl A n c w hn h1 h2 hsz hR
  rw [h] at this
  exact this

theorem own_iterAt {w : World} {base : Nat} {e : TypeId} {size n g i : Nat} {v : Value} {xs : List Value} {s : ByteArray} (hown : w.ownsRow base e size v n xs) (hit : w.heap[g]? = some (.stringIter s i)) {p : Nat} : (w.iterAt g s p).ownsRow base e size v n xs := by
  have hne := own_ne (g := g) hown hit (by simp)
  rcases hown.2 with ⟨rfl, h0⟩ | ⟨g', cap, cur, rfl, hb, hh, r⟩
  · exact ⟨hown.1, .inl ⟨rfl, h0⟩⟩
  · refine ⟨hown.1, .inr ⟨g', cap, cur, rfl, hb, ?_, r⟩⟩
    exact (Lib.iterAt_other w g g' s p (by simp [Value.ownBlock] at hne; omega)).trans hh

theorem fldWord_len (a : ActD) (h : ActOk a) (c : UInt8) : (fldWord a c).length ≤ 90000 := by
  unfold fldWord
  split
  · rename_i k _
    have := Lib.itoa_length_le (a.num k) (h.num k).1 (h.num k).2
    omega
  · have := txtOf_len (a.txt (txtCell c.toNat))
    have : (a.txt (txtCell c.toNat)).length ≤ 40000 := by
      unfold ActD.txt
      split
      · exact h.key
      · exact h.value
    omega

theorem letters_few : ∀ x ∈ lineTab, x.letters.length ≤ 6 ∧ x.word.length ≤ 10 := by decide +kernel

set_option maxRecDepth 100000 in
set_option maxHeartbeats 4000000 in
theorem write_any (a : ActD) (w : World) (he : Env w) (hok : ActOk a) :
    Calls Tryd.prog 24 #[.agg a.cells] w fun e w' => ∃ A c, e = .returned (.tuple #[.slice A (writeRes a).1.length c, .bool (writeRes a).2]) ∧ w'.ownsRow w.heap.size 9 1 (.slice A (writeRes a).1.length c) (writeRes a).1.length ((writeRes a).1.map strV) ∧ Below w.heap.size w w' := by
  have HCE := Lib.hid (show a.cells = #[.int .i64 a.kind, .int .i64 a.a, .int .i64 a.b, .int .i64 a.n, .int .i64 a.tenant, .int .i64 a.client, .int .i64 a.number, .int .i64 a.op, .int .i64 a.item, .string ⟨a.key.toArray⟩, .string ⟨a.value.toArray⟩] from rfl)
  rw [HCE.out]
  go_enter Tryd.func24, Tryd.ntmps24
  go_wp2_with fail
  refine (lines_any _).mono ?_
  rintro e w1 ⟨rfl, rfl⟩
  go_wp2_with fail
  rw [← HCE.out]
  go_loopw [14] (fun i wr => ∃ k : Nat, k ≤ 22 ∧ i = .int .i64 k ∧ (lineTab.take k).find? (lineOf a) = none ∧ Blk wr w.heap.size 25 a.cells ∧ Blk wr (w.heap.size + 1) 48 lineCells ∧ Below w.heap.size w wr) (fun i _ => 22 - (intOf i).toNat)
  case atStart => exact ⟨0, by omega, rfl, rfl, (Blk.newAt _ _ _ _ rfl).alloc _, Blk.newAt _ _ _ _ (by simp), ((Below.refl _ _).alloc (Nat.le_refl _) _).alloc (by simp) _⟩
  case round =>
    obtain ⟨k, hk, rfl, hno, hba, hbl, hbw⟩ := hrel
    have HNO := Lib.hid hno
    have HA := Lib.hid hba
    have HB := Lib.hid hbl
    have HBW := Lib.hid hbw
    have hsw := hbw.size
    clear hno hbl hbw hba
    by_cases hlt : k < 22
    · have dk : decide ((k : Int) < 22) = true := by simp; omega
      have hx : lineTab[k]? = some (lineTab[k]'(by simpa [lineTab] using hlt)) := List.getElem?_eq_getElem _
      generalize (lineTab[k]'(by simpa [lineTab] using hlt)) = x at hx
      have HX := Lib.hid hx
      have c0 := line_cell HB.out k 0 (by omega) x hx
      have c1 := line_cell HB.out k 1 (by omega) x hx
      have c2 := line_cell HB.out k 2 (by omega) x hx
      have c3 := line_cell HB.out k 3 (by omega) x hx
      simp only [LineK.cells, Nat.add_zero, List.getElem?_cons_zero, List.getElem?_cons_succ] at c0 c1 c2 c3
      clear hx
      have hal := HA.out.lt
      have a0 : wr.cell? ⟨w.heap.size, 0, none⟩ = some (.int .i64 a.kind) := HA.out.cell 0
      have a7 : wr.cell? ⟨w.heap.size, 7, none⟩ = some (.int .i64 a.op) := HA.out.cell 7
      by_cases hq1 : x.kind = a.kind
      · have q1 : (x.kind != a.kind) = false := by simp [hq1]
        by_cases hq2 : x.op = a.op
        · have q2 : (x.op != a.op) = false := by simp [hq2]
          have HF := Lib.hid (show lineOf a x = true by simp [lineOf, hq1, hq2])
          clear hq1 hq2
          go_wp2_with fail
          obtain ⟨wo, rfl⟩ : ∃ wo : World, wo = wr := ⟨_, rfl⟩
          have HAS := Lib.hid (letters_ascii x (List.mem_of_getElem? HX.out))
          have HFEW := Lib.hid (letters_few x (List.mem_of_getElem? HX.out))
          go_loopw [6] (fun v wr => ∃ i : Nat, i ≤ x.letters.length ∧ wr.heap[wo.heap.size + 1 + 1]? = some (.stringIter ⟨x.letters.toArray⟩ i) ∧ Blk wr w.heap.size 25 a.cells ∧ wr.ownsRow w.heap.size 9 1 v (i + 1) ((x.word :: (x.letters.take i).map (fldWord a)).map strV) ∧ Below w.heap.size w wr ∧ wo.heap.size + 3 ≤ wr.heap.size) (fun _ wr => x.letters.length - wr.iterPos (wo.heap.size + 1 + 1))
          case atStart =>
            refine ⟨0, Nat.zero_le _, iter_at _ _ _ _ (by simp), Blk.alloc ((HA.out.alloc _).alloc _) _, ?_, ?_, by simp [World.iter]⟩
            · exact (own_new1 _ _ _ _ (by simp; omega) _ (by simp)).alloc _
            · exact ((HBW.out.alloc HBW.out.size _).alloc (by simp; omega) _).alloc (by simp; omega) _
          case round =>
            obtain ⟨i, hi, hit, hba, hown, hbw, hszz⟩ := hrel
            have HIT := Lib.hid hit
            have HA2 := Lib.hid hba
            have HO := Lib.hid hown
            have HBW2 := Lib.hid hbw
            clear hba hown hbw c0 c1 c2 c3 a0 a7
            by_cases hli : i < x.letters.length
            · have hca := HAS.out (x.letters[i]) (List.getElem_mem hli)
              have hnx : ∀ ty, (Instr.next (.pointer (some ⟨wo.heap.size + 1 + 1, 0, none⟩)) true ty).run Tryd.prog wr = .ok (.tuple #[.bool true, .int .i64 i, .int .i32 (x.letters[i].toNat : Int)]) (wr.iterAt (wo.heap.size + 1 + 1) ⟨x.letters.toArray⟩ (i + 1)) := fun ty => Lib.run_next_ascii_at wr _ ⟨x.letters.toArray⟩ i ty hit (by show i < x.letters.toArray.size; simpa using hli) hca
              have HAi := Lib.hid (blk_iterAt (s := ⟨x.letters.toArray⟩) (p := i + 1) (k := wo.heap.size + 1 + 1) HA2.out (by omega))
              have HBWi := Lib.hid (Lib.below_iterAt HBW2.out (k := wo.heap.size + 1 + 1) (by omega) ⟨x.letters.toArray⟩ (i + 1))
              have HITi := Lib.hid (Lib.iterAt_heap wr (wo.heap.size + 1 + 1) ⟨x.letters.toArray⟩ i (i + 1) hit)
              have hszi : wo.heap.size + 3 ≤ (wr.iterAt (wo.heap.size + 1 + 1) ⟨x.letters.toArray⟩ (i + 1)).heap.size := by rw [Lib.iterAt_size]; exact hszz
              have HOi := Lib.hid (show (wr.iterAt (wo.heap.size + 1 + 1) ⟨x.letters.toArray⟩ (i + 1)).ownsRow w.heap.size 9 1 _ (i + 1) ((x.word :: (x.letters.take i).map (fldWord a)).map strV) from own_iterAt HO.out hit)
              have HTK := Lib.hid (show (x.word :: (x.letters.take (i + 1)).map (fldWord a)).map strV = (x.word :: (x.letters.take i).map (fldWord a)).map strV ++ [strV (fldWord a x.letters[i])] by
                rw [List.take_succ_eq_append_getElem hli]
                simp only [List.map_append, List.map_cons, List.map_nil, List.cons_append])
              clear hit
              obtain ⟨A0, cc0, rfl⟩ := own_form HO.out
              generalize wr.iterAt (wo.heap.size + 1 + 1) ⟨x.letters.toArray⟩ (i + 1) = wi at *
              go_wp2_with fail
              cases hnc : numCell (x.letters[i].toNat : Int) with
              | some kk =>
                have HKK := Lib.hid (numCell_in hnc)
                have HFW := Lib.hid (show fldWord a x.letters[i] = Lib.itoa (a.num kk) by unfold fldWord; rw [hnc])
                have HNC := Lib.hid hnc
                clear hnc
                have hv0 := act_num HAi.out HKK.out
                refine (number_some _ kk _ _ HNC.out).mono ?_
                rintro e w1 ⟨rfl, rfl⟩
                go_wp2_with fail
                refine (itoa_any _ (hok.num kk).1 (hok.num kk).2 _ (he.below HBWi.out)).mono ?_
                rintro e w2 ⟨rfl, hb2⟩
                have HA3 := Lib.hid (HAi.out.below hb2 HAi.out.lt)
                have HO3 := Lib.hid (own_below HOi.out hb2)
                have HBW3 := Lib.hid (HBWi.out.trans (hb2.mono HBWi.out.size))
                have HIT3 := Lib.hid ((hb2.block (wo.heap.size + 1 + 1) (by omega)).trans HITi.out)
                have hs2 : wo.heap.size + 3 ≤ w2.heap.size := by have := hb2.size; omega
                clear hb2
                go_wp2_with (at_builtin; refine wpList_app etStr rfl _ _ rfl w.heap.size _ (i + 1) _ rfl (by exact HO3.out) #[.string ⟨(Lib.itoa (a.num kk)).toArray⟩] rfl (by simp [Value.oneCell']) rfl (by have := HFEW.out; omega) (by omega) (by omega) ?_; intro v' w4 hown4 hg4 hat4)
                have hn1 := own_ne (g := wo.heap.size + 1 + 1) HO3.out HIT3.out (by simp)
                have hn2 := own_ne (g := w.heap.size) HO3.out HA3.out (by simp)
                have HIT4 := Lib.hid ((hg4.block _ (by omega) hn1).trans HIT3.out)
                go_roundw
                case rel =>
                  refine ⟨i + 1, hli, HIT4.out, HA3.out.grown hg4 hn2, ?_, below_app HO3.out HBW3.out (Nat.le_refl _) (by omega) hg4, by have := hg4.size; omega⟩
                  rw [HTK.out, HFW.out]
                  exact hown4
                case measure =>
                  have e1 : w4.iterPos (wo.heap.size + 1 + 1) = i + 1 := iterPos_of HIT4.out
                  have e2 : wr.iterPos (wo.heap.size + 1 + 1) = i := iterPos_of HIT.out
                  rw [e1, e2]
                  omega
              | none =>
                have HTC := Lib.hid (txtCell_in (x.letters[i].toNat : Int))
                have HFW := Lib.hid (show fldWord a x.letters[i] = txtOf (a.txt (txtCell x.letters[i].toNat)) by unfold fldWord; rw [hnc])
                have HNC := Lib.hid hnc
                clear hnc
                refine (number_none _ _ _ HNC.out).mono ?_
                rintro e w1 ⟨rfl, rfl⟩
                go_wp2_with fail
                refine (text_any _ _ _).mono ?_
                rintro e w1 ⟨rfl, rfl⟩
                generalize txtCell (x.letters[i].toNat : Int) = tc at *
                have hv0 := act_txt HAi.out HTC.out
                have HTL := Lib.hid (show (a.txt tc).length ≤ 40000 by
                  unfold ActD.txt
                  split
                  · exact hok.key
                  · exact hok.value)
                go_wp2_with fail
                refine (writeText_any _ _ (by rw [size_list]; have := HTL.out; omega)).mono ?_
                rintro e w2 ⟨rfl, hb2⟩
                have HA3 := Lib.hid (HAi.out.below hb2 HAi.out.lt)
                have HO3 := Lib.hid (own_below HOi.out hb2)
                have HBW3 := Lib.hid (HBWi.out.trans (hb2.mono HBWi.out.size))
                have HIT3 := Lib.hid ((hb2.block (wo.heap.size + 1 + 1) (by omega)).trans HITi.out)
                have hs2 : wo.heap.size + 3 ≤ w2.heap.size := by have := hb2.size; omega
                clear hb2
                go_wp2_with (at_builtin; refine wpList_app etStr rfl _ _ rfl w.heap.size _ (i + 1) _ rfl (by exact HO3.out) #[.string ⟨(txtOf (a.txt tc)).toArray⟩] rfl (by simp [Value.oneCell']) rfl (by have := HFEW.out; omega) (by omega) (by omega) ?_; intro v' w4 hown4 hg4 hat4)
                have hn1 := own_ne (g := wo.heap.size + 1 + 1) HO3.out HIT3.out (by simp)
                have hn2 := own_ne (g := w.heap.size) HO3.out HA3.out (by simp)
                have HIT4 := Lib.hid ((hg4.block _ (by omega) hn1).trans HIT3.out)
                go_roundw
                case rel =>
                  refine ⟨i + 1, hli, HIT4.out, HA3.out.grown hg4 hn2, ?_, below_app HO3.out HBW3.out (Nat.le_refl _) (by omega) hg4, by have := hg4.size; omega⟩
                  rw [HTK.out, HFW.out]
                  exact hown4
                case measure =>
                  have e1 : w4.iterPos (wo.heap.size + 1 + 1) = i + 1 := iterPos_of HIT4.out
                  have e2 : wr.iterPos (wo.heap.size + 1 + 1) = i := iterPos_of HIT.out
                  rw [e1, e2]
                  omega
            · have hie : i = x.letters.length := by omega
              have hnx : ∀ ty, (Instr.next (.pointer (some ⟨wo.heap.size + 1 + 1, 0, none⟩)) true ty).run Tryd.prog wr = .ok (.tuple #[.bool false]) wr := fun ty => Lib.run_next_end_at wr _ ⟨x.letters.toArray⟩ i ty hit (by show ¬ i < x.letters.toArray.size; simpa using hli)
              have HWR := Lib.hid (show writeRes a = (wordsFor a x, ((readAct (wordsFor a x)).map (sameAct a)).getD false) by
                unfold writeRes
                rw [find_hit _ _ _ _ HNO.out HX.out HF.out])
              have HOW := Lib.hid (show wr.ownsRow w.heap.size 9 1 _ (i + 1) ((wordsFor a x).map strV) by
                have := HO.out
                rw [hie, List.take_length] at this
                rw [hie]
                exact this)
              have HLN := Lib.hid (show i + 1 = (wordsFor a x).length by rw [hie]; simp [wordsFor])
              have HWL := Lib.hid (show ∀ l ∈ wordsFor a x, l.length ≤ 100000 by
                intro l hl
                rcases List.mem_cons.1 hl with rfl | hl
                · have := HFEW.out.2; omega
                · obtain ⟨c, _, rfl⟩ := List.mem_map.1 hl
                  have := fldWord_len a hok c
                  omega)
              clear hit hie
              obtain ⟨A0, cc0, rfl⟩ := own_form HO.out
              go_wp2_with fail
              cases hra : readAct (wordsFor a x) with
              | none =>
                refine (read_words_none (wordsFor a x) A0 (i + 1) cc0 _ HLN.out (by omega) (by have := HFEW.out.1; omega) HWL.out (Rd.of_own HOW.out) hra).mono ?_
                rintro e w5 ⟨rfl, hb5⟩
                have HO5 := Lib.hid (own_below HOW.out hb5)
                have HBW5 := Lib.hid (HBW2.out.trans (hb5.mono HBW2.out.size))
                have HRA := Lib.hid hra
                clear hb5 hra
                simp only [ActD.cells, ActD.zero]
                go_wp2_with fail
                go_quiet (fail)
                go_wp2_with fail
                go_ret2
                rw [HWR.out, HRA.out]
                refine ⟨A0, cc0, ?_, ?_, ?_⟩
                · rw [HLN.out]; rfl
                · rw [← HLN.out]; exact (HO5.out.alloc _)
                · exact below_drewN (HBW5.out.alloc HBW5.out.size _) _
              | some b =>
                refine (read_words_some (wordsFor a x) A0 (i + 1) cc0 _ b HLN.out (by omega) (by have := HFEW.out.1; omega) HWL.out (Rd.of_own HOW.out) hra).mono ?_
                rintro e w5 ⟨rfl, hb5⟩
                have HO5 := Lib.hid (own_below HOW.out hb5)
                have HA5 := Lib.hid (HA2.out.below hb5 HA2.out.lt)
                have HBW5 := Lib.hid (HBW2.out.trans (hb5.mono HBW2.out.size))
                have HRA := Lib.hid hra
                clear hb5 hra
                have hl5 := HA5.out.lt
                obtain ⟨z0, z1, z2, z3, z4, z5, z6, z7, z8, z9, z10⟩ := act_cells HA5.out
                have heq := fun W => run_eqAct a b W
                simp only [ActD.cells] at heq ⊢
                go_wp2_with fail
                go_quiet (fail)
                clear heq
                go_wp2_with fail
                go_ret2
                rw [HWR.out, HRA.out]
                refine ⟨A0, cc0, ?_, ?_, ?_⟩
                · rw [HLN.out]; rfl
                · rw [← HLN.out]; exact (HO5.out.alloc _)
                · exact below_drewN (HBW5.out.alloc HBW5.out.size _) _
        · have q2 : (x.op != a.op) = true := by simp [hq2]
          have HF := Lib.hid (show lineOf a x = false by simp [lineOf, hq2])
          clear hq1 hq2
          go_wp2_with fail
          go_roundw
          case rel => exact ⟨k + 1, hlt, by go_num, find_miss _ _ _ _ HNO.out HX.out HF.out, HA.out.alloc _, HB.out.alloc _, HBW.out.alloc HBW.out.size _⟩
          case measure => simp [intOf]; omega
      · have q1 : (x.kind != a.kind) = true := by simp [hq1]
        have HF := Lib.hid (show lineOf a x = false by simp [lineOf, hq1])
        clear hq1
        go_wp2_with fail
        go_roundw
        case rel => exact ⟨k + 1, hlt, by go_num, find_miss _ _ _ _ HNO.out HX.out HF.out, HA.out.alloc _, HB.out.alloc _, HBW.out.alloc HBW.out.size _⟩
        case measure => simp [intOf]; omega
    · have hie : k = 22 := by omega
      have HY := Lib.hid (show writeRes a = ([], false) by
        have := HNO.out
        rw [hie, List.take_of_length_le (by simp [lineTab])] at this
        unfold writeRes
        rw [this])
      clear hie
      have dk : decide ((k : Int) < 22) = false := by simp; omega
      go_wp2_with fail
      go_ret2
      rw [HY.out]
      exact ⟨none, 0, rfl, World.ownsRow_nil _ _ _ _, HBW.out⟩

end Go.Proofs.YtcgcfeablbjnaaaDoor
