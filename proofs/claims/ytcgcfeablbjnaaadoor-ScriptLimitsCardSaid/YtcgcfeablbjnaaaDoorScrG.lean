/- The contract of script.read. -/
import Derived.Test.YtcgcfeablbjnaaaDoorScrF
import Derived.Test.YtcgcfeablbjnaaaDoorRes
namespace Go.Proofs.YtcgcfeablbjnaaaDoor
open Go.RowKit Go.BigFrame

def zeroActCells : Array Value := ActD.zero.cells

theorem number_some (c : Int) (k g : Nat) (w : World) (h : numCell c = some k) :
    Calls Tryd.prog 32 #[.pointer (some ⟨g, 0, none⟩), .int .i32 c] w fun e w' => e = .returned (.pointer (some ⟨g, k, none⟩)) ∧ w = w' := by
  have := number_any c g w
  rw [numPtr, h] at this
  exact this
theorem number_none (c : Int) (g : Nat) (w : World) (h : numCell c = none) :
    Calls Tryd.prog 32 #[.pointer (some ⟨g, 0, none⟩), .int .i32 c] w fun e w' => e = .returned (.pointer none) ∧ w = w' := by
  have := number_any c g w
  rw [numPtr, h] at this
  exact this

theorem readNumber_some (s : ByteArray) (n : Int) (w : World) (h : numRes s.data.toList = some n) :
    Calls Tryd.prog 33 #[.string s] w fun e w' => e = .returned (.tuple #[.int .i64 n, .bool true]) ∧ w = w' := by
  have := readNumber_any s w
  rw [numVal, h] at this
  exact this
theorem readNumber_none (s : ByteArray) (w : World) (h : numRes s.data.toList = none) :
    Calls Tryd.prog 33 #[.string s] w fun e w' => e = .returned (.tuple #[.int .i64 0, .bool false]) ∧ w = w' := by
  have := readNumber_any s w
  rw [numVal, h] at this
  exact this
theorem readText_some (s : ByteArray) (l : List UInt8) (w : World) (hs : s.size ≤ 100000) (h : txtRes s.data.toList = some l) :
    Calls Tryd.prog 34 #[.string s] w fun e w' => e = .returned (.tuple #[.string ⟨l.toArray⟩, .bool true]) ∧ Below w.heap.size w w' := by
  have := readText_any s w hs
  rw [txtVal, h] at this
  exact this
theorem readText_none (s : ByteArray) (w : World) (hs : s.size ≤ 100000) (h : txtRes s.data.toList = none) :
    Calls Tryd.prog 34 #[.string s] w fun e w' => e = .returned (.tuple #[.string ⟨#[]⟩, .bool false]) ∧ Below w.heap.size w w' := by
  have := readText_any s w hs
  rw [txtVal, h] at this
  exact this

theorem readFields_at (cs : List UInt8) (ws : List ByteArray) (x : ActD) (i : Nat) (hi : i < cs.length) (hw : i + 1 < ws.length) :
    readFields (cs.drop i) ((ws.map (·.data.toList)).tail.drop i) x = (readStep x cs[i] ws[i + 1].data.toList).bind (readFields (cs.drop (i + 1)) ((ws.map (·.data.toList)).tail.drop (i + 1))) := by
  rw [readFields_drop cs _ x i hi (by simp; omega)]
  simp

/-- The cells of an act, one by one. -/
theorem act_cells {w : World} {g : Nat} {t : TypeId} {x : ActD} (h : Blk w g t x.cells) :
    w.cell? ⟨g, 0, none⟩ = some (.int .i64 x.kind) ∧ w.cell? ⟨g, 1, none⟩ = some (.int .i64 x.a) ∧ w.cell? ⟨g, 2, none⟩ = some (.int .i64 x.b) ∧ w.cell? ⟨g, 3, none⟩ = some (.int .i64 x.n) ∧ w.cell? ⟨g, 4, none⟩ = some (.int .i64 x.tenant) ∧
    w.cell? ⟨g, 5, none⟩ = some (.int .i64 x.client) ∧ w.cell? ⟨g, 6, none⟩ = some (.int .i64 x.number) ∧ w.cell? ⟨g, 7, none⟩ = some (.int .i64 x.op) ∧ w.cell? ⟨g, 8, none⟩ = some (.int .i64 x.item) ∧ w.cell? ⟨g, 9, none⟩ = some (.string ⟨x.key.toArray⟩) ∧ w.cell? ⟨g, 10, none⟩ = some (.string ⟨x.value.toArray⟩) :=
  ⟨h.cell 0, h.cell 1, h.cell 2, h.cell 3, h.cell 4, h.cell 5, h.cell 6, h.cell 7, h.cell 8, h.cell 9, h.cell 10⟩

theorem act_cell_num {w : World} {g k : Nat} {t : TypeId} {x : ActD} (h : Blk w g t x.cells) (hk : k = 1 ∨ k = 2 ∨ k = 3 ∨ k = 4 ∨ k = 5 ∨ k = 6 ∨ k = 8) : ∃ n, w.cell? ⟨g, k, none⟩ = some (.int .i64 n) := by
  rcases hk with rfl | rfl | rfl | rfl | rfl | rfl | rfl <;> exact ⟨_, h.cell _⟩
theorem act_cell_txt {w : World} {g k : Nat} {t : TypeId} {x : ActD} (h : Blk w g t x.cells) (hk : k = 9 ∨ k = 10) : ∃ s, w.cell? ⟨g, k, none⟩ = some (.string s) := by
  rcases hk with rfl | rfl <;> exact ⟨_, h.cell _⟩

theorem blk_iterAt {w : World} {g k : Nat} {t : TypeId} {cs : Array Value} {s : ByteArray} {p : Nat} (h : Blk w g t cs) (hne : g ≠ k) : Blk (w.iterAt k s p) g t cs := (Lib.iterAt_other w k g s p hne).trans h

theorem iter_at (w : World) (s : ByteArray) (p g : Nat) (h : g = w.heap.size) : (w.iter s p).heap[g]? = some (.stringIter s p) := by
  subst h
  exact World.iter_heap w s p

/-- All eleven cells written. -/
theorem act_put {w : World} {g : Nat} {t : TypeId} {x y : ActD} (h : Blk w g t x.cells) :
    Blk (((((((((((w.setCell ⟨g, 0, none⟩ (.int .i64 y.kind)).setCell ⟨g, 1, none⟩ (.int .i64 y.a)).setCell ⟨g, 2, none⟩ (.int .i64 y.b)).setCell ⟨g, 3, none⟩ (.int .i64 y.n)).setCell ⟨g, 4, none⟩ (.int .i64 y.tenant)).setCell ⟨g, 5, none⟩ (.int .i64 y.client)).setCell ⟨g, 6, none⟩ (.int .i64 y.number)).setCell ⟨g, 7, none⟩ (.int .i64 y.op)).setCell ⟨g, 8, none⟩ (.int .i64 y.item)).setCell ⟨g, 9, none⟩ (.string ⟨y.key.toArray⟩)).setCell ⟨g, 10, none⟩ (.string ⟨y.value.toArray⟩)) g t y.cells := by
  have h1 : Blk (w.setCell ⟨g, 0, none⟩ (.int .i64 y.kind)) g t #[.int .i64 y.kind, .int .i64 x.a, .int .i64 x.b, .int .i64 x.n, .int .i64 x.tenant, .int .i64 x.client, .int .i64 x.number, .int .i64 x.op, .int .i64 x.item, .string ⟨x.key.toArray⟩, .string ⟨x.value.toArray⟩] := h.put 0 (.int .i64 y.kind)
  have h2 : Blk ((w.setCell ⟨g, 0, none⟩ (.int .i64 y.kind)).setCell ⟨g, 1, none⟩ (.int .i64 y.a)) g t #[.int .i64 y.kind, .int .i64 y.a, .int .i64 x.b, .int .i64 x.n, .int .i64 x.tenant, .int .i64 x.client, .int .i64 x.number, .int .i64 x.op, .int .i64 x.item, .string ⟨x.key.toArray⟩, .string ⟨x.value.toArray⟩] := h1.put 1 (.int .i64 y.a)
  have h3 : Blk (((w.setCell ⟨g, 0, none⟩ (.int .i64 y.kind)).setCell ⟨g, 1, none⟩ (.int .i64 y.a)).setCell ⟨g, 2, none⟩ (.int .i64 y.b)) g t #[.int .i64 y.kind, .int .i64 y.a, .int .i64 y.b, .int .i64 x.n, .int .i64 x.tenant, .int .i64 x.client, .int .i64 x.number, .int .i64 x.op, .int .i64 x.item, .string ⟨x.key.toArray⟩, .string ⟨x.value.toArray⟩] := h2.put 2 (.int .i64 y.b)
  have h4 : Blk ((((w.setCell ⟨g, 0, none⟩ (.int .i64 y.kind)).setCell ⟨g, 1, none⟩ (.int .i64 y.a)).setCell ⟨g, 2, none⟩ (.int .i64 y.b)).setCell ⟨g, 3, none⟩ (.int .i64 y.n)) g t #[.int .i64 y.kind, .int .i64 y.a, .int .i64 y.b, .int .i64 y.n, .int .i64 x.tenant, .int .i64 x.client, .int .i64 x.number, .int .i64 x.op, .int .i64 x.item, .string ⟨x.key.toArray⟩, .string ⟨x.value.toArray⟩] := h3.put 3 (.int .i64 y.n)
  have h5 : Blk (((((w.setCell ⟨g, 0, none⟩ (.int .i64 y.kind)).setCell ⟨g, 1, none⟩ (.int .i64 y.a)).setCell ⟨g, 2, none⟩ (.int .i64 y.b)).setCell ⟨g, 3, none⟩ (.int .i64 y.n)).setCell ⟨g, 4, none⟩ (.int .i64 y.tenant)) g t #[.int .i64 y.kind, .int .i64 y.a, .int .i64 y.b, .int .i64 y.n, .int .i64 y.tenant, .int .i64 x.client, .int .i64 x.number, .int .i64 x.op, .int .i64 x.item, .string ⟨x.key.toArray⟩, .string ⟨x.value.toArray⟩] := h4.put 4 (.int .i64 y.tenant)
  have h6 : Blk ((((((w.setCell ⟨g, 0, none⟩ (.int .i64 y.kind)).setCell ⟨g, 1, none⟩ (.int .i64 y.a)).setCell ⟨g, 2, none⟩ (.int .i64 y.b)).setCell ⟨g, 3, none⟩ (.int .i64 y.n)).setCell ⟨g, 4, none⟩ (.int .i64 y.tenant)).setCell ⟨g, 5, none⟩ (.int .i64 y.client)) g t #[.int .i64 y.kind, .int .i64 y.a, .int .i64 y.b, .int .i64 y.n, .int .i64 y.tenant, .int .i64 y.client, .int .i64 x.number, .int .i64 x.op, .int .i64 x.item, .string ⟨x.key.toArray⟩, .string ⟨x.value.toArray⟩] := h5.put 5 (.int .i64 y.client)
  have h7 : Blk (((((((w.setCell ⟨g, 0, none⟩ (.int .i64 y.kind)).setCell ⟨g, 1, none⟩ (.int .i64 y.a)).setCell ⟨g, 2, none⟩ (.int .i64 y.b)).setCell ⟨g, 3, none⟩ (.int .i64 y.n)).setCell ⟨g, 4, none⟩ (.int .i64 y.tenant)).setCell ⟨g, 5, none⟩ (.int .i64 y.client)).setCell ⟨g, 6, none⟩ (.int .i64 y.number)) g t #[.int .i64 y.kind, .int .i64 y.a, .int .i64 y.b, .int .i64 y.n, .int .i64 y.tenant, .int .i64 y.client, .int .i64 y.number, .int .i64 x.op, .int .i64 x.item, .string ⟨x.key.toArray⟩, .string ⟨x.value.toArray⟩] := h6.put 6 (.int .i64 y.number)
  have h8 : Blk ((((((((w.setCell ⟨g, 0, none⟩ (.int .i64 y.kind)).setCell ⟨g, 1, none⟩ (.int .i64 y.a)).setCell ⟨g, 2, none⟩ (.int .i64 y.b)).setCell ⟨g, 3, none⟩ (.int .i64 y.n)).setCell ⟨g, 4, none⟩ (.int .i64 y.tenant)).setCell ⟨g, 5, none⟩ (.int .i64 y.client)).setCell ⟨g, 6, none⟩ (.int .i64 y.number)).setCell ⟨g, 7, none⟩ (.int .i64 y.op)) g t #[.int .i64 y.kind, .int .i64 y.a, .int .i64 y.b, .int .i64 y.n, .int .i64 y.tenant, .int .i64 y.client, .int .i64 y.number, .int .i64 y.op, .int .i64 x.item, .string ⟨x.key.toArray⟩, .string ⟨x.value.toArray⟩] := h7.put 7 (.int .i64 y.op)
  have h9 : Blk (((((((((w.setCell ⟨g, 0, none⟩ (.int .i64 y.kind)).setCell ⟨g, 1, none⟩ (.int .i64 y.a)).setCell ⟨g, 2, none⟩ (.int .i64 y.b)).setCell ⟨g, 3, none⟩ (.int .i64 y.n)).setCell ⟨g, 4, none⟩ (.int .i64 y.tenant)).setCell ⟨g, 5, none⟩ (.int .i64 y.client)).setCell ⟨g, 6, none⟩ (.int .i64 y.number)).setCell ⟨g, 7, none⟩ (.int .i64 y.op)).setCell ⟨g, 8, none⟩ (.int .i64 y.item)) g t #[.int .i64 y.kind, .int .i64 y.a, .int .i64 y.b, .int .i64 y.n, .int .i64 y.tenant, .int .i64 y.client, .int .i64 y.number, .int .i64 y.op, .int .i64 y.item, .string ⟨x.key.toArray⟩, .string ⟨x.value.toArray⟩] := h8.put 8 (.int .i64 y.item)
  have h10 : Blk ((((((((((w.setCell ⟨g, 0, none⟩ (.int .i64 y.kind)).setCell ⟨g, 1, none⟩ (.int .i64 y.a)).setCell ⟨g, 2, none⟩ (.int .i64 y.b)).setCell ⟨g, 3, none⟩ (.int .i64 y.n)).setCell ⟨g, 4, none⟩ (.int .i64 y.tenant)).setCell ⟨g, 5, none⟩ (.int .i64 y.client)).setCell ⟨g, 6, none⟩ (.int .i64 y.number)).setCell ⟨g, 7, none⟩ (.int .i64 y.op)).setCell ⟨g, 8, none⟩ (.int .i64 y.item)).setCell ⟨g, 9, none⟩ (.string ⟨y.key.toArray⟩)) g t #[.int .i64 y.kind, .int .i64 y.a, .int .i64 y.b, .int .i64 y.n, .int .i64 y.tenant, .int .i64 y.client, .int .i64 y.number, .int .i64 y.op, .int .i64 y.item, .string ⟨y.key.toArray⟩, .string ⟨x.value.toArray⟩] := h9.put 9 (.string ⟨y.key.toArray⟩)
  have h11 : Blk (((((((((((w.setCell ⟨g, 0, none⟩ (.int .i64 y.kind)).setCell ⟨g, 1, none⟩ (.int .i64 y.a)).setCell ⟨g, 2, none⟩ (.int .i64 y.b)).setCell ⟨g, 3, none⟩ (.int .i64 y.n)).setCell ⟨g, 4, none⟩ (.int .i64 y.tenant)).setCell ⟨g, 5, none⟩ (.int .i64 y.client)).setCell ⟨g, 6, none⟩ (.int .i64 y.number)).setCell ⟨g, 7, none⟩ (.int .i64 y.op)).setCell ⟨g, 8, none⟩ (.int .i64 y.item)).setCell ⟨g, 9, none⟩ (.string ⟨y.key.toArray⟩)).setCell ⟨g, 10, none⟩ (.string ⟨y.value.toArray⟩)) g t #[.int .i64 y.kind, .int .i64 y.a, .int .i64 y.b, .int .i64 y.n, .int .i64 y.tenant, .int .i64 y.client, .int .i64 y.number, .int .i64 y.op, .int .i64 y.item, .string ⟨y.key.toArray⟩, .string ⟨y.value.toArray⟩] := h10.put 10 (.string ⟨y.value.toArray⟩)
  exact h11

set_option maxRecDepth 100000 in
set_option maxHeartbeats 4000000 in
theorem read_any (A : Option Addr) (c : Nat) (ws : List ByteArray) (w : World) (hne : 1 ≤ ws.length) (hsz : ∀ s ∈ ws, s.size ≤ 100000) (hlen : ws.length ≤ 100000) (hR : Rd w w.heap.size A (ws.map Value.string)) :
    Calls Tryd.prog 23 #[.slice A ws.length c] w fun e w' => e = .returned (actVal (readAct (ws.map (·.data.toList)))) ∧ Below w.heap.size w w' := by
  go_enter Tryd.func23, Tryd.ntmps23
  go_wp2_with fail
  refine (lines_any _).mono ?_
  rintro e w1 ⟨rfl, rfl⟩
  go_wp2_with fail
  go_loopw [14] (fun i wr => ∃ k : Nat, k ≤ 22 ∧ i = .int .i64 k ∧ (lineTab.take k).find? (lineFits (ws.map (·.data.toList))) = none ∧ Blk wr w.heap.size 25 zeroActCells ∧ Blk wr (w.heap.size + 1) 48 lineCells ∧ Below w.heap.size w wr) (fun i _ => 22 - (intOf i).toNat)
  case atStart => exact ⟨0, by omega, rfl, rfl, (Blk.newAt _ _ _ _ rfl).alloc _, Blk.newAt _ _ _ _ (by simp), ((Below.refl _ _).alloc (Nat.le_refl _) _).alloc (by simp) _⟩
  case round =>
    obtain ⟨k, hk, rfl, hno, hbz, hbl, hbw⟩ := hrel
    have HNO := Lib.hid hno
    have HZ := Lib.hid hbz
    have HB := Lib.hid hbl
    have HBW := Lib.hid hbw
    have HR := Lib.hid (hR.below hbw)
    clear hno hbl hbw hbz
    by_cases hlt : k < 22
    · have dk : decide ((k : Int) < 22) = true := by simp; omega
      have hx : lineTab[k]? = some (lineTab[k]'(by simpa [lineTab] using hlt)) := List.getElem?_eq_getElem _
      generalize (lineTab[k]'(by simpa [lineTab] using hlt)) = x at hx
      have HX := Lib.hid hx
      have c0 := line_cell HB.out k 0 (by omega) x hx
      have c1 := line_cell HB.out k 1 (by omega) x hx
      have c2 := line_cell HB.out k 2 (by omega) x hx
      have c3 := line_cell HB.out k 3 (by omega) x hx
      simp only [LineK.cells, Nat.add_zero, List.getElem?_cons_zero, List.getElem?_cons_succ] at c0 c1 c2 c3
      clear hx
      obtain ⟨ad, rfl, hadb, hw0⟩ := HR.out 0 (.string ws[0]) (by simp)
      have hadl : ad.block < wr.heap.size := Nat.lt_of_lt_of_le hadb HBW.out.size
      rw [show ad.add 0 = ad from rfl] at hw0
      have hw0' := fun o => (World.cell?_alloc_lt wr o ad hadl).trans hw0
      have hfit := (show (lineFits (ws.map (·.data.toList)) x) = (decide (x.word = ws[0].data.toList) && decide ((x.letters.length : Int) = (ws.length : Int) - 1)) by
        cases ws with
        | nil => simp at hne
        | cons s0 r => simp [lineFits])
      have HFIT := Lib.hid hfit
      clear hfit
      by_cases hq1 : x.word = ws[0].data.toList
      · have q1 : (!x.word == ws[0].toList) = false := by rw [toList_eq]; simp [hq1]
        by_cases hq2 : (x.letters.length : Int) = (ws.length : Int) - 1
        · have q2 : ((x.letters.length : Int) != (ws.length : Int) - 1) = false := by simp [hq2]
          have HF := Lib.hid (show lineFits (ws.map (·.data.toList)) x = true by rw [HFIT.out]; simp [hq1, hq2])
          have HQ2 := Lib.hid hq2
          clear hq1 hq2
          go_wp2_with fail
          go_quiet (fail)
          go_wp2_with fail
          obtain ⟨wo, rfl⟩ : ∃ wo : World, wo = wr := ⟨_, rfl⟩
          have HRA := Lib.hid (show readAct (ws.map (·.data.toList)) = readFields x.letters (ws.map (·.data.toList)).tail { ActD.zero with kind := x.kind, op := x.op } by
            unfold readAct
            rw [find_hit _ _ _ _ HNO.out HX.out HF.out])
          have HAS := Lib.hid (letters_ascii x (List.mem_of_getElem? HX.out))
          go_loopw [7] (fun _ wr => ∃ (i : Nat) (y : ActD), i ≤ x.letters.length ∧ wr.heap[wo.heap.size + 1 + 1]? = some (.stringIter ⟨x.letters.toArray⟩ i) ∧ Blk wr (wo.heap.size + 1) 25 y.cells ∧ readFields (x.letters.drop i) ((ws.map (·.data.toList)).tail.drop i) y = readAct (ws.map (·.data.toList)) ∧ Blk wr w.heap.size 25 zeroActCells ∧ Below w.heap.size w wr ∧ wo.heap.size + 3 ≤ wr.heap.size) (fun _ wr => x.letters.length - wr.iterPos (wo.heap.size + 1 + 1))
          case atStart =>
            refine ⟨0, { ActD.zero with kind := x.kind, op := x.op }, Nat.zero_le _, iter_at _ _ _ _ (by simp), Blk.alloc (Blk.newAt _ _ _ _ (by simp)) _, by rw [HRA.out]; rfl, Blk.alloc (Blk.alloc ((HZ.out.alloc _).drewN _) _) _, ?_, by simp [World.iter]⟩
            exact ((below_drewN (HBW.out.alloc HBW.out.size _) _).alloc (by have := HBW.out.size; simp; omega) _).alloc (by have := HBW.out.size; simp; omega) _
          case round =>
            obtain ⟨i, y, hi, hit, hby, hrf, hbz, hbw, hszz⟩ := hrel
            have HIT := Lib.hid hit
            have HBY := Lib.hid hby
            have HRF := Lib.hid hrf
            have HBZ := Lib.hid hbz
            have HBW2 := Lib.hid hbw
            have HRr := Lib.hid (hR.below hbw)
            have hsw := HBW.out.size
            have hm1 : x.letters.length + 1 ≤ ws.length := by have := HQ2.out; omega
            have hm2 : ws.length ≤ x.letters.length + 1 := by have := HQ2.out; omega
            clear hby hrf hbz hbw hw0 hw0' c0 c1 c2 c3
            by_cases hli : i < x.letters.length
            · have hlw : i + 1 < ws.length := by omega
              have hca := HAS.out (x.letters[i]) (List.getElem_mem hli)
              have hnx : ∀ ty, (Instr.next (.pointer (some ⟨wo.heap.size + 1 + 1, 0, none⟩)) true ty).run Tryd.prog wr = .ok (.tuple #[.bool true, .int .i64 i, .int .i32 (x.letters[i].toNat : Int)]) (wr.iterAt (wo.heap.size + 1 + 1) ⟨x.letters.toArray⟩ (i + 1)) := fun ty => Lib.run_next_ascii_at wr _ ⟨x.letters.toArray⟩ i ty hit (by show i < x.letters.toArray.size; simpa using hli) hca
              obtain ⟨ad', hade, hadb', hwi⟩ := HRr.out (i + 1) (.string ws[i + 1]) (by simp)
              injection hade with hade
              subst hade
              have hwi' : (wr.iterAt (wo.heap.size + 1 + 1) ⟨x.letters.toArray⟩ (i + 1)).cell? (ad.add (i + 1)) = some (.string ws[i + 1]) := (World.cell?_of_block (Lib.iterAt_other wr _ _ _ _ (by rw [block_add]; omega))).trans hwi
              rw [show ad.add (i + 1) = ⟨ad.block, ad.off + (i + 1), none⟩ from rfl] at hwi'
              have HS := Lib.hid (readFields_at x.letters ws y i hli hlw)
              have HSB := Lib.hid (hsz ws[i + 1] (List.getElem_mem hlw))
              have HBY' := Lib.hid (blk_iterAt (s := ⟨x.letters.toArray⟩) (p := i + 1) (k := wo.heap.size + 1 + 1) HBY.out (by omega))
              have HBZ' := Lib.hid (blk_iterAt (s := ⟨x.letters.toArray⟩) (p := i + 1) (k := wo.heap.size + 1 + 1) HBZ.out (by omega))
              have HBWi := Lib.hid (Lib.below_iterAt HBW2.out (k := wo.heap.size + 1 + 1) (by omega) ⟨x.letters.toArray⟩ (i + 1))
              have HITi := Lib.hid (Lib.iterAt_heap wr (wo.heap.size + 1 + 1) ⟨x.letters.toArray⟩ i (i + 1) hit)
              clear hwi hit
              go_wp2_with fail
              cases hnc : numCell (x.letters[i].toNat : Int) with
              | some kk =>
                have HKK := Lib.hid (numCell_in hnc)
                have HNC := Lib.hid hnc
                clear hnc
                obtain ⟨v0, hv0⟩ := act_cell_num HBY'.out HKK.out
                have fv0 := HBY'.out.free kk
                refine (number_some _ kk _ _ HNC.out).mono ?_
                rintro e w1 ⟨rfl, rfl⟩
                go_wp2_with fail
                cases hnr : numRes ws[i + 1].data.toList with
                | some nn =>
                  have HRS := Lib.hid (show readStep y x.letters[i] ws[i + 1].data.toList = some (y.setNum kk nn) by
                    unfold readStep
                    rw [HNC.out]
                    simp [hnr])
                  have HNR := Lib.hid hnr
                  clear hnr
                  refine (readNumber_some _ nn _ HNR.out).mono ?_
                  rintro e w1 ⟨rfl, rfl⟩
                  go_wp2_with fail
                  go_roundw
                  case rel =>
                    refine ⟨i + 1, y.setNum kk nn, hli, ?_, ?_, ?_, Blk.far HBZ'.out (by simp; omega) _, HBWi.out.setCell (by simp; omega) _, by simp [World.setCell, Lib.iterAt_size]; omega⟩
                    · exact (Below.heap_setCell _ _ _ _ (by simp)).trans HITi.out
                    · rw [setNum_cells _ _ _ HKK.out]
                      exact HBY'.out.put kk _
                    · rw [← HRF.out, HS.out, HRS.out]
                      rfl
                  case measure =>
                    have e1 : (World.setCell (wr.iterAt (wo.heap.size + 1 + 1) ⟨x.letters.toArray⟩ (i + 1)) ⟨wo.heap.size + 1, kk, none⟩ (.int .i64 nn)).iterPos (wo.heap.size + 1 + 1) = i + 1 := iterPos_of ((Below.heap_setCell _ _ _ _ (by simp)).trans HITi.out)
                    have e2 : wr.iterPos (wo.heap.size + 1 + 1) = i := iterPos_of HIT.out
                    rw [e1, e2]
                    omega
                | none =>
                  have HRS := Lib.hid (show readStep y x.letters[i] ws[i + 1].data.toList = none by
                    unfold readStep
                    rw [HNC.out]
                    simp [hnr])
                  have HNR := Lib.hid hnr
                  clear hnr
                  refine (readNumber_none _ _ HNR.out).mono ?_
                  rintro e w1 ⟨rfl, rfl⟩
                  have HZ1 := Lib.hid (show Blk ((wr.iterAt (wo.heap.size + 1 + 1) ⟨x.letters.toArray⟩ (i + 1)).setCell ⟨wo.heap.size + 1, kk, none⟩ (.int .i64 0)) w.heap.size 25 ActD.zero.cells from Blk.far HBZ'.out (by simp; omega) _)
                  obtain ⟨z0, z1, z2, z3, z4, z5, z6, z7, z8, z9, z10⟩ := act_cells HZ1.out
                  have y0 := HZ1.out.free 0
                  have y1 := HZ1.out.free 1
                  have y2 := HZ1.out.free 2
                  have y3 := HZ1.out.free 3
                  have y4 := HZ1.out.free 4
                  have y5 := HZ1.out.free 5
                  have y6 := HZ1.out.free 6
                  have y7 := HZ1.out.free 7
                  have y8 := HZ1.out.free 8
                  have y9 := HZ1.out.free 9
                  have y10 := HZ1.out.free 10
                  simp only [ActD.zero] at z0 z1 z2 z3 z4 z5 z6 z7 z8 z9 z10
                  go_wp2_with fail
                  refine bodyPost_ret (res_cell_tmp Tryd.results23 Tryd.isAgg25 Tryd.sizeOf25 rfl (act_put (x := ActD.zero) (y := ActD.zero) HZ1.out) rfl) rfl ⟨ret_eq ?_, ?_⟩
                  · rw [← HRF.out, HS.out, HRS.out]
                    rfl
                  · iterate 11 refine Below.setCell ?_ (by simp) _
                    exact HBWi.out.setCell (by simp; omega) _
              | none =>
                have HNC := Lib.hid hnc
                clear hnc
                refine (number_none _ _ _ HNC.out).mono ?_
                rintro e w1 ⟨rfl, rfl⟩
                go_wp2_with fail
                refine (text_any _ _ _).mono ?_
                rintro e w1 ⟨rfl, rfl⟩
                have HTC := Lib.hid (txtCell_in (x.letters[i].toNat : Int))
                generalize htc : txtCell (x.letters[i].toNat : Int) = tc at *
                have HTCE := Lib.hid htc
                clear htc
                go_wp2_with fail
                cases hnr : txtRes ws[i + 1].data.toList with
                | some tt =>
                  have HRS := Lib.hid (show readStep y x.letters[i] ws[i + 1].data.toList = some (y.setTxt tc tt) by
                    unfold readStep
                    rw [HNC.out, ← HTCE.out]
                    simp [hnr])
                  have HNR := Lib.hid hnr
                  clear hnr
                  refine (readText_some _ tt _ HSB.out HNR.out).mono ?_
                  rintro e w2 ⟨rfl, hb2⟩
                  have HBY2 := Lib.hid (HBY'.out.below hb2 HBY'.out.lt)
                  have HBZ2 := Lib.hid (HBZ'.out.below hb2 HBZ'.out.lt)
                  have HBW3 := Lib.hid (HBWi.out.trans (hb2.mono HBWi.out.size))
                  have HIT2 := Lib.hid ((hb2.block (wo.heap.size + 1 + 1) (by rw [Lib.iterAt_size]; omega)).trans HITi.out)
                  have hs2 : wo.heap.size + 3 ≤ w2.heap.size := by have := hb2.size; rw [Lib.iterAt_size] at this; omega
                  clear hb2
                  obtain ⟨v0, hv0⟩ := act_cell_txt HBY2.out HTC.out
                  have fv0 := HBY2.out.free tc
                  go_wp2_with fail
                  go_roundw
                  case rel =>
                    refine ⟨i + 1, y.setTxt tc tt, hli, ?_, ?_, ?_, Blk.far HBZ2.out (by simp; omega) _, HBW3.out.setCell (by simp; omega) _, by simpa [World.setCell] using hs2⟩
                    · exact (Below.heap_setCell _ _ _ _ (by simp)).trans HIT2.out
                    · rw [setTxt_cells _ _ _ HTC.out]
                      exact HBY2.out.put tc _
                    · rw [← HRF.out, HS.out, HRS.out]
                      rfl
                  case measure =>
                    have e1 : (World.setCell w2 ⟨wo.heap.size + 1, tc, none⟩ (.string ⟨tt.toArray⟩)).iterPos (wo.heap.size + 1 + 1) = i + 1 := iterPos_of ((Below.heap_setCell _ _ _ _ (by simp)).trans HIT2.out)
                    have e2 : wr.iterPos (wo.heap.size + 1 + 1) = i := iterPos_of HIT.out
                    rw [e1, e2]
                    omega
                | none =>
                  have HRS := Lib.hid (show readStep y x.letters[i] ws[i + 1].data.toList = none by
                    unfold readStep
                    rw [HNC.out]
                    simp [hnr])
                  have HNR := Lib.hid hnr
                  clear hnr
                  refine (readText_none _ _ HSB.out HNR.out).mono ?_
                  rintro e w2 ⟨rfl, hb2⟩
                  have HBY2 := Lib.hid (HBY'.out.below hb2 HBY'.out.lt)
                  have HBZ2 := Lib.hid (HBZ'.out.below hb2 HBZ'.out.lt)
                  have HBW3 := Lib.hid (HBWi.out.trans (hb2.mono HBWi.out.size))
                  clear hb2
                  obtain ⟨v0, hv0⟩ := act_cell_txt HBY2.out HTC.out
                  have fv0 := HBY2.out.free tc
                  have HZ1 := Lib.hid (show Blk (w2.setCell ⟨wo.heap.size + 1, tc, none⟩ (.string ⟨#[]⟩)) w.heap.size 25 ActD.zero.cells from Blk.far HBZ2.out (by simp; omega) _)
                  obtain ⟨z0, z1, z2, z3, z4, z5, z6, z7, z8, z9, z10⟩ := act_cells HZ1.out
                  have y0 := HZ1.out.free 0
                  have y1 := HZ1.out.free 1
                  have y2 := HZ1.out.free 2
                  have y3 := HZ1.out.free 3
                  have y4 := HZ1.out.free 4
                  have y5 := HZ1.out.free 5
                  have y6 := HZ1.out.free 6
                  have y7 := HZ1.out.free 7
                  have y8 := HZ1.out.free 8
                  have y9 := HZ1.out.free 9
                  have y10 := HZ1.out.free 10
                  simp only [ActD.zero] at z0 z1 z2 z3 z4 z5 z6 z7 z8 z9 z10
                  go_wp2_with fail
                  refine bodyPost_ret (res_cell_tmp Tryd.results23 Tryd.isAgg25 Tryd.sizeOf25 rfl (act_put (x := ActD.zero) (y := ActD.zero) HZ1.out) rfl) rfl ⟨ret_eq ?_, ?_⟩
                  · rw [← HRF.out, HS.out, HRS.out]
                    rfl
                  · iterate 11 refine Below.setCell ?_ (by simp) _
                    exact HBW3.out.setCell (by simp; omega) _
            · have hie : i = x.letters.length := by omega
              have HIE := Lib.hid hie
              clear hie
              have hnx : ∀ ty, (Instr.next (.pointer (some ⟨wo.heap.size + 1 + 1, 0, none⟩)) true ty).run Tryd.prog wr = .ok (.tuple #[.bool false]) wr := fun ty => Lib.run_next_end_at wr _ ⟨x.letters.toArray⟩ i ty hit (by show ¬ i < x.letters.toArray.size; simpa using hli)
              have HY := Lib.hid (show readAct (ws.map (·.data.toList)) = some y by
                rw [← HRF.out, HIE.out, List.drop_length]
                rfl)
              obtain ⟨u0, u1, u2', u3', u4, u5, u6', u7', u8', u9', u10'⟩ := act_cells HBY.out
              have HZ1 := Lib.hid (show Blk wr w.heap.size 25 ActD.zero.cells from HBZ.out)
              obtain ⟨z0, z1, z2, z3, z4, z5, z6, z7, z8, z9, z10⟩ := act_cells HZ1.out
              have y0 := HZ1.out.free 0
              have y1 := HZ1.out.free 1
              have y2 := HZ1.out.free 2
              have y3 := HZ1.out.free 3
              have y4 := HZ1.out.free 4
              have y5 := HZ1.out.free 5
              have y6 := HZ1.out.free 6
              have y7 := HZ1.out.free 7
              have y8 := HZ1.out.free 8
              have y9 := HZ1.out.free 9
              have y10 := HZ1.out.free 10
              simp only [ActD.zero] at z0 z1 z2 z3 z4 z5 z6 z7 z8 z9 z10
              clear hit
              go_wp2_with fail
              refine bodyPost_ret (res_cell_tmp Tryd.results23 Tryd.isAgg25 Tryd.sizeOf25 rfl (act_put (x := ActD.zero) (y := y) HZ1.out) rfl) rfl ⟨ret_eq ?_, ?_⟩
              · rw [HY.out]
                rfl
              · iterate 11 refine Below.setCell ?_ (by simp) _
                exact HBW2.out
        · have q2 : ((x.letters.length : Int) != (ws.length : Int) - 1) = true := by simp [hq2]
          have HF := Lib.hid (show lineFits (ws.map (·.data.toList)) x = false by rw [HFIT.out]; simp [hq2])
          clear hq1 hq2
          go_wp2_with fail
          go_quiet (fail)
          go_wp2_with fail
          go_roundw
          case rel => exact ⟨k + 1, hlt, by go_num, find_miss _ _ _ _ HNO.out HX.out HF.out, (HZ.out.alloc _).drewN _, (HB.out.alloc _).drewN _, below_drewN (HBW.out.alloc HBW.out.size _) _⟩
          case measure => simp [intOf]; omega
      · have q1 : (!x.word == ws[0].toList) = true := by rw [toList_eq]; simp [hq1]
        have HF := Lib.hid (show lineFits (ws.map (·.data.toList)) x = false by rw [HFIT.out]; simp [hq1])
        clear hq1
        go_wp2_with fail
        go_quiet (fail)
        go_wp2_with fail
        go_roundw
        case rel => exact ⟨k + 1, hlt, by go_num, find_miss _ _ _ _ HNO.out HX.out HF.out, (HZ.out.alloc _).drewN _, (HB.out.alloc _).drewN _, below_drewN (HBW.out.alloc HBW.out.size _) _⟩
        case measure => simp [intOf]; omega
    · have hie : k = 22 := by omega
      have HY := Lib.hid (show readAct (ws.map (·.data.toList)) = none by
        have := HNO.out
        rw [hie, List.take_of_length_le (by simp [lineTab])] at this
        unfold readAct
        rw [this])
      clear hie
      have dk : decide ((k : Int) < 22) = false := by simp; omega
      have HZ1 := Lib.hid (show Blk wr w.heap.size 25 ActD.zero.cells from HZ.out)
      obtain ⟨z0, z1, z2, z3, z4, z5, z6, z7, z8, z9, z10⟩ := act_cells HZ1.out
      have y0 := HZ1.out.free 0
      have y1 := HZ1.out.free 1
      have y2 := HZ1.out.free 2
      have y3 := HZ1.out.free 3
      have y4 := HZ1.out.free 4
      have y5 := HZ1.out.free 5
      have y6 := HZ1.out.free 6
      have y7 := HZ1.out.free 7
      have y8 := HZ1.out.free 8
      have y9 := HZ1.out.free 9
      have y10 := HZ1.out.free 10
      simp only [ActD.zero] at z0 z1 z2 z3 z4 z5 z6 z7 z8 z9 z10
      go_wp2_with fail
      refine bodyPost_ret (res_cell_tmp Tryd.results23 Tryd.isAgg25 Tryd.sizeOf25 rfl (act_put (x := ActD.zero) (y := ActD.zero) HZ1.out) rfl) rfl ⟨ret_eq ?_, ?_⟩
      · rw [HY.out]
        rfl
      · iterate 11 refine Below.setCell ?_ (by simp) _
        exact HBW.out

end Go.Proofs.YtcgcfeablbjnaaaDoor
