/- Parts of the proof that ScriptBack returns true for every input of bulk at most 1048576. -/
import Derived.Test.YtcgcfeablbjnaaaGreatDoorRows
import Derived.WalkKit
import Derived.ProofKit
import Derived.Deep.Quiet
import Derived.Deep.QuietTactic
import Derived.BigQuiet
import Derived.StillTail
import Derived.Deep.RegionHeld3
import Derived.Laws.MakeOwn
import Derived.Maps.AppendAt
import Derived.Deep.AppendLies
import Derived.RegionTactic
import Derived.Deep.Draws
import Derived.Lib.Hide
import Derived.Laws.ResultCell
import Derived.Shelf.Strings.Builder1
import Derived.Shelf.Strings.Builder2
import Derived.Shelf.Strings.OnBuilder
import Derived.Shelf.Small.Strs
import Derived.Shelf.Strings.BuilderF
import Derived.Shelf.Strings.BuilderK
import Derived.Shelf.Strings.Builder2Cap
import Derived.Shelf.Strconv.Itoa0
import Derived.Shelf.Strconv.Itoa1
import Derived.Shelf.LaysM
import Derived.Shelf.Strconv.Itoa2
import Derived.Shelf.Strconv.Itoa3
import Derived.Shelf.Strings.Search1
import Derived.Shelf.Strings.Search2
import Derived.Shelf.Strings.Cut
import Derived.Shelf.Strings.Shaped
import Derived.Shelf.Strings.Prefix
import Derived.Shelf.Strings.FieldsFuncAny
import Derived.Shelf.Strings.FieldsFuncGrows
import Derived.Shelf.Strings.BuilderCap
import Derived.Test.YtcgcfeablbjnaaaGreatDoorProg
set_option linter.unusedSimpArgs false
set_option linter.unusedVariables false
set_option maxRecDepth 100000
set_option maxHeartbeats 8000000
namespace Go.Proofs.YtcgcfeablbjnaaaGreatDoor
theorem nm {α : Sort _} (a : α) : ∃ q, q = a := ⟨a, rfl⟩
open Go.ChangeShapes Go.WideShapes Go.ChangeAt Go.RowKit
section
variable {H : Type} {enc : TypeId × Value → H} {P : Program}
theorem trodAll_below {W W' : World} (hl : laidOutB P = true) (hb : Below W.heap.size W W') :
 ∀ (ts : List TypeId) (vs : List Value) (ds : List (DataW H)) (ps : List MemPlace), ts.all (fun t => P.readableRec t && decide (t < P.types.size)) = true →
   DataW.TrodAll enc P W 0 (fun _ => true) true ts vs ds ps → (∀ x ∈ ps, x.block < W.heap.size) →
   DataW.TrodAll enc P W' 0 (fun b => decide (b < W.heap.size)) true ts vs ds ps := by
 intro ts
 induction ts with
 | nil =>
   intro vs ds ps _ h _
   cases vs <;> cases ds <;> simp_all [DataW.TrodAll]
 | cons t ts ih =>
   intro vs ds ps hr h hlt
   simp only [List.all_cons, Bool.and_eq_true, decide_eq_true_eq] at hr
   cases vs with
   | nil => simp [DataW.TrodAll] at h
   | cons v vs =>
     cases ds with
     | nil => simp [DataW.TrodAll] at h
     | cons d ds =>
       obtain ⟨p, q, h1, h2, rfl⟩ := h
       exact ⟨p, q, Below.trod hl hr.1.1 hr.1.2 h1 hb (fun x hx => hlt x (List.mem_append_left _ hx)), ih vs ds q hr.2 h2 (fun x hx => hlt x (List.mem_append_right _ hx)), rfl⟩
theorem trodAll_length {w : World} {base : Nat} {spare : Nat → Bool} {held : Bool} : ∀ (ts : List TypeId) (vs : List Value) (ds : List (DataW H)) (ps : List MemPlace),
 DataW.TrodAll enc P w base spare held ts vs ds ps → ds.length = ts.length := by
 intro ts
 induction ts with
 | nil => intro vs ds ps h; cases vs <;> cases ds <;> simp_all [DataW.TrodAll]
 | cons t ts ih =>
   intro vs ds ps h
   cases vs with
   | nil => simp [DataW.TrodAll] at h
   | cons v vs =>
     cases ds with
     | nil => simp [DataW.TrodAll] at h
     | cons d ds =>
       obtain ⟨p, q, h1, h2, rfl⟩ := h
       simp [ih vs ds q h2]
theorem law_post {f : Func} {s : ChangeSpec} {W W' : World} {args : Array Value} {ds gs : List (DataW H)} {before : List MemPlace} {tb : TypeId}
 (hl : laidOutB P = true) (hr : f.params.toList.all (fun t => P.readableRec t && decide (t < P.types.size)) = true)
 (hres : f.resultTypes = #[tb]) (htb : P.underlying tb = some .bool) (hv : s.vars = [])
 (hfn : ∀ xs : List (DataW H), xs.length = f.params.toList.length → s.fn H xs = { results := [.lit (.bool true)], args := xs })
 (hW : DataW.Whole enc P f.params.toList s.vars false W args.toList ds gs before) (hb : Below W.heap.size W W') :
 s.post enc P f false true false false W args (.bool true) W' := by
 have hW0 := hW
 obtain ⟨p, q, hA, hV, rfl, _, _⟩ := hW
 rw [hv] at hV
 obtain ⟨rfl, rfl⟩ := trodVars_none hV
 have hlen := trodAll_length _ _ _ _ hA
 have e := hfn (ds ++ []) (by simpa using hlen)
 have hlt : ∀ x ∈ p, x.block < W.heap.size := fun x hx => hW0.lt x (by simpa using hx)
 refine ⟨ds, [], p ++ [], [], p, [], hW0, ?_, ?_, ?_, hb.frame _, fun h => by cases h⟩
 ·rw [e, hres]
  exact ⟨[], [], shut_bool htb true, rfl, rfl⟩
 ·rw [e]
  simpa using trodAll_below hl hb _ _ _ _ hr hA hlt
 ·rw [e, hv]
  rfl
end
def Blk (w : World) (g : Nat) (t : TypeId) (cs : Array Value) : Prop := w.heap[g]? = some (.cells cs t (0, 0))
section
variable {w w' : World} {g : Nat} {t : TypeId} {cs : Array Value}
theorem Blk.lt (h : Blk w g t cs) : g < w.heap.size := by
 unfold Blk at h
 exact (Array.getElem?_eq_some_iff.1 h).1
theorem Blk.cell (h : Blk w g t cs) (i : Nat) : w.cell? ⟨g, i, none⟩ = cs[i]? := cell_of_row w g i cs t (0, 0) h
theorem Blk.free (h : Blk w g t cs) (i : Nat) : w.frozen? ⟨g, i, none⟩ = false := by
 unfold Blk at h
 simp [World.frozen?, h]
theorem Blk.put (h : Blk w g t cs) (i : Nat) (u : Value) : Blk (w.setCell ⟨g, i, none⟩ u) g t (cs.setIfInBounds i u) := by
 unfold Blk at h ⊢
 simp [World.setCell, Array.getElem?_modify, h]
theorem Blk.far (h : Blk w g t cs) {p : Addr} (hp : g ≠ p.block) (u : Value) : Blk (w.setCell p u) g t cs := (Below.heap_setCell w p u g hp).trans h
theorem Blk.alloc (h : Blk w g t cs) (o : Obj) : Blk (w.alloc o) g t cs := (Below.heap_alloc w o g h.lt).trans h
theorem Blk.drew (h : Blk w g t cs) : Blk w.drew g t cs := h
theorem Blk.below {B : Nat} (h : Blk w g t cs) (hb : Below B w w') (hg : g < B) : Blk w' g t cs := (hb.block g hg).trans h
theorem Blk.grown {row : Option Nat} (h : Blk w g t cs) (hb : w.grownBy w' row) (hg : some g ≠ row) : Blk w' g t cs := (hb.block g h.lt hg).trans h
theorem Blk.newAt (w : World) (t : TypeId) (cs : Array Value) (g : Nat) (hg : g = w.heap.size) : Blk (w.alloc (.cells cs t)) g t cs := by subst hg; exact heap_alloc_new w _
theorem Blk.new (w : World) (t : TypeId) (cs : Array Value) : Blk (w.alloc (.cells cs t)) w.heap.size t cs := heap_alloc_new w _
end
theorem only_alloc {a w : World} {row : Option Nat} (h : a.grownBy w row) (o : Obj) : a.grownBy (w.alloc o) row :=
 ⟨h.os, h.tape, h.output, Nat.le_trans h.size (by simp), fun i hi hne => (Below.heap_alloc w o i (Nat.lt_of_lt_of_le hi h.size)).trans (h.block i hi hne)⟩
theorem only_set {a w : World} {g : Nat} (h : a.grownBy w (some g)) {p : Addr} (hp : p.block = g ∨ a.heap.size ≤ p.block) (u : Value) : a.grownBy (w.setCell p u) (some g) :=
 ⟨h.os, h.tape, h.output, by simpa [World.setCell] using h.size, fun i hi hne => (Below.heap_setCell w p u i (by
  rintro rfl
  rcases hp with hp | hp
  ·exact hne (by rw [hp])
  ·omega)).trans (h.block i hi hne)⟩
end Go.Proofs.YtcgcfeablbjnaaaGreatDoor
namespace Go.Proofs.YtcgcfeablbjnaaaGreatDoor
open Go.RowKit
section
variable {P : Program} {ops : Array Oper} {md : Region.Mode} {C : World → Prop}
def headAny (P : Program) (md : Region.Mode) (ops : Array Oper) (C : World → Prop) (n : Nat) (L : Array Bool → Act → Prop) : Nat → Array Bool → Act → Prop
 | 0, listed, a => L listed a
 | f + 1, listed, a =>
   Region.ready md ops listed ≠ [] ∧ ∀ i ∈ Region.ready md ops listed, i < n ∧ qOp P ops C i (headAny P md ops C n L f (listed.setIfInBounds i true)) a
theorem any_of_headAny {n g : Nat} {L : Array Bool → Act → Prop} {Q' : Exit → Act → World → Prop} (hL : ∀ listed a w, C w → L listed a → wpAny P md ops Q' g listed a w) :
 ∀ (f : Nat) (listed : Array Bool) (a : Act) (w : World), C w → headAny P md ops C n L f listed a → wpAny P md ops Q' (f + g) listed a w
 | 0, _, _, _, hw, h => by rw [Nat.zero_add]; exact hL _ _ _ hw h
 | f + 1, _, _, _, hw, h => by
   rw [show f + 1 + g = (f + g) + 1 by omega]
   exact ⟨fun h0 => absurd h0 h.1, fun i hi => wpOp_of_qOp hw (fun a' w' hw' h' => any_of_headAny hL f _ a' w' hw' h') (h.2 i hi).2⟩
theorem headAny_first {n i : Nat} {oi : Oper} {v : Value} {L : Array Bool → Act → Prop} (hi : ops[i]? = some oi) (hsel : ∀ (j : Nat) (o : Oper) cs b, ops[j]? = some o → o.op ≠ .select cs b)
 (hs : Region.sinkB md ops n = true) (hc : Region.chainB md ops n = true) (hn : n < ops.size) (hin : i < n)
 (hdone : ∀ listed a, L listed a → ∀ j ∈ Region.ready md ops listed, n ≤ j) :
 ∀ (f : Nat) (listed : Array Bool) (a : Act), HeadInv md ops n listed →
   (∀ j oj, ops[j]? = some oj → j ≠ i → listed.getD j true = false → (∀ e ∈ oj.after, Region.binds md e = true → e.on ≠ i) → oi.apart ops oj = true) →
   i ∈ Region.ready md ops listed → YieldsIn P ops C oi v a →
   headAny P md ops C n L f (listed.setIfInBounds i true) (a.put oi.dst v) → headAny P md ops C n L (f + 1) listed a := by
 intro f
 induction f with
 | zero =>
   intro listed a inv _ hr hy H
   have hun := (mem_ready.1 hr).1
   refine ⟨fun h => (by rw [h] at hr; cases hr), fun j hj => ?_⟩
   have hjn : j < n := by
    rcases Nat.lt_or_ge j n with h | h
    ·exact h
    ·exact absurd hj (tail_waits hs hc hn inv _ i rfl hin hun j h)
   refine ⟨hjn, ?_⟩
   by_cases hji : j = i
   ·subst hji; exact hy.qOp hi H
   ·have := hdone _ _ H j (ready_mono hj hji)
    omega
 | succ f ih =>
   intro listed a inv hfree hr hy H
   have hun := (mem_ready.1 hr).1
   refine ⟨fun h => (by rw [h] at hr; cases hr), fun j hj => ?_⟩
   have hjn : j < n := by
    rcases Nat.lt_or_ge j n with h | h
    ·exact h
    ·exact absurd hj (tail_waits hs hc hn inv _ i rfl hin hun j h)
   refine ⟨hjn, ?_⟩
   by_cases hji : j = i
   ·subst hji; exact hy.qOp hi H
   ·have h1 := (H.2 j (ready_mono hj hji)).2
    obtain ⟨hjun, oj, hoj, hall⟩ := mem_ready.1 hj
    have hnot : ∀ e ∈ oj.after, Region.binds md e = true → e.on ≠ i := fun e he hb heq => by
     have h1 := hall e he hb
     rw [heq, getD_both hun] at h1
     cases h1
    have h2 := qOp_put hoj (hfree j oj hoj hji hjun hnot) (fun cs b => hsel i oi cs b hi) (fun cs b => hsel j oj cs b hoj) hy h1
    have hfree' : ∀ k ok, ops[k]? = some ok → k ≠ i → (listed.setIfInBounds j true).getD k true = false →
     (∀ e ∈ ok.after, Region.binds md e = true → e.on ≠ i) → oi.apart ops ok = true := fun k ok hk hki hun hno => by
     refine hfree k ok hk hki ?_ hno
     by_cases hjk : j = k
     ·subst hjk; exact hjun
     ·rw [getD_set_ne true hjk] at hun; exact hun
    refine qOp_mono (fun a' h3 => ih (listed.setIfInBounds j true) a' (inv.set hj hjn) hfree' (ready_mono hr (Ne.symm hji)) h3.1 ?_) h2
    rw [Array.setIfInBounds_comm _ _ hji]
    exact h3.2
theorem headAny_lex {n g : Nat} {Lq : Act → Prop} (hsel : Region.noSelect ops = true) (hs : Region.sinkB md ops n = true) (hc : Region.chainB md ops n = true) (hn : n < ops.size) :
 ∀ (l : List Oper) (k : Nat) (listed : Array Bool) (a : Act), (∀ j, j < l.length → l[j]? = ops[k + j]?) → k + l.length = n → HeadInv md ops n listed →
 Region.lexHead md ops g l.length k listed = true → wpQuiet P ops C Lq l a →
 headAny P md ops C n (fun listed' a' => Region.seqB md ops g n listed' = true ∧ Lq a') l.length listed a
 | [], k, listed, a, _, hk, _, hB, h => by
   have : k = n := by simpa using hk
   subst this
   exact ⟨by simpa [Region.lexHead] using hB, h⟩
 | o :: l, k, listed, a, hl, hk, inv, hB, h => by
   have h0 : ops[k]? = some o := by simpa using (hl 0 (by simp)).symm
   simp only [List.length_cons, Region.lexHead, Bool.and_eq_true] at hB
   obtain ⟨⟨hr, hf⟩, hB'⟩ := hB
   have hkn : k < n := by simp only [List.length_cons] at hk; omega
   have hr' : k ∈ Region.ready md ops listed := by simpa using hr
   have hst : qOp P ops C k (wpQuiet P ops C Lq l) a := by unfold qOp; simp only [h0]; exact h
   obtain ⟨v, hy, hK⟩ := yieldsIn_of_qOp h0 hst
   exact headAny_first h0 (Region.noSelect_spec hsel) hs hc hn hkn (fun listed' a' hL => seqB_ready hL.1) l.length listed a inv (Region.free_spec h0 hf) hr' hy
    (headAny_lex hsel hs hc hn l (k + 1) _ _ (fun j hj => by have := hl (j + 1) (by simp; omega); simpa [Nat.add_assoc, Nat.add_comm 1 j] using this) (by simp only [List.length_cons] at hk; omega) (inv.set hr' hkn) hB' hK)
theorem wp_region_head {id : Nat} {Q : Exit → Act → World → Prop} {a : Act} {w : World} {l : List Oper} (C : World → Prop) (n : Nat) (hm : P.follows .mixedOrders = true) (hB : Region.lexTailB .any l.toArray n = true) (hC : C w.drew)
 (h : wpQuiet P l.toArray C (fun a' => ∀ w', C w' → wpList P l.toArray Q (l.drop n) a' w') (l.take n) a) : (Code.region id l.toArray true).wp P Q a w := by
 simp only [Region.lexTailB, Bool.and_eq_true, decide_eq_true_eq] at hB
 obtain ⟨⟨⟨⟨hsel, hn⟩, hs⟩, hc⟩, hlex⟩ := hB
 have hn' : n < l.length := by simpa using hn
 have htl : (l.take n).length = n := by simp; omega
 have hdl : (l.drop n).length = l.toArray.size - n := by simp
 have inv0 : HeadInv .any l.toArray n (Array.replicate l.toArray.size false) :=
  ⟨by simp, fun j oj _ hl => (by rw [getD_replicate_false] at hl; cases hl), fun t _ ht => getD_in (by simpa using ht) (getD_replicate_false _ _)⟩
 have H := headAny_lex (md := .any) (g := l.toArray.size - n) hsel hs hc hn (l.take n) 0 _ a (fun j hj => by
  have hj' : j < n := by rw [htl] at hj; exact hj
  simp [hj']) (by simpa using htl) inv0 (by rw [htl]; exact hlex) h
 refine wp_region_any hm ?_
 have := any_of_headAny (Q' := Q) (C := C) (g := l.toArray.size - n) (fun listed a' w' hw' hL => by
  have := wpAny_of_seq (md := .any) (Q' := Q) (l.drop n) n listed a' w' (fun j => by simp [List.getElem?_drop]) (by rw [hdl]; exact hL.1) (hL.2 w' hw')
  rwa [hdl] at this) _ _ _ _ hC H
 rw [htl, show n + (l.toArray.size - n) = l.toArray.size by omega] at this
 exact this
end
theorem quiet_same {P : Program} {f : FuncId} {args : Array Value} {w : World} {n : Nat} {v : Value}
 (h : Calls P f args (w.drewN n) fun e w' => e = .returned v ∧ w.drewN n = w') : Calls P f args (w.drewN n) fun e w'' => e = .returned v ∧ ∃ m, w'' = w.drewN m :=
 h.mono fun _ _ ⟨he, hm⟩ => ⟨he, n, hm.symm⟩
theorem zay {B : Nat} {a w : World} (h : Below B a w) (n : Nat) : Below B a (w.drewN n) := ⟨h.os, h.tape, h.output, h.size, h.block⟩
section
variable {P : Program} {ops : Array Oper} {md : Region.Mode} {S : World → Prop} {Q : Exit → Act → World → Prop}
def heldAny (P : Program) (md : Region.Mode) (ops : Array Oper) (Q : Exit → Act → World → Prop) (S : World → Prop) (n g : Nat) : Nat → Array Bool → Act → World → Prop
 | 0, listed, a, w => (∀ j ∈ Region.ready md ops listed, n ≤ j) ∧ wpAny P md ops Q g listed a w
 | m + 1, listed, a, w => Region.ready md ops listed ≠ [] ∧ ∀ i ∈ Region.ready md ops listed, i < n ∧ wpOp P ops Q i (fun a' w' => S w' ∧ heldAny P md ops Q S n g m (listed.setIfInBounds i true) a' w') a w
theorem any_of_heldAny {n g : Nat} : ∀ (m : Nat) (listed : Array Bool) (a : Act) (w : World), heldAny P md ops Q S n g m listed a w → wpAny P md ops Q (m + g) listed a w
 | 0, _, _, _, h => by rw [Nat.zero_add]; exact h.2
 | m + 1, _, _, _, h => by
   rw [show m + 1 + g = (m + g) + 1 by omega]
   exact ⟨fun h0 => absurd h0 h.1, fun i hi => wpOp_mono (fun a' w' h' => any_of_heldAny m _ a' w' h'.2) (h.2 i hi).2⟩
theorem heldAny_first {n g i : Nat} {oi : Oper} {v : Value} (hi : ops[i]? = some oi) (hsel : ∀ (j : Nat) (o : Oper) cs b, ops[j]? = some o → o.op ≠ .select cs b)
 (hQ : ∀ c a w, Q (.panic c) (a.put oi.dst v) w → Q (.panic c) a w) (hs : Region.sinkB md ops n = true) (hc : Region.chainB md ops n = true) (hn : n < ops.size) (hin : i < n) :
 ∀ (m : Nat) (listed : Array Bool) (a : Act) (w : World), HeadInv md ops n listed →
   (∀ j oj, ops[j]? = some oj → j ≠ i → listed.getD j true = false → (∀ e ∈ oj.after, Region.binds md e = true → e.on ≠ i) → oi.apart ops oj = true) →
   i ∈ Region.ready md ops listed → YieldsIf P ops S oi v a → S w →
   heldAny P md ops Q S n g m (listed.setIfInBounds i true) (a.put oi.dst v) w → heldAny P md ops Q S n g (m + 1) listed a w := by
 intro m
 induction m with
 | zero =>
   intro listed a w inv _ hr hy hS H
   have hun := (mem_ready.1 hr).1
   refine ⟨fun h => (by rw [h] at hr; cases hr), fun j hj => ?_⟩
   have hjn : j < n := by
    rcases Nat.lt_or_ge j n with h | h
    ·exact h
    ·exact absurd hj (tail_waits hs hc hn inv _ i rfl hin hun j h)
   refine ⟨hjn, ?_⟩
   by_cases hji : j = i
   ·subst hji; exact hy.wpOp hi hS ⟨hS, H⟩
   ·have := H.1 j (ready_mono hj hji)
    omega
 | succ m ih =>
   intro listed a w inv hfree hr hy hS H
   have hun := (mem_ready.1 hr).1
   refine ⟨fun h => (by rw [h] at hr; cases hr), fun j hj => ?_⟩
   have hjn : j < n := by
    rcases Nat.lt_or_ge j n with h | h
    ·exact h
    ·exact absurd hj (tail_waits hs hc hn inv _ i rfl hin hun j h)
   refine ⟨hjn, ?_⟩
   by_cases hji : j = i
   ·subst hji; exact hy.wpOp hi hS ⟨hS, H⟩
   ·have h1 := (H.2 j (ready_mono hj hji)).2
    obtain ⟨hjun, oj, hoj, hall⟩ := mem_ready.1 hj
    have hnot : ∀ e ∈ oj.after, Region.binds md e = true → e.on ≠ i := fun e he hb heq => by
     have h1 := hall e he hb
     rw [heq, getD_both hun] at h1
     cases h1
    have h2 := wpOp_putIf hoj (hfree j oj hoj hji hjun hnot) (fun cs b => hsel i oi cs b hi) (fun cs b => hsel j oj cs b hoj) hQ hy h1
    have hfree' : ∀ k ok, ops[k]? = some ok → k ≠ i → (listed.setIfInBounds j true).getD k true = false →
     (∀ e ∈ ok.after, Region.binds md e = true → e.on ≠ i) → oi.apart ops ok = true := fun k ok hk hki hun hno => by
     refine hfree k ok hk hki ?_ hno
     by_cases hjk : j = k
     ·subst hjk; exact hjun
     ·rw [getD_set_ne true hjk] at hun; exact hun
    refine wpOp_mono (fun a' w' h3 => ⟨h3.2.1, ih (listed.setIfInBounds j true) a' w' (inv.set hj hjn) hfree' (ready_mono hr (Ne.symm hji)) h3.1 h3.2.1 ?_⟩) h2
    rw [Array.setIfInBounds_comm _ _ hji]
    exact h3.2.2
structure TailOk (md : Region.Mode) (ops : Array Oper) (n : Nat) : Prop where
 sel : Region.noSelect ops = true
 lt : n < ops.size
 sink : Region.sinkB md ops n = true
 chain : Region.chainB md ops n = true
def heldQ (P : Program) (md : Region.Mode) (ops : Array Oper) (Q : Exit → Act → World → Prop) (S : World → Prop) (n g m : Nat) (listed : Array Bool) (a : Act) (w : World) : Prop :=
 HeadInv md ops n listed → heldAny P md ops Q S n g m listed a w
theorem heldQ_take {n g i m : Nat} {oi : Oper} {v : Value} {listed : Array Bool} {a : Act} {w : World} (T : TailOk md ops n) (hi : ops[i]? = some oi) (hin : Nat.ble (i + 1) n = true) (hf : Region.free md ops listed i = true) (hr : (Region.ready md ops listed).contains i = true)
 (hQ : ∀ c a w, Q (.panic c) (a.put oi.dst v) w → Q (.panic c) a w) (hy : YieldsIf P ops S oi v a) (hS : S w)
 (h : heldQ P md ops Q S n g m (listed.setIfInBounds i true) (a.put oi.dst v) w) : heldQ P md ops Q S n g (m + 1) listed a w := fun inv => by
 have hr' : i ∈ Region.ready md ops listed := by simpa using hr
 have hin' : i < n := Nat.le_of_ble_eq_true hin
 exact heldAny_first hi (Region.noSelect_spec T.sel) hQ T.sink T.chain T.lt hin' m listed a w inv (Region.free_spec hi hf) hr' hy hS (h (inv.set hr' hin'))
def HeldAll (P : Program) (md : Region.Mode) (ops : Array Oper) (Q : Exit → Act → World → Prop) (S : World → Prop) (n g m : Nat) (listed : Array Bool) (a : Act) (w : World) (rs : List Nat) : Prop :=
 ∀ i ∈ rs, i < n ∧ wpOp P ops Q i (fun a' w' => S w' ∧ heldQ P md ops Q S n g m (listed.setIfInBounds i true) a' w') a w
theorem HeldAll.nil {n g m : Nat} {listed : Array Bool} {a : Act} {w : World} : HeldAll P md ops Q S n g m listed a w [] := fun _ h => by cases h
theorem HeldAll.cons {n g m i : Nat} {o : Oper} {rs : List Nat} {listed : Array Bool} {a : Act} {w : World} (ho : ops[i]? = some o) (hin : Nat.ble (i + 1) n = true)
 (h : ∀ K' : Act → World → Prop, Shut (∀ a w, S w → (S w → heldQ P md ops Q S n g m (listed.setIfInBounds i true) a w) → K' a w) → if Region.wanted o (yielded ops a.tmps) = true then Oper.wp P o a w K' Q else K' (a.put o.dst undef) w)
 (hs : HeldAll P md ops Q S n g m listed a w rs) : HeldAll P md ops Q S n g m listed a w (i :: rs) := fun j hj => by
 rcases List.mem_cons.1 hj with rfl | hj
 ·exact ⟨Nat.le_of_ble_eq_true hin, wpOp_step ho (fun K' hK => h K' (fun a w hS hW => hK a w ⟨hS, hW hS⟩))⟩
 ·exact hs j hj
theorem heldQ_all {n g m : Nat} {rs : List Nat} {listed : Array Bool} {a : Act} {w : World} (hr : Region.ready md ops listed = rs) (hne : rs ≠ [])
 (h : HeldAll P md ops Q S n g m listed a w rs) : heldQ P md ops Q S n g (m + 1) listed a w := fun inv =>
 ⟨hr ▸ hne, fun i hi => ⟨(h i (hr ▸ hi)).1, wpOp_mono (fun _ _ hk => ⟨hk.1, hk.2 (inv.set hi (h i (hr ▸ hi)).1)⟩) (h i (hr ▸ hi)).2⟩⟩
theorem heldQ_one {n g m i : Nat} {o : Oper} {listed : Array Bool} {a : Act} {w : World} (hr : Region.ready md ops listed = [i]) (ho : ops[i]? = some o) (hin : Nat.ble (i + 1) n = true)
 (h : ∀ K' : Act → World → Prop, Shut (∀ a w, S w → (S w → heldQ P md ops Q S n g m (listed.setIfInBounds i true) a w) → K' a w) → if Region.wanted o (yielded ops a.tmps) = true then Oper.wp P o a w K' Q else K' (a.put o.dst undef) w) :
 heldQ P md ops Q S n g (m + 1) listed a w := heldQ_all hr (by simp) (HeldAll.cons ho hin h HeldAll.nil)
theorem zaf {l : List Oper} {n g i m : Nat} {oi : Oper} {v : Value} {listed : Array Bool} {a : Act} {w : World} (T : TailOk md l.toArray n) (hi : l[i]? = some oi) (hin : Nat.ble (i + 1) n = true) (hf : Region.free md l.toArray listed i = true) (hr : (Region.ready md l.toArray listed).contains i = true)
 (hQ : ∀ c a w, Q (.panic c) (a.put oi.dst v) w → Q (.panic c) a w) (hy : YieldsIf P l.toArray S oi v a) (hS : S w)
 (h : heldQ P md l.toArray Q S n g m (listed.setIfInBounds i true) (a.put oi.dst v) w) : heldQ P md l.toArray Q S n g (m + 1) listed a w :=
 heldQ_take T (by simpa using hi) hin hf hr hQ hy hS h
theorem zbg {l : List Oper} {n g m i : Nat} {o : Oper} {listed : Array Bool} {a : Act} {w : World} (hr : Region.ready md l.toArray listed = [i]) (ho : l[i]? = some o) (hin : Nat.ble (i + 1) n = true)
 (h : ∀ K' : Act → World → Prop, Shut (∀ a w, S w → (S w → heldQ P md l.toArray Q S n g m (listed.setIfInBounds i true) a w) → K' a w) → if Region.wanted o (yielded l.toArray a.tmps) = true then Oper.wp P o a w K' Q else K' (a.put o.dst undef) w) :
 heldQ P md l.toArray Q S n g (m + 1) listed a w := heldQ_one hr (by simpa using ho) hin h
theorem zb6 {l : List Oper} {i : Nat} {oi : Oper} {v : Value} {fuel : Nat} {listed : Array Bool} {a : Act} {w : World} (hi : l[i]? = some oi)
 (hs : Region.noSelect l.toArray = true) (hf : Region.free md l.toArray listed i = true) (hr : (Region.ready md l.toArray listed).contains i = true)
 (hQ : ∀ c a w, Q (.panic c) (a.put oi.dst v) w → Q (.panic c) a w) (hy : YieldsIf P l.toArray S oi v a) (hS : S w)
 (h : wpAnyH P md l.toArray Q S fuel (listed.setIfInBounds i true) (a.put oi.dst v) w) : wpAnyH P md l.toArray Q S (fuel + 1) listed a w :=
 wpAnyH_take (by simpa using hi) hs hf hr hQ hy hS h
theorem za7 {l : List Oper} {fuel : Nat} {listed : Array Bool} {a : Act} {w : World} {i : Nat} {o : Oper} {rs : List Nat} (ho : l[i]? = some o)
 (h : ∀ K' : Act → World → Prop, Shut (∀ a w, S w → (S w → wpAnyH P md l.toArray Q S fuel (listed.setIfInBounds i true) a w) → K' a w) → if Region.wanted o (yielded l.toArray a.tmps) = true then Oper.wp P o a w K' Q else K' (a.put o.dst undef) w)
 (hs : AllReadyH P md l.toArray Q S fuel listed a w rs) : AllReadyH P md l.toArray Q S fuel listed a w (i :: rs) := AllReadyH.cons (by simpa using ho) h hs
theorem heldQ_tail {n g : Nat} {l tl : List Oper} {listed : Array Bool} {a : Act} {w : World} (hseq : Region.seqB md l.toArray g n listed = true) (hg : g = tl.length) (htl : tl = l.drop n) (h : wpList P l.toArray Q tl a w) : heldQ P md l.toArray Q S n g 0 listed a w := fun _ => by
 subst hg
 subst htl
 exact ⟨fun j hj => seqB_ready hseq j hj, wpAny_of_seq (l.drop n) n listed a w (fun j => by simp [List.getElem?_drop]) hseq h⟩
theorem tailOk {n : Nat} (h : (Region.noSelect ops && Nat.ble (n + 1) ops.size && Region.sinkB md ops n && Region.chainB md ops n) = true) : TailOk md ops n := by
 simp only [Bool.and_eq_true] at h
 exact ⟨h.1.1.1, Nat.le_of_ble_eq_true h.1.1.2, h.1.2, h.2⟩
theorem zcs {id : Nat} {a : Act} {w : World} (n : Nat) (hm : P.follows .mixedOrders = true) (T : TailOk .any ops n) (hS : S w.drew)
 (h : TailOk .any ops n → S w.drew → heldQ P .any ops Q S n (ops.size - n) n (Array.replicate ops.size false) a w.drew) : (Code.region id ops true).wp P Q a w := by
 refine wp_region_any hm ?_
 have inv0 : HeadInv .any ops n (Array.replicate ops.size false) :=
  ⟨by simp, fun j oj _ hl => (by rw [getD_replicate_false] at hl; cases hl), fun t _ ht => getD_in (by simpa using ht) (getD_replicate_false _ _)⟩
 have := any_of_heldAny n _ _ _ (h T hS inv0)
 rwa [show n + (ops.size - n) = ops.size by have := T.lt; omega] at this
end
theorem block_add (a : Addr) (n : Nat) : (a.add n).block = a.block := by unfold Addr.add; split <;> rfl
def Rd (w : World) (B : Nat) (A : Option Addr) (xs : List Value) : Prop := ∀ j u, xs[j]? = some u → ∃ ad, A = some ad ∧ ad.block < B ∧ w.cell? (ad.add j) = some u
section
variable {w w' : World} {B B' : Nat} {A : Option Addr} {xs : List Value}
theorem Rd.nil : Rd w B A [] := fun j u h => by simp at h
theorem Rd.keep (h : Rd w B A xs) (hk : ∀ p : Addr, p.block < B → w'.cell? p = w.cell? p) : Rd w' B A xs := fun j u hu => by
 obtain ⟨ad, e, hb, hc⟩ := h j u hu
 exact ⟨ad, e, hb, (hk _ (by rw [block_add]; exact hb)).trans hc⟩
theorem Rd.more (h : Rd w B A xs) (hB : B ≤ B') : Rd w B' A xs := fun j u hu => by
 obtain ⟨ad, e, hb, hc⟩ := h j u hu
 exact ⟨ad, e, Nat.lt_of_lt_of_le hb hB, hc⟩
theorem Rd.below (h : Rd w B A xs) (hb : Below B w w') : Rd w' B A xs := h.keep fun _ hp => hb.cell hp
theorem Rd.ext {W : World} (h : Rd w W.heap.size A xs) (hb : Below W.heap.size w w') : Rd w' W.heap.size A xs := h.below hb
theorem Rd.drewN (h : Rd w B A xs) (n : Nat) : Rd (w.drewN n) B A xs := h
theorem Rd.alloc (h : Rd w B A xs) (hB : B ≤ w.heap.size) (o : Obj) : Rd (w.alloc o) B A xs := h.keep fun p hp => World.cell?_alloc_lt w o p (by omega)
theorem Rd.grown (h : Rd w B A xs) {row : Option Nat} (hg : w.grownBy w' row) (hB : B ≤ w.heap.size) (hr : ∀ g, row = some g → B ≤ g) : Rd w' B A xs :=
 h.keep fun p hp => World.cell?_of_block (hg.block p.block (by omega) (fun e => by have := hr _ e.symm; omega))
theorem Rd.of_blk {g : Nat} {t : TypeId} {cs : Array Value} (h : Blk w g t cs) : Rd w w.heap.size (some ⟨g, 0, none⟩) cs.toList := fun j u hu => by
 refine ⟨_, rfl, h.lt, ?_⟩
 have e : (⟨g, 0, none⟩ : Addr).add j = ⟨g, j, none⟩ := by
  unfold Addr.add
  split
  ·subst_vars; rfl
  ·simp
 rw [e, h.cell j]
 simpa using hu
theorem Rd.of_own {base : Nat} {e : TypeId} {n c : Nat} (h : w.ownsRow base e 1 (.slice A n c) n xs) : Rd w w.heap.size A xs := fun j u hu => by
 rcases h.2 with ⟨h1, h2⟩ | ⟨g, cap, cur, h1, _, hh, _⟩
 ·have : xs = [] := by
   have := h.1
   subst h2
   exact List.eq_nil_of_length_eq_zero (by simpa using this)
  subst this
  simp at hu
 ·have hA : A = some ⟨g, 0, none⟩ := by injection h1
  subst hA
  refine ⟨_, rfl, Blk.lt (t := e) hh, h.cells (g := g) rfl j u hu⟩
end
theorem Blk.drewN {w : World} {g : Nat} {t : TypeId} {cs : Array Value} (h : Blk w g t cs) (n : Nat) : Blk (w.drewN n) g t cs := h
theorem run_make_one {P : Program} (t e : TypeId) (i : TypeInfo) (z : Value) (ht : P.underlying t = some (.slice e)) (hi : P.info? e = some i) (hz : i.zero = some z) (hs : i.size = 1) (hzc : z.cells = #[z])
 (n : Nat) (hb : i.bytes * n ≤ 281474976710656) (h63 : n ≤ 9223372036854775807) (w : World) :
 (Instr.makeSlice t (.int .i64 (n : Int)) (.int .i64 (n : Int))).run P w = .ok (.slice (some ⟨w.heap.size, 0, none⟩) n n) (w.alloc (.cells (List.replicate n z).toArray e)) := by
 have hb' : (i.bytes : Int) * (n : Int) ≤ 281474976710656 := by
  have h : ((i.bytes * n : Nat) : Int) ≤ 281474976710656 := by omega
  rwa [Int.natCast_mul] at h
 have hr := run_make (P := P) w t e i z ht hi hz .i64 .i64 n n (by omega) (by omega) hb' (by omega)
 simp only [Int.toNat_natCast, hs, Nat.mul_one, hzc] at hr
 rw [hr, show madeCells #[z] n = (List.replicate n z).toArray from by rw [← toList_madeCells_one]]
structure ElemT (P : Program) (t e : TypeId) (z : Value) (size bytes : Nat) : Prop where
 und : P.underlying t = some (.slice e)
 info : ∃ i, P.info? e = some i ∧ i.zero = some z ∧ i.size = size ∧ i.bytes = bytes
 zs : z.cells.size = size
 pos : 0 < size
theorem ElemT.mk' {P : Program} {t e : TypeId} {z : Value} {size bytes : Nat} (h1 : P.underlying t = some (.slice e)) (h2 : (P.info? e).map (fun i => (i.zero, i.size, i.bytes)) = some (some z, size, bytes)) (h3 : z.cells.size = size) (h4 : 0 < size) : ElemT P t e z size bytes :=
 ⟨h1, info_parts h2, h3, h4⟩
theorem ElemT.make {P : Program} {t e : TypeId} {z : Value} {bytes : Nat} (h : ElemT P t e z 1 bytes) (hzc : z.cells = #[z]) (n : Nat) (hb : bytes * n ≤ 281474976710656) (h63 : n ≤ 9223372036854775807) (w : World) :
 (Instr.makeSlice t (.int .i64 (n : Int)) (.int .i64 (n : Int))).run P w = .ok (.slice (some ⟨w.heap.size, 0, none⟩) n n) (w.alloc (.cells (List.replicate n z).toArray e)) := by
 obtain ⟨i, hi, hz, hs, hby⟩ := h.info
 exact run_make_one t e i z h.und hi hz hs hzc n (by rw [hby]; exact hb) h63 w
theorem zbk (w : World) (cs : Array Value) (e : TypeId) (j : Nat) (u : Value) (h : cs.toList[j]? = some u) : (w.alloc (.cells cs e)).cell? ((⟨w.heap.size, 0, none⟩ : Addr).add j) = some u := by
 have e1 : (⟨w.heap.size, 0, none⟩ : Addr).add j = ⟨w.heap.size, j, none⟩ := by
  unfold Addr.add
  split
  ·subst_vars; rfl
  ·simp
 rw [e1, (Blk.new w e cs).cell j]
 simpa using h
theorem run_app {P : Program} {t e : TypeId} {z : Value} {size bytes : Nat} (h : ElemT P t e z size bytes) (w : World) (base : Nat) (ty : TypeId) (v : Value) (n : Nat) (xs : List Value) (hown : w.ownsRow base e size v n xs)
 (cs : Array Value) (hcs : cs.size = size) (h1 : ∀ u ∈ cs.toList, u.oneCell' = true) (hn : n ≤ 10000000) (hb : bytes ≤ 1000) (hbase : base ≤ w.heap.size) :
 ∃ v' w', (Builtin.append_ #[t, t] ty #[v, .slice (some ⟨w.heap.size, 0, none⟩) 1 1]).run P (w.alloc (.cells cs e)) = .ok v' w' ∧ w'.ownsRow base e size v' (n + 1) (xs ++ cs.toList) ∧ w.grownBy w' v.ownBlock ∧
   (v'.ownBlock = v.ownBlock ∨ v'.ownBlock = some (w.heap.size + 1)) := by
 obtain ⟨i, hi, hz, hs, hby⟩ := h.info
 obtain ⟨v', w', h1, h2, h3, _, h5⟩ := run_append_own_at (P := P) (w.alloc (.cells cs e)) base t ty e i z size bytes h.und hi hz hs hby h.zs h.pos v n xs (hown.alloc _) ⟨w.heap.size, 0, none⟩ 1 1 cs.toList
  (by simpa using hcs) (fun j u hu => zbk w cs e j u hu) h1 (by simp only [maxLen]; omega) (Nat.le_trans (Nat.mul_le_mul (show n + 1 ≤ 10000001 by omega) hb) (by omega)) (by simp; omega)
 refine ⟨v', w', h1, h2, (World.grownBy_alloc w _ _).trans h3, ?_⟩
 simpa using h5
theorem wp_app {P : Program} {t e : TypeId} {z : Value} {size bytes : Nat} (h : ElemT P t e z size bytes) {w : World} {o : Oper} {a : Act} {K : Act → World → Prop} {Q : Exit → Act → World → Prop} (s x : Operand)
 (ho : o.op = .call { callee := .builtin .append, args := #[s, x], argTypes := #[t, t] })
 (base : Nat) (v : Value) (n : Nat) (xs : List Value) (hs : a.eval s = v) (hown : w.ownsRow base e size v n xs) (cs : Array Value) (hcs : cs.size = size) (h1 : ∀ u ∈ cs.toList, u.oneCell' = true)
 (hx : a.eval x = .slice (some ⟨w.heap.size, 0, none⟩) 1 1) (hn : n ≤ 10000000) (hb : bytes ≤ 1000) (hbase : base ≤ w.heap.size)
 (hk : ∀ v' w', w'.ownsRow base e size v' (n + 1) (xs ++ cs.toList) → w.grownBy w' v.ownBlock → (v'.ownBlock = v.ownBlock ∨ v'.ownBlock = some (w.heap.size + 1)) → K (a.put o.dst v') w') : o.wp P a (w.alloc (.cells cs e)) K Q := by
 obtain ⟨v', w', hrun, h2, h3, h4⟩ := run_app h w base o.type v n xs hown cs hcs h1 hn hb hbase
 unfold Oper.wp execOp
 simp only [ho, resolve, invoke, builtin, Sem.run_bind, Sem.run_pure, Result.andThen_ok, List.map_toArray, List.map_cons, List.map_nil, hs, hx, hrun]
 exact hk v' w' h2 h3 h4
theorem zcn {P : Program} {t e : TypeId} {z : Value} {size bytes : Nat} (h : ElemT P t e z size bytes) {w : World} {ops : Array Oper} {rest : List Oper} {o : Oper} {a : Act} {Q : Exit → Act → World → Prop} (hgd : o.guard = none) (s x : Operand)
 (ho : o.op = .call { callee := .builtin .append, args := #[s, x], argTypes := #[t, t] })
 (base : Nat) (v : Value) (n : Nat) (xs : List Value) (hs : a.eval s = v) (hown : w.ownsRow base e size v n xs) (cs : Array Value) (hcs : cs.size = size) (h1 : ∀ u ∈ cs.toList, u.oneCell' = true)
 (hx : a.eval x = .slice (some ⟨w.heap.size, 0, none⟩) 1 1) (hn : n ≤ 10000000) (hb : bytes ≤ 1000) (hbase : base ≤ w.heap.size)
 (hk : ∀ v' w', w'.ownsRow base e size v' (n + 1) (xs ++ cs.toList) → w.grownBy w' v.ownBlock → (v'.ownBlock = v.ownBlock ∨ v'.ownBlock = some (w.heap.size + 1)) → wpList P ops Q rest (a.put o.dst v') w') :
 wpList P ops Q (o :: rest) a (w.alloc (.cells cs e)) :=
 wpList_plain hgd fun _ hK => wp_app h s x ho base v n xs hs hown cs hcs h1 hx hn hb hbase fun v' w' h2 h3 h4 => hK _ _ (hk v' w' h2 h3 h4)
theorem zas {w : World} {base : Nat} {e : TypeId} {size n : Nat} {v : Value} {xs : List Value} (h : w.ownsRow base e size v n xs) : ∃ A c, v = .slice A n c := by
 rcases h.2 with ⟨h, h0⟩ | ⟨g, cap, cur, h, _⟩
 ·exact ⟨none, 0, by rw [h, h0]⟩
 ·exact ⟨_, _, h⟩
theorem own_far {w : World} {base : Nat} {e : TypeId} {size n g : Nat} {v : Value} {xs : List Value} (hown : w.ownsRow base e size v n xs) (hg : g < base) : v.ownBlock = none ∨ v.ownBlock ≠ some g := by
 right
 intro h
 have := (hown.lt g h).1
 omega
theorem own_grown {w w' : World} {base : Nat} {e : TypeId} {size n g : Nat} {v : Value} {xs : List Value} (hown : w.ownsRow base e size v n xs) (hg : w.grownBy w' (some g)) (h : g < base) : w'.ownsRow base e size v n xs :=
 hown.kept hg (own_far hown h)
theorem zb7 {w w' : World} {base : Nat} {e : TypeId} {size n : Nat} {v : Value} {xs : List Value} (hown : w.ownsRow base e size v n xs) (hb : Below w.heap.size w w') : w'.ownsRow base e size v n xs :=
 hown.kept (row := none) ⟨hb.os, hb.tape, hb.output, hb.size, fun k hk _ => hb.block k hk⟩ (by
  cases h : v.ownBlock with
  | none => exact .inl rfl
  | some g => exact .inr (by simp))
theorem step_app {P : Program} {t e : TypeId} {z : Value} {size bytes : Nat} (h : ElemT P t e z size bytes) {W : World} {ops : Array Oper} {o : Oper} {a : Act} {K : Act → World → Prop} {Q : Exit → Act → World → Prop} {E : Prop} (hgd : o.guard = none) (s x : Operand)
 (ho : o.op = .call { callee := .builtin .append, args := #[s, x], argTypes := #[t, t] })
 (base : Nat) (v : Value) (n : Nat) (xs : List Value) (hs : a.eval s = v) (hown : W.ownsRow base e size v n xs) (ad : Addr) (m c : Nat) (news : List Value) (hx : a.eval x = .slice (some ad) m c) (hl : news.length = m * size)
 (hnews : ∀ j u, news[j]? = some u → W.cell? (ad.add j) = some u) (h1 : ∀ u ∈ news, u.oneCell' = true) (hn : n + m ≤ 10000000) (hb : bytes ≤ 1000) (hbase : base ≤ W.heap.size)
 (hk : ∀ v' w', w'.ownsRow base e size v' (n + m) (xs ++ news) → W.grownBy w' v.ownBlock → (v'.ownBlock = v.ownBlock ∨ v'.ownBlock = some W.heap.size) → K (a.put o.dst v') w') :
 if Region.wanted o (yielded ops a.tmps) = true then Oper.wp P o a W K Q else E := by
 have hw : Region.wanted o (yielded ops a.tmps) = true := by simp [Region.wanted, hgd]
 rw [if_pos hw]
 obtain ⟨i, hi, hz, hsz, hby⟩ := h.info
 obtain ⟨v', w', hrun, h2, h3, _, h5⟩ := run_append_own_at (P := P) W base t o.type e i z size bytes h.und hi hz hsz hby h.zs h.pos v n xs hown ad m c news hl hnews h1 (by simp only [maxLen]; omega) (Nat.le_trans (Nat.mul_le_mul hn hb) (by omega)) hbase
 unfold Oper.wp execOp
 simp only [ho, resolve, invoke, builtin, Sem.run_bind, Sem.run_pure, Result.andThen_ok, List.map_toArray, List.map_cons, List.map_nil, hs, hx, hrun]
 exact hk v' w' h2 h3 h5
theorem below_app {w0 w w' : World} {base : Nat} {e : TypeId} {size n B : Nat} {v : Value} {xs : List Value} (hown : w.ownsRow base e size v n xs) (hb : Below B w0 w) (hB : B ≤ base) (hs : B ≤ w.heap.size) (hg : w.grownBy w' v.ownBlock) : Below B w0 w' :=
 hb.grown hg hs (fun k hk => Nat.le_trans hB (hown.lt k hk).1)
structure TenD where
 load : Int
 shadow : Int
 prio : Int
 lag : Int
 allowed : Int
 group : Int
 noisy : Bool
structure CfgD where
 regions : Int
 zones : List Int
 cells : List (Int × Int)
 tens : List TenD
 vers : List (Int × Int)
 reps : List Int
 obs : List Int
 blast : Int
 lease : Int
 bake : Int
structure WinD where
 cell : Int
 epoch : Int
 version : Int
 lo : Int
 hi : Int
 deriving DecidableEq
structure TsD where
 placed : Bool
 shed : Bool
 home : Int
 standby : Int
 next : Int
 target : Int
 epoch : Int
 win : WinD
 deriving DecidableEq
structure CsD where
 mode : Int
 running : Int
 wanted : Int
 since : Int
 deriving DecidableEq
structure StD where
 tick : Int
 count : Int
 tens : List TsD
 cells : List CsD
 proven : Int
 evac : Int
 low : Int
 high : Int
structure EnD where
 kind : Int
 tick : Int
 tenant : Int
 cell : Int
 other : Int
 epoch : Int
 lo : Int
 hi : Int
 n : Int
 deriving DecidableEq
abbrev iv (n : Int) : Value := .int .i64 n
def TenD.cells (t : TenD) : List Value := [iv t.load, iv t.shadow, iv t.prio, iv t.lag, iv t.allowed, iv t.group, .bool t.noisy]
def pairCells (p : Int × Int) : List Value := [iv p.1, iv p.2]
def WinD.cells (x : WinD) : List Value := [iv x.cell, iv x.epoch, iv x.version, iv x.lo, iv x.hi]
def TsD.cells (t : TsD) : List Value := [.bool t.placed, .bool t.shed, iv t.home, iv t.standby, iv t.next, iv t.target, iv t.epoch, iv t.win.cell, iv t.win.epoch, iv t.win.version, iv t.win.lo, iv t.win.hi]
def CsD.cells (x : CsD) : List Value := [iv x.mode, iv x.running, iv x.wanted, iv x.since]
def EnD.cells (e : EnD) : Array Value := #[iv e.kind, iv e.tick, iv e.tenant, iv e.cell, iv e.other, iv e.epoch, iv e.lo, iv e.hi, iv e.n]
def EnD.zero : EnD := ⟨0, 0, 0, 0, 0, 0, 0, 0, 0⟩
def StD.zero : StD := ⟨0, 0, [], [], 0, 0, 0, 0⟩
structure CfgH where
 az : Option Addr
 kz : Nat
 ac : Option Addr
 kc : Nat
 at_ : Option Addr
 kt : Nat
 av : Option Addr
 kv : Nat
 ar : Option Addr
 kr : Nat
 ao : Option Addr
 ko : Nat
def cfgV (c : CfgD) (h : CfgH) : Array Value := #[iv c.regions, .slice h.az c.zones.length h.kz, .slice h.ac c.cells.length h.kc, .slice h.at_ c.tens.length h.kt, .slice h.av c.vers.length h.kv, .slice h.ar c.reps.length h.kr, .slice h.ao c.obs.length h.ko, iv c.blast, iv c.lease, iv c.bake]
structure CfgAt (w : World) (B : Nat) (c : CfgD) (h : CfgH) : Prop where
 zones : Rd w B h.az (c.zones.map iv)
 cells : Rd w B h.ac (c.cells.flatMap pairCells)
 tens : Rd w B h.at_ (c.tens.flatMap TenD.cells)
 vers : Rd w B h.av (c.vers.flatMap pairCells)
 reps : Rd w B h.ar (c.reps.map iv)
 obs : Rd w B h.ao (c.obs.map iv)
structure StH where
 at_ : Option Addr
 kt : Nat
 ac : Option Addr
 kc : Nat
def stV (s : StD) (h : StH) : Array Value := #[iv s.tick, iv s.count, .slice h.at_ s.tens.length h.kt, .slice h.ac s.cells.length h.kc, iv s.proven, iv s.evac, iv s.low, iv s.high]
structure StAt (w : World) (B : Nat) (s : StD) (h : StH) : Prop where
 tens : Rd w B h.at_ (s.tens.flatMap TsD.cells)
 cells : Rd w B h.ac (s.cells.flatMap CsD.cells)
theorem CfgAt.keep {w w' : World} {B : Nat} {c : CfgD} {h : CfgH} (H : CfgAt w B c h) (hk : ∀ p : Addr, p.block < B → w'.cell? p = w.cell? p) : CfgAt w' B c h :=
 ⟨H.zones.keep hk, H.cells.keep hk, H.tens.keep hk, H.vers.keep hk, H.reps.keep hk, H.obs.keep hk⟩
theorem CfgAt.below {w w' : World} {B : Nat} {c : CfgD} {h : CfgH} (H : CfgAt w B c h) (hb : Below B w w') : CfgAt w' B c h := H.keep fun _ hp => hb.cell hp
theorem CfgAt.more {w : World} {B B' : Nat} {c : CfgD} {h : CfgH} (H : CfgAt w B c h) (hB : B ≤ B') : CfgAt w B' c h :=
 ⟨H.zones.more hB, H.cells.more hB, H.tens.more hB, H.vers.more hB, H.reps.more hB, H.obs.more hB⟩
theorem StAt.keep {w w' : World} {B : Nat} {s : StD} {h : StH} (H : StAt w B s h) (hk : ∀ p : Addr, p.block < B → w'.cell? p = w.cell? p) : StAt w' B s h := ⟨H.tens.keep hk, H.cells.keep hk⟩
theorem StAt.below {w w' : World} {B : Nat} {s : StD} {h : StH} (H : StAt w B s h) (hb : Below B w w') : StAt w' B s h := H.keep fun _ hp => hb.cell hp
theorem StAt.more {w : World} {B B' : Nat} {s : StD} {h : StH} (H : StAt w B s h) (hB : B ≤ B') : StAt w B' s h := ⟨H.tens.more hB, H.cells.more hB⟩
theorem flat_at {α : Type} (f : α → List Value) (k : Nat) (hf : ∀ x, (f x).length = k) : ∀ (l : List α) (i j : Nat) (x : α), l[i]? = some x → j < k → (l.flatMap f)[i * k + j]? = (f x)[j]?
 | [], i, j, x, h, _ => by simp at h
 | y :: l, 0, j, x, h, hj => by
   obtain rfl : y = x := by simpa using h
   rw [List.flatMap_cons, Nat.zero_mul, Nat.zero_add, List.getElem?_append_left (by rw [hf]; exact hj)]
 | y :: l, i + 1, j, x, h, hj => by
   rw [List.flatMap_cons, List.getElem?_append_right (by rw [hf, Nat.succ_mul]; omega), hf, show (i + 1) * k + j - k = i * k + j by rw [Nat.succ_mul]; omega]
   exact flat_at f k hf l i j x (by simpa using h) hj
theorem Rd.elem {w : World} {B : Nat} {A : Option Addr} {α : Type} (f : α → List Value) (k : Nat) (hf : ∀ x, (f x).length = k) (hk : 0 < k) {l : List α} (h : Rd w B A (l.flatMap f)) {i : Nat} {x : α} (hx : l[i]? = some x) :
 ∃ ad, A = some ad ∧ ad.block < B ∧ ∀ j v, (f x)[j]? = some v → w.cell? ((ad.add (i * k)).add j) = some v := by
 have h0 : ∃ v, (f x)[0]? = some v := ⟨(f x)[0]'(by rw [hf]; exact hk), List.getElem?_eq_getElem _⟩
 obtain ⟨v0, h0⟩ := h0
 obtain ⟨ad, e, hb, _⟩ := h (i * k) v0 (by have := flat_at f k hf l i 0 x hx hk; rw [Nat.add_zero] at this; rw [this]; exact h0)
 refine ⟨ad, e, hb, fun j v hv => ?_⟩
 have hj : j < k := by rw [← hf x]; exact (List.getElem?_eq_some_iff.1 hv).1
 obtain ⟨ad', e', _, hc⟩ := h (i * k + j) v ((flat_at f k hf l i j x hx hj).trans hv)
 obtain rfl : ad = ad' := Option.some.inj (e.symm.trans e')
 rw [Addr.add_add]
 exact hc
def hasB (set i : Int) : Bool := decide (0 ≤ i) && decide (i < 62) && set.toNat.testBit i.toNat
def CfgD.zoneOf (c : CfgD) (k : Int) : Int := if k < 0 ∨ (c.cells.length : Int) ≤ k then -1 else (c.cells.getD k.toNat (0, 0)).1
def CfgD.regionOf (c : CfgD) (k : Int) : Int := if c.zoneOf k < 0 then -1 else c.zones.getD (c.zoneOf k).toNat 0
section
variable {P : Program} {ty t' : TypeId} {n g : Nat} {w : World} {cs : Array Value}
theorem run_loadVar_blk (hagg : ∀ w, (isAgg ty).run P w = .ok true w) (hsz : ∀ w, (Go.sizeOf ty).run P w = .ok n w) (hb : Blk w g t' cs) (hn : cs.size = n) : (loadVar ty ⟨g, 0, none⟩).run P w = .ok (.agg cs) w := by
 have hl : (loadCells ⟨g, 0, none⟩ n).run P w = .ok cs w := by
  have := run_loadCells_list (P := P) w ⟨g, 0, none⟩ cs.toList (fun j v hj => by
   obtain ⟨ad, h, _, hc⟩ := Rd.of_blk hb j v hj
   injection h with h
   subst h
   exact hc)
  rw [Array.length_toList, hn] at this
  rw [this]
 unfold loadVar
 simp [Sem.run_bind, hagg, hsz, Result.andThen, hl]
theorem res_cell_tmp {fn : Func} {p u : Tmp} {tmps : Array Value} (h : fn.results = #[.cell p ty, .tmp u]) (hagg : ∀ w, (isAgg ty).run P w = .ok true w) (hsz : ∀ w, (Go.sizeOf ty).run P w = .ok n w) (hp : tmps.getD p undef = .pointer (some ⟨g, 0, none⟩)) (hb : Blk w g t' cs) (hn : cs.size = n) :
 (results fn tmps).run P w = .ok (.tuple #[.agg cs, tmps.getD u undef]) w := by
 rw [results_cell_tmp h, hp]
 simp [asAddr, Result.andThen, run_loadVar_blk hagg hsz hb hn]
theorem zat {fn : Func} {p : Tmp} {tmps : Array Value} (h : fn.results = #[.cell p ty]) (hagg : ∀ w, (isAgg ty).run P w = .ok true w) (hsz : ∀ w, (Go.sizeOf ty).run P w = .ok n w) (hp : tmps.getD p undef = .pointer (some ⟨g, 0, none⟩)) (hb : Blk w g t' cs) (hn : cs.size = n) :
 (results fn tmps).run P w = .ok (.agg cs) w := by
 unfold results
 rw [h]
 simp only [List.mapM_toArray, List.mapM_cons, List.mapM_nil, hp]
 simp [asAddr, run_loadVar_blk hagg hsz hb hn]
end
theorem wpList_appAt {P : Program} {t e : TypeId} {z : Value} {size bytes : Nat} (h : ElemT P t e z size bytes) {w : World} {ops : Array Oper} {rest : List Oper} {o : Oper} {a : Act} {Q : Exit → Act → World → Prop} (hgd : o.guard = none) (s x : Operand)
 (ho : o.op = .call { callee := .builtin .append, args := #[s, x], argTypes := #[t, t] })
 (base : Nat) (v : Value) (n : Nat) (xs : List Value) (hs : a.eval s = v) (hown : w.ownsRow base e size v n xs) (cs : Array Value) (hcs : cs.size = size) (h1 : ∀ u ∈ cs.toList, u.oneCell' = true) (N : Nat) (hN : N = w.heap.size)
 (hx : a.eval x = .slice (some ⟨N, 0, none⟩) 1 1) (hn : n ≤ 10000000) (hb : bytes ≤ 1000) (hbase : base ≤ w.heap.size)
 (hk : ∀ v' w', w'.ownsRow base e size v' (n + 1) (xs ++ cs.toList) → w.grownBy w' v.ownBlock → (v'.ownBlock = v.ownBlock ∨ v'.ownBlock = some (w.heap.size + 1)) → wpList P ops Q rest (a.put o.dst v') w') :
 wpList P ops Q (o :: rest) a (w.alloc (.cells cs e)) := by
 subst hN
 exact zcn h hgd s x ho base v n xs hs hown cs hcs h1 hx hn hb hbase hk
end Go.Proofs.YtcgcfeablbjnaaaGreatDoor
namespace Go.Proofs
open Go.Shelf
def Tryz.lays170_ren : Go.Shelf.Ren := ⟨fun | 170 => 25 | n => n, fun | 70 => 65 | 3 => 3 | 0 => 0 | 72 => 68 | 37 => 66 | 5 => 5 | n => n, fun | n => n⟩
theorem Tryz.lays170 : Go.Proofs.Lays.n170 Tryz.prog Tryz.lays170_ren := {
 mixed := by kernel_rfl
 f170 := Tryz.func25.trans (congrArg some (by kernel_rfl))
 t0 := Tryz.underlying0
 a0 := Tryz.isAgg0
 z0 := Tryz.sizeOf0
 v0 := Tryz.zeroValue0
 t3 := Tryz.underlying3
 a3 := Tryz.isAgg3
 z3 := Tryz.sizeOf3
 v3 := Tryz.zeroValue3
 t37 := Tryz.underlying66
 a37 := Tryz.isAgg66
 z37 := Tryz.sizeOf66
 v37 := Tryz.zeroValue66
 t70 := Tryz.underlying65
 a70 := Tryz.isAgg65
 z70 := Tryz.sizeOf65
 v70 := Tryz.zeroValue65
 t72 := Tryz.underlying68
 a72 := Tryz.isAgg68
 z72 := Tryz.sizeOf68
 v72 := Tryz.zeroValue68 }
open Go.RowKit in
theorem Tryz.Builder_Len (B b : Nat) (bs : List Value) (w : World) (h : Lib.IsBuilder 68 5 B b bs w) :
 Calls Tryz.prog 25 #[.pointer (some ⟨b, 0, none⟩)] w fun e w' => e = .returned (.int .i64 bs.length) ∧ w' = w := Any.Builder_Len Tryz.lays170 B b bs w h
def Tryz.lays169_ren : Go.Shelf.Ren := ⟨fun | 169 => 26 | n => n, fun | 70 => 65 | 9 => 9 | 0 => 0 | 72 => 68 | 37 => 66 | 127 => 131 | 3 => 3 | 5 => 5 | n => n, fun | n => n⟩
theorem Tryz.lays169 : Go.Proofs.Lays.n169 Tryz.prog Tryz.lays169_ren := {
 mixed := by kernel_rfl
 f169 := Tryz.func26.trans (congrArg some (by kernel_rfl))
 t0 := Tryz.underlying0
 a0 := Tryz.isAgg0
 z0 := Tryz.sizeOf0
 v0 := Tryz.zeroValue0
 t3 := Tryz.underlying3
 a3 := Tryz.isAgg3
 z3 := Tryz.sizeOf3
 v3 := Tryz.zeroValue3
 t9 := Tryz.underlying9
 a9 := Tryz.isAgg9
 z9 := Tryz.sizeOf9
 v9 := Tryz.zeroValue9
 t37 := Tryz.underlying66
 a37 := Tryz.isAgg66
 z37 := Tryz.sizeOf66
 v37 := Tryz.zeroValue66
 t70 := Tryz.underlying65
 a70 := Tryz.isAgg65
 z70 := Tryz.sizeOf65
 v70 := Tryz.zeroValue65
 t72 := Tryz.underlying68
 a72 := Tryz.isAgg68
 z72 := Tryz.sizeOf68
 v72 := Tryz.zeroValue68
 t127 := Tryz.underlying131
 a127 := Tryz.isAgg131
 z127 := Tryz.sizeOf131
 v127 := Tryz.zeroValue131 }
theorem Tryz.Builder_Extra_169 : Builder.Extra Tryz.prog Tryz.lays169_ren := {
 sizeBuilder := by kernel_rfl
 liesBuilder := by kernel_rfl
 t5 := Tryz.underlying5
 a5 := Tryz.isAgg5
 z5 := Tryz.sizeOf5
 v5 := Tryz.zeroValue5
 infoByte := by kernel_rfl
 cellsByte := by kernel_rfl
 sizeByte := by kernel_rfl
 neB5 := by decide }
open Go.RowKit in
theorem Tryz.Builder_String_any (B b : Nat) (l : List UInt8) (w : World) (h : Lib.IsBuilder 68 5 B b (Lib.byteCells l) w) (hBw : B ≤ w.heap.size) :
 Calls Tryz.prog 26 #[.pointer (some ⟨b, 0, none⟩)] w fun e w' => e = .returned (.string ⟨l.toArray⟩) ∧ Below B w w' := Any.Builder_String_any Tryz.lays169 Tryz.Builder_Extra_169 B b l w h hBw
def Tryz.lays156_ren : Go.Shelf.Ren := ⟨fun | 156 => 23 | 165 => 52 | 166 => 22 | 169 => 26 | 240 => 51 | 241 => 82 | 276 => 81 | 277 => 98 | n => n, fun | 31 => 47 | 9 => 9 | 3 => 3 | 4 => 4 | 0 => 0 | 20 => 20 | 72 => 68 | 76 => 73 | 70 => 65 | 37 => 66 | 75 => 72 | 127 => 131 | 164 => 151 | 5 => 5 | 80 => 78 | n => n, fun | n => n⟩
theorem Tryz.lays156 : Go.Proofs.Lays.n156 Tryz.prog Tryz.lays156_ren := {
 mixed := by kernel_rfl
 f156 := Tryz.func23.trans (congrArg some (by kernel_rfl))
 f165 := Tryz.func52.trans (congrArg some (by kernel_rfl))
 f166 := Tryz.func22.trans (congrArg some (by kernel_rfl))
 f169 := Tryz.func26.trans (congrArg some (by kernel_rfl))
 f240 := Tryz.func51.trans (congrArg some (by kernel_rfl))
 f241 := Tryz.func82.trans (congrArg some (by kernel_rfl))
 f276 := Tryz.func81.trans (congrArg some (by kernel_rfl))
 f277 := Tryz.func98.trans (congrArg some (by kernel_rfl))
 t0 := Tryz.underlying0
 a0 := Tryz.isAgg0
 z0 := Tryz.sizeOf0
 v0 := Tryz.zeroValue0
 t3 := Tryz.underlying3
 a3 := Tryz.isAgg3
 z3 := Tryz.sizeOf3
 v3 := Tryz.zeroValue3
 t4 := Tryz.underlying4
 a4 := Tryz.isAgg4
 z4 := Tryz.sizeOf4
 v4 := Tryz.zeroValue4
 t9 := Tryz.underlying9
 a9 := Tryz.isAgg9
 z9 := Tryz.sizeOf9
 v9 := Tryz.zeroValue9
 t20 := Tryz.underlying20
 a20 := Tryz.isAgg20
 z20 := Tryz.sizeOf20
 v20 := Tryz.zeroValue20
 t31 := Tryz.underlying47
 a31 := Tryz.isAgg47
 z31 := Tryz.sizeOf47
 v31 := Tryz.zeroValue47
 t37 := Tryz.underlying66
 a37 := Tryz.isAgg66
 z37 := Tryz.sizeOf66
 v37 := Tryz.zeroValue66
 t70 := Tryz.underlying65
 a70 := Tryz.isAgg65
 z70 := Tryz.sizeOf65
 v70 := Tryz.zeroValue65
 t72 := Tryz.underlying68
 a72 := Tryz.isAgg68
 z72 := Tryz.sizeOf68
 v72 := Tryz.zeroValue68
 t75 := Tryz.underlying72
 a75 := Tryz.isAgg72
 z75 := Tryz.sizeOf72
 v75 := Tryz.zeroValue72
 t76 := Tryz.underlying73
 a76 := Tryz.isAgg73
 z76 := Tryz.sizeOf73
 v76 := Tryz.zeroValue73
 t127 := Tryz.underlying131
 a127 := Tryz.isAgg131
 z127 := Tryz.sizeOf131
 v127 := Tryz.zeroValue131
 t164 := Tryz.underlying151
 a164 := Tryz.isAgg151
 z164 := Tryz.sizeOf151
 v164 := Tryz.zeroValue151 }
theorem Tryz.Builder_Extra_156 : Builder.Extra Tryz.prog Tryz.lays156_ren := {
 sizeBuilder := by kernel_rfl
 liesBuilder := by kernel_rfl
 t5 := Tryz.underlying5
 a5 := Tryz.isAgg5
 z5 := Tryz.sizeOf5
 v5 := Tryz.zeroValue5
 infoByte := by kernel_rfl
 cellsByte := by kernel_rfl
 sizeByte := by kernel_rfl
 neB5 := by decide }
open Go.RowKit in
theorem Tryz.strings_Join (bk o c : Nat) (xs : List ByteArray) (sep : ByteArray) (w : World) (hcells : ∀ (j : Nat) x, xs[j]? = some x → w.cell? ⟨bk, o + j, none⟩ = some (.string x)) (hbk : bk < w.heap.size) (hN : xs.length ≤ 140737488355328) (hcap : xs.length ≤ c) (hlen : (Lib.join (xs.map (·.data.toList)) sep.data.toList).length ≤ 140737488355328) :
 Calls Tryz.prog 23 #[.slice (some ⟨bk, o, none⟩) xs.length c, .string sep] w fun e w' => e = .returned (.string ⟨(Lib.join (xs.map (·.data.toList)) sep.data.toList).toArray⟩) ∧ Below w.heap.size w w' := Any.strings_Join Tryz.lays156 Tryz.Builder_Extra_156 bk o c xs sep w hcells hbk hN hcap hlen
def Tryz.lays137_ren : Go.Shelf.Ren := ⟨fun | 137 => 86 | 217 => 99 | 266 => 113 | n => n, fun | 9 => 9 | 5 => 5 | 3 => 3 | n => n, fun | n => n⟩
theorem Tryz.lays137 : Go.Proofs.Lays.n137 Tryz.prog Tryz.lays137_ren := {
 mixed := by kernel_rfl
 f137 := Tryz.func86.trans (congrArg some (by kernel_rfl))
 f217 := Tryz.func99.trans (congrArg some (by kernel_rfl))
 f266 := Tryz.func113.trans (congrArg some (by kernel_rfl))
 t3 := Tryz.underlying3
 a3 := Tryz.isAgg3
 z3 := Tryz.sizeOf3
 v3 := Tryz.zeroValue3
 t5 := Tryz.underlying5
 a5 := Tryz.isAgg5
 z5 := Tryz.sizeOf5
 v5 := Tryz.zeroValue5
 t9 := Tryz.underlying9
 a9 := Tryz.isAgg9
 z9 := Tryz.sizeOf9
 v9 := Tryz.zeroValue9 }
open Go.RowKit in
theorem Tryz.strings_IndexByte (s : ByteArray) (c : Int) (w : World) :
 Calls Tryz.prog 86 #[.string s, .int .u8 c] w fun e w' => e = .returned (.int .i64 (Lib.indexByte s.data.toList c.toNat.toUInt8)) ∧ w' = w := Any.strings_IndexByte Tryz.lays137 s c w
def Tryz.laysM171_ren : Go.Shelf.Ren := ⟨fun | 171 => 32 | 243 => 61 | 246 => 87 | 283 => 104 | 284 => 105 | 285 => 106 | 286 => 107 | 129 => 117 | 317 => 116 | 318 => 118 | 319 => 119 | 320 => 120 | 337 => 123 | 338 => 124 | n => n, fun | 3 => 3 | 9 => 9 | 2 => 2 | 4 => 4 | 171 => 166 | 0 => 0 | 53 => 167 | 37 => 66 | 5 => 5 | 173 => 170 | 212 => 181 | 51 => 176 | 20 => 20 | 213 => 182 | 46 => 116 | 232 => 187 | 233 => 188 | n => n, fun | 17 => 1 | 18 => 2 | 19 => 3 | n => n⟩
theorem Tryz.laysM171 : Go.Proofs.LaysM.n171 Tryz.prog Tryz.laysM171_ren := {
 mixed := by kernel_rfl
 f129 := Tryz.func117.trans (congrArg some (by kernel_rfl))
 f171 := Tryz.func32.trans (congrArg some (by kernel_rfl))
 f243 := Tryz.func61.trans (congrArg some (by kernel_rfl))
 f246 := Tryz.func87.trans (congrArg some (by kernel_rfl))
 f283 := Tryz.func104.trans (congrArg some (by kernel_rfl))
 f284 := Tryz.func105.trans (congrArg some (by kernel_rfl))
 f285 := Tryz.func106.trans (congrArg some (by kernel_rfl))
 f286 := Tryz.func107.trans (congrArg some (by kernel_rfl))
 f317 := Tryz.func116.trans (congrArg some (by kernel_rfl))
 f318 := Tryz.func118.trans (congrArg some (by kernel_rfl))
 f319 := Tryz.func119.trans (congrArg some (by kernel_rfl))
 f320 := Tryz.func120.trans (congrArg some (by kernel_rfl))
 f337 := Tryz.func123.trans (congrArg some (by kernel_rfl))
 f338 := Tryz.func124.trans (congrArg some (by kernel_rfl))
 t0 := Tryz.underlying0
 a0 := Tryz.isAgg0
 z0 := Tryz.sizeOf0
 v0 := Tryz.zeroValue0
 t2 := Tryz.underlying2
 a2 := Tryz.isAgg2
 z2 := Tryz.sizeOf2
 v2 := Tryz.zeroValue2
 t3 := Tryz.underlying3
 a3 := Tryz.isAgg3
 z3 := Tryz.sizeOf3
 v3 := Tryz.zeroValue3
 t4 := Tryz.underlying4
 a4 := Tryz.isAgg4
 z4 := Tryz.sizeOf4
 v4 := Tryz.zeroValue4
 t5 := Tryz.underlying5
 a5 := Tryz.isAgg5
 z5 := Tryz.sizeOf5
 v5 := Tryz.zeroValue5
 t9 := Tryz.underlying9
 a9 := Tryz.isAgg9
 z9 := Tryz.sizeOf9
 v9 := Tryz.zeroValue9
 t20 := Tryz.underlying20
 a20 := Tryz.isAgg20
 z20 := Tryz.sizeOf20
 v20 := Tryz.zeroValue20
 t37 := Tryz.underlying66
 a37 := Tryz.isAgg66
 z37 := Tryz.sizeOf66
 v37 := Tryz.zeroValue66
 t46 := Tryz.underlying116
 a46 := Tryz.isAgg116
 z46 := Tryz.sizeOf116
 v46 := Tryz.zeroValue116
 t51 := Tryz.underlying176
 a51 := Tryz.isAgg176
 z51 := Tryz.sizeOf176
 v51 := Tryz.zeroValue176
 t53 := Tryz.underlying167
 a53 := Tryz.isAgg167
 z53 := Tryz.sizeOf167
 v53 := Tryz.zeroValue167
 t171 := Tryz.underlying166
 a171 := Tryz.isAgg166
 z171 := Tryz.sizeOf166
 v171 := Tryz.zeroValue166
 t173 := Tryz.underlying170
 a173 := Tryz.isAgg170
 z173 := Tryz.sizeOf170
 v173 := Tryz.zeroValue170
 t212 := Tryz.underlying181
 a212 := Tryz.isAgg181
 z212 := Tryz.sizeOf181
 v212 := Tryz.zeroValue181
 t213 := Tryz.underlying182
 a213 := Tryz.isAgg182
 z213 := Tryz.sizeOf182
 t232 := Tryz.underlying187
 a232 := Tryz.isAgg187
 z232 := Tryz.sizeOf187
 v232 := Tryz.zeroValue187
 t233 := Tryz.underlying188
 a233 := Tryz.isAgg188
 z233 := Tryz.sizeOf188
 v233 := Tryz.zeroValue188
 g17 := by kernel_rfl
 g18 := by kernel_rfl
 g19 := by kernel_rfl
 i0 := by kernel_rfl
 i2 := by kernel_rfl
 i3 := by kernel_rfl
 i4 := by kernel_rfl
 i5 := by kernel_rfl
 i9 := by kernel_rfl
 i20 := by kernel_rfl
 i37 := by kernel_rfl
 i46 := by kernel_rfl
 i51 := by kernel_rfl
 i53 := by kernel_rfl
 i171 := by kernel_rfl
 i173 := by kernel_rfl
 i212 := by kernel_rfl
 i232 := by kernel_rfl
 i233 := by kernel_rfl
 m17 := by kernel_rfl
 m18 := by kernel_rfl
 m19 := by kernel_rfl }
open Go.RowKit Go.Sort Go.Lib in
theorem Tryz.strconv_Itoa (n : Int) (h0 : -9223372036854775808 ≤ n) (h1 : n ≤ 9223372036854775807) (w : World) (htab : Lib.TabIs Tryz.prog w "internal/strconv.uint64pow10" .u64 Lib.pow10Tab) :
 Calls Tryz.prog 32 #[.int .i64 n] w fun e w' => e = .returned (.string ⟨(Lib.itoa n).toArray⟩) ∧ ∃ k os, w' = grow (w.drewN k) os := Any.strconv_Itoa Tryz.laysM171 n h0 h1 w htab
def Tryz.lays145_ren : Go.Shelf.Ren := ⟨fun | 145 => 28 | 220 => 58 | 219 => 84 | 217 => 99 | 225 => 100 | 224 => 101 | 267 => 102 | 266 => 113 | 314 => 114 | n => n, fun | 9 => 9 | 4 => 4 | 59 => 81 | 3 => 3 | 5 => 5 | 46 => 116 | 146 => 177 | 51 => 176 | n => n, fun | 1 => 0 | n => n⟩
theorem Tryz.lays145 : Go.Proofs.Lays.n145 Tryz.prog Tryz.lays145_ren := {
 mixed := by kernel_rfl
 f145 := Tryz.func28.trans (congrArg some (by kernel_rfl))
 f217 := Tryz.func99.trans (congrArg some (by kernel_rfl))
 f219 := Tryz.func84.trans (congrArg some (by kernel_rfl))
 f220 := Tryz.func58.trans (congrArg some (by kernel_rfl))
 f224 := Tryz.func101.trans (congrArg some (by kernel_rfl))
 f225 := Tryz.func100.trans (congrArg some (by kernel_rfl))
 f266 := Tryz.func113.trans (congrArg some (by kernel_rfl))
 f267 := Tryz.func102.trans (congrArg some (by kernel_rfl))
 f314 := Tryz.func114.trans (congrArg some (by kernel_rfl))
 t3 := Tryz.underlying3
 a3 := Tryz.isAgg3
 z3 := Tryz.sizeOf3
 v3 := Tryz.zeroValue3
 t4 := Tryz.underlying4
 a4 := Tryz.isAgg4
 z4 := Tryz.sizeOf4
 v4 := Tryz.zeroValue4
 t5 := Tryz.underlying5
 a5 := Tryz.isAgg5
 z5 := Tryz.sizeOf5
 v5 := Tryz.zeroValue5
 t9 := Tryz.underlying9
 a9 := Tryz.isAgg9
 z9 := Tryz.sizeOf9
 v9 := Tryz.zeroValue9
 t46 := Tryz.underlying116
 a46 := Tryz.isAgg116
 z46 := Tryz.sizeOf116
 v46 := Tryz.zeroValue116
 t51 := Tryz.underlying176
 a51 := Tryz.isAgg176
 z51 := Tryz.sizeOf176
 v51 := Tryz.zeroValue176
 t59 := Tryz.underlying81
 a59 := Tryz.isAgg81
 z59 := Tryz.sizeOf81
 v59 := Tryz.zeroValue81
 t146 := Tryz.underlying177
 a146 := Tryz.isAgg177
 z146 := Tryz.sizeOf177
 v146 := Tryz.zeroValue177
 g1 := by kernel_rfl }
open Go.RowKit Go.Lib in
theorem Tryz.strings_Cut (s sep : ByteArray) (m : Int) (w : World) (hs : s.size < 4294967281) (hm : w.cell? ⟨0, 0, none⟩ = some (.int .i64 m)) :
 Calls Tryz.prog 28 #[.string s, .string sep] w fun e w' => e = .returned (.tuple #[.string ⟨(Lib.cut s.data.toList sep.data.toList).1.toArray⟩, .string ⟨(Lib.cut s.data.toList sep.data.toList).2.1.toArray⟩, .bool (Lib.cut s.data.toList sep.data.toList).2.2]) ∧ ∃ n, w' = w.drewN n := Any.strings_Cut Tryz.lays145 s sep m w hs hm
def Tryz.lays101_ren : Go.Shelf.Ren := ⟨fun | 101 => 85 | 208 => 103 | 206 => 115 | n => n, fun | 9 => 9 | 4 => 4 | 3 => 3 | n => n, fun | n => n⟩
theorem Tryz.lays101 : Go.Proofs.Lays.n101 Tryz.prog Tryz.lays101_ren := {
 mixed := by kernel_rfl
 f101 := Tryz.func85.trans (congrArg some (by kernel_rfl))
 f206 := Tryz.func115.trans (congrArg some (by kernel_rfl))
 f208 := Tryz.func103.trans (congrArg some (by kernel_rfl))
 t3 := Tryz.underlying3
 a3 := Tryz.isAgg3
 z3 := Tryz.sizeOf3
 v3 := Tryz.zeroValue3
 t4 := Tryz.underlying4
 a4 := Tryz.isAgg4
 z4 := Tryz.sizeOf4
 v4 := Tryz.zeroValue4
 t9 := Tryz.underlying9
 a9 := Tryz.isAgg9
 z9 := Tryz.sizeOf9
 v9 := Tryz.zeroValue9 }
open Go.RowKit Go.Lib in
theorem Tryz.strings_TrimPrefix (s p : ByteArray) (w : World) :
 Calls Tryz.prog 85 #[.string s, .string p] w fun e w' => e = .returned (.string ⟨(Lib.trimPrefix s.data.toList p.data.toList).toArray⟩) ∧ w' = w := Any.strings_TrimPrefix Tryz.lays101 s p w
def Tryz.lays229_ren : Go.Shelf.Ren := ⟨fun | 229 => 29 | n => n, fun | 9 => 9 | 40 => 84 | 31 => 47 | 152 => 136 | 3 => 3 | 0 => 0 | 4 => 4 | 21 => 21 | 154 => 138 | n => n, fun | n => n⟩
theorem Tryz.lays229 : Go.Proofs.Lays.n229 Tryz.prog Tryz.lays229_ren := {
 mixed := by kernel_rfl
 f229 := Tryz.func29.trans (congrArg some (by kernel_rfl))
 t0 := Tryz.underlying0
 a0 := Tryz.isAgg0
 z0 := Tryz.sizeOf0
 v0 := Tryz.zeroValue0
 t3 := Tryz.underlying3
 a3 := Tryz.isAgg3
 z3 := Tryz.sizeOf3
 v3 := Tryz.zeroValue3
 t4 := Tryz.underlying4
 a4 := Tryz.isAgg4
 z4 := Tryz.sizeOf4
 v4 := Tryz.zeroValue4
 t9 := Tryz.underlying9
 a9 := Tryz.isAgg9
 z9 := Tryz.sizeOf9
 v9 := Tryz.zeroValue9
 t21 := Tryz.underlying21
 a21 := Tryz.isAgg21
 z21 := Tryz.sizeOf21
 v21 := Tryz.zeroValue21
 t31 := Tryz.underlying47
 a31 := Tryz.isAgg47
 z31 := Tryz.sizeOf47
 v31 := Tryz.zeroValue47
 t40 := Tryz.underlying84
 a40 := Tryz.isAgg84
 z40 := Tryz.sizeOf84
 v40 := Tryz.zeroValue84
 t152 := Tryz.underlying136
 a152 := Tryz.isAgg136
 z152 := Tryz.sizeOf136
 v152 := Tryz.zeroValue136
 t154 := Tryz.underlying138
 a154 := Tryz.isAgg138
 z154 := Tryz.sizeOf138
 v154 := Tryz.zeroValue138 }
open Go.RowKit Go.Lib in
theorem Tryz.strings_FieldsFunc_runes (g : Nat) (lb : Array Value) (eg : ∀ args w, (callFunc g args).run Tryz.prog w = .ok (.enter g args) w) (p : Nat → Bool) (s : ByteArray) (w : World) (hs : s.size ≤ 4294967296) (hp : PredAtRunes Tryz.prog g lb p w) :
 Calls Tryz.prog 29 #[.string s, .func (.func g) #[] lb] w fun e w' => ∃ A, e = .returned (.slice (some ⟨A, 0, none⟩) (Lib.goFieldsP p s).length (Lib.goFieldsP p s).length) ∧ w.heap.size ≤ A ∧
  w'.ownsRow w.heap.size 9 1 (.slice (some ⟨A, 0, none⟩) (Lib.goFieldsP p s).length (Lib.goFieldsP p s).length) (Lib.goFieldsP p s).length ((Lib.goFieldsP p s).map Value.string) ∧ Below w.heap.size w w' := Any.strings_FieldsFunc_runes Tryz.lays229 g lb eg p s w hs hp (by kernel_rfl) (by kernel_rfl)
end Go.Proofs
