/- Structs that are handed back: they lie in a block of their own. -/
import Derived.Test.YtcgcfeablbjnaaaDoorSlice
import Derived.Laws.ResultCell
namespace Go.Proofs.YtcgcfeablbjnaaaDoor
open Go.RowKit

/-! ## A struct that is handed back lies in a block of its own -/
section
variable {P : Program} {ty t' : TypeId} {n g : Nat} {w : World} {cs : Array Value}
theorem run_loadVar_blk (hagg : ∀ w, (isAgg ty).run P w = .ok true w) (hsz : ∀ w, (Go.sizeOf ty).run P w = .ok n w) (hb : Blk w g t' cs) (hn : cs.size = n) : (loadVar ty ⟨g, 0, none⟩).run P w = .ok (.agg cs) w := by
  have hl : (loadCells ⟨g, 0, none⟩ n).run P w = .ok cs w := by
    have := run_loadCells_list (P := P) w ⟨g, 0, none⟩ cs.toList (fun j v hj => by
      obtain ⟨ad, h, _, hc⟩ := Rd.of_blk hb j v hj
      injection h with h
      subst h
      exact hc)
    rw [Array.length_toList, hn] at this
    rw [this]
  unfold loadVar
  simp [Sem.run_bind, hagg, hsz, Result.andThen, hl]
theorem res_cell_tmp {fn : Func} {p u : Tmp} {tmps : Array Value} (h : fn.results = #[.cell p ty, .tmp u]) (hagg : ∀ w, (isAgg ty).run P w = .ok true w) (hsz : ∀ w, (Go.sizeOf ty).run P w = .ok n w) (hp : tmps.getD p undef = .pointer (some ⟨g, 0, none⟩)) (hb : Blk w g t' cs) (hn : cs.size = n) :
    (results fn tmps).run P w = .ok (.tuple #[.agg cs, tmps.getD u undef]) w := by
  rw [results_cell_tmp h, hp]
  simp [asAddr, Result.andThen, run_loadVar_blk hagg hsz hb hn]
theorem res_cell {fn : Func} {p : Tmp} {tmps : Array Value} (h : fn.results = #[.cell p ty]) (hagg : ∀ w, (isAgg ty).run P w = .ok true w) (hsz : ∀ w, (Go.sizeOf ty).run P w = .ok n w) (hp : tmps.getD p undef = .pointer (some ⟨g, 0, none⟩)) (hb : Blk w g t' cs) (hn : cs.size = n) :
    (results fn tmps).run P w = .ok (.agg cs) w := by
  unfold results
  rw [h]
  simp only [List.mapM_toArray, List.mapM_cons, List.mapM_nil, hp]
  simp [asAddr, run_loadVar_blk hagg hsz hb hn]
end


/-- wpList_app where the heap's size is spelt otherwise. -/
theorem wpList_appAt {P : Program} {t e : TypeId} {z : Value} {size bytes : Nat} (h : ElemT P t e z size bytes) {w : World} {ops : Array Oper} {rest : List Oper} {o : Oper} {a : Act} {Q : Exit → Act → World → Prop} (hgd : o.guard = none) (s x : Operand)
    (ho : o.op = .call { callee := .builtin .append, args := #[s, x], argTypes := #[t, t] })
    (base : Nat) (v : Value) (n : Nat) (xs : List Value) (hs : a.eval s = v) (hown : w.ownsRow base e size v n xs) (cs : Array Value) (hcs : cs.size = size) (h1 : ∀ u ∈ cs.toList, u.oneCell' = true) (N : Nat) (hN : N = w.heap.size)
    (hx : a.eval x = .slice (some ⟨N, 0, none⟩) 1 1) (hn : n ≤ 1000000) (hb : bytes ≤ 1000) (hbase : base ≤ w.heap.size)
    (hk : ∀ v' w', w'.ownsRow base e size v' (n + 1) (xs ++ cs.toList) → w.grownBy w' v.ownBlock → (v'.ownBlock = v.ownBlock ∨ v'.ownBlock = some (w.heap.size + 1)) → wpList P ops Q rest (a.put o.dst v') w') :
    wpList P ops Q (o :: rest) a (w.alloc (.cells cs e)) := by
  subst hN
  exact wpList_app h hgd s x ho base v n xs hs hown cs hcs h1 hx hn hb hbase hk

end Go.Proofs.YtcgcfeablbjnaaaDoor
