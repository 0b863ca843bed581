/- Parts of the proof that ScriptBack returns true for every input of bulk at most 1048576. -/
import Derived.Test.YtcgcfeablbjnaaaGreatDoorBj
import Derived.Test.YtcgcfeablbjnaaaGreatDoorBc
import Derived.Test.YtcgcfeablbjnaaaGreatDoorBg
import Derived.Test.YtcgcfeablbjnaaaGreatDoorBi
import Derived.Test.YtcgcfeablbjnaaaGreatDoorBf
import Derived.Test.YtcgcfeablbjnaaaGreatDoorBh
set_option linter.unusedSimpArgs false
set_option linter.unusedVariables false
set_option maxRecDepth 100000
set_option maxHeartbeats 8000000
namespace Go.Proofs.YtcgcfeablbjnaaaGreatDoor
open Go.RowKit Eng
section
variable {E : Eng.Env} {R : Ending → World → Prop}
theorem Eng.Sat.addN {w0 : World} {own : List Nat} {ρ : Nat → Nat × Nat} {mem : List MB} {w : World} (H : Sat w0 own ρ mem w) {t : TypeId} {l : List Value} {g : Nat} {ρ' : Nat → Nat × Nat} (hρ : ∀ h, h < mem.length → ρ h = ρ' h) (hp : ρ' mem.length = (g, 0)) (hc : w.heap[g]? = some (.cells l.toArray t (0, 0))) (hge : w0.heap.size ≤ g) (hne : ∀ (h : Nat) (b : MB), mem[h]? = some b → (b.wr (ρ h) || b.rd) = true → (ρ h).1 ≠ g) : Sat w0 own ρ' (mem ++ [.sym t l]) w := by
 have split : ∀ (h : Nat) (b : MB), (mem ++ [.sym t l])[h]? = some b → (h < mem.length ∧ mem[h]? = some b) ∨ (h = mem.length ∧ b = .sym t l) := fun h b hb => by
  rcases Nat.lt_trichotomy h mem.length with h1 | h1 | h1
  ·rw [List.getElem?_append_left h1] at hb; exact .inl ⟨h1, hb⟩
  ·subst h1; simp at hb; exact .inr ⟨rfl, hb.symm⟩
  ·rw [List.getElem?_eq_none (by simp; omega)] at hb; cases hb
 refine ⟨H.gr, fun h b hb => ?_, fun b hb => ?_, fun h b hb => ?_, fun h k b c hb hc' hbw hcw hnk => ?_⟩
 ·rcases split h b hb with ⟨h1, h2⟩ | ⟨rfl, rfl⟩
  ·rw [← hρ h h1]; exact BlkAt.congr hρ (H.ok b (List.mem_of_getElem? h2)) (H.blk h b h2)
  ·rw [hp]; exact ⟨rfl, hc⟩
 ·rcases List.mem_append.1 hb with h1 | h1
  ·exact (H.ok b h1).mono (by simp)
  ·obtain rfl : b = .sym t l := by simpa using h1
   trivial
 ·rcases split h b hb with ⟨h1, h2⟩ | ⟨rfl, rfl⟩
  ·rw [← hρ h h1]; exact H.free h b h2
  ·rw [hp]; exact ⟨fun _ => .inr hge, fun h => (by cases h)⟩
 ·rcases split h b hb with ⟨h1, h2⟩ | ⟨rfl, rfl⟩ <;> rcases split k c hc' with ⟨k1, k2⟩ | ⟨rfl, rfl⟩
  ·rw [← hρ h h1, ← hρ k k1]; rw [← hρ h h1] at hbw; rw [← hρ k k1] at hcw; exact H.apart h k b c h2 k2 hbw hcw hnk
  ·rw [← hρ h h1, hp]; rw [← hρ h h1] at hbw; exact hne h b h2 (by rw [hbw]; rfl)
  ·rw [← hρ k k1, hp]; rw [← hρ k k1] at hcw; exact (hne k c k2 hcw).symm
  ·exact absurd rfl hnk
theorem newSt_sat {w0 : World} {own : List Nat} {ρ : Nat → Nat × Nat} {mem : List MB} {w w' : World} {s : StD} {v : Value} (H : Sat w0 own ρ mem w) (hn : NewSt s w v w') : ∃ kt kc r1 r2 ρ', v = concV ρ' (.agg [.val (iv s.tick), .val (iv s.count), .slc (len mem) 0 s.tens.length kt, .slc (len mem + 1) 0 s.cells.length kc, .val (iv s.proven), .val (iv s.evac), .val (iv s.low), .val (iv s.high)]) ∧ (∀ h, h < mem.length → ρ h = ρ' h) ∧ Sat w0 own ρ' (mem ++ [.sym 105 (s.tens.flatMap TsD.cells ++ r1), .sym 107 (s.cells.flatMap CsD.cells ++ r2)]) w' := by
 obtain ⟨gt, gc, kt, kc, r1, r2, rfl, b1, b2, hne, s1, s2, hb⟩ := hn
 have H' := H.below hb
 have e1 : ∀ h, h < mem.length → ρ h = ext2 ρ mem.length (gt, 0) h := fun h hh => za4 hh
 have H1 := H'.addN (ρ' := ext2 ρ mem.length (gt, 0)) e1 (zau _ _) b1 (Nat.le_trans H.gr.size s1) (fun h b hb' hw => by have := H.lt hb' hw; omega)
 have hl1 : (mem ++ [MB.sym 105 (s.tens.flatMap TsD.cells ++ r1)]).length = mem.length + 1 := by simp
 have H2 := H1.addN (ρ' := ext2 (ext2 ρ mem.length (gt, 0)) (mem.length + 1) (gc, 0)) (fun h hh => za4 (by omega)) (by rw [hl1]; exact zau _ _) b2 (Nat.le_trans H.gr.size s2) (fun h b hb' hw => by
  rcases Nat.lt_or_ge h mem.length with h1 | h1
  ·rw [List.getElem?_append_left h1] at hb'
   rw [← e1 h h1] at hw ⊢
   have := H.lt hb' hw
   omega
  ·have : h = mem.length := by have := (List.getElem?_eq_some_iff.1 hb').1; omega
   subst this
   rw [zau]
   exact hne)
 refine ⟨kt, kc, r1, r2, ext2 (ext2 ρ mem.length (gt, 0)) (mem.length + 1) (gc, 0), ?_, fun h hh => (za4 hh).trans (za4 (by omega)), by simpa using H2⟩
 have g1 : ext2 (ext2 ρ mem.length (gt, 0)) (mem.length + 1) (gc, 0) mem.length = (gt, 0) := by rw [← za4 (by omega), zau]
 simp only [concV, conc1, List.map, za0, g1, zau, stV]
theorem good_newSt {f : FuncId} {args : List SV} {dst : Option Tmp} {k : List It} {tm : PT} {mem : List MB} (s : StD) (tl cl : Nat) (htl : tl = s.tens.length) (hcl : cl = s.cells.length) (hk : plainK k = true ∨ ∃ all rest k', k = .ops all rest :: k' ∧ plainK k' = true) (hgo : Goes E.P f)
 (hc : ∀ ρ w, (∀ (h : Nat) p, E.ρ0[h]? = some p → ρ h = p) → Sat E.w0 E.own ρ mem w → Calls E.P f (args.map (concV ρ)).toArray w fun e w' => ∃ v, e = .returned v ∧ NewSt s w v w')
 (h : ∀ kt kc r1 r2 xs ys, xs = s.tens.flatMap TsD.cells ++ r1 → ys = s.cells.flatMap CsD.cells ++ r2 → Eng.Good E R ⟨k, putE tm dst (.agg [.val (iv s.tick), .val (iv s.count), .slc (len mem) 0 tl kt, .slc (len mem + 1) 0 cl kc, .val (iv s.proven), .val (iv s.evac), .val (iv s.low), .val (iv s.high)]), mem ++ [.sym 105 xs, .sym 107 ys]⟩) : Eng.Good E R ⟨.call f args dst :: k, tm, mem⟩ := by
 subst htl hcl
 refine zdf (α := Nat × Nat × List Value × List Value) (fun x => .agg [.val (iv s.tick), .val (iv s.count), .slc (len mem) 0 s.tens.length x.1, .slc (len mem + 1) 0 s.cells.length x.2.1, .val (iv s.proven), .val (iv s.evac), .val (iv s.low), .val (iv s.high)]) (fun x => mem ++ [.sym 105 (s.tens.flatMap TsD.cells ++ x.2.2.1), .sym 107 (s.cells.flatMap CsD.cells ++ x.2.2.2)]) (fun x => by simp) (fun x => by simp [SV.ok, S1.ok, za0]) hk hgo (fun ρ w hρ H => ?_) (fun x => h _ _ _ _ _ _ rfl rfl)
 refine (hc ρ w hρ H).mono ?_
 rintro e w' ⟨v, rfl, hn⟩
 obtain ⟨kt, kc, r1, r2, ρ', rfl, h1, h2⟩ := newSt_sat H hn
 exact ⟨(kt, kc, r1, r2), ρ', rfl, h1, h2⟩
theorem za6 {w w' : World} {ρ : Nat → Nat × Nat} {mem : List MB} (hS : Sat w [] ρ mem w') {s : StD} {a b : Nat} {xs ys r1 r2 : List Value} {kt kc : Nat} (b1 : mem[a]? = some (.sym 105 xs)) (b2 : mem[b]? = some (.sym 107 ys)) (hne : a ≠ b) (hx : xs = s.tens.flatMap TsD.cells ++ r1) (hy : ys = s.cells.flatMap CsD.cells ++ r2)
 {v : Value} (hv : v = .agg #[iv s.tick, iv s.count, .slice (some ⟨(ρ a).1, (ρ a).2 + 0, none⟩) s.tens.length kt, .slice (some ⟨(ρ b).1, (ρ b).2 + 0, none⟩) s.cells.length kc, iv s.proven, iv s.evac, iv s.low, iv s.high]) : NewSt s w v w' := by
 have k1 := hS.blk a _ b1
 have k2 := hS.blk b _ b2
 have f1 : w.heap.size ≤ (ρ a).1 := ((hS.free a _ b1).1 rfl).resolve_left (by simp)
 have f2 : w.heap.size ≤ (ρ b).1 := ((hS.free b _ b2).1 rfl).resolve_left (by simp)
 subst hx hy
 refine ⟨(ρ a).1, (ρ b).1, kt, kc, r1, r2, ?_, k1.2, k2.2, hS.apart a b _ _ b1 b2 rfl rfl hne, f1, f2, zah hS.gr⟩
 rw [hv, k1.1, k2.1]
 rfl
theorem zbr {f : FuncId} {args : List SV} {dst : Option Tmp} {k : List It} {tm : PT} {mem : List MB} (a b : Nat) {xs ys : List Value} (h1 : nth mem a = some (.sym 105 xs)) (h2 : nth mem b = some (.sym 107 ys)) (hab : a ≠ b) (r : Res) (kt kc : Nat) (hk : plainK k = true ∨ ∃ all rest k', k = .ops all rest :: k' ∧ plainK k' = true) (hgo : Goes E.P f)
 (hc : ∀ ρ w, (∀ (h : Nat) p, E.ρ0[h]? = some p → ρ h = p) → Sat E.w0 E.own ρ mem w → ∀ gt gc, ρ a = (gt, 0) → ρ b = (gc, 0) → Calls E.P f (args.map (concV ρ)).toArray w (StRet r ⟨some ⟨gt, 0, none⟩, kt, some ⟨gc, 0, none⟩, kc⟩ gt gc w))
 (hg : r.1 = 0 → ∀ tl cl xs' ys' r1 r2, tl = r.2.tens.length → cl = r.2.cells.length → xs' = r.2.tens.flatMap TsD.cells ++ r1 → ys' = r.2.cells.flatMap CsD.cells ++ r2 → Eng.Good E R ⟨k, putE tm dst (.tup [.agg [.val (iv r.2.tick), .val (iv r.2.count), .slc a 0 tl kt, .slc b 0 cl kc, .val (iv r.2.proven), .val (iv r.2.evac), .val (iv r.2.low), .val (iv r.2.high)], .one (.val (.int .i64 0))]), setAt (setAt mem a (.sym 105 xs')) b (.sym 107 ys')⟩)
 (hb : r.1 ≠ 0 → ∀ tl cl x, tl = r.2.tens.length → cl = r.2.cells.length → x = r.1 → Eng.Good E R ⟨k, putE tm dst (.tup [.agg [.val (iv r.2.tick), .val (iv r.2.count), .val (.slice none tl 0), .val (.slice none cl 0), .val (iv r.2.proven), .val (iv r.2.evac), .val (iv r.2.low), .val (iv r.2.high)], .one (.val (.int .i64 x))]), setAt (setAt mem a .dead) b .dead⟩) : Eng.Good E R ⟨.call f args dst :: k, tm, mem⟩ := by
 rw [za2] at h1 h2
 have hla := (List.getElem?_eq_some_iff.1 h1).1
 have hlb := (List.getElem?_eq_some_iff.1 h2).1
 have up : ∀ (ρ : Nat → Nat × Nat) (w w' : World) (c1 c2 : MB), Sat E.w0 E.own ρ mem w → Gr (GC (ρ a).1 (ρ b).1) w w' → c1.rd = false → c2.rd = false → c1.ok mem.length → c2.ok mem.length → BlkAt ρ w' (ρ a) c1 → BlkAt ρ w' (ρ b) c2 → Sat E.w0 E.own ρ (setAt (setAt mem a c1) b c2) w' := by
  intro ρ w w' c1 c2 H hG r1 r2 o1 o2 k1 k2
  rw [zaj, zaj]
  refine H.upd hG (fun h => h = a ∨ h = b) (by simp) (fun i hi => ?_) (fun h hh => ?_) (fun h d d' hh hd hd' => ?_)
  ·rcases hi with rfl | rfl
   ·exact ⟨a, _, .inl rfl, h1, rfl, rfl⟩
   ·exact ⟨b, _, .inr rfl, h2, rfl, rfl⟩
  ·rw [List.getElem?_set_ne (fun e => hh (.inr e.symm)), List.getElem?_set_ne (fun e => hh (.inl e.symm))]
  ·rcases hh with rfl | rfl
   ·rw [List.getElem?_set_ne (Ne.symm hab), List.getElem?_set_self hla] at hd'
    obtain rfl := Option.some.inj hd'
    obtain rfl := Option.some.inj (h1.symm.trans hd)
    exact ⟨rfl, r1, o1, k1⟩
   ·rw [List.getElem?_set_self (by simpa using hlb)] at hd'
    obtain rfl := Option.some.inj hd'
    obtain rfl := Option.some.inj (h2.symm.trans hd)
    exact ⟨rfl, r2, o2, k2⟩
 by_cases hr : r.1 = 0
 ·refine zdf (α := { q : List Value × List Value // (∃ r1, q.1 = r.2.tens.flatMap TsD.cells ++ r1) ∧ ∃ r2, q.2 = r.2.cells.flatMap CsD.cells ++ r2 }) (fun x => .tup [.agg [.val (iv r.2.tick), .val (iv r.2.count), .slc a 0 r.2.tens.length kt, .slc b 0 r.2.cells.length kc, .val (iv r.2.proven), .val (iv r.2.evac), .val (iv r.2.low), .val (iv r.2.high)], .one (.val (.int .i64 0))]) (fun x => setAt (setAt mem a (.sym 105 x.1.1)) b (.sym 107 x.1.2)) (fun x => by simp [zaj]) (fun x => by simp [SV.ok, TV.ok, S1.ok, zaj, hla, hlb]) hk hgo (fun ρ w hρ H => ?_) (fun x => ?_)
  ·have p1 := (H.blk a _ h1).1
   have p2 := (H.blk b _ h2).1
   have ea : ρ a = ((ρ a).1, 0) := by rw [← p1]
   have eb : ρ b = ((ρ b).1, 0) := by rw [← p2]
   refine (hc ρ w hρ H _ _ ea eb).mono ?_
   rintro e w' ⟨rfl, hG, hW⟩
   have W := hW hr
   obtain ⟨r1, b1⟩ := W.bt
   obtain ⟨r2, b2⟩ := W.bc
   refine ⟨⟨(r.2.tens.flatMap TsD.cells ++ r1, r.2.cells.flatMap CsD.cells ++ r2), ⟨r1, rfl⟩, ⟨r2, rfl⟩⟩, ρ, ?_, fun _ _ => rfl, up ρ w w' _ _ H hG rfl rfl trivial trivial ⟨p1, b1⟩ ⟨p2, b2⟩⟩
   rw [if_pos hr, hr]
   simp only [concV, concT, conc1, List.map, p1, p2, stV]
  ·obtain ⟨⟨xs', ys'⟩, ⟨r1, e1⟩, ⟨r2, e2⟩⟩ := x
   exact hg hr _ _ xs' ys' r1 r2 rfl rfl e1 e2
 ·refine zdf (α := Unit) (fun _ => .tup [.agg [.val (iv r.2.tick), .val (iv r.2.count), .val (.slice none r.2.tens.length 0), .val (.slice none r.2.cells.length 0), .val (iv r.2.proven), .val (iv r.2.evac), .val (iv r.2.low), .val (iv r.2.high)], .one (.val (.int .i64 r.1))]) (fun _ => setAt (setAt mem a .dead) b .dead) (fun x => by simp [zaj]) (fun x => by simp [SV.ok, TV.ok, S1.ok]) hk hgo (fun ρ w hρ H => ?_) (fun x => hb hr _ _ _ rfl rfl rfl)
  have p1 := (H.blk a _ h1).1
  have p2 := (H.blk b _ h2).1
  have ea : ρ a = ((ρ a).1, 0) := by rw [← p1]
  have eb : ρ b = ((ρ b).1, 0) := by rw [← p2]
  refine (hc ρ w hρ H _ _ ea eb).mono ?_
  rintro e w' ⟨rfl, hG, hW⟩
  refine ⟨(), ρ, ?_, fun _ _ => rfl, up ρ w w' _ _ H hG rfl rfl trivial trivial trivial trivial⟩
  rw [if_neg hr]
  simp only [concV, concT, conc1, List.map, stV, zeroH]
end
theorem zc1 {w0 w : World} {own : List Nat} {ρ : Nat → Nat × Nat} {mem : List MB} {s : StD} {a b kt kc gt gc : Nat} {xs ys r1 r2 : List Value} (hS : Sat w0 own ρ mem w) (e0 : ρ a = (gt, 0)) (e1 : ρ b = (gc, 0)) (h0 : mem[a]? = some (.sym 105 xs)) (h1 : mem[b]? = some (.sym 107 ys)) (hab : a ≠ b) (hx : xs = s.tens.flatMap TsD.cells ++ r1) (hy : ys = s.cells.flatMap CsD.cells ++ r2) : StW w s ⟨some ⟨gt, 0, none⟩, kt, some ⟨gc, 0, none⟩, kc⟩ gt gc := by
 have b0 := hS.blk a _ h0
 have b1 := hS.blk b _ h1
 have hne := hS.apart a b _ _ h0 h1 rfl rfl hab
 rw [e0] at b0
 rw [e1] at b1
 rw [e0, e1] at hne
 subst hx hy
 exact ⟨rfl, rfl, ⟨r1, b0.2⟩, ⟨r2, b1.2⟩, hne⟩
def ApplyRet (r : Res) (w : World) (e : Ending) (w' : World) : Prop := ∃ v, e = .returned (.tuple #[v, .int .i64 r.1]) ∧ Below w.heap.size w w' ∧ (r.1 = 0 → NewSt r.2 w v w') ∧ (r.1 ≠ 0 → ∃ s0, v = .agg (stV s0 zeroH))
theorem ApplyRet.err {r : Res} {x : Int} (hx : x ≠ 0) (hr : r = no x) {w w' : World} {v : Value} (hb : Below w.heap.size w w') (hv : v = .agg (stV StD.zero zeroH)) : ApplyRet r w (.returned (.tuple #[v, .int .i64 x])) w' := by
 subst hr
 exact ⟨v, rfl, hb, fun h => absurd h hx, fun _ => ⟨_, hv⟩⟩
theorem ApplyRet.err2 {r : Res} (hx : r.1 ≠ 0) {w w' : World} {v : Value} (hb : Below w.heap.size w w') (hv : v = .agg (stV r.2 zeroH)) : ApplyRet r w (.returned (.tuple #[v, .int .i64 r.1])) w' :=
 ⟨v, rfl, hb, fun h => absurd h hx, fun _ => ⟨_, hv⟩⟩
theorem ApplyRet.ok {r : Res} (hx : r.1 = 0) {w w' : World} {v : Value} (hn : NewSt r.2 w v w') : ApplyRet r w (.returned (.tuple #[v, .int .i64 0])) w' := by
 have hb : Below w.heap.size w w' := by obtain ⟨_, _, _, _, _, _, _, _, _, _, _, _, hb⟩ := hn; exact hb
 exact ⟨v, by rw [hx], hb, fun _ => hn, fun h => absurd hx h⟩
theorem shl_small : ∀ i : Fin 4, IntKind.wrap .i64 (1 * 2 ^ (min (Int.ofNat i.1).toNat (IntKind.bits .i64))) = ((1 <<< i.1 : Nat) : Int) := by decide
theorem xor_small : ∀ (a : Fin 16) (i : Fin 4), IntKind.wrap .i64 (BitVec.ofInt (IntKind.bits .i64) (Int.ofNat a.1) ^^^ BitVec.ofInt (IntKind.bits .i64) ((1 <<< i.1 : Nat) : Int)).toNat = ((a.1 ^^^ (1 <<< i.1) : Nat) : Int) := by decide
theorem goes_k1 : Goes Tryz.prog 66 := zam Tryz.func66 (by kernel_rfl) (by kernel_rfl)
theorem goes_k2 : Goes Tryz.prog 67 := zam Tryz.func67 (by kernel_rfl) (by kernel_rfl)
theorem goes_k3 : Goes Tryz.prog 68 := zam Tryz.func68 (by kernel_rfl) (by kernel_rfl)
theorem goes_k4 : Goes Tryz.prog 69 := zam Tryz.func69 (by kernel_rfl) (by kernel_rfl)
theorem goes_k5 : Goes Tryz.prog 70 := zam Tryz.func70 (by kernel_rfl) (by kernel_rfl)
theorem goes_k6 : Goes Tryz.prog 71 := zam Tryz.func71 (by kernel_rfl) (by kernel_rfl)
theorem goes_k7 : Goes Tryz.prog 72 := zam Tryz.func72 (by kernel_rfl) (by kernel_rfl)
theorem goes_k8 : Goes Tryz.prog 73 := zam Tryz.func73 (by kernel_rfl) (by kernel_rfl)
theorem goes_k10 : Goes Tryz.prog 74 := zam Tryz.func74 (by kernel_rfl) (by kernel_rfl)
theorem goes_k11 : Goes Tryz.prog 75 := zam Tryz.func75 (by kernel_rfl) (by kernel_rfl)
theorem goes_k12 : Goes Tryz.prog 76 := zam Tryz.func76 (by kernel_rfl) (by kernel_rfl)
theorem goes_k14 : Goes Tryz.prog 78 := zam Tryz.func78 (by kernel_rfl) (by kernel_rfl)
theorem goes_h04 : Goes Tryz.prog 77 := zam Tryz.func77 (by kernel_rfl) (by kernel_rfl)
theorem apply_any (c : CfgD) (h : CfgH) (s : StD) (hs : StH) (ek et en ec eo ep el eh ev : Int) (w : World) (ok : CfgOk c) (sok : StOk c s) (ht0 : 0 < c.tens.length) (hC : CfgAt w w.heap.size c h) (hS : StAt w w.heap.size s hs) :
 Calls Tryz.prog 40 #[.agg (cfgV c h), .agg (stV s hs), .agg (EnD.cells ⟨ek, et, en, ec, eo, ep, el, eh, ev⟩)] w (ApplyRet (applyD c s ⟨ek, et, en, ec, eo, ep, el, eh, ev⟩) w) := by
 obtain ⟨A, hA⟩ : ∃ A, A = std := ⟨_, rfl⟩
 have f6 : A.not true = false := by rw [hA]; rfl
 have f7 : A.not false = true := by rw [hA]; rfl
 obtain ⟨czl, hczl⟩ := nm (c.zones.length)
 obtain ⟨ccl, hccl⟩ := nm (c.cells.length)
 obtain ⟨ctl, hctl⟩ := nm (c.tens.length)
 obtain ⟨cvl, hcvl⟩ := nm (c.vers.length)
 obtain ⟨crl, hcrl⟩ := nm (c.reps.length)
 obtain ⟨col, hcol⟩ := nm (c.obs.length)
 obtain ⟨tl, htl⟩ := nm (s.tens.length)
 obtain ⟨cl, hcl⟩ := nm (s.cells.length)
 cases hv : validE c ⟨ek, et, en, ec, eo, ep, el, eh, ev⟩
 ·refine zae (E := ⟨Tryz.prog, tabaT, ords40, Tryz.f40, w, [], [], fun _ _ _ => False⟩) zab (c := bodyOf Tryz.f40) (n := 0) Tryz.func40 rfl (show codeChk ords40 (bodyOf Tryz.f40) = true by decide +kernel) (rho []) (fun h p hp => zaq _ h p hp)
   (tm := [.agg [.val (iv c.regions), .val (.slice h.az czl h.kz), .val (.slice h.ac ccl h.kc), .val (.slice h.at_ ctl h.kt), .val (.slice h.av cvl h.kv), .val (.slice h.ar crl h.kr), .val (.slice h.ao col h.ko), .val (iv c.blast), .val (iv c.lease), .val (iv c.bake)], .agg [.val (iv s.tick), .val (iv s.count), .val (.slice hs.at_ tl hs.kt), .val (.slice hs.ac cl hs.kc), .val (iv s.proven), .val (iv s.evac), .val (iv s.low), .val (iv s.high)], .agg [.val (.int .i64 ek), .val (.int .i64 et), .val (.int .i64 en), .val (.int .i64 ec), .val (.int .i64 eo), .val (.int .i64 ep), .val (.int .i64 el), .val (.int .i64 eh), .val (.int .i64 ev)]] ++ List.replicate 198 (.one (.val undef))) (mem := []) (Nat.le_refl _) ?_ ?_ (by rw [hczl, hccl, hctl, hcvl, hcrl, hcol]; rw [htl, hcl]; rfl) ?_
  ·exact zan w [] _
  ·simp [SV.ok, S1.ok]
  ·refine zaa zab hA rfl rfl 400 ?_
   conv => arg 3; cbv
   repeat (simp only [f6, f7]; conv => arg 3; cbv)
   refine zac (.one (.val (.bool false))) trivial goes_valid6 (fun ρ w' hρ hSat => ?_) ?_
   ·simp only [List.map, concV, conc1]
    rw [hczl, hccl, hctl, hcvl, hcrl, hcol]
    have hh := valid6_any c h ek et en ec eo ep el eh ev (by have := ok.regions; omega) w'
    rw [hv] at hh
    exact hh
   refine zaa zab hA rfl rfl 400 ?_
   conv => arg 3; cbv
   repeat (simp only [f6, f7]; conv => arg 3; cbv)
   refine zac (.tup [.agg [.val (.int .i64 0), .val (.int .i64 0), .val (.slice none 0 0), .val (.slice none 0 0), .val (.int .i64 0), .val (.int .i64 0), .val (.int .i64 0), .val (.int .i64 0)], .one (.val (.int .i64 1))]) (by simp [SV.ok, TV.ok, S1.ok]) zba (fun ρ w' hρ hSat => zbq 1 w') ?_
   refine zaa zab hA rfl rfl 400 ?_
   conv => arg 3; cbv
   repeat (simp only [f6, f7]; conv => arg 3; cbv)
   refine zad zab (by rfl) (by rfl) (by rfl) (fun ρ w' hρ hSat => ?_)
   exact ApplyRet.err (x := 1) (by omega) (by unfold applyD; rw [if_pos hv]) (zah hSat.gr) rfl
 ·refine zae (E := ⟨Tryz.prog, tabaT, ords40, Tryz.f40, w, [], [], fun _ _ _ => False⟩) zab (c := bodyOf Tryz.f40) (n := 0) Tryz.func40 rfl (show codeChk ords40 (bodyOf Tryz.f40) = true by decide +kernel) (rho []) (fun h p hp => zaq _ h p hp)
   (tm := [.agg [.val (iv c.regions), .val (.slice h.az czl h.kz), .val (.slice h.ac ccl h.kc), .val (.slice h.at_ ctl h.kt), .val (.slice h.av cvl h.kv), .val (.slice h.ar crl h.kr), .val (.slice h.ao col h.ko), .val (iv c.blast), .val (iv c.lease), .val (iv c.bake)], .agg [.val (iv s.tick), .val (iv s.count), .val (.slice hs.at_ tl hs.kt), .val (.slice hs.ac cl hs.kc), .val (iv s.proven), .val (iv s.evac), .val (iv s.low), .val (iv s.high)], .agg [.val (.int .i64 ek), .val (.int .i64 et), .val (.int .i64 en), .val (.int .i64 ec), .val (.int .i64 eo), .val (.int .i64 ep), .val (.int .i64 el), .val (.int .i64 eh), .val (.int .i64 ev)]] ++ List.replicate 198 (.one (.val undef))) (mem := []) (Nat.le_refl _) ?_ ?_ (by rw [hczl, hccl, hctl, hcvl, hcrl, hcol]; rw [htl, hcl]; rfl) ?_
  ·exact zan w [] _
  ·simp [SV.ok, S1.ok]
  ·by_cases hcnt : 4096 ≤ s.count
   ·have t1 : A.le 4096 s.count = true := by rw [hA]; exact decide_eq_true hcnt
    refine zaa zab hA rfl rfl 400 ?_
    conv => arg 3; cbv
    repeat (simp only [f6, f7]; conv => arg 3; cbv)
    refine zac (.one (.val (.bool true))) trivial goes_valid6 (fun ρ w' hρ hSat => ?_) ?_
    ·simp only [List.map, concV, conc1]
     rw [hczl, hccl, hctl, hcvl, hcrl, hcol]
     have hh := valid6_any c h ek et en ec eo ep el eh ev (by have := ok.regions; omega) w'
     rw [hv] at hh
     exact hh
    refine zaa zab hA rfl rfl 400 ?_
    conv => arg 3; cbv
    repeat (simp only [f6, f7, t1]; conv => arg 3; cbv)
    refine zac (.tup [.agg [.val (.int .i64 0), .val (.int .i64 0), .val (.slice none 0 0), .val (.slice none 0 0), .val (.int .i64 0), .val (.int .i64 0), .val (.int .i64 0), .val (.int .i64 0)], .one (.val (.int .i64 2))]) (by simp [SV.ok, TV.ok, S1.ok]) zba (fun ρ w' hρ hSat => zbq 2 w') ?_
    refine zaa zab hA rfl rfl 400 ?_
    conv => arg 3; cbv
    repeat (simp only [f6, f7, t1]; conv => arg 3; cbv)
    refine zad zab (by rfl) (by rfl) (by rfl) (fun ρ w' hρ hSat => ?_)
    exact ApplyRet.err (x := 2) (by omega) (by unfold applyD; rw [if_neg (by rw [hv]; simp), if_pos hcnt]) (zah hSat.gr) rfl
   have t1 : A.le 4096 s.count = false := by rw [hA]; exact decide_eq_false hcnt
   by_cases htick : et < s.tick
   ·have t2 : A.lt et s.tick = true := by rw [hA]; exact decide_eq_true htick
    refine zaa zab hA rfl rfl 400 ?_
    conv => arg 3; cbv
    repeat (simp only [f6, f7]; conv => arg 3; cbv)
    refine zac (.one (.val (.bool true))) trivial goes_valid6 (fun ρ w' hρ hSat => ?_) ?_
    ·simp only [List.map, concV, conc1]
     rw [hczl, hccl, hctl, hcvl, hcrl, hcol]
     have hh := valid6_any c h ek et en ec eo ep el eh ev (by have := ok.regions; omega) w'
     rw [hv] at hh
     exact hh
    refine zaa zab hA rfl rfl 400 ?_
    conv => arg 3; cbv
    repeat (simp only [f6, f7, t1, t2]; conv => arg 3; cbv)
    refine zac (.tup [.agg [.val (.int .i64 0), .val (.int .i64 0), .val (.slice none 0 0), .val (.slice none 0 0), .val (.int .i64 0), .val (.int .i64 0), .val (.int .i64 0), .val (.int .i64 0)], .one (.val (.int .i64 3))]) (by simp [SV.ok, TV.ok, S1.ok]) zba (fun ρ w' hρ hSat => zbq 3 w') ?_
    refine zaa zab hA rfl rfl 400 ?_
    conv => arg 3; cbv
    repeat (simp only [f6, f7, t1, t2]; conv => arg 3; cbv)
    refine zad zab (by rfl) (by rfl) (by rfl) (fun ρ w' hρ hSat => ?_)
    exact ApplyRet.err (x := 3) (by omega) (by unfold applyD; rw [if_neg (by rw [hv]; simp), if_neg hcnt, if_pos htick]) (zah hSat.gr) rfl
   have t2 : A.lt et s.tick = false := by rw [hA]; exact decide_eq_false htick
   have eok := validE_ok ok hv
   have sok1 : StOk c ({ s with tick := et, count := s.count + 1 }) := ⟨eok.tick, ⟨by show 0 ≤ s.count + 1; have := sok.count; omega, by show s.count + 1 ≤ 4096; omega⟩, sok.tl, sok.cl, sok.ten, sok.cel, sok.proven, sok.evac, sok.low, sok.high⟩
   have HD0 : applyD c s ⟨ek, et, en, ec, eo, ep, el, eh, ev⟩ = kindD c ({ s with tick := et, count := s.count + 1 }) ⟨ek, et, en, ec, eo, ep, el, eh, ev⟩ := by
    unfold applyD
    rw [if_neg (by rw [hv]; simp), if_neg hcnt, if_neg htick]
   obtain ⟨cn1, hcn1⟩ := nm (s.count + 1)
   have q1 : A.add .i64 s.count 1 = cn1 := by rw [hA, hcn1]; exact wrap64 (by have := sok.count; omega) (by have := sok.count; omega)
   refine zaa zab hA rfl rfl 400 ?_
   conv => arg 3; cbv
   repeat (simp only [f6, f7]; conv => arg 3; cbv)
   refine zac (.one (.val (.bool true))) trivial goes_valid6 (fun ρ w' hρ hSat => ?_) ?_
   ·simp only [List.map, concV, conc1]
    rw [hczl, hccl, hctl, hcvl, hcrl, hcol]
    have hh := valid6_any c h ek et en ec eo ep el eh ev (by have := ok.regions; omega) w'
    rw [hv] at hh
    exact hh
   refine zaa zab hA rfl rfl 400 ?_
   conv => arg 3; cbv
   repeat (simp only [f6, f7, t1, t2]; conv => arg 3; cbv)
   refine good_newSt s tl cl htl hcl (.inr ⟨_, _, _, rfl, rfl⟩) goes_copied (fun ρ w' hρ hSat => ?_) (fun kt kc r1 r2 xs ys hxs hys => ?_)
   ·have hbl : Below w.heap.size w w' := zah hSat.gr
    simp only [List.map, concV, conc1]
    rw [htl, hcl]
    exact copied_any s hs w' (by rw [sok.tl]; omega) (by rw [sok.tl]; have := ok.tens; omega) (by rw [sok.cl]; have := ok.cells; omega) (by rw [sok.cl]; have := ok.cells; omega) ((hS.below hbl).more hbl.size)
   refine zaa zab hA rfl rfl 400 ?_
   conv => arg 3; cbv
   repeat (simp only [f6, f7, q1]; conv => arg 3; cbv)
   have hkd := eok.kind
   have hKs : ek = 1 ∨ ek = 2 ∨ ek = 3 ∨ ek = 4 ∨ ek = 5 ∨ ek = 6 ∨ ek = 7 ∨ ek = 8 ∨ ek = 9 ∨ ek = 10 ∨ ek = 11 ∨ ek = 12 ∨ ek = 13 ∨ ek = 14 ∨ ek = 15 ∨ ek = 16 := by have h1 : 1 ≤ ek := hkd.1; have h2 : ek ≤ 16 := hkd.2; omega
   rcases hKs with rfl | rfl | rfl | rfl | rfl | rfl | rfl | rfl | rfl | rfl | rfl | rfl | rfl | rfl | rfl | rfl
   ·have HD : applyD c s ⟨1, et, en, ec, eo, ep, el, eh, ev⟩ = placeD c ({ s with tick := et, count := s.count + 1 }) ⟨1, et, en, ec, eo, ep, el, eh, ev⟩ := by rw [HD0]; rfl
    have kf : ∀ j, A.eq 1 j = decide (1 = j) := fun j => by rw [hA]; rfl
    conv => arg 3; cbv
    repeat (simp only [f6, f7, kf]; conv => arg 3; cbv)
    obtain ⟨r, hr⟩ := nm (placeD c ({ s with tick := et, count := s.count + 1 }) ⟨1, et, en, ec, eo, ep, el, eh, ev⟩)
    refine zbr 4 5 rfl rfl (by omega) r kt kc (.inr ⟨_, _, _, rfl, rfl⟩) goes_k1 (fun ρ w' hρ hSat gt gc e0 e1 => ?_) (fun h0 tl' cl' xs' ys' r1' r2' htl' hcl' hxs' hys' => ?_) (fun h0 tl' cl' x0 htl' hcl' hx0 => ?_)
    ·have hbl : Below w.heap.size w w' := zah hSat.gr
     have hW : StW w' ({ s with tick := et, count := s.count + 1 }) ⟨some ⟨gt, 0, none⟩, kt, some ⟨gc, 0, none⟩, kc⟩ gt gc := zc1 hSat e0 e1 rfl rfl (by omega) hxs hys
     have hCw : CfgAt w' w.heap.size c h := hC.below hbl
     have hB : w.heap.size ≤ gt ∧ w.heap.size ≤ gc := by
      have f1 := ((hSat.free 4 _ rfl).1 rfl).resolve_left (by simp)
      have f2 := ((hSat.free 5 _ rfl).1 rfl).resolve_left (by simp)
      rw [e0] at f1
      rw [e1] at f2
      exact ⟨f1, f2⟩
     simp only [List.map, concV, conc1, e0, e1]
     rw [hr]
     rw [hczl, hccl, hctl, hcvl, hcrl, hcol, htl, hcl, hcn1]
     obtain ⟨n, hn⟩ : ∃ n : Nat, en = (n : Int) := ⟨en.toNat, by have := eok.ten (by simp); have h0 : 0 ≤ en := this.1; omega⟩
     have hnl : n < s.tens.length := by have := eok.ten (by simp); have h0 : en < c.tens.length := this.2; rw [sok.tl]; omega
     obtain ⟨t, ht⟩ : ∃ t, ({ s with tick := et, count := s.count + 1 }).tens[n]? = some t := ⟨_, List.getElem?_eq_getElem hnl⟩
     obtain ⟨k, hkk⟩ : ∃ k : Nat, ec = (k : Int) := ⟨ec.toNat, by have := eok.cell (by simp); have h0 : 0 ≤ ec := this.1; omega⟩
     have hkl : k < s.cells.length := by have := eok.cell (by simp); have h0 : ec < c.cells.length := this.2; rw [sok.cl]; omega
     obtain ⟨x, hx⟩ : ∃ x, ({ s with tick := et, count := s.count + 1 }).cells[k]? = some x := ⟨_, List.getElem?_eq_getElem hkl⟩
     rcases (show eo = -1 ∨ 0 ≤ eo by have := eok.other rfl; have h0 : -1 ≤ eo := this.1; omega) with hoo | hoo
     ·have hh := place_one c h w.heap.size ({ s with tick := et, count := s.count + 1 }) ⟨some ⟨gt, 0, none⟩, kt, some ⟨gc, 0, none⟩, kc⟩ gt gc n k t x 1 et ep el eh ev w' ok sok1 ht hx hCw hB hW
      rw [← hn, ← hkk, ← hoo] at hh
      exact hh
     ·obtain ⟨m2, hm2⟩ : ∃ m : Nat, eo = (m : Int) := ⟨eo.toNat, by omega⟩
      have hml : m2 < s.cells.length := by have := eok.other rfl; have h0 : eo < c.cells.length := this.2; rw [sok.cl]; omega
      obtain ⟨y, hy⟩ : ∃ y, ({ s with tick := et, count := s.count + 1 }).cells[m2]? = some y := ⟨_, List.getElem?_eq_getElem hml⟩
      have hh := place_two c h w.heap.size ({ s with tick := et, count := s.count + 1 }) ⟨some ⟨gt, 0, none⟩, kt, some ⟨gc, 0, none⟩, kc⟩ gt gc n k m2 t x y 1 et ep el eh ev w' ok sok1 ht hx hy hCw hB hW
      rw [← hn, ← hkk, ← hm2] at hh
      exact hh
    ·refine zaa zab hA rfl rfl 400 ?_
     conv => arg 3; cbv
     refine zad zab (by rfl) (by rfl) (by rfl) (fun ρ w' hρ hSat => ?_)
     rw [HD, ← hr]
     subst htl' hcl'
     exact ApplyRet.ok h0 (za6 (kt := kt) (kc := kc) hSat (a := 4) (b := 5) rfl rfl (by omega) hxs' hys' rfl)
    ·refine zaa zab hA rfl rfl 400 ?_
     conv => arg 3; cbv
     refine zad zab (by rfl) (by rfl) (by rfl) (fun ρ w' hρ hSat => ?_)
     rw [HD, ← hr]
     subst hx0 htl' hcl'
     exact ApplyRet.err2 h0 (zah hSat.gr) rfl
   ·have HD : applyD c s ⟨2, et, en, ec, eo, ep, el, eh, ev⟩ = grantD c ({ s with tick := et, count := s.count + 1 }) ⟨2, et, en, ec, eo, ep, el, eh, ev⟩ := by rw [HD0]; rfl
    have kf : ∀ j, A.eq 2 j = decide (2 = j) := fun j => by rw [hA]; rfl
    conv => arg 3; cbv
    repeat (simp only [f6, f7, kf]; conv => arg 3; cbv)
    obtain ⟨r, hr⟩ := nm (grantD c ({ s with tick := et, count := s.count + 1 }) ⟨2, et, en, ec, eo, ep, el, eh, ev⟩)
    refine zbr 4 5 rfl rfl (by omega) r kt kc (.inr ⟨_, _, _, rfl, rfl⟩) goes_k2 (fun ρ w' hρ hSat gt gc e0 e1 => ?_) (fun h0 tl' cl' xs' ys' r1' r2' htl' hcl' hxs' hys' => ?_) (fun h0 tl' cl' x0 htl' hcl' hx0 => ?_)
    ·have hbl : Below w.heap.size w w' := zah hSat.gr
     have hW : StW w' ({ s with tick := et, count := s.count + 1 }) ⟨some ⟨gt, 0, none⟩, kt, some ⟨gc, 0, none⟩, kc⟩ gt gc := zc1 hSat e0 e1 rfl rfl (by omega) hxs hys
     have hCw : CfgAt w' w.heap.size c h := hC.below hbl
     have hB : w.heap.size ≤ gt ∧ w.heap.size ≤ gc := by
      have f1 := ((hSat.free 4 _ rfl).1 rfl).resolve_left (by simp)
      have f2 := ((hSat.free 5 _ rfl).1 rfl).resolve_left (by simp)
      rw [e0] at f1
      rw [e1] at f2
      exact ⟨f1, f2⟩
     simp only [List.map, concV, conc1, e0, e1]
     rw [hr]
     rw [hczl, hccl, hctl, hcvl, hcrl, hcol, htl, hcl, hcn1]
     obtain ⟨n, hn⟩ : ∃ n : Nat, en = (n : Int) := ⟨en.toNat, by have := eok.ten (by simp); have h0 : 0 ≤ en := this.1; omega⟩
     have hnl : n < s.tens.length := by have := eok.ten (by simp); have h0 : en < c.tens.length := this.2; rw [sok.tl]; omega
     obtain ⟨t, ht⟩ : ∃ t, ({ s with tick := et, count := s.count + 1 }).tens[n]? = some t := ⟨_, List.getElem?_eq_getElem hnl⟩
     obtain ⟨k, hkk⟩ : ∃ k : Nat, ec = (k : Int) := ⟨ec.toNat, by have := eok.cell (by simp); have h0 : 0 ≤ ec := this.1; omega⟩
     have hkl : k < s.cells.length := by have := eok.cell (by simp); have h0 : ec < c.cells.length := this.2; rw [sok.cl]; omega
     obtain ⟨x, hx⟩ : ∃ x, ({ s with tick := et, count := s.count + 1 }).cells[k]? = some x := ⟨_, List.getElem?_eq_getElem hkl⟩
     have hh := grant_any c h w.heap.size ({ s with tick := et, count := s.count + 1 }) ⟨some ⟨gt, 0, none⟩, kt, some ⟨gc, 0, none⟩, kc⟩ gt gc n k t x 2 et eo ep el eh ev w' ok sok1 (eok.tick) (eok.lo rfl) (eok.hi rfl) ht hx hCw hB hW
     rw [← hn, ← hkk] at hh
     exact hh
    ·refine zaa zab hA rfl rfl 400 ?_
     conv => arg 3; cbv
     refine zad zab (by rfl) (by rfl) (by rfl) (fun ρ w' hρ hSat => ?_)
     rw [HD, ← hr]
     subst htl' hcl'
     exact ApplyRet.ok h0 (za6 (kt := kt) (kc := kc) hSat (a := 4) (b := 5) rfl rfl (by omega) hxs' hys' rfl)
    ·refine zaa zab hA rfl rfl 400 ?_
     conv => arg 3; cbv
     refine zad zab (by rfl) (by rfl) (by rfl) (fun ρ w' hρ hSat => ?_)
     rw [HD, ← hr]
     subst hx0 htl' hcl'
     exact ApplyRet.err2 h0 (zah hSat.gr) rfl
   ·have HD : applyD c s ⟨3, et, en, ec, eo, ep, el, eh, ev⟩ = cutD ({ s with tick := et, count := s.count + 1 }) ⟨3, et, en, ec, eo, ep, el, eh, ev⟩ := by rw [HD0]; rfl
    have kf : ∀ j, A.eq 3 j = decide (3 = j) := fun j => by rw [hA]; rfl
    conv => arg 3; cbv
    repeat (simp only [f6, f7, kf]; conv => arg 3; cbv)
    obtain ⟨r, hr⟩ := nm (cutD ({ s with tick := et, count := s.count + 1 }) ⟨3, et, en, ec, eo, ep, el, eh, ev⟩)
    refine zbr 4 5 rfl rfl (by omega) r kt kc (.inr ⟨_, _, _, rfl, rfl⟩) goes_k3 (fun ρ w' hρ hSat gt gc e0 e1 => ?_) (fun h0 tl' cl' xs' ys' r1' r2' htl' hcl' hxs' hys' => ?_) (fun h0 tl' cl' x0 htl' hcl' hx0 => ?_)
    ·have hbl : Below w.heap.size w w' := zah hSat.gr
     have hW : StW w' ({ s with tick := et, count := s.count + 1 }) ⟨some ⟨gt, 0, none⟩, kt, some ⟨gc, 0, none⟩, kc⟩ gt gc := zc1 hSat e0 e1 rfl rfl (by omega) hxs hys
     have hCw : CfgAt w' w.heap.size c h := hC.below hbl
     have hB : w.heap.size ≤ gt ∧ w.heap.size ≤ gc := by
      have f1 := ((hSat.free 4 _ rfl).1 rfl).resolve_left (by simp)
      have f2 := ((hSat.free 5 _ rfl).1 rfl).resolve_left (by simp)
      rw [e0] at f1
      rw [e1] at f2
      exact ⟨f1, f2⟩
     simp only [List.map, concV, conc1, e0, e1]
     rw [hr]
     rw [htl, hcl, hcn1]
     obtain ⟨n, hn⟩ : ∃ n : Nat, en = (n : Int) := ⟨en.toNat, by have := eok.ten (by simp); have h0 : 0 ≤ en := this.1; omega⟩
     have hnl : n < s.tens.length := by have := eok.ten (by simp); have h0 : en < c.tens.length := this.2; rw [sok.tl]; omega
     obtain ⟨t, ht⟩ : ∃ t, ({ s with tick := et, count := s.count + 1 }).tens[n]? = some t := ⟨_, List.getElem?_eq_getElem hnl⟩
     have hh := cut_any ({ s with tick := et, count := s.count + 1 }) ⟨some ⟨gt, 0, none⟩, kt, some ⟨gc, 0, none⟩, kc⟩ gt gc n t 3 et ec eo ep el eh ev w' eok.tick ht hW
     rw [← hn] at hh
     exact hh
    ·refine zaa zab hA rfl rfl 400 ?_
     conv => arg 3; cbv
     refine zad zab (by rfl) (by rfl) (by rfl) (fun ρ w' hρ hSat => ?_)
     rw [HD, ← hr]
     subst htl' hcl'
     exact ApplyRet.ok h0 (za6 (kt := kt) (kc := kc) hSat (a := 4) (b := 5) rfl rfl (by omega) hxs' hys' rfl)
    ·refine zaa zab hA rfl rfl 400 ?_
     conv => arg 3; cbv
     refine zad zab (by rfl) (by rfl) (by rfl) (fun ρ w' hρ hSat => ?_)
     rw [HD, ← hr]
     subst hx0 htl' hcl'
     exact ApplyRet.err2 h0 (zah hSat.gr) rfl
   ·have HD : applyD c s ⟨4, et, en, ec, eo, ep, el, eh, ev⟩ = standbyD c ({ s with tick := et, count := s.count + 1 }) ⟨4, et, en, ec, eo, ep, el, eh, ev⟩ := by rw [HD0]; rfl
    have kf : ∀ j, A.eq 4 j = decide (4 = j) := fun j => by rw [hA]; rfl
    conv => arg 3; cbv
    repeat (simp only [f6, f7, kf]; conv => arg 3; cbv)
    obtain ⟨r, hr⟩ := nm (standbyD c ({ s with tick := et, count := s.count + 1 }) ⟨4, et, en, ec, eo, ep, el, eh, ev⟩)
    refine zbr 4 5 rfl rfl (by omega) r kt kc (.inr ⟨_, _, _, rfl, rfl⟩) goes_k4 (fun ρ w' hρ hSat gt gc e0 e1 => ?_) (fun h0 tl' cl' xs' ys' r1' r2' htl' hcl' hxs' hys' => ?_) (fun h0 tl' cl' x0 htl' hcl' hx0 => ?_)
    ·have hbl : Below w.heap.size w w' := zah hSat.gr
     have hW : StW w' ({ s with tick := et, count := s.count + 1 }) ⟨some ⟨gt, 0, none⟩, kt, some ⟨gc, 0, none⟩, kc⟩ gt gc := zc1 hSat e0 e1 rfl rfl (by omega) hxs hys
     have hCw : CfgAt w' w.heap.size c h := hC.below hbl
     have hB : w.heap.size ≤ gt ∧ w.heap.size ≤ gc := by
      have f1 := ((hSat.free 4 _ rfl).1 rfl).resolve_left (by simp)
      have f2 := ((hSat.free 5 _ rfl).1 rfl).resolve_left (by simp)
      rw [e0] at f1
      rw [e1] at f2
      exact ⟨f1, f2⟩
     simp only [List.map, concV, conc1, e0, e1]
     rw [hr]
     rw [hczl, hccl, hctl, hcvl, hcrl, hcol, htl, hcl, hcn1]
     obtain ⟨n, hn⟩ : ∃ n : Nat, en = (n : Int) := ⟨en.toNat, by have := eok.ten (by simp); have h0 : 0 ≤ en := this.1; omega⟩
     have hnl : n < s.tens.length := by have := eok.ten (by simp); have h0 : en < c.tens.length := this.2; rw [sok.tl]; omega
     obtain ⟨t, ht⟩ : ∃ t, ({ s with tick := et, count := s.count + 1 }).tens[n]? = some t := ⟨_, List.getElem?_eq_getElem hnl⟩
     rcases (show ec = -1 ∨ 0 ≤ ec by have := eok.cell4 rfl; have h0 : -1 ≤ ec := this.1; omega) with hoo | hoo
     ·have hh := standby_none c h w.heap.size ({ s with tick := et, count := s.count + 1 }) ⟨some ⟨gt, 0, none⟩, kt, some ⟨gc, 0, none⟩, kc⟩ gt gc n t 4 et eo ep el eh ev w' ok sok1 ht hCw hB hW
      rw [← hn, ← hoo] at hh
      exact hh
     ·obtain ⟨k, hkk⟩ : ∃ m : Nat, ec = (m : Int) := ⟨ec.toNat, by omega⟩
      have hkl : k < s.cells.length := by have := eok.cell4 rfl; have h0 : ec < c.cells.length := this.2; rw [sok.cl]; omega
      obtain ⟨x, hx⟩ : ∃ y, ({ s with tick := et, count := s.count + 1 }).cells[k]? = some y := ⟨_, List.getElem?_eq_getElem hkl⟩
      have hh := standby_any c h w.heap.size ({ s with tick := et, count := s.count + 1 }) ⟨some ⟨gt, 0, none⟩, kt, some ⟨gc, 0, none⟩, kc⟩ gt gc n k t x 4 et eo ep el eh ev w' ok sok1 ht hx hCw hB hW
      rw [← hn, ← hkk] at hh
      exact hh
    ·refine zaa zab hA rfl rfl 400 ?_
     conv => arg 3; cbv
     refine zad zab (by rfl) (by rfl) (by rfl) (fun ρ w' hρ hSat => ?_)
     rw [HD, ← hr]
     subst htl' hcl'
     exact ApplyRet.ok h0 (za6 (kt := kt) (kc := kc) hSat (a := 4) (b := 5) rfl rfl (by omega) hxs' hys' rfl)
    ·refine zaa zab hA rfl rfl 400 ?_
     conv => arg 3; cbv
     refine zad zab (by rfl) (by rfl) (by rfl) (fun ρ w' hρ hSat => ?_)
     rw [HD, ← hr]
     subst hx0 htl' hcl'
     exact ApplyRet.err2 h0 (zah hSat.gr) rfl
   ·have HD : applyD c s ⟨5, et, en, ec, eo, ep, el, eh, ev⟩ = readyD ({ s with tick := et, count := s.count + 1 }) ⟨5, et, en, ec, eo, ep, el, eh, ev⟩ := by rw [HD0]; rfl
    have kf : ∀ j, A.eq 5 j = decide (5 = j) := fun j => by rw [hA]; rfl
    conv => arg 3; cbv
    repeat (simp only [f6, f7, kf]; conv => arg 3; cbv)
    obtain ⟨r, hr⟩ := nm (readyD ({ s with tick := et, count := s.count + 1 }) ⟨5, et, en, ec, eo, ep, el, eh, ev⟩)
    refine zbr 4 5 rfl rfl (by omega) r kt kc (.inr ⟨_, _, _, rfl, rfl⟩) goes_k5 (fun ρ w' hρ hSat gt gc e0 e1 => ?_) (fun h0 tl' cl' xs' ys' r1' r2' htl' hcl' hxs' hys' => ?_) (fun h0 tl' cl' x0 htl' hcl' hx0 => ?_)
    ·have hbl : Below w.heap.size w w' := zah hSat.gr
     have hW : StW w' ({ s with tick := et, count := s.count + 1 }) ⟨some ⟨gt, 0, none⟩, kt, some ⟨gc, 0, none⟩, kc⟩ gt gc := zc1 hSat e0 e1 rfl rfl (by omega) hxs hys
     have hCw : CfgAt w' w.heap.size c h := hC.below hbl
     have hB : w.heap.size ≤ gt ∧ w.heap.size ≤ gc := by
      have f1 := ((hSat.free 4 _ rfl).1 rfl).resolve_left (by simp)
      have f2 := ((hSat.free 5 _ rfl).1 rfl).resolve_left (by simp)
      rw [e0] at f1
      rw [e1] at f2
      exact ⟨f1, f2⟩
     simp only [List.map, concV, conc1, e0, e1]
     rw [hr]
     rw [htl, hcl, hcn1]
     obtain ⟨n, hn⟩ : ∃ n : Nat, en = (n : Int) := ⟨en.toNat, by have := eok.ten (by simp); have h0 : 0 ≤ en := this.1; omega⟩
     have hnl : n < s.tens.length := by have := eok.ten (by simp); have h0 : en < c.tens.length := this.2; rw [sok.tl]; omega
     obtain ⟨t, ht⟩ : ∃ t, ({ s with tick := et, count := s.count + 1 }).tens[n]? = some t := ⟨_, List.getElem?_eq_getElem hnl⟩
     obtain ⟨k, hkk⟩ : ∃ k : Nat, ec = (k : Int) := ⟨ec.toNat, by have := eok.cell (by simp); have h0 : 0 ≤ ec := this.1; omega⟩
     have hkl : k < s.cells.length := by have := eok.cell (by simp); have h0 : ec < c.cells.length := this.2; rw [sok.cl]; omega
     obtain ⟨x, hx⟩ : ∃ x, ({ s with tick := et, count := s.count + 1 }).cells[k]? = some x := ⟨_, List.getElem?_eq_getElem hkl⟩
     have hh := ready_any ({ s with tick := et, count := s.count + 1 }) ⟨some ⟨gt, 0, none⟩, kt, some ⟨gc, 0, none⟩, kc⟩ gt gc n k t x 5 et eo ep el eh ev w' ht hx hW
     rw [← hn, ← hkk] at hh
     exact hh
    ·refine zaa zab hA rfl rfl 400 ?_
     conv => arg 3; cbv
     refine zad zab (by rfl) (by rfl) (by rfl) (fun ρ w' hρ hSat => ?_)
     rw [HD, ← hr]
     subst htl' hcl'
     exact ApplyRet.ok h0 (za6 (kt := kt) (kc := kc) hSat (a := 4) (b := 5) rfl rfl (by omega) hxs' hys' rfl)
    ·refine zaa zab hA rfl rfl 400 ?_
     conv => arg 3; cbv
     refine zad zab (by rfl) (by rfl) (by rfl) (fun ρ w' hρ hSat => ?_)
     rw [HD, ← hr]
     subst hx0 htl' hcl'
     exact ApplyRet.err2 h0 (zah hSat.gr) rfl
   ·have HD : applyD c s ⟨6, et, en, ec, eo, ep, el, eh, ev⟩ = migrateD c ({ s with tick := et, count := s.count + 1 }) ⟨6, et, en, ec, eo, ep, el, eh, ev⟩ := by rw [HD0]; rfl
    have kf : ∀ j, A.eq 6 j = decide (6 = j) := fun j => by rw [hA]; rfl
    conv => arg 3; cbv
    repeat (simp only [f6, f7, kf]; conv => arg 3; cbv)
    obtain ⟨r, hr⟩ := nm (migrateD c ({ s with tick := et, count := s.count + 1 }) ⟨6, et, en, ec, eo, ep, el, eh, ev⟩)
    refine zbr 4 5 rfl rfl (by omega) r kt kc (.inr ⟨_, _, _, rfl, rfl⟩) goes_k6 (fun ρ w' hρ hSat gt gc e0 e1 => ?_) (fun h0 tl' cl' xs' ys' r1' r2' htl' hcl' hxs' hys' => ?_) (fun h0 tl' cl' x0 htl' hcl' hx0 => ?_)
    ·have hbl : Below w.heap.size w w' := zah hSat.gr
     have hW : StW w' ({ s with tick := et, count := s.count + 1 }) ⟨some ⟨gt, 0, none⟩, kt, some ⟨gc, 0, none⟩, kc⟩ gt gc := zc1 hSat e0 e1 rfl rfl (by omega) hxs hys
     have hCw : CfgAt w' w.heap.size c h := hC.below hbl
     have hB : w.heap.size ≤ gt ∧ w.heap.size ≤ gc := by
      have f1 := ((hSat.free 4 _ rfl).1 rfl).resolve_left (by simp)
      have f2 := ((hSat.free 5 _ rfl).1 rfl).resolve_left (by simp)
      rw [e0] at f1
      rw [e1] at f2
      exact ⟨f1, f2⟩
     simp only [List.map, concV, conc1, e0, e1]
     rw [hr]
     rw [hczl, hccl, hctl, hcvl, hcrl, hcol, htl, hcl, hcn1]
     obtain ⟨n, hn⟩ : ∃ n : Nat, en = (n : Int) := ⟨en.toNat, by have := eok.ten (by simp); have h0 : 0 ≤ en := this.1; omega⟩
     have hnl : n < s.tens.length := by have := eok.ten (by simp); have h0 : en < c.tens.length := this.2; rw [sok.tl]; omega
     obtain ⟨t, ht⟩ : ∃ t, ({ s with tick := et, count := s.count + 1 }).tens[n]? = some t := ⟨_, List.getElem?_eq_getElem hnl⟩
     obtain ⟨k, hkk⟩ : ∃ k : Nat, ec = (k : Int) := ⟨ec.toNat, by have := eok.cell (by simp); have h0 : 0 ≤ ec := this.1; omega⟩
     have hkl : k < s.cells.length := by have := eok.cell (by simp); have h0 : ec < c.cells.length := this.2; rw [sok.cl]; omega
     obtain ⟨x, hx⟩ : ∃ x, ({ s with tick := et, count := s.count + 1 }).cells[k]? = some x := ⟨_, List.getElem?_eq_getElem hkl⟩
     have hh := migrate_any c h w.heap.size ({ s with tick := et, count := s.count + 1 }) ⟨some ⟨gt, 0, none⟩, kt, some ⟨gc, 0, none⟩, kc⟩ gt gc n k t x 6 et eo ep el eh ev w' ok sok1 ht hx hCw hB hW
     rw [← hn, ← hkk] at hh
     exact hh
    ·refine zaa zab hA rfl rfl 400 ?_
     conv => arg 3; cbv
     refine zad zab (by rfl) (by rfl) (by rfl) (fun ρ w' hρ hSat => ?_)
     rw [HD, ← hr]
     subst htl' hcl'
     exact ApplyRet.ok h0 (za6 (kt := kt) (kc := kc) hSat (a := 4) (b := 5) rfl rfl (by omega) hxs' hys' rfl)
    ·refine zaa zab hA rfl rfl 400 ?_
     conv => arg 3; cbv
     refine zad zab (by rfl) (by rfl) (by rfl) (fun ρ w' hρ hSat => ?_)
     rw [HD, ← hr]
     subst hx0 htl' hcl'
     exact ApplyRet.err2 h0 (zah hSat.gr) rfl
   ·have HD : applyD c s ⟨7, et, en, ec, eo, ep, el, eh, ev⟩ = abandonD ({ s with tick := et, count := s.count + 1 }) ⟨7, et, en, ec, eo, ep, el, eh, ev⟩ := by rw [HD0]; rfl
    have kf : ∀ j, A.eq 7 j = decide (7 = j) := fun j => by rw [hA]; rfl
    conv => arg 3; cbv
    repeat (simp only [f6, f7, kf]; conv => arg 3; cbv)
    obtain ⟨r, hr⟩ := nm (abandonD ({ s with tick := et, count := s.count + 1 }) ⟨7, et, en, ec, eo, ep, el, eh, ev⟩)
    refine zbr 4 5 rfl rfl (by omega) r kt kc (.inr ⟨_, _, _, rfl, rfl⟩) goes_k7 (fun ρ w' hρ hSat gt gc e0 e1 => ?_) (fun h0 tl' cl' xs' ys' r1' r2' htl' hcl' hxs' hys' => ?_) (fun h0 tl' cl' x0 htl' hcl' hx0 => ?_)
    ·have hbl : Below w.heap.size w w' := zah hSat.gr
     have hW : StW w' ({ s with tick := et, count := s.count + 1 }) ⟨some ⟨gt, 0, none⟩, kt, some ⟨gc, 0, none⟩, kc⟩ gt gc := zc1 hSat e0 e1 rfl rfl (by omega) hxs hys
     have hCw : CfgAt w' w.heap.size c h := hC.below hbl
     have hB : w.heap.size ≤ gt ∧ w.heap.size ≤ gc := by
      have f1 := ((hSat.free 4 _ rfl).1 rfl).resolve_left (by simp)
      have f2 := ((hSat.free 5 _ rfl).1 rfl).resolve_left (by simp)
      rw [e0] at f1
      rw [e1] at f2
      exact ⟨f1, f2⟩
     simp only [List.map, concV, conc1, e0, e1]
     rw [hr]
     rw [htl, hcl, hcn1]
     obtain ⟨n, hn⟩ : ∃ n : Nat, en = (n : Int) := ⟨en.toNat, by have := eok.ten (by simp); have h0 : 0 ≤ en := this.1; omega⟩
     have hnl : n < s.tens.length := by have := eok.ten (by simp); have h0 : en < c.tens.length := this.2; rw [sok.tl]; omega
     obtain ⟨t, ht⟩ : ∃ t, ({ s with tick := et, count := s.count + 1 }).tens[n]? = some t := ⟨_, List.getElem?_eq_getElem hnl⟩
     have hh := abandon_any ({ s with tick := et, count := s.count + 1 }) ⟨some ⟨gt, 0, none⟩, kt, some ⟨gc, 0, none⟩, kc⟩ gt gc n t 7 et ec eo ep el eh ev w' ht hW
     rw [← hn] at hh
     exact hh
    ·refine zaa zab hA rfl rfl 400 ?_
     conv => arg 3; cbv
     refine zad zab (by rfl) (by rfl) (by rfl) (fun ρ w' hρ hSat => ?_)
     rw [HD, ← hr]
     subst htl' hcl'
     exact ApplyRet.ok h0 (za6 (kt := kt) (kc := kc) hSat (a := 4) (b := 5) rfl rfl (by omega) hxs' hys' rfl)
    ·refine zaa zab hA rfl rfl 400 ?_
     conv => arg 3; cbv
     refine zad zab (by rfl) (by rfl) (by rfl) (fun ρ w' hρ hSat => ?_)
     rw [HD, ← hr]
     subst hx0 htl' hcl'
     exact ApplyRet.err2 h0 (zah hSat.gr) rfl
   ·have HD : applyD c s ⟨8, et, en, ec, eo, ep, el, eh, ev⟩ = shedD c ({ s with tick := et, count := s.count + 1 }) ⟨8, et, en, ec, eo, ep, el, eh, ev⟩ := by rw [HD0]; rfl
    have kf : ∀ j, A.eq 8 j = decide (8 = j) := fun j => by rw [hA]; rfl
    conv => arg 3; cbv
    repeat (simp only [f6, f7, kf]; conv => arg 3; cbv)
    obtain ⟨r, hr⟩ := nm (shedD c ({ s with tick := et, count := s.count + 1 }) ⟨8, et, en, ec, eo, ep, el, eh, ev⟩)
    refine zbr 4 5 rfl rfl (by omega) r kt kc (.inr ⟨_, _, _, rfl, rfl⟩) goes_k8 (fun ρ w' hρ hSat gt gc e0 e1 => ?_) (fun h0 tl' cl' xs' ys' r1' r2' htl' hcl' hxs' hys' => ?_) (fun h0 tl' cl' x0 htl' hcl' hx0 => ?_)
    ·have hbl : Below w.heap.size w w' := zah hSat.gr
     have hW : StW w' ({ s with tick := et, count := s.count + 1 }) ⟨some ⟨gt, 0, none⟩, kt, some ⟨gc, 0, none⟩, kc⟩ gt gc := zc1 hSat e0 e1 rfl rfl (by omega) hxs hys
     have hCw : CfgAt w' w.heap.size c h := hC.below hbl
     have hB : w.heap.size ≤ gt ∧ w.heap.size ≤ gc := by
      have f1 := ((hSat.free 4 _ rfl).1 rfl).resolve_left (by simp)
      have f2 := ((hSat.free 5 _ rfl).1 rfl).resolve_left (by simp)
      rw [e0] at f1
      rw [e1] at f2
      exact ⟨f1, f2⟩
     simp only [List.map, concV, conc1, e0, e1]
     rw [hr]
     rw [hczl, hccl, hctl, hcvl, hcrl, hcol, htl, hcl, hcn1]
     obtain ⟨n, hn⟩ : ∃ n : Nat, en = (n : Int) := ⟨en.toNat, by have := eok.ten (by simp); have h0 : 0 ≤ en := this.1; omega⟩
     have hnl : n < s.tens.length := by have := eok.ten (by simp); have h0 : en < c.tens.length := this.2; rw [sok.tl]; omega
     obtain ⟨t, ht⟩ : ∃ t, ({ s with tick := et, count := s.count + 1 }).tens[n]? = some t := ⟨_, List.getElem?_eq_getElem hnl⟩
     have hh := shed_any c h w.heap.size ({ s with tick := et, count := s.count + 1 }) ⟨some ⟨gt, 0, none⟩, kt, some ⟨gc, 0, none⟩, kc⟩ gt gc n t 8 et ec eo ep el eh ev w' ok sok1 ht hCw hB hW
     rw [← hn] at hh
     exact hh
    ·refine zaa zab hA rfl rfl 400 ?_
     conv => arg 3; cbv
     refine zad zab (by rfl) (by rfl) (by rfl) (fun ρ w' hρ hSat => ?_)
     rw [HD, ← hr]
     subst htl' hcl'
     exact ApplyRet.ok h0 (za6 (kt := kt) (kc := kc) hSat (a := 4) (b := 5) rfl rfl (by omega) hxs' hys' rfl)
    ·refine zaa zab hA rfl rfl 400 ?_
     conv => arg 3; cbv
     refine zad zab (by rfl) (by rfl) (by rfl) (fun ρ w' hρ hSat => ?_)
     rw [HD, ← hr]
     subst hx0 htl' hcl'
     exact ApplyRet.err2 h0 (zah hSat.gr) rfl
   ·have HD : applyD c s ⟨9, et, en, ec, eo, ep, el, eh, ev⟩ = modeD ({ s with tick := et, count := s.count + 1 }) ⟨9, et, en, ec, eo, ep, el, eh, ev⟩ := by rw [HD0]; rfl
    have kf : ∀ j, A.eq 9 j = decide (9 = j) := fun j => by rw [hA]; rfl
    obtain ⟨k, hkk⟩ : ∃ k : Nat, ec = (k : Int) := ⟨ec.toNat, by have := eok.cell (by simp); have h0 : 0 ≤ ec := this.1; omega⟩
    have hkl : k < s.cells.length := by have := eok.cell (by simp); have h0 : ec < c.cells.length := this.2; rw [sok.cl]; omega
    obtain ⟨x, hx⟩ : ∃ x, ({ s with tick := et, count := s.count + 1 }).cells[k]? = some x := ⟨_, List.getElem?_eq_getElem hkl⟩
    obtain ⟨q, hq⟩ := nm (k * 4)
    have g0 : A.inb ec cl = true := by rw [hA, hkk, hcl]; simp [std]; omega
    have g1 : A.idx 0 ec 4 = q := by rw [hA, hkk, hq]; simp [std]
    have g2 : A.get ys q 0 = some (.int .i64 x.mode) := by rw [hA, hq, hys]; exact zap CsD.cells 4 (fun _ => rfl) hx r2 0 (by omega)
    obtain ⟨z, hz⟩ := nm (decide (x.mode = ev))
    have tz : A.eq x.mode ev = z := by rw [hA, hz]; simp [std, BEq.beq]
    obtain ⟨y1, hy1⟩ := nm ((({ s with tick := et, count := s.count + 1 }).setC k { x with mode := ev }).cells.flatMap CsD.cells ++ r2)
    obtain ⟨y2, hy2⟩ := nm ((({ s with tick := et, count := s.count + 1 }).setC k { x with mode := ev, since := et }).cells.flatMap CsD.cells ++ r2)
    have g3 : A.set ys q 0 [.int .i64 ev] = some y1 := by rw [hA, hq, hys, hy1]; exact zby CsD.cells 4 (fun _ => rfl) hx r2 0 _ (by simp) rfl
    have hx1 : (({ s with tick := et, count := s.count + 1 } : StD).setC k { x with mode := ev }).cells[k]? = some { x with mode := ev } := by
     simp only [StD.setC, Int.toNat_natCast]
     exact List.getElem?_set_self hkl
    have g4 : A.set y1 q 3 [.int .i64 et] = some y2 := by
     rw [hA, hq, hy1, hy2]
     have := zby CsD.cells 4 (fun _ => rfl) hx1 r2 3 [.int .i64 et] (by simp) (x' := { x with mode := ev, since := et }) rfl
     simpa [StD.setC] using this
    have hcel : (({ s with tick := et, count := s.count + 1 } : StD).cel ec) = x := by
     rw [hkk]
     simp only [StD.cel, Int.toNat_natCast, List.getD]
     rw [hx]; rfl
    conv => arg 3; cbv
    repeat (simp only [f6, f7, kf, g0, g1, g2, tz, g3, g4]; conv => arg 3; cbv)
    cases hcz : z
    ·rw [hcz] at hz tz
     conv => arg 3; cbv
     repeat (simp only [f6, f7, kf, g0, g1, g2, tz, g3, g4]; conv => arg 3; cbv)
     refine zad zab (by rfl) (by rfl) (by rfl) (fun ρ w' hρ hSat => ?_)
     have hr : applyD c s ⟨9, et, en, ec, eo, ep, el, eh, ev⟩ = (0, ({ s with tick := et, count := s.count + 1 }).setC ec { x with mode := ev, since := et }) := by
      rw [HD]
      show modeD _ _ = _
      unfold modeD
      rw [hcel, if_neg (of_decide_eq_false hz.symm)]
     rw [hr]
     refine ApplyRet.ok rfl ?_
     rw [htl, hcl, hcn1]
     have hlen : (({ s with tick := et, count := s.count + 1 }).setC ec { x with mode := ev, since := et }).cells.length = s.cells.length := by simp [StD.setC]
     rw [← hlen]
     exact za6 (s := ({ s with tick := et, count := s.count + 1 }).setC ec { x with mode := ev, since := et }) (kt := kt) (kc := kc) hSat (a := 4) (b := 5) rfl rfl (by omega) hxs (by rw [hy2, hkk]) rfl
    ·rw [hcz] at hz tz
     conv => arg 3; cbv
     repeat (simp only [f6, f7, kf, g0, g1, g2, tz, g3, g4]; conv => arg 3; cbv)
     refine zac (.tup [.agg [.val (.int .i64 0), .val (.int .i64 0), .val (.slice none 0 0), .val (.slice none 0 0), .val (.int .i64 0), .val (.int .i64 0), .val (.int .i64 0), .val (.int .i64 0)], .one (.val (.int .i64 4))]) (by simp [SV.ok, TV.ok, S1.ok]) zba (fun ρ w' hρ hSat => zbq 4 w') ?_
     refine zaa zab hA rfl rfl 400 ?_
     conv => arg 3; cbv
     repeat (simp only [f6, f7, kf, g0, g1, g2, tz, g3, g4]; conv => arg 3; cbv)
     refine zad zab (by rfl) (by rfl) (by rfl) (fun ρ w' hρ hSat => ?_)
     exact ApplyRet.err (x := 4) (by omega) (HD.trans (by unfold modeD; rw [hcel, if_pos (of_decide_eq_true hz.symm)])) (zah hSat.gr) rfl
   ·have HD : applyD c s ⟨10, et, en, ec, eo, ep, el, eh, ev⟩ = wantD c ({ s with tick := et, count := s.count + 1 }) ⟨10, et, en, ec, eo, ep, el, eh, ev⟩ := by rw [HD0]; rfl
    have kf : ∀ j, A.eq 10 j = decide (10 = j) := fun j => by rw [hA]; rfl
    conv => arg 3; cbv
    repeat (simp only [f6, f7, kf]; conv => arg 3; cbv)
    obtain ⟨r, hr⟩ := nm (wantD c ({ s with tick := et, count := s.count + 1 }) ⟨10, et, en, ec, eo, ep, el, eh, ev⟩)
    refine zbr 4 5 rfl rfl (by omega) r kt kc (.inr ⟨_, _, _, rfl, rfl⟩) goes_k10 (fun ρ w' hρ hSat gt gc e0 e1 => ?_) (fun h0 tl' cl' xs' ys' r1' r2' htl' hcl' hxs' hys' => ?_) (fun h0 tl' cl' x0 htl' hcl' hx0 => ?_)
    ·have hbl : Below w.heap.size w w' := zah hSat.gr
     have hW : StW w' ({ s with tick := et, count := s.count + 1 }) ⟨some ⟨gt, 0, none⟩, kt, some ⟨gc, 0, none⟩, kc⟩ gt gc := zc1 hSat e0 e1 rfl rfl (by omega) hxs hys
     have hCw : CfgAt w' w.heap.size c h := hC.below hbl
     have hB : w.heap.size ≤ gt ∧ w.heap.size ≤ gc := by
      have f1 := ((hSat.free 4 _ rfl).1 rfl).resolve_left (by simp)
      have f2 := ((hSat.free 5 _ rfl).1 rfl).resolve_left (by simp)
      rw [e0] at f1
      rw [e1] at f2
      exact ⟨f1, f2⟩
     simp only [List.map, concV, conc1, e0, e1]
     rw [hr]
     rw [hczl, hccl, hctl, hcvl, hcrl, hcol, htl, hcl, hcn1]
     obtain ⟨k, hkk⟩ : ∃ k : Nat, ec = (k : Int) := ⟨ec.toNat, by have := eok.cell (by simp); have h0 : 0 ≤ ec := this.1; omega⟩
     have hkl : k < s.cells.length := by have := eok.cell (by simp); have h0 : ec < c.cells.length := this.2; rw [sok.cl]; omega
     obtain ⟨x, hx⟩ : ∃ x, ({ s with tick := et, count := s.count + 1 }).cells[k]? = some x := ⟨_, List.getElem?_eq_getElem hkl⟩
     obtain ⟨m, hm⟩ : ∃ m : Nat, ev = (m : Int) := ⟨ev.toNat, by have := eok.ver (by simp); have h0 : 0 ≤ ev := this.1; omega⟩
     have hml : m < c.vers.length := by have := eok.ver (by simp); have h0 : ev < c.vers.length := this.2; omega
     obtain ⟨v, hv'⟩ : ∃ v, c.vers[m]? = some v := ⟨_, List.getElem?_eq_getElem hml⟩
     have hh := want_any c h w.heap.size ({ s with tick := et, count := s.count + 1 }) ⟨some ⟨gt, 0, none⟩, kt, some ⟨gc, 0, none⟩, kc⟩ gt gc k m x v 10 et en eo ep el eh w' ok sok1 hx hv' hCw hB hW
     rw [← hkk, ← hm] at hh
     exact hh
    ·refine zaa zab hA rfl rfl 400 ?_
     conv => arg 3; cbv
     refine zad zab (by rfl) (by rfl) (by rfl) (fun ρ w' hρ hSat => ?_)
     rw [HD, ← hr]
     subst htl' hcl'
     exact ApplyRet.ok h0 (za6 (kt := kt) (kc := kc) hSat (a := 4) (b := 5) rfl rfl (by omega) hxs' hys' rfl)
    ·refine zaa zab hA rfl rfl 400 ?_
     conv => arg 3; cbv
     refine zad zab (by rfl) (by rfl) (by rfl) (fun ρ w' hρ hSat => ?_)
     rw [HD, ← hr]
     subst hx0 htl' hcl'
     exact ApplyRet.err2 h0 (zah hSat.gr) rfl
   ·have HD : applyD c s ⟨11, et, en, ec, eo, ep, el, eh, ev⟩ = runsD ({ s with tick := et, count := s.count + 1 }) ⟨11, et, en, ec, eo, ep, el, eh, ev⟩ := by rw [HD0]; rfl
    have kf : ∀ j, A.eq 11 j = decide (11 = j) := fun j => by rw [hA]; rfl
    conv => arg 3; cbv
    repeat (simp only [f6, f7, kf]; conv => arg 3; cbv)
    obtain ⟨r, hr⟩ := nm (runsD ({ s with tick := et, count := s.count + 1 }) ⟨11, et, en, ec, eo, ep, el, eh, ev⟩)
    refine zbr 4 5 rfl rfl (by omega) r kt kc (.inr ⟨_, _, _, rfl, rfl⟩) goes_k11 (fun ρ w' hρ hSat gt gc e0 e1 => ?_) (fun h0 tl' cl' xs' ys' r1' r2' htl' hcl' hxs' hys' => ?_) (fun h0 tl' cl' x0 htl' hcl' hx0 => ?_)
    ·have hbl : Below w.heap.size w w' := zah hSat.gr
     have hW : StW w' ({ s with tick := et, count := s.count + 1 }) ⟨some ⟨gt, 0, none⟩, kt, some ⟨gc, 0, none⟩, kc⟩ gt gc := zc1 hSat e0 e1 rfl rfl (by omega) hxs hys
     have hCw : CfgAt w' w.heap.size c h := hC.below hbl
     have hB : w.heap.size ≤ gt ∧ w.heap.size ≤ gc := by
      have f1 := ((hSat.free 4 _ rfl).1 rfl).resolve_left (by simp)
      have f2 := ((hSat.free 5 _ rfl).1 rfl).resolve_left (by simp)
      rw [e0] at f1
      rw [e1] at f2
      exact ⟨f1, f2⟩
     simp only [List.map, concV, conc1, e0, e1]
     rw [hr]
     rw [htl, hcl, hcn1]
     obtain ⟨k, hkk⟩ : ∃ k : Nat, ec = (k : Int) := ⟨ec.toNat, by have := eok.cell (by simp); have h0 : 0 ≤ ec := this.1; omega⟩
     have hkl : k < s.cells.length := by have := eok.cell (by simp); have h0 : ec < c.cells.length := this.2; rw [sok.cl]; omega
     obtain ⟨x, hx⟩ : ∃ x, ({ s with tick := et, count := s.count + 1 }).cells[k]? = some x := ⟨_, List.getElem?_eq_getElem hkl⟩
     have hh := runs_any ({ s with tick := et, count := s.count + 1 }) ⟨some ⟨gt, 0, none⟩, kt, some ⟨gc, 0, none⟩, kc⟩ gt gc k x 11 et en eo ep el eh ev w' (by have := ok.tens; have := sok.tl; show s.tens.length ≤ 32; omega) sok1.proven hx hW
     rw [← hkk] at hh
     exact hh
    ·refine zaa zab hA rfl rfl 400 ?_
     conv => arg 3; cbv
     refine zad zab (by rfl) (by rfl) (by rfl) (fun ρ w' hρ hSat => ?_)
     rw [HD, ← hr]
     subst htl' hcl'
     exact ApplyRet.ok h0 (za6 (kt := kt) (kc := kc) hSat (a := 4) (b := 5) rfl rfl (by omega) hxs' hys' rfl)
    ·refine zaa zab hA rfl rfl 400 ?_
     conv => arg 3; cbv
     refine zad zab (by rfl) (by rfl) (by rfl) (fun ρ w' hρ hSat => ?_)
     rw [HD, ← hr]
     subst hx0 htl' hcl'
     exact ApplyRet.err2 h0 (zah hSat.gr) rfl
   ·have HD : applyD c s ⟨12, et, en, ec, eo, ep, el, eh, ev⟩ = proveD c ({ s with tick := et, count := s.count + 1 }) ⟨12, et, en, ec, eo, ep, el, eh, ev⟩ := by rw [HD0]; rfl
    have kf : ∀ j, A.eq 12 j = decide (12 = j) := fun j => by rw [hA]; rfl
    conv => arg 3; cbv
    repeat (simp only [f6, f7, kf]; conv => arg 3; cbv)
    obtain ⟨r, hr⟩ := nm (proveD c ({ s with tick := et, count := s.count + 1 }) ⟨12, et, en, ec, eo, ep, el, eh, ev⟩)
    refine zbr 4 5 rfl rfl (by omega) r kt kc (.inr ⟨_, _, _, rfl, rfl⟩) goes_k12 (fun ρ w' hρ hSat gt gc e0 e1 => ?_) (fun h0 tl' cl' xs' ys' r1' r2' htl' hcl' hxs' hys' => ?_) (fun h0 tl' cl' x0 htl' hcl' hx0 => ?_)
    ·have hbl : Below w.heap.size w w' := zah hSat.gr
     have hW : StW w' ({ s with tick := et, count := s.count + 1 }) ⟨some ⟨gt, 0, none⟩, kt, some ⟨gc, 0, none⟩, kc⟩ gt gc := zc1 hSat e0 e1 rfl rfl (by omega) hxs hys
     have hCw : CfgAt w' w.heap.size c h := hC.below hbl
     have hB : w.heap.size ≤ gt ∧ w.heap.size ≤ gc := by
      have f1 := ((hSat.free 4 _ rfl).1 rfl).resolve_left (by simp)
      have f2 := ((hSat.free 5 _ rfl).1 rfl).resolve_left (by simp)
      rw [e0] at f1
      rw [e1] at f2
      exact ⟨f1, f2⟩
     simp only [List.map, concV, conc1, e0, e1]
     rw [hr]
     rw [hczl, hccl, hctl, hcvl, hcrl, hcol, htl, hcl, hcn1]
     have hh := prove_any c h ({ s with tick := et, count := s.count + 1 }) ⟨some ⟨gt, 0, none⟩, kt, some ⟨gc, 0, none⟩, kc⟩ gt gc 12 et en ec eo ep el eh ev w' ok sok1 eok.tick (by have := eok.ver (by simp); have h1 : 0 ≤ ev ∧ ev < c.vers.length := this; have := ok.vers; omega) hW
     exact hh
    ·refine zaa zab hA rfl rfl 400 ?_
     conv => arg 3; cbv
     refine zad zab (by rfl) (by rfl) (by rfl) (fun ρ w' hρ hSat => ?_)
     rw [HD, ← hr]
     subst htl' hcl'
     exact ApplyRet.ok h0 (za6 (kt := kt) (kc := kc) hSat (a := 4) (b := 5) rfl rfl (by omega) hxs' hys' rfl)
    ·refine zaa zab hA rfl rfl 400 ?_
     conv => arg 3; cbv
     refine zad zab (by rfl) (by rfl) (by rfl) (fun ρ w' hρ hSat => ?_)
     rw [HD, ← hr]
     subst hx0 htl' hcl'
     exact ApplyRet.err2 h0 (zah hSat.gr) rfl
   ·have HD : applyD c s ⟨13, et, en, ec, eo, ep, el, eh, ev⟩ = evacD ({ s with tick := et, count := s.count + 1 }) ⟨13, et, en, ec, eo, ep, el, eh, ev⟩ := by rw [HD0]; rfl
    have kf : ∀ j, A.eq 13 j = decide (13 = j) := fun j => by rw [hA]; rfl
    obtain ⟨i, hi⟩ : ∃ i : Nat, eo = (i : Int) := ⟨eo.toNat, by have := eok.region rfl; have h0 : 0 ≤ eo := this.1; omega⟩
    have hil : i < 4 := by have := eok.region rfl; have h0 : eo < c.regions := this.2; have := ok.regions; omega
    obtain ⟨ea, hea⟩ : ∃ a : Nat, s.evac = (a : Int) := ⟨s.evac.toNat, by have := sok.evac; omega⟩
    have heal : ea < 16 := by have := sok.evac; omega
    obtain ⟨hb, hhb⟩ := nm (hasB s.evac eo)
    obtain ⟨zn, hzn⟩ := nm (decide (ev = 1))
    have tzn : A.eq ev 1 = zn := by rw [hA, hzn]; simp [std, BEq.beq]
    obtain ⟨z, hz⟩ := nm (decide (hb = zn))
    have tz : A.beq hb zn = z := by rw [hA, hz]; simp [std, BEq.beq]
    obtain ⟨p, hp⟩ := nm (((1 <<< i : Nat) : Int))
    obtain ⟨e2, he2⟩ := nm (xorBit s.evac eo)
    have c1 : A.conv .u64 eo = eo := by rw [hA, hi]; simp only [std]; simp [IntKind.wrap, IntKind.bits, IntKind.signed]; omega
    have c2 : A.le 0 eo = true := by rw [hA, hi]; simp [std]
    have c3 : A.shl .i64 1 eo = p := by rw [hA, hi, hp]; exact shl_small ⟨i, hil⟩
    have c4 : A.bxor .i64 s.evac p = e2 := by rw [hA, hp, he2, hi, hea]; exact xor_small ⟨ea, heal⟩ ⟨i, hil⟩
    obtain ⟨sev, hsev⟩ := nm (s.evac)
    conv => arg 3; cbv
    repeat (simp only [f6, f7, kf, tzn, tz, c1, c2, c3, c4]; conv => arg 3; cbv)
    refine zac (.one (.val (.bool hb))) trivial goes_h04 (fun ρ w' hρ hSat => ?_) ?_
    ·simp only [List.map, concV, conc1]
     rw [hhb]
     exact (has_any s.evac eo w' sok.evac.1 (by have := sok.evac; omega)).mono fun e w'' ⟨h1, h2⟩ => ⟨h1, h2 ▸ Below.refl _ _⟩
    refine zaa zab hA rfl rfl 400 ?_
    conv => arg 3; cbv
    repeat (simp only [f6, f7, kf, tzn, tz, c1, c2, c3, c4]; conv => arg 3; cbv)
    cases hcz : z
    ·rw [hcz] at hz tz
     conv => arg 3; cbv
     repeat (simp only [f6, f7, kf, tzn, tz, c1, c2, c3, c4]; conv => arg 3; cbv)
     refine zad zab (by rfl) (by rfl) (by rfl) (fun ρ w' hρ hSat => ?_)
     have hr : applyD c s ⟨13, et, en, ec, eo, ep, el, eh, ev⟩ = (0, { { s with tick := et, count := s.count + 1 } with evac := xorBit s.evac eo }) := by
      rw [HD]
      show evacD _ _ = _
      unfold evacD
      have hne : ¬ hasB s.evac eo = (ev == 1) := by
       have h1 := of_decide_eq_false hz.symm
       rw [hhb, hzn] at h1
       intro h2
       exact h1 (h2.trans (by simp [BEq.beq]))
      rw [if_neg hne]
     rw [hr]
     refine ApplyRet.ok rfl ?_
     rw [he2]
     rw [htl, hcl, hcn1]
     exact za6 (s := { { s with tick := et, count := s.count + 1 } with evac := xorBit s.evac eo }) (kt := kt) (kc := kc) hSat (a := 4) (b := 5) rfl rfl (by omega) hxs hys rfl
    ·rw [hcz] at hz tz
     conv => arg 3; cbv
     repeat (simp only [f6, f7, kf, tzn, tz, c1, c2, c3, c4]; conv => arg 3; cbv)
     refine zac (.tup [.agg [.val (.int .i64 0), .val (.int .i64 0), .val (.slice none 0 0), .val (.slice none 0 0), .val (.int .i64 0), .val (.int .i64 0), .val (.int .i64 0), .val (.int .i64 0)], .one (.val (.int .i64 4))]) (by simp [SV.ok, TV.ok, S1.ok]) zba (fun ρ w' hρ hSat => zbq 4 w') ?_
     refine zaa zab hA rfl rfl 400 ?_
     conv => arg 3; cbv
     repeat (simp only [f6, f7, kf, tzn, tz, c1, c2, c3, c4]; conv => arg 3; cbv)
     refine zad zab (by rfl) (by rfl) (by rfl) (fun ρ w' hρ hSat => ?_)
     exact ApplyRet.err (x := 4) (by omega) (HD.trans (by
      unfold evacD
      have h1 := of_decide_eq_true hz.symm
      rw [hhb, hzn] at h1
      rw [if_pos (show hasB s.evac eo = (ev == 1) from h1.trans (by simp [BEq.beq]))])) (zah hSat.gr) rfl
   ·have HD : applyD c s ⟨14, et, en, ec, eo, ep, el, eh, ev⟩ = expandD c ({ s with tick := et, count := s.count + 1 }) := by rw [HD0]; rfl
    have kf : ∀ j, A.eq 14 j = decide (14 = j) := fun j => by rw [hA]; rfl
    conv => arg 3; cbv
    repeat (simp only [f6, f7, kf]; conv => arg 3; cbv)
    obtain ⟨r, hr⟩ := nm (expandD c ({ s with tick := et, count := s.count + 1 }))
    refine zbr 4 5 rfl rfl (by omega) r kt kc (.inr ⟨_, _, _, rfl, rfl⟩) goes_k14 (fun ρ w' hρ hSat gt gc e0 e1 => ?_) (fun h0 tl' cl' xs' ys' r1' r2' htl' hcl' hxs' hys' => ?_) (fun h0 tl' cl' x0 htl' hcl' hx0 => ?_)
    ·have hbl : Below w.heap.size w w' := zah hSat.gr
     have hW : StW w' ({ s with tick := et, count := s.count + 1 }) ⟨some ⟨gt, 0, none⟩, kt, some ⟨gc, 0, none⟩, kc⟩ gt gc := zc1 hSat e0 e1 rfl rfl (by omega) hxs hys
     have hCw : CfgAt w' w.heap.size c h := hC.below hbl
     have hB : w.heap.size ≤ gt ∧ w.heap.size ≤ gc := by
      have f1 := ((hSat.free 4 _ rfl).1 rfl).resolve_left (by simp)
      have f2 := ((hSat.free 5 _ rfl).1 rfl).resolve_left (by simp)
      rw [e0] at f1
      rw [e1] at f2
      exact ⟨f1, f2⟩
     simp only [List.map, concV, conc1, e0, e1]
     rw [hr]
     rw [hczl, hccl, hctl, hcvl, hcrl, hcol, htl, hcl, hcn1]
     have hh := expand_any c h w.heap.size ({ s with tick := et, count := s.count + 1 }) ⟨some ⟨gt, 0, none⟩, kt, some ⟨gc, 0, none⟩, kc⟩ gt gc w' ok sok1 hCw hB hW
     exact hh
    ·refine zaa zab hA rfl rfl 400 ?_
     conv => arg 3; cbv
     refine zad zab (by rfl) (by rfl) (by rfl) (fun ρ w' hρ hSat => ?_)
     rw [HD, ← hr]
     subst htl' hcl'
     exact ApplyRet.ok h0 (za6 (kt := kt) (kc := kc) hSat (a := 4) (b := 5) rfl rfl (by omega) hxs' hys' rfl)
    ·refine zaa zab hA rfl rfl 400 ?_
     conv => arg 3; cbv
     refine zad zab (by rfl) (by rfl) (by rfl) (fun ρ w' hρ hSat => ?_)
     rw [HD, ← hr]
     subst hx0 htl' hcl'
     exact ApplyRet.err2 h0 (zah hSat.gr) rfl
   ·have HD : applyD c s ⟨15, et, en, ec, eo, ep, el, eh, ev⟩ = contractD ({ s with tick := et, count := s.count + 1 }) := by rw [HD0]; rfl
    have kf : ∀ j, A.eq 15 j = decide (15 = j) := fun j => by rw [hA]; rfl
    obtain ⟨z, hz⟩ := nm (decide (s.high = s.low))
    have tz : A.eq s.high s.low = z := by rw [hA, hz]; simp [std, BEq.beq]
    conv => arg 3; cbv
    repeat (simp only [f6, f7, kf]; conv => arg 3; cbv)
    cases hcz : z
    ·rw [hcz] at hz tz
     conv => arg 3; cbv
     repeat (simp only [f6, f7, kf, tz]; conv => arg 3; cbv)
     refine zad zab (by rfl) (by rfl) (by rfl) (fun ρ w' hρ hSat => ?_)
     have hr : applyD c s ⟨15, et, en, ec, eo, ep, el, eh, ev⟩ = (0, { { s with tick := et, count := s.count + 1 } with low := s.high }) := by
      rw [HD]
      show contractD _ = _
      unfold contractD
      rw [if_neg (of_decide_eq_false hz.symm)]
     rw [hr]
     refine ApplyRet.ok rfl ?_
     rw [htl, hcl, hcn1]
     exact za6 (s := { { s with tick := et, count := s.count + 1 } with low := s.high }) (kt := kt) (kc := kc) hSat (a := 4) (b := 5) rfl rfl (by omega) hxs hys rfl
    ·rw [hcz] at hz tz
     conv => arg 3; cbv
     repeat (simp only [f6, f7, kf, tz]; conv => arg 3; cbv)
     refine zac (.tup [.agg [.val (.int .i64 0), .val (.int .i64 0), .val (.slice none 0 0), .val (.slice none 0 0), .val (.int .i64 0), .val (.int .i64 0), .val (.int .i64 0), .val (.int .i64 0)], .one (.val (.int .i64 4))]) (by simp [SV.ok, TV.ok, S1.ok]) zba (fun ρ w' hρ hSat => zbq 4 w') ?_
     refine zaa zab hA rfl rfl 400 ?_
     conv => arg 3; cbv
     repeat (simp only [f6, f7, kf, tz]; conv => arg 3; cbv)
     refine zad zab (by rfl) (by rfl) (by rfl) (fun ρ w' hρ hSat => ?_)
     exact ApplyRet.err (x := 4) (by omega) (HD.trans (by unfold contractD; rw [if_pos (of_decide_eq_true hz.symm)])) (zah hSat.gr) rfl
   ·have HD : applyD c s ⟨16, et, en, ec, eo, ep, el, eh, ev⟩ = ((0, { s with tick := et, count := s.count + 1 }) : Res) := by rw [HD0]; rfl
    have kf : ∀ j, A.eq 16 j = decide (16 = j) := fun j => by rw [hA]; rfl
    conv => arg 3; cbv
    repeat (simp only [f6, f7, kf]; conv => arg 3; cbv)
    refine zad zab (by rfl) (by rfl) (by rfl) (fun ρ w' hρ hSat => ?_)
    have hr : applyD c s ⟨16, et, en, ec, eo, ep, el, eh, ev⟩ = (0, { s with tick := et, count := s.count + 1 }) := by
     rw [HD]
    rw [hr]
    refine ApplyRet.ok rfl ?_
    rw [htl, hcl, hcn1]
    exact za6 (s := { s with tick := et, count := s.count + 1 }) (kt := kt) (kc := kc) hSat (a := 4) (b := 5) rfl rfl (by omega) hxs hys rfl
theorem goes_apply : Goes Tryz.prog 40 := zam Tryz.func40 (by kernel_rfl) (by kernel_rfl)
theorem good_apply {E : Eng.Env} {R : Ending → World → Prop} {args : List SV} {dst : Option Tmp} {k : List It} {tm : PT} {mem : List MB} (r : Res) (hk : plainK k = true ∨ ∃ all rest k', k = .ops all rest :: k' ∧ plainK k' = true) (hP : E.P = Tryz.prog)
 (hc : ∀ ρ w, (∀ (h : Nat) p, E.ρ0[h]? = some p → ρ h = p) → Sat E.w0 E.own ρ mem w → Calls Tryz.prog 40 (args.map (concV ρ)).toArray w (ApplyRet r w))
 (hg : r.1 = 0 → ∀ tl cl kt kc r1 r2 xs ys, tl = r.2.tens.length → cl = r.2.cells.length → xs = r.2.tens.flatMap TsD.cells ++ r1 → ys = r.2.cells.flatMap CsD.cells ++ r2 → Eng.Good E R ⟨k, putE tm dst (.tup [.agg [.val (iv r.2.tick), .val (iv r.2.count), .slc (len mem) 0 tl kt, .slc (len mem + 1) 0 cl kc, .val (iv r.2.proven), .val (iv r.2.evac), .val (iv r.2.low), .val (iv r.2.high)], .one (.val (.int .i64 0))]), mem ++ [.sym 105 xs, .sym 107 ys]⟩)
 (hb : r.1 ≠ 0 → ∀ s0 tl cl x, x = r.1 → Eng.Good E R ⟨k, putE tm dst (.tup [.agg [.val (iv (StD.tick s0)), .val (iv s0.count), .val (.slice none tl 0), .val (.slice none cl 0), .val (iv s0.proven), .val (iv s0.evac), .val (iv s0.low), .val (iv s0.high)], .one (.val (.int .i64 x))]), mem⟩) : Eng.Good E R ⟨.call 40 args dst :: k, tm, mem⟩ := by
 by_cases hr : r.1 = 0
 ·refine zdf (α := Nat × Nat × List Value × List Value) (fun x => .tup [.agg [.val (iv r.2.tick), .val (iv r.2.count), .slc (len mem) 0 r.2.tens.length x.1, .slc (len mem + 1) 0 r.2.cells.length x.2.1, .val (iv r.2.proven), .val (iv r.2.evac), .val (iv r.2.low), .val (iv r.2.high)], .one (.val (.int .i64 0))]) (fun x => mem ++ [.sym 105 (r.2.tens.flatMap TsD.cells ++ x.2.2.1), .sym 107 (r.2.cells.flatMap CsD.cells ++ x.2.2.2)]) (fun x => by simp) (fun x => by simp [SV.ok, TV.ok, S1.ok, za0]) hk (by rw [hP]; exact goes_apply) (fun ρ w hρ H => ?_) (fun x => hg hr _ _ _ _ _ _ _ _ rfl rfl rfl rfl)
  rw [hP]
  refine (hc ρ w hρ H).mono ?_
  rintro e w' ⟨v, rfl, _, hn, _⟩
  obtain ⟨kt, kc, r1, r2, ρ', rfl, h1, h2⟩ := newSt_sat H (hn hr)
  refine ⟨(kt, kc, r1, r2), ρ', ?_, h1, h2⟩
  rw [hr]
  rfl
 ·refine zdf (α := StD) (fun s0 => .tup [.agg [.val (iv s0.tick), .val (iv s0.count), .val (.slice none s0.tens.length 0), .val (.slice none s0.cells.length 0), .val (iv s0.proven), .val (iv s0.evac), .val (iv s0.low), .val (iv s0.high)], .one (.val (.int .i64 r.1))]) (fun _ => mem) (fun x => Nat.le_refl _) (fun x => by simp [SV.ok, TV.ok, S1.ok]) hk (by rw [hP]; exact goes_apply) (fun ρ w hρ H => ?_) (fun s0 => hb hr s0 _ _ _ rfl)
  rw [hP]
  refine (hc ρ w hρ H).mono ?_
  rintro e w' ⟨v, rfl, hbel, _, hz⟩
  obtain ⟨s0, rfl⟩ := hz hr
  exact ⟨s0, ρ, rfl, fun _ _ => rfl, H.below hbel⟩
def TryS (g1 g2 : Nat) (v : Value) (i : Nat) : Prop := i = g1 ∨ i = g2 ∨ v.ownBlock = some i
structure TryRet (c : CfgD) (s : StD) (hs : StH) (g1 g2 : Nat) (v : Value) (n : Nat) (w : World) (s2 : StD) (hs2 : StH) (v2 : Value) (n2 : Nat) (l2 : List Value) (w' : World) : Prop where
 gr : Gr (TryS g1 g2 v) w w'
 sok : StOk c s2
 st : w'.heap[g1]? = some (.cells (stV s2 hs2) 61 (0, 0))
 out : w'.heap[g2]? = some (.cells #[v2] 57 (0, 0))
 own : w'.ownsRow 0 96 9 v2 n2 l2
 one : ∀ u ∈ l2, u.oneCell' = true
 len : n2 ≤ n + 1
 blk : ∀ g, v2.ownBlock = some g → v.ownBlock = some g ∨ w.heap.size ≤ g
 rows : (s2 = s ∧ hs2 = hs) ∨ ∃ gt gc kt kc r1 r2, hs2 = ⟨some ⟨gt, 0, none⟩, kt, some ⟨gc, 0, none⟩, kc⟩ ∧ w'.heap[gt]? = some (.cells (s2.tens.flatMap TsD.cells ++ r1).toArray 105 (0, 0)) ∧ w'.heap[gc]? = some (.cells (s2.cells.flatMap CsD.cells ++ r2).toArray 107 (0, 0)) ∧ gt ≠ gc ∧ w.heap.size ≤ gt ∧ w.heap.size ≤ gc ∧ ∀ g, v2.ownBlock = some g → g ≠ gt ∧ g ≠ gc
theorem try_any (c : CfgD) (h : CfgH) (s : StD) (hs : StH) (v : Value) (n : Nat) (l : List Value) (g0 g1 g2 : Nat) (ek et en ec eo ep el eh ev : Int) (w : World) (ok : CfgOk c) (sok : StOk c s) (ht0 : 0 < c.tens.length)
 (b0 : w.heap[g0]? = some (.cells (cfgV c h) 36 (0, 0))) (b1 : w.heap[g1]? = some (.cells (stV s hs) 61 (0, 0))) (b2 : w.heap[g2]? = some (.cells #[v] 57 (0, 0))) (ho : w.ownsRow 0 96 9 v n l) (hone : ∀ u ∈ l, u.oneCell' = true) (hn : n ≤ 1000)
 (d01 : g0 ≠ g1) (d02 : g0 ≠ g2) (d12 : g1 ≠ g2) (hdo : ∀ g, v.ownBlock = some g → g ≠ g0 ∧ g ≠ g1 ∧ g ≠ g2)
 (hC : ∀ w', Gr (TryS g1 g2 v) w w' → CfgAt w' w'.heap.size c h) (hS : ∀ w', Gr (TryS g1 g2 v) w w' → StAt w' w'.heap.size s hs) :
 Calls Tryz.prog 39 #[.agg (EnD.cells ⟨ek, et, en, ec, eo, ep, el, eh, ev⟩), .pointer (some ⟨g0, 0, none⟩), .pointer (some ⟨g1, 0, none⟩), .pointer (some ⟨g2, 0, none⟩)] w fun e w' => e = .returned (.tuple #[]) ∧ ∃ s2 hs2 v2 n2 l2, TryRet c s hs g1 g2 v n w s2 hs2 v2 n2 l2 w' := by
 obtain ⟨p, hp⟩ := gsl_of ho
 obtain ⟨A, hA⟩ : ∃ A, A = std := ⟨_, rfl⟩
 obtain ⟨czl, hczl⟩ := nm (c.zones.length)
 obtain ⟨ccl, hccl⟩ := nm (c.cells.length)
 obtain ⟨ctl, hctl⟩ := nm (c.tens.length)
 obtain ⟨cvl, hcvl⟩ := nm (c.vers.length)
 obtain ⟨crl, hcrl⟩ := nm (c.reps.length)
 obtain ⟨col, hcol⟩ := nm (c.obs.length)
 obtain ⟨tl, htl⟩ := nm (s.tens.length)
 obtain ⟨cl, hcl⟩ := nm (s.cells.length)
 obtain ⟨own, hown⟩ := nm (g1 :: g2 :: v.ownBlock.toList)
 have hown : ∀ i, i ∈ own ↔ TryS g1 g2 v i := fun i => by
  rw [hown]
  simp only [List.mem_cons, Option.mem_toList, TryS]
 have hpw : ∀ (t : TypeId) (z k : Nat) (l : List Value), MB.wr p (.grow t z k l) = true → v.ownBlock = some p.1 := fun t z k l hw => by
  obtain ⟨g, q⟩ := p
  cases q with
  | zero => simp [MB.wr] at hw
  | succ q => rw [← hp]; rfl
 have gr' : ∀ {ρ : Nat → Nat × Nat} {mem : List MB} {w' : World}, Sat w own ρ mem w' → Gr (TryS g1 g2 v) w w' := fun H => H.gr.mono fun i _ hi => (hown i).1 hi
 have F : A.fits n 1 = true ∧ A.eqn n n = true ∧ A.addn n 1 = n + 1 := by
  rw [hA]
  exact ⟨by simp [std]; omega, by simp [std], rfl⟩
 obtain ⟨n1, hn1⟩ := nm (n + 1)
 rw [← hn1] at F
 obtain ⟨X, hX⟩ := nm (A.app l [.int .i64 ek, .int .i64 et, .int .i64 en, .int .i64 ec, .int .i64 eo, .int .i64 ep, .int .i64 el, .int .i64 eh, .int .i64 ev])
 refine zae (E := ⟨Tryz.prog, tabaT, ords39, Tryz.f39, w, own, [(g0, 0), (g1, 0), (g2, 0), p], fun _ _ _ => False⟩) zab (c := bodyOf Tryz.f39) (n := 0) Tryz.func39 rfl (show codeChk ords39 (bodyOf Tryz.f39) = true by decide +kernel) (rho [(g0, 0), (g1, 0), (g2, 0), p]) (fun h p hp => zaq _ h p hp)
  (tm := [.agg [.val (.int .i64 ek), .val (.int .i64 et), .val (.int .i64 en), .val (.int .i64 ec), .val (.int .i64 eo), .val (.int .i64 ep), .val (.int .i64 el), .val (.int .i64 eh), .val (.int .i64 ev)], .one (.ptr 0 0 0), .one (.ptr 1 0 0), .one (.ptr 2 0 0)] ++ List.replicate 17 (.one (.val undef))) (mem := [.ro [.val (iv c.regions), .val (.slice h.az czl h.kz), .val (.slice h.ac ccl h.kc), .val (.slice h.at_ ctl h.kt), .val (.slice h.av cvl h.kv), .val (.slice h.ar crl h.kr), .val (.slice h.ao col h.ko), .val (iv c.blast), .val (iv c.lease), .val (iv c.bake)], .own 61 [.val (iv s.tick), .val (iv s.count), .val (.slice hs.at_ tl hs.kt), .val (.slice hs.ac cl hs.kc), .val (iv s.proven), .val (iv s.evac), .val (iv s.low), .val (iv s.high)], .own 57 [.gsl 3 n], .grow 96 9 n l]) (Nat.le_refl _) ?_ ?_ (by rfl) ?_
 ·have hsat : Sat w own (rho [(g0, 0), (g1, 0), (g2, 0), p]) [.ro [.val (iv c.regions), .val (.slice h.az czl h.kz), .val (.slice h.ac ccl h.kc), .val (.slice h.at_ ctl h.kt), .val (.slice h.av cvl h.kv), .val (.slice h.ar crl h.kr), .val (.slice h.ao col h.ko), .val (iv c.blast), .val (iv c.lease), .val (iv c.bake)], .own 61 [.val (iv s.tick), .val (iv s.count), .val (.slice hs.at_ tl hs.kt), .val (.slice hs.ac cl hs.kc), .val (iv s.proven), .val (iv s.evac), .val (iv s.low), .val (iv s.high)], .own 57 [.gsl 3 n], .grow 96 9 n l] w := by
   refine ⟨Gr.refl _ _, all_cons ?_ (all_cons ?_ (all_cons ?_ (all_cons ?_ all_nil))), ?_, all_cons ?_ (all_cons ?_ (all_cons ?_ (all_cons ?_ all_nil))), ?_⟩
   ·intro j x hx
    show w.cell? ⟨g0, 0 + j, none⟩ = _
    rw [Nat.zero_add]
    have hcell : w.cell? ⟨g0, j, none⟩ = (cfgV c h)[j]? := by simp [World.cell?, b0]
    rw [hcell]
    match j, hx with
    | 0, hx => cases hx; rfl
    | 1, hx => cases hx; rw [hczl]; rfl
    | 2, hx => cases hx; rw [hccl]; rfl
    | 3, hx => cases hx; rw [hctl]; rfl
    | 4, hx => cases hx; rw [hcvl]; rfl
    | 5, hx => cases hx; rw [hcrl]; rfl
    | 6, hx => cases hx; rw [hcol]; rfl
    | 7, hx => cases hx; rfl
    | 8, hx => cases hx; rfl
    | 9, hx => cases hx; rfl
    | j + 10, hx => cases hx
   ·exact ⟨rfl, by rw [htl, hcl]; exact b1⟩
   ·refine ⟨rfl, ?_⟩
    rw [show (List.map (conc1 (rho [(g0, 0), (g1, 0), (g2, 0), p])) [S1.gsl 3 n]).toArray = #[v] by simp only [List.map, conc1]; rw [show rho [(g0, 0), (g1, 0), (g2, 0), p] 3 = p from rfl, hp]]
    exact b2
   ·exact ⟨by rw [show rho [(g0, 0), (g1, 0), (g2, 0), p] 3 = p from rfl, hp]; exact ho, hone⟩
   ·intro b hb
    simp only [List.mem_cons, List.not_mem_nil, or_false] at hb
    rcases hb with rfl | rfl | rfl | rfl <;> simp [MB.ok, S1.ok]
   ·exact ⟨fun h => (by cases h), fun _ => (Array.getElem?_eq_some_iff.1 b0).1⟩
   ·exact ⟨fun _ => .inl ((hown g1).2 (.inl rfl)), fun h => (by cases h)⟩
   ·exact ⟨fun _ => .inl ((hown g2).2 (.inr (.inl rfl))), fun h => (by cases h)⟩
   ·exact ⟨fun hw => .inl ((hown p.1).2 (.inr (.inr (hpw _ _ _ _ hw)))), fun h => (by cases h)⟩
   ·have key : ∀ (i j : Nat) (bi bj : MB), [MB.ro [.val (iv c.regions), .val (.slice h.az czl h.kz), .val (.slice h.ac ccl h.kc), .val (.slice h.at_ ctl h.kt), .val (.slice h.av cvl h.kv), .val (.slice h.ar crl h.kr), .val (.slice h.ao col h.ko), .val (iv c.blast), .val (iv c.lease), .val (iv c.bake)], .own 61 [.val (iv s.tick), .val (iv s.count), .val (.slice hs.at_ tl hs.kt), .val (.slice hs.ac cl hs.kc), .val (iv s.proven), .val (iv s.evac), .val (iv s.low), .val (iv s.high)], .own 57 [.gsl 3 n], .grow 96 9 n l][i]? = some bi → [MB.ro [.val (iv c.regions), .val (.slice h.az czl h.kz), .val (.slice h.ac ccl h.kc), .val (.slice h.at_ ctl h.kt), .val (.slice h.av cvl h.kv), .val (.slice h.ar crl h.kr), .val (.slice h.ao col h.ko), .val (iv c.blast), .val (iv c.lease), .val (iv c.bake)], .own 61 [.val (iv s.tick), .val (iv s.count), .val (.slice hs.at_ tl hs.kt), .val (.slice hs.ac cl hs.kc), .val (iv s.proven), .val (iv s.evac), .val (iv s.low), .val (iv s.high)], .own 57 [.gsl 3 n], .grow 96 9 n l][j]? = some bj → bi.wr (rho [(g0, 0), (g1, 0), (g2, 0), p] i) = true → (bj.wr (rho [(g0, 0), (g1, 0), (g2, 0), p] j) || bj.rd) = true → i ≠ j → (rho [(g0, 0), (g1, 0), (g2, 0), p] i).1 ≠ (rho [(g0, 0), (g1, 0), (g2, 0), p] j).1 := by
     intro i j bi bj hi hj hw hk hne
     match i, hi with
     | 0, hi => cases hi; cases hw
     | 1, hi =>
       match j, hj with
       | 0, _ => exact d01.symm
       | 1, _ => exact absurd rfl hne
       | 2, _ => exact d12
       | 3, hj => cases hj; have := hdo p.1 (hpw _ _ _ _ (by rw [show rho [(g0, 0), (g1, 0), (g2, 0), p] 3 = p from rfl] at hk; simpa [MB.rd] using hk)); exact this.2.1.symm
       | j + 4, hj => cases hj
     | 2, hi =>
       match j, hj with
       | 0, _ => exact d02.symm
       | 1, _ => exact d12.symm
       | 2, _ => exact absurd rfl hne
       | 3, hj => cases hj; have := hdo p.1 (hpw _ _ _ _ (by rw [show rho [(g0, 0), (g1, 0), (g2, 0), p] 3 = p from rfl] at hk; simpa [MB.rd] using hk)); exact this.2.2.symm
       | j + 4, hj => cases hj
     | 3, hi =>
       cases hi
       have := hdo p.1 (hpw _ _ _ _ hw)
       match j, hj with
       | 0, _ => exact this.1
       | 1, _ => exact this.2.1
       | 2, _ => exact this.2.2
       | 3, _ => exact absurd rfl hne
       | j + 4, hj => cases hj
     | i + 4, hi => cases hi
    exact fun i j b c hb hc hbw hcw hne => key i j b c hb hc hbw hcw hne
  exact hsat
 ·simp [SV.ok, S1.ok]
 ·refine zaa zab hA rfl rfl 400 ?_
  conv => arg 3; cbv
  obtain ⟨r, hr⟩ := nm (applyD c s ⟨ek, et, en, ec, eo, ep, el, eh, ev⟩)
  refine good_apply r (.inr ⟨_, _, _, rfl, rfl⟩) rfl (fun ρ w' hρ hSat => ?_) (fun h0 tl' cl' kt kc r1 r2 xs ys htl' hcl' hxs hys => ?_) (fun h0 s0 tl' cl' x hx => ?_)
  ·rw [hr]
   have hG := gr' hSat
   simp only [List.map, concV, conc1]
   rw [hczl, hccl, hctl, hcvl, hcrl, hcol, htl, hcl]
   exact apply_any c h s hs ek et en ec eo ep el eh ev w' ok sok ht0 (hC w' hG) (hS w' hG)
  ·have kz : A.eq 0 0 = true := by rw [hA]; rfl
   refine good_pin (fun ps hpl hpe hps => ?_)
   obtain ⟨w1, H1⟩ := hps
   have b5 : ∀ j : Nat, j = 5 ∨ j = 6 → w.heap.size ≤ (rho ps j).1 := fun j hj => by
    have i1 : rho ps 1 = (g1, 0) := zaq _ 1 _ (hpe 1 (g1, 0) rfl)
    have i2 : rho ps 2 = (g2, 0) := zaq _ 2 _ (hpe 2 (g2, 0) rfl)
    have i3 : rho ps 3 = p := zaq _ 3 _ (hpe 3 p rfl)
    have key : ∀ (t : TypeId) (l' : List Value), [MB.ro [.val (iv c.regions), .val (.slice h.az czl h.kz), .val (.slice h.ac ccl h.kc), .val (.slice h.at_ ctl h.kt), .val (.slice h.av cvl h.kv), .val (.slice h.ar crl h.kr), .val (.slice h.ao col h.ko), .val (iv c.blast), .val (iv c.lease), .val (iv c.bake)], .own 61 [.val (iv s.tick), .val (iv s.count), .val (.slice hs.at_ tl hs.kt), .val (.slice hs.ac cl hs.kc), .val (iv s.proven), .val (iv s.evac), .val (iv s.low), .val (iv s.high)], .own 57 [.gsl 3 n], .grow 96 9 n l, .own 96 [.val (.int .i64 ek), .val (.int .i64 et), .val (.int .i64 en), .val (.int .i64 ec), .val (.int .i64 eo), .val (.int .i64 ep), .val (.int .i64 el), .val (.int .i64 eh), .val (.int .i64 ev)], .sym 105 xs, .sym 107 ys][j]? = some (.sym t l') → w.heap.size ≤ (rho ps j).1 := fun t l' hj' => by
     rcases (H1.free j _ hj').1 rfl with h1 | h1
     ·exfalso
      rcases (hown _).1 h1 with h2 | h2 | h2
      ·have := H1.apart j 1 _ _ hj' rfl rfl rfl (by omega)
       rw [i1] at this
       exact this h2
      ·have := H1.apart j 2 _ _ hj' rfl rfl rfl (by omega)
       rw [i2] at this
       exact this h2
      ·obtain ⟨g, q⟩ := p
       cases q with
       | zero => rw [← hp] at h2; simp [gslV, Value.ownBlock] at h2
       | succ q =>
         have h3 : g = (rho ps j).1 := by rw [← hp] at h2; simpa [gslV, Value.ownBlock] using h2
         have := H1.apart j 3 _ _ hj' rfl rfl (by rw [i3]; rfl) (by omega)
         rw [i3] at this
         exact this h3.symm
     ·exact h1
    rcases hj with rfl | rfl
    ·exact key _ xs rfl
    ·exact key _ ys rfl
   have hl7 : ps.length = 7 := hpl
   obtain ⟨c5, hc5⟩ : ∃ q, ps[5]? = some q := ⟨_, List.getElem?_eq_getElem (by omega)⟩
   obtain ⟨c6, hc6⟩ : ∃ q, ps[6]? = some q := ⟨_, List.getElem?_eq_getElem (by omega)⟩
   have f5 := b5 5 (.inl rfl)
   have f6 := b5 6 (.inr rfl)
   rw [zaq _ 5 _ hc5] at f5
   rw [zaq _ 6 _ hc6] at f6
   refine zaa zab hA rfl rfl 400 ?_
   conv => arg 3; cbv
   repeat (simp only [F, ← hX, kz]; conv => arg 3; cbv)
   refine good_end0 (by rfl) (fun ρ w' hρ hSat => ⟨rfl, ?_⟩)
   have e1 := hρ 1 (g1, 0) (hpe 1 _ rfl)
   have e2 := hρ 2 (g2, 0) (hpe 2 _ rfl)
   have e5 := hρ 5 c5 hc5
   have e6 := hρ 6 c6 hc6
   have k1 := hSat.blk 1 _ rfl
   have k2 := hSat.blk 2 _ rfl
   have k5 := hSat.blk 5 _ rfl
   have k6 := hSat.blk 6 _ rfl
   have k9 := hSat.blk 9 _ rfl
   have p5 := k5.1
   have p6 := k6.1
   rw [e5] at k5 p5
   rw [e6] at k6 p6
   have hwr : ∀ g, (gslV (ρ 9) n1).ownBlock = some g → MB.wr (ρ 9) (.grow 96 9 n1 X) = true ∧ (ρ 9).1 = g := fun g hg => by
    revert hg
    generalize ρ 9 = q
    obtain ⟨b, q⟩ := q
    cases q with
    | zero => intro hg; simp [gslV, Value.ownBlock] at hg
    | succ q => intro hg; exact ⟨rfl, by simpa [gslV, Value.ownBlock] using hg⟩
   subst htl' hcl' hxs hys
   refine ⟨r.2, ⟨some ⟨c5.1, 0, none⟩, kt, some ⟨c6.1, 0, none⟩, kc⟩, gslV (ρ 9) n1, n1, X, ⟨gr' hSat, by rw [hr] at h0 ⊢; exact applyD_ok ok sok h0, ?_, ?_, k9.1, k9.2, by omega, fun g hg => ?_, .inr ⟨c5.1, c6.1, kt, kc, r1, r2, rfl, k5.2, k6.2, ?_, f5, f6, fun g hg => ?_⟩⟩⟩
   ·have := k1.2
    simp only [List.map, conc1, e1, e5, e6, p5, p6] at this
    exact this
   ·have := k2.2
    rw [e2] at this
    exact this
   ·obtain ⟨h1, rfl⟩ := hwr g hg
    rcases (hSat.free 9 _ rfl).1 h1 with h2 | h2
    ·rcases (hown _).1 h2 with h3 | h3 | h3
     ·have := hSat.apart 9 1 _ _ rfl rfl h1 rfl (by omega)
      rw [e1] at this
      exact absurd h3 this
     ·have := hSat.apart 9 2 _ _ rfl rfl h1 rfl (by omega)
      rw [e2] at this
      exact absurd h3 this
     ·exact .inl h3
    ·exact .inr h2
   ·have := hSat.apart 5 6 _ _ rfl rfl rfl rfl (by omega)
    rw [e5, e6] at this
    exact this
   ·obtain ⟨h1, rfl⟩ := hwr g hg
    have y1 := hSat.apart 9 5 _ _ rfl rfl h1 rfl (by omega)
    have y2 := hSat.apart 9 6 _ _ rfl rfl h1 rfl (by omega)
    rw [e5] at y1
    rw [e6] at y2
    exact ⟨y1, y2⟩
  ·have kz : A.eq x 0 = false := by rw [hA, hx]; exact decide_eq_false h0
   refine zaa zab hA rfl rfl 400 ?_
   conv => arg 3; cbv
   repeat (simp only [F, kz]; conv => arg 3; cbv)
   refine good_end0 (by rfl) (fun ρ w' hρ hSat => ⟨rfl, ?_⟩)
   have e1 := hρ 1 (g1, 0) rfl
   have e2 := hρ 2 (g2, 0) rfl
   have e3 := hρ 3 p rfl
   have k1 := hSat.blk 1 _ rfl
   have k2 := hSat.blk 2 _ rfl
   have k3 := hSat.blk 3 _ rfl
   rw [e3] at k3
   have k3' : w'.ownsRow 0 96 9 v n l := by rw [← hp]; exact k3.1
   refine ⟨s, hs, v, n, l, ⟨gr' hSat, sok, ?_, ?_, k3', k3.2, by omega, fun g hg => .inl hg, .inl ⟨rfl, rfl⟩⟩⟩
   ·have := k1.2
    rw [e1, htl, hcl] at this
    exact this
   ·have := k2.2
    simp only [List.map, conc1, e2, e3, hp] at this
    exact this
end Go.Proofs.YtcgcfeablbjnaaaGreatDoor
