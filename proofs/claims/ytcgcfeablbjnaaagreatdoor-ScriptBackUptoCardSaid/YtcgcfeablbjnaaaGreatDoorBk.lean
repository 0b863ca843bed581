/- Parts of the proof that ScriptBack returns true for every input of bulk at most 1048576. -/
import Derived.Test.YtcgcfeablbjnaaaGreatDoorBc
import Derived.Test.YtcgcfeablbjnaaaGreatDoorBf
import Derived.Test.YtcgcfeablbjnaaaGreatDoorBg
import Derived.Test.YtcgcfeablbjnaaaGreatDoorProg
set_option linter.unusedSimpArgs false
set_option linter.unusedVariables false
set_option maxRecDepth 100000
set_option maxHeartbeats 8000000
namespace Go.Proofs.YtcgcfeablbjnaaaGreatDoor
open Eng
def tabkT : List (TypeId × TI) := [
 (3, ⟨.int .i64, false, 1, [.int .i64 0], [], [], 0, 0, []⟩),
 (36, ⟨.other, true, 10, [.int .i64 0, .slice none 0 0, .slice none 0 0, .slice none 0 0, .slice none 0 0, .slice none 0 0, .slice none 0 0, .int .i64 0, .int .i64 0, .int .i64 0], [0, 1, 2, 3, 4, 5, 6, 7, 8, 9], [1, 1, 1, 1, 1, 1, 1, 1, 1, 1], 0, 0, []⟩),
 (31, ⟨.slice, false, 1, [.slice none 0 0], [], [], 1, 113, [.int .i64 0]⟩),
 (23, ⟨.slice, false, 1, [.slice none 0 0], [], [], 1, 3, [.int .i64 0]⟩),
 (34, ⟨.slice, false, 1, [.slice none 0 0], [], [], 2, 120, [.int .i64 0, .int .i64 0]⟩),
 (32, ⟨.slice, false, 1, [.slice none 0 0], [], [], 2, 115, [.int .i64 0, .int .i64 0]⟩),
 (118, ⟨.other, true, 7, [.int .i64 0, .int .i64 0, .int .i64 0, .int .i64 0, .int .i64 0, .int .i64 0, .bool false], [0, 1, 2, 3, 4, 5, 6], [1, 1, 1, 1, 1, 1, 1], 0, 0, []⟩),
 (33, ⟨.slice, false, 1, [.slice none 0 0], [], [], 7, 118, [.int .i64 0, .int .i64 0, .int .i64 0, .int .i64 0, .int .i64 0, .int .i64 0, .bool false]⟩),
 (116, ⟨.int .u64, false, 1, [.int .u64 0], [], [], 0, 0, []⟩),
 (120, ⟨.other, true, 2, [.int .i64 0, .int .i64 0], [0, 1], [1, 1], 0, 0, []⟩),
 (113, ⟨.other, true, 1, [.int .i64 0], [0], [1], 0, 0, []⟩),
 (115, ⟨.other, true, 2, [.int .i64 0, .int .i64 0], [0, 1], [1, 1], 0, 0, []⟩)]
theorem tabkT_ok : TabOk Tryz.prog tabkT := tabOk_of (by kernel_rfl)
def ords20 : Ords := [(6, [(0, false), (1, false), (2, false), (3, true), (4, true), (5, true), (6, true), (7, true), (8, true), (9, true)], 10, [3]), (10, [(0, false), (1, false), (2, false), (3, false), (4, false), (5, false), (6, false), (7, true), (8, true), (9, true), (10, true), (11, true), (12, true), (13, true)], 14, [1,4]), (15, [(0, false), (1, false), (2, false), (3, false), (5, false), (7, false), (9, false), (10, false), (11, false), (12, false), (13, false), (14, false), (16, false), (20004, true), (20006, true), (20008, true), (20015, true), (20017, true), (20018, true), (19, true)], 20, [1]), (24, [(0, false), (1, false), (2, false), (3, false), (4, true), (5, true), (6, true), (7, true), (8, true), (9, true), (10, true)], 11, [1,9]), (28, [(0, false), (1, false), (2, false), (3, true), (4, true), (5, true), (6, true), (7, true), (8, true), (9, true)], 10, [1,6]), (32, [(0, false), (1, false), (2, false), (3, true), (4, true), (5, true), (6, true), (7, true), (8, true), (9, true)], 10, [1,7])]
end Go.Proofs.YtcgcfeablbjnaaaGreatDoor
namespace Go.Proofs.YtcgcfeablbjnaaaGreatDoor
open Go.RowKit Eng
theorem own_upd {w0 w w' : World} {ρ : Nat → Nat × Nat} {mem : List MB} (H : Sat w0 [] ρ mem w) {t : Nat} {ty : TypeId} {cs cs' : List S1} (hb : mem[t]? = some (.own ty cs)) (hok : ∀ x ∈ cs', x.ok mem.length) (hG : Gr (fun i => i = (ρ t).1) w w') (hw : w'.heap[(ρ t).1]? = some (.cells (cs'.map (conc1 ρ)).toArray ty (0, 0))) : Sat w0 [] ρ (setAt mem t (.own ty cs')) w' := by
 have hlt := (List.getElem?_eq_some_iff.1 hb).1
 have hk := H.blk t _ hb
 rw [zaj]
 refine H.upd hG (fun h => h = t) (by simp) (fun i hi => ⟨t, _, rfl, hb, rfl, hi.symm⟩) (fun h hh => List.getElem?_set_ne (Ne.symm hh)) (fun h b b' hh hb0 hb' => ?_)
 subst hh
 rw [List.getElem?_set_self hlt] at hb'
 obtain rfl := Option.some.inj hb'
 obtain rfl := Option.some.inj (hb.symm.trans hb0)
 exact ⟨rfl, rfl, hok, hk.1, hw⟩
theorem gr_grown {w w' : World} {g : Nat} (h : w.grownBy w' (some g)) : Gr (fun i => i = g) w w' := ⟨h.os, h.tape, h.output, h.size, fun i hi hn => h.block i hi (by simpa using hn)⟩
theorem inL_one (t h : Nat) (hh : inL [t] h = false) : h ≠ t := by
 rintro rfl
 simp [inL, Nat.beq_refl] at hh
theorem Eng.Sat.addB {w0 : World} {own : List Nat} {ρ : Nat → Nat × Nat} {mem : List MB} {w : World} (H : Sat w0 own ρ mem w) {b : MB} {p : Nat × Nat} {ρ' : Nat → Nat × Nat} (hρ : ∀ h, h < mem.length → ρ h = ρ' h) (hp : ρ' mem.length = p) (hb : BlkAt ρ' w p b) (hok : b.ok (mem.length + 1)) (hge : b.wr p = true → w0.heap.size ≤ p.1) (hlt : b.rd = true → p.1 < w.heap.size)
 (hne : ∀ (h : Nat) (c : MB), mem[h]? = some c → (b.wr p = true ∧ (c.wr (ρ h) || c.rd) = true ∨ b.rd = true ∧ c.wr (ρ h) = true) → (ρ h).1 ≠ p.1) : Sat w0 own ρ' (mem ++ [b]) w := by
 have split : ∀ (h : Nat) (c : MB), (mem ++ [b])[h]? = some c → (h < mem.length ∧ mem[h]? = some c) ∨ (h = mem.length ∧ c = b) := fun h c hc => by
  rcases Nat.lt_trichotomy h mem.length with h1 | h1 | h1
  ·rw [List.getElem?_append_left h1] at hc; exact .inl ⟨h1, hc⟩
  ·subst h1; simp at hc; exact .inr ⟨rfl, hc.symm⟩
  ·rw [List.getElem?_eq_none (by simp; omega)] at hc; cases hc
 refine ⟨H.gr, fun h c hc => ?_, fun c hc => ?_, fun h c hc => ?_, fun h k c d hc hd hcw hdw hnk => ?_⟩
 ·rcases split h c hc with ⟨h1, h2⟩ | ⟨rfl, rfl⟩
  ·rw [← hρ h h1]; exact BlkAt.congr hρ (H.ok c (List.mem_of_getElem? h2)) (H.blk h c h2)
  ·rw [hp]; exact hb
 ·rcases List.mem_append.1 hc with h1 | h1
  ·exact (H.ok c h1).mono (by simp)
  ·obtain rfl : c = b := by simpa using h1
   simpa using hok
 ·rcases split h c hc with ⟨h1, h2⟩ | ⟨rfl, rfl⟩
  ·rw [← hρ h h1]; exact H.free h c h2
  ·rw [hp]; exact ⟨fun hw => .inr (hge hw), hlt⟩
 ·rcases split h c hc with ⟨h1, h2⟩ | ⟨rfl, rfl⟩ <;> rcases split k d hd with ⟨k1, k2⟩ | ⟨rfl, rfl⟩
  ·rw [← hρ h h1, ← hρ k k1]; rw [← hρ h h1] at hcw; rw [← hρ k k1] at hdw; exact H.apart h k c d h2 k2 hcw hdw hnk
  ·rw [hp] at hdw ⊢
   rw [← hρ h h1] at hcw ⊢
   rcases Bool.or_eq_true_iff.1 hdw with hd1 | hd1
   ·exact hne h c h2 (.inl ⟨hd1, by rw [hcw]; rfl⟩)
   ·exact hne h c h2 (.inr ⟨hd1, hcw⟩)
  ·rw [hp] at hcw ⊢
   rw [← hρ k k1] at hdw ⊢
   exact (hne k d k2 (.inl ⟨hcw, hdw⟩)).symm
  ·exact absurd rfl hnk
theorem grow_rd {w0 w w' : World} {own : List Nat} {ρ : Nat → Nat × Nat} {mem : List MB} (H : Sat w0 own ρ mem w) (hb : Below w.heap.size w w') {h : Nat} {t : TypeId} {z n : Nat} {l : List Value} (hm : mem[h]? = some (.grow t z n l)) : ∃ A c, gslV (ρ h) n = .slice A n c ∧ Rd w' w'.heap.size A l := by
 obtain ⟨⟨hl, ho⟩, _⟩ := H.blk h _ hm
 rcases ho with ⟨hv, rfl⟩ | ⟨g, c, cur, hv, _, hcur, hnc, _, hsz, htk⟩
 ·obtain rfl : l = [] := List.eq_nil_of_length_eq_zero (by simpa using hl)
  exact ⟨_, _, hv, Rd.nil⟩
 ·refine ⟨_, _, hv, fun j u hu => ⟨⟨g, 0, none⟩, rfl, ?_, ?_⟩⟩
  ·have := (Array.getElem?_eq_some_iff.1 hcur).1
   have := hb.size
   show g < _
   omega
  ·have hg := (Array.getElem?_eq_some_iff.1 hcur).1
   rw [← htk, List.getElem?_take] at hu
   split at hu
   ·rw [show (⟨g, 0, none⟩ : Addr).add j = ⟨g, j, none⟩ by simp [Addr.add]; omega, World.cell?_of_block (hb.block g hg)]
    simp only [World.cell?, hcur]
    simpa using hu
   ·cases hu
theorem good_ownG {E : Eng.Env} {R : Ending → World → Prop} {k : List It} {tm : PT} {mem : List MB} (b i h : Nat) (n : Nat) {e : TypeId} (z : Nat) {t : TypeId} {l : List S1} {vs : List Value} (hpk : plainK k = true) (hbh : b ≠ h) (hb : nth mem b = some (.own t l)) (hs : nth l i = some (.slc h 0 n n)) (hh : nth mem h = some (.own e (vals vs))) (hn : n ≤ 1000000) (hv : vs.length = n * z) (h1 : ∀ u ∈ vs, u.oneCell' = true)
 (hg : Eng.Good E R ⟨k, tm, setAt (setAt mem b (.own t (setAt l i (.gsl (len mem) n)))) h .dead ++ [.grow e z n vs]⟩) : Eng.Good E R ⟨k, tm, mem⟩ := by
 intro ρ w a hρ hl H htm ha hit
 rw [za2] at hb hs hh
 obtain ⟨g, hgp⟩ : ∃ g, ρ h = (g, 0) := ⟨(ρ h).1, by have := (H.blk h _ hh).1; exact Prod.ext rfl this⟩
 have hkh := (H.blk h _ hh).2
 rw [hgp] at hkh
 have hex : ∀ j, j < mem.length → ρ j = ext2 ρ mem.length (g, n + 1) j := fun j hj => za4 hj
 have hblt := (List.getElem?_eq_some_iff.1 hb).1
 have hhlt := (List.getElem?_eq_some_iff.1 hh).1
 have hvals : ∀ vs : List Value, (vals vs).map (conc1 ρ) = vs := fun vs => by induction vs with
  | nil => rfl
  | cons v l ih => simp [vals, conc1, ih]
 rw [hvals] at hkh
 have HK := H.kill h
 have hcells : (setAt l i (S1.gsl (len mem) n)).map (conc1 (ext2 ρ mem.length (g, n + 1))) = l.map (conc1 (ext2 ρ mem.length (g, n + 1))) := by
  rw [zaj, List.map_set]
  refine List.ext_getElem? fun j => ?_
  by_cases hj : i = j
  ·subst hj
   have := (List.getElem?_eq_some_iff.1 hs).1
   rw [List.getElem?_set_self (by simpa using this), List.getElem?_map, hs]
   simp [conc1, za0, zau, gslV, ← hex h hhlt, hgp]
  ·rw [List.getElem?_set_ne hj]
 have hml : (setAt (setAt mem b (.own t (setAt l i (.gsl (len mem) n)))) h .dead).length = mem.length := by simp [zaj]
 have get : ∀ (j : Nat) (c : MB), (setAt (setAt mem b (.own t (setAt l i (.gsl (len mem) n)))) h .dead ++ [.grow e z n vs])[j]? = some c → (j = b ∧ c = .own t (setAt l i (.gsl (len mem) n))) ∨ (j ≠ b ∧ j < mem.length ∧ (mem.set h .dead)[j]? = some c) ∨ (j = mem.length ∧ c = .grow e z n vs) := fun j c hj => by
  rcases Nat.lt_trichotomy j mem.length with h1 | h1 | h1
  ·rw [List.getElem?_append_left (by omega), zaj, zaj, List.set_comm _ _ hbh] at hj
   by_cases hjb : b = j
   ·subst hjb
    rw [List.getElem?_set_self (by simpa using hblt)] at hj
    exact .inl ⟨rfl, (Option.some.inj hj).symm⟩
   ·rw [List.getElem?_set_ne hjb] at hj
    exact .inr (.inl ⟨Ne.symm hjb, h1, hj⟩)
  ·subst h1
   rw [List.getElem?_append_right (by omega), hml, Nat.sub_self] at hj
   exact .inr (.inr ⟨rfl, by simpa using hj.symm⟩)
  ·rw [List.getElem?_eq_none (by simp [hml]; omega)] at hj; cases hj
 have hbK : (mem.set h .dead)[b]? = some (.own t l) := by rw [List.getElem?_set_ne (Ne.symm hbh)]; exact hb
 have okK : ∀ c ∈ mem.set h .dead, c.ok mem.length := fun c hc => by have := HK.ok c hc; rwa [List.length_set] at this
 have hapart : ∀ (j : Nat) (c : MB), (mem.set h .dead)[j]? = some c → (c.wr (ρ j) || c.rd) = true → (ρ j).1 ≠ g := fun j c hj hw => by
  by_cases hjh : j = h
  ·subst hjh
   rw [List.getElem?_set_self hhlt] at hj
   obtain rfl := Option.some.inj hj
   simp [MB.wr, MB.rd] at hw
  ·rw [List.getElem?_set_ne (Ne.symm hjh)] at hj
   have := H.apart h j _ c hh hj rfl hw (Ne.symm hjh)
   rw [hgp] at this
   exact this.symm
 have hfree : g ∈ E.own ∨ E.w0.heap.size ≤ g := by have := (H.free h _ hh).1 rfl; rwa [hgp] at this
 have old : ∀ (j : Nat) (c : MB), (setAt (setAt mem b (.own t (setAt l i (.gsl (len mem) n)))) h .dead ++ [.grow e z n vs])[j]? = some c → (j < mem.length ∧ ∃ c0, (mem.set h .dead)[j]? = some c0 ∧ c.wr (ρ j) = c0.wr (ρ j) ∧ c.rd = c0.rd) ∨ (j = mem.length ∧ c = .grow e z n vs) := fun j c hj => by
  rcases get j c hj with ⟨rfl, rfl⟩ | ⟨h1, h2, h3⟩ | h1
  ·exact .inl ⟨hblt, _, hbK, rfl, rfl⟩
  ·exact .inl ⟨h2, _, h3, rfl, rfl⟩
  ·exact .inr h1
 have HS : Sat E.w0 E.own (ext2 ρ mem.length (g, n + 1)) (setAt (setAt mem b (.own t (setAt l i (.gsl (len mem) n)))) h .dead ++ [.grow e z n vs]) w := by
  refine ⟨H.gr, fun j c hj => ?_, fun c hc => ?_, fun j c hj => ?_, fun j m c d hj hm hcw hdw hne => ?_⟩
  ·rcases get j c hj with ⟨rfl, rfl⟩ | ⟨h1, h2, h3⟩ | ⟨rfl, rfl⟩
   ·have := HK.blk j _ hbK
    rw [← hex j hblt]
    refine ⟨this.1, ?_⟩
    rw [hcells, ← map1_congr hex (okK _ (List.mem_of_getElem? hbK))]
    exact this.2
   ·rw [← hex j h2]
    exact BlkAt.congr hex (okK c (List.mem_of_getElem? h3)) (HK.blk j c h3)
   ·rw [zau]
    refine ⟨⟨hv, .inr ⟨g, n, vs.toArray, rfl, Nat.zero_le _, hkh, Nat.le_refl _, Nat.le_trans hn (by unfold maxLen; omega), by simpa using hv, ?_⟩⟩, h1⟩
    rw [List.take_of_length_le (by simp [hv])]
  ·rw [List.length_append, hml]
   obtain ⟨j, hj, hjc⟩ := List.mem_iff_getElem.1 hc
   have hj' : (setAt (setAt mem b (.own t (setAt l i (.gsl (len mem) n)))) h .dead ++ [.grow e z n vs])[j]? = some c := by rw [List.getElem?_eq_getElem hj, hjc]
   rcases get j c hj' with ⟨rfl, rfl⟩ | ⟨h1, h2, h3⟩ | ⟨rfl, rfl⟩
   ·intro x hx
    rw [zaj] at hx
    rcases List.mem_or_eq_of_mem_set hx with h1 | rfl
    ·exact (okK _ (List.mem_of_getElem? hbK) x h1).mono (by simp)
    ·show len mem < _; simp [za0]
   ·exact (okK c (List.mem_of_getElem? h3)).mono (by simp)
   ·trivial
  ·rcases old j c hj with ⟨h1, c0, h2, h3, h4⟩ | ⟨rfl, rfl⟩
   ·rw [← hex j h1, h3, h4]; exact HK.free j c0 h2
   ·rw [zau]; exact ⟨fun _ => hfree, fun h => (by cases h)⟩
  ·rcases old j c hj with ⟨h1, c0, h2, h3, h4⟩ | ⟨rfl, rfl⟩ <;> rcases old m d hm with ⟨k1, d0, k2, k3, k4⟩ | ⟨rfl, rfl⟩
   ·rw [← hex j h1, h3] at hcw
    rw [← hex m k1, k3, k4] at hdw
    rw [← hex j h1, ← hex m k1]
    exact HK.apart j m c0 d0 h2 k2 hcw hdw hne
   ·rw [← hex j h1, h3] at hcw
    rw [← hex j h1, zau]
    exact hapart j c0 h2 (by rw [hcw]; rfl)
   ·rw [← hex m k1, k3, k4] at hdw
    rw [← hex m k1, zau]
    exact (hapart m d0 k2 hdw).symm
   ·exact absurd rfl hne
 have := hg _ w a (fun j p hp => by rw [← hex j (Nat.lt_of_lt_of_le (List.getElem?_eq_some_iff.1 hp).1 hl)]; exact hρ j p hp) (Nat.le_trans hl (by simp [zaj])) HS (htm.mono (by simp [zaj])) (ha.ext htm hex) (fun it hi => zcu hpk it hi _)
 rw [cont_rho _ ρ hpk] at this
 exact this
theorem rd_sat {w0 w w' : World} {own : List Nat} {ρ : Nat → Nat × Nat} {mem : List MB} {S : Nat → Prop} (H : Sat w0 own ρ mem w) (hG : Gr S w w') (hS : ∀ i, S i → ∃ (h : Nat) (b : MB), mem[h]? = some b ∧ b.wr (ρ h) = true ∧ (ρ h).1 = i) {a : Nat} {l : List Value} (ha : mem[a]? = some (.rsym l)) : Rd w' w'.heap.size (some ⟨(ρ a).1, (ρ a).2, none⟩) l := by
 have hlt := H.lt ha (by rfl)
 have hs : w'.heap[(ρ a).1]? = w.heap[(ρ a).1]? := hG.block _ hlt fun hs => by
  obtain ⟨h, b, hb, hw, he⟩ := hS _ hs
  exact H.apart h a b _ hb ha hw rfl (fun e => by subst e; rw [ha] at hb; cases hb; cases hw) he
 intro j v hv
 refine ⟨_, rfl, Nat.lt_of_lt_of_le hlt hG.size, ?_⟩
 rw [Addr.add_mid]
 exact (World.cell?_of_block hs).trans (H.blk a _ ha j v hv)
theorem goes_knext : Goes Tryz.prog 45 := zam Tryz.func45 (by kernel_rfl) (by kernel_rfl)
theorem goes_krange : Goes Tryz.prog 46 := zam Tryz.func46 (by kernel_rfl) (by kernel_rfl)
theorem goes_kyes : Goes Tryz.prog 47 := zam Tryz.func47 (by kernel_rfl) (by kernel_rfl)
theorem goes_knew : Goes Tryz.prog 43 := zam Tryz.func43 (by kernel_rfl) (by kernel_rfl)
theorem goes_kbetween : Goes Tryz.prog 44 := zam Tryz.func44 (by kernel_rfl) (by kernel_rfl)
section
variable {T : List (TypeId × TI)} {D : Ords} {fn : Func} {w0 : World} {ρ0 : List (Nat × Nat)} {L : Nat → Act → World → Prop} {R : Ending → World → Prop} {dst : Option Tmp} {k : List It} {tm : PT} {mem : List MB}
theorem good_kcall {A : Option Addr} {cp ln : Nat} {l : List Int} {pt : Int} (t : Nat) (hb : nth mem t = some (.own 150 [.val (.slice A ln cp), .val (.int .i64 pt)])) (hln : ln = l.length) (hp : 0 ≤ pt) (hrd : Rd w0 w0.heap.size A (l.map iv)) {f : FuncId} (hgo : Goes Tryz.prog f) (xs : List Value) {β : Type} (u : β → Value) (C : β → Prop)
 (hc : ∀ g w, TapeK (A, cp, l) w g ln pt.toNat → Calls Tryz.prog f (.pointer (some ⟨g, 0, none⟩) :: xs).toArray w fun e w' => ∃ b p', C b ∧ p' ≤ pt.toNat + 1 ∧ e = .returned (u b) ∧ TapeK (A, cp, l) w' g ln p' ∧ w.grownBy w' (some g)) (hk : headW [t] k = true)
 (h : ∀ b pt', C b → 0 ≤ pt' → pt' ≤ pt + 1 → Eng.Good (⟨Tryz.prog, T, D, fn, w0, [], ρ0, L⟩ : Eng.Env) R ⟨k, putE tm dst (.one (.val (u b))), setAt mem t (.own 150 [.val (.slice A ln cp), .val (.int .i64 pt')])⟩) : Eng.Good (⟨Tryz.prog, T, D, fn, w0, [], ρ0, L⟩ : Eng.Env) R ⟨.call f (.one (.ptr t 0 0) :: xs.map fun x => .one (.val x)) dst :: k, tm, mem⟩ := by
 rw [za2] at hb
 refine za3 (α := { q : β × Int // C q.1 ∧ 0 ≤ q.2 ∧ q.2 ≤ pt + 1 }) [t] (fun x => .one (.val (u x.1.1))) (fun x => setAt mem t (.own 150 [.val (.slice A ln cp), .val (.int .i64 x.1.2)])) (fun x => by simp [zaj]) (fun x h _ hh => by rw [zaj, List.getElem?_set_ne (inL_one t h hh).symm]) (fun x => trivial) hk hgo (fun ρ w hρ H => ?_) (fun x => h _ _ x.2.1 x.2.2.1 x.2.2.2)
 have hk := H.blk t _ hb
 have hf := ((H.free t _ hb).1 rfl).resolve_left (by simp)
 have e : ((pt.toNat : Nat) : Int) = pt := by omega
 have ht : TapeK (A, cp, l) w (ρ t).1 ln pt.toNat := ⟨A, cp, l, hln.symm, by unfold iv; rw [e]; exact hk.2, (hrd.below (zah H.gr)).more hf, rfl⟩
 have h0 := hk.1
 simp only [List.map_cons, List.map_map, concV, conc1, h0]
 rw [show xs.map ((fun x => concV ρ x) ∘ fun x => SV.one (S1.val x)) = xs from (List.map_congr_left fun x _ => rfl).trans (List.map_id xs)]
 refine (hc _ _ ht).mono ?_
 rintro e w' ⟨b, p', hC, hp', rfl, ⟨A', c', l', _, hbw, _, heq⟩, hg⟩
 simp only [Prod.mk.injEq] at heq
 obtain ⟨rfl, rfl, rfl⟩ := heq
 exact ⟨⟨(b, (p' : Int)), hC, by omega, by show (p' : Int) ≤ _; omega⟩, ρ, rfl, fun _ _ => rfl, own_upd H hb (by simp [S1.ok]) (gr_grown hg) hbw⟩
theorem zav {A : Option Addr} {cp ln : Nat} {l : List Int} {pt : Int} (t : Nat) (hb : nth mem t = some (.own 150 [.val (.slice A ln cp), .val (.int .i64 pt)])) (hln : ln = l.length) (hp : 0 ≤ pt ∧ pt ≤ 100000000) (hl : l.length ≤ 1000) (hrd : Rd w0 w0.heap.size A (l.map iv)) {n : Int} (hn : 1 ≤ n) (hn2 : n ≤ 1000000000) (hk : headW [t] k = true)
 (h : ∀ r pt', 0 ≤ r ∧ r < n → 0 ≤ pt' ∧ pt' ≤ pt + 1 → Eng.Good (⟨Tryz.prog, T, D, fn, w0, [], ρ0, L⟩ : Eng.Env) R ⟨k, putE tm dst (.one (.val (.int .i64 r))), setAt mem t (.own 150 [.val (.slice A ln cp), .val (.int .i64 pt')])⟩) : Eng.Good (⟨Tryz.prog, T, D, fn, w0, [], ρ0, L⟩ : Eng.Env) R ⟨.call 45 [.one (.ptr t 0 0), .one (.val (.int .i64 n))] dst :: k, tm, mem⟩ :=
 good_kcall t hb hln hp.1 hrd goes_knext [.int .i64 n] (Value.int .i64) (fun r => 0 ≤ r ∧ r < n) (fun g w ht => (knext_any g ln _ n w hn hn2 (by omega) (by omega) ht).mono fun e w' ⟨r, p', h1, h2, _, h4, h5, h6, _⟩ => ⟨r, p', ⟨by omega, h1⟩, h2, h4, h5, h6⟩) hk (fun r pt' h1 h2 h3 => h r pt' h1 ⟨h2, h3⟩)
theorem za9 {A : Option Addr} {cp ln : Nat} {l : List Int} {pt : Int} (t : Nat) (hb : nth mem t = some (.own 150 [.val (.slice A ln cp), .val (.int .i64 pt)])) (hln : ln = l.length) (hp : 0 ≤ pt ∧ pt ≤ 100000000) (hl : l.length ≤ 1000) (hrd : Rd w0 w0.heap.size A (l.map iv)) {lo hi : Int} (hn : lo ≤ hi ∧ -1000000 ≤ lo ∧ hi ≤ 1000000) (hk : headW [t] k = true)
 (h : ∀ r pt', lo ≤ r ∧ r ≤ hi → 0 ≤ pt' ∧ pt' ≤ pt + 1 → Eng.Good (⟨Tryz.prog, T, D, fn, w0, [], ρ0, L⟩ : Eng.Env) R ⟨k, putE tm dst (.one (.val (.int .i64 r))), setAt mem t (.own 150 [.val (.slice A ln cp), .val (.int .i64 pt')])⟩) : Eng.Good (⟨Tryz.prog, T, D, fn, w0, [], ρ0, L⟩ : Eng.Env) R ⟨.call 46 [.one (.ptr t 0 0), .one (.val (.int .i64 lo)), .one (.val (.int .i64 hi))] dst :: k, tm, mem⟩ :=
 good_kcall t hb hln hp.1 hrd goes_krange [.int .i64 lo, .int .i64 hi] (Value.int .i64) (fun r => lo ≤ r ∧ r ≤ hi) (fun g w ht => (krange_any g ln _ lo hi w hn.1 hn.2.1 hn.2.2 (by omega) (by omega) ht).mono fun e w' ⟨r, p', h0, h1, h2, _, h4, h5, h6, _⟩ => ⟨r, p', ⟨h0, h1⟩, h2, h4, h5, h6⟩) hk (fun r pt' h1 h2 h3 => h r pt' h1 ⟨h2, h3⟩)
theorem zcj {A : Option Addr} {cp ln : Nat} {l : List Int} {pt : Int} (t : Nat) (hb : nth mem t = some (.own 150 [.val (.slice A ln cp), .val (.int .i64 pt)])) (hln : ln = l.length) (hp : 0 ≤ pt ∧ pt ≤ 100000000) (hl : l.length ≤ 1000) (hrd : Rd w0 w0.heap.size A (l.map iv)) {n : Int} (hn : 1 ≤ n) (hn2 : n ≤ 1000000000) (hk : headW [t] k = true)
 (h : ∀ (r : Bool) pt', 0 ≤ pt' ∧ pt' ≤ pt + 1 → Eng.Good (⟨Tryz.prog, T, D, fn, w0, [], ρ0, L⟩ : Eng.Env) R ⟨k, putE tm dst (.one (.val (.bool r))), setAt mem t (.own 150 [.val (.slice A ln cp), .val (.int .i64 pt')])⟩) : Eng.Good (⟨Tryz.prog, T, D, fn, w0, [], ρ0, L⟩ : Eng.Env) R ⟨.call 47 [.one (.ptr t 0 0), .one (.val (.int .i64 n))] dst :: k, tm, mem⟩ :=
 good_kcall t hb hln hp.1 hrd goes_kyes [.int .i64 n] Value.bool (fun _ => True) (fun g w ht => (kyes_any g ln _ n w hn hn2 (by omega) (by omega) ht).mono fun e w' ⟨r, p', h2, _, h4, h5, h6, _⟩ => ⟨r, p', trivial, h2, h4, h5, h6⟩) hk (fun r pt' _ h2 h3 => h r pt' ⟨h2, h3⟩)
theorem good_kbetween {v lo hi : Int} (hn : lo ≤ hi ∧ -1000000 ≤ lo ∧ hi ≤ 1000000) (h : ∀ r, lo ≤ r ∧ r ≤ hi → Eng.Good (⟨Tryz.prog, T, D, fn, w0, [], ρ0, L⟩ : Eng.Env) R ⟨k, putE tm dst (.one (.val (.int .i64 r))), mem⟩) : Eng.Good (⟨Tryz.prog, T, D, fn, w0, [], ρ0, L⟩ : Eng.Env) R ⟨.call 44 [.one (.val (.int .i64 v)), .one (.val (.int .i64 lo)), .one (.val (.int .i64 hi))] dst :: k, tm, mem⟩ := by
 have v0 := Int.emod_nonneg v (show hi - lo + 1 ≠ 0 by omega)
 have v1 := Int.emod_lt_of_pos v (show (0 : Int) < hi - lo + 1 by omega)
 exact zac (.one (.val (.int .i64 (lo + v % (hi - lo + 1))))) trivial goes_kbetween (fun ρ w' hρ hSat => (kbetween_any v lo hi w' hn.1 hn.2.1 hn.2.2).mono fun e w2 ⟨h1, h2⟩ => ⟨h1, h2 ▸ Below.refl _ _⟩) (h _ (by omega))
theorem good_knew {A : Option Addr} {cp ln : Nat} {l : List Int} (hln : ln = l.length) (hrd : Rd w0 w0.heap.size A (l.map iv)) (hk : headW [] k = true)
 (h : Eng.Good (⟨Tryz.prog, T, D, fn, w0, [], ρ0, L⟩ : Eng.Env) R ⟨k, putE tm dst (.one (.ptr (len mem) 0 0)), mem ++ [.own 150 [.val (.slice A ln cp), .val (.int .i64 0)]]⟩) : Eng.Good (⟨Tryz.prog, T, D, fn, w0, [], ρ0, L⟩ : Eng.Env) R ⟨.call 43 [.one (.val (.slice A ln cp))] dst :: k, tm, mem⟩ := by
 refine za3 (α := Unit) [] (fun x => .one (.ptr (len mem) 0 0)) (fun x => mem ++ [.own 150 [.val (.slice A ln cp), .val (.int .i64 0)]]) (fun x => by simp) (fun x h hh _ => by rw [List.getElem?_append_left hh]) (fun x => by show len mem < _; simp [za0]) hk goes_knew (fun ρ w hρ H => ?_) (fun x => h)
 subst hln
 simp only [List.map, concV, conc1]
 have hb0 : Below w0.heap.size w0 w := zah H.gr
 refine (knew_any A cp l w ((hrd.below hb0).more hb0.size)).mono ?_
 rintro e w' ⟨rfl, ⟨A', c', l', hl', hbw, _, heq⟩, hg, hs⟩
 simp only [Prod.mk.injEq] at heq
 obtain ⟨rfl, rfl, rfl⟩ := heq
 have hbel : Below w.heap.size w w' := (Below.refl _ _).grown hg (Nat.le_refl _) (fun k hk => by cases hk)
 refine ⟨(), ext2 ρ mem.length (w.heap.size, 0), ?_, fun h hh => za4 hh, ?_⟩
 ·simp [concV, conc1, za0, zau]
 ·refine (H.below hbel).addB (p := (w.heap.size, 0)) (fun h hh => za4 hh) (zau _ _) ⟨rfl, ?_⟩ (by simp [MB.ok, S1.ok]) (fun _ => H.gr.size) (fun h => by cases h) (fun h c hc hk => ?_)
  ·rw [hbw]; rfl
  ·have : (c.wr (ρ h) || c.rd) = true := by
    rcases hk with ⟨_, h1⟩ | ⟨h1, _⟩
    ·exact h1
    ·cases h1
   exact Nat.ne_of_lt (H.lt hc this)
end
theorem zag {D : Ords} {fn : Func} {w : World} {own : List Nat} {l : List (Nat × Nat)} {L : Nat → Act → World → Prop} : (⟨Tryz.prog, tabkT, D, fn, w, own, l, L⟩ : Eng.Env).Ok := ⟨tabkT_ok, mixed_ok⟩
section
variable {E : Eng.Env} {R : Ending → World → Prop} {k : List It} {tm : PT} {mem : List MB}
theorem zck (l : List Nat) (h : Eng.Good E R ⟨k, fgt l tm, mem⟩) : Eng.Good E R ⟨k, tm, mem⟩ := fun ρ w a hρ hl H htm ha hit => h ρ w a hρ hl H (fgt_ok l htm) (fgt_rel l ha) hit
theorem good_join {st : St} {α : Type} (P : α → Prop) (k : List It) (tm : PT) (M : α → List MB) (rest : ∀ x, P x → Eng.Good E R ⟨k, tm, M x⟩) (main : (∀ x, P x → Eng.Good E R ⟨k, tm, M x⟩) → Eng.Good E R st) : Eng.Good E R st := main rest
end
structure GSt (β : Type) where
 pt : Int
 i : Nat
 n : Nat
 lo : List Value
 l : List β
structure GSt.Ok {β : Type} (f : β → List Value) (P : β → Prop) (x : GSt β) : Prop where
 n : x.n = x.l.length
 lo : x.lo = x.l.flatMap f
 all : ∀ y ∈ x.l, P y
theorem GSt.Ok.nil {β : Type} {f : β → List Value} {P : β → Prop} (pt : Int) (i : Nat) : (⟨pt, i, 0, [], []⟩ : GSt β).Ok f P := ⟨rfl, rfl, by simp⟩
theorem GSt.Ok.snoc {β : Type} {f : β → List Value} {P : β → Prop} {x : GSt β} (h : x.Ok f P) {y : β} (hy : P y) (pt : Int) (i : Nat) {n1 : Nat} {lo1 : List Value} (hn : n1 = x.n + 1) (hl : lo1 = x.lo ++ f y) : (⟨pt, i, n1, lo1, x.l ++ [y]⟩ : GSt β).Ok f P :=
 ⟨by simp [hn, h.n], by simp [hl, h.lo], fun z hz => by
  rcases List.mem_append.1 hz with h1 | h1
  ·exact h.all z h1
  ·obtain rfl : z = y := by simpa using h1
   exact hy⟩
theorem GSt.Ok.at {β : Type} {f : β → List Value} {P : β → Prop} {x : GSt β} (h : x.Ok f P) (pt : Int) (i : Nat) : (⟨pt, i, x.n, x.lo, x.l⟩ : GSt β).Ok f P := ⟨h.n, h.lo, h.all⟩
theorem tmod_lt {a b : Int} (h0 : 0 ≤ a) (h1 : 0 < b) : 0 ≤ a.tmod b ∧ a.tmod b < b := by
 rw [Int.tmod_eq_emod_of_nonneg h0]
 exact ⟨Int.emod_nonneg a (by omega), Int.emod_lt_of_pos a h1⟩
theorem flat_iv (l : List Int) : l.flatMap (fun x => [iv x]) = l.map iv := by induction l with
 | nil => rfl
 | cons a l ih => simp [ih]
theorem kconfig_any (Ad : Option Addr) (cp : Nat) (l : List Int) (w : World) (hl : l.length ≤ 1000) (hrd : Rd w w.heap.size Ad (l.map iv)) :
 Calls Tryz.prog 20 #[.slice Ad l.length cp] w fun e w' => CfgRet CfgOk e w' ∧ Below w.heap.size w w' := by
 obtain ⟨ln, hln⟩ := nm (l.length)
 obtain ⟨A, hA⟩ : ∃ A, A = std := ⟨_, rfl⟩
 refine zae (E := ⟨Tryz.prog, tabkT, ords20, Tryz.f20, w, [], [], fun _ _ _ => False⟩) zag (c := bodyOf Tryz.f20) (n := 0) Tryz.func20 rfl (show codeChk ords20 (bodyOf Tryz.f20) = true by decide +kernel) (rho []) (fun h p hp => zaq _ h p hp)
  (tm := [.one (.val (.slice Ad ln cp))] ++ List.replicate 181 (.one (.val undef))) (mem := []) (Nat.le_refl _) ?_ ?_ (by rw [hln]; rfl) ?_
 ·exact zan w [] _
 ·simp [SV.ok, S1.ok]
 ·refine zaa zag hA rfl rfl 400 ?_
  conv => arg 3; cbv
  refine good_knew hln hrd rfl ?_
  refine zaa zag hA rfl rfl 400 ?_
  conv => arg 3; cbv
  refine zav 1 rfl hln (by omega) hl hrd (by omega) (by omega) rfl (fun r1 pt2 h3 hp4 => ?_)
  refine zaa zag hA rfl rfl 400 ?_
  conv => arg 3; cbv
  obtain ⟨r5, hr5⟩ := nm (r1 + 1)
  have e5 : A.add .i64 r1 1 = r5 := by rw [hA, hr5]; exact wrap64 (by omega) (by omega)
  repeat (simp only [e5]; try (conv => arg 3; cbv))
  refine good_kbetween (by omega) (fun rg hrg => ?_)
  refine zaa zag hA rfl rfl 400 ?_
  conv => arg 3; cbv
  refine za9 1 rfl hln (by omega) hl hrd (by omega) rfl (fun bl pt5 h6 hp7 => ?_)
  refine zaa zag hA rfl rfl 400 ?_
  conv => arg 3; cbv
  refine za9 1 rfl hln (by omega) hl hrd (by omega) rfl (fun le pt8 h9 hp10 => ?_)
  refine zaa zag hA rfl rfl 400 ?_
  conv => arg 3; cbv
  refine zav 1 rfl hln (by omega) hl hrd (by omega) (by omega) rfl (fun ba pt11 h12 hp13 => ?_)
  refine zaa zag hA rfl rfl 400 ?_
  conv => arg 3; cbv
  refine zcy 2 1 113 1 rfl rfl rfl ?_
  conv => arg 3; cbv
  refine zcy 2 2 115 2 rfl rfl rfl ?_
  conv => arg 3; cbv
  refine zcy 2 3 118 7 rfl rfl rfl ?_
  conv => arg 3; cbv
  refine zcy 2 5 3 1 rfl rfl rfl ?_
  conv => arg 3; cbv
  refine zcy 2 6 3 1 rfl rfl rfl ?_
  conv => arg 3; cbv
  have rgz : A.not (A.eq rg 0) = true := by rw [hA]; simp [std]; omega
  refine zbh 1 (α := { x : GSt Int // x.Ok (fun x => [iv x]) (fun x => 0 ≤ x ∧ x < rg) ∧ 0 ≤ x.pt ∧ x.pt ≤ 5 + 2 * (x.n : Int) ∧ x.n ≤ 6 }) [27, 28, 29, 30, 31, 32, 33, 34, 35, 36, 37, 38, 39, 40, 41, 42, 43, 44, 45, 46, 47, 48, 49, 50] (fun x => [(5, .one (.val (.int .i64 (Int.ofNat x.1.n))))]) (fun x => [.own 36 [.val (.int .i64 0), .val (.slice none 0 0), .val (.slice none 0 0), .val (.slice none 0 0), .val (.slice none 0 0), .val (.slice none 0 0), .val (.slice none 0 0), .val (.int .i64 0), .val (.int .i64 0), .val (.int .i64 0)], .own 150 [.val (.slice Ad ln cp), .val (.int .i64 x.1.pt)], .own 36 [.val (.int .i64 rg), .gsl 3 x.1.n, .gsl 4 0, .gsl 5 0, .val (.slice none 0 0), .gsl 6 0, .gsl 7 0, .val (.int .i64 bl), .val (.int .i64 le), .val (.int .i64 ba)], .grow 113 1 x.1.n x.1.lo, .grow 115 2 0 [], .grow 118 7 0 [], .grow 3 1 0 [], .grow 3 1 0 []]) (fun x => 7 - x.1.n) ⟨⟨pt11, 0, 0, [], []⟩, .nil _ _, by dsimp only; omega⟩ ?_ ?_ (fun x => rfl) (fun x y hy => zbl hy trivial) rfl (fun x L' hL1 hL2 => ?_)
  ·cbv
   simp
  ·rfl
  ·obtain ⟨⟨pt, i, n, lo, l'⟩, hok, hb⟩ := x
   dsimp only at hb ⊢
   have hkn : n = l'.length := hok.n
   refine good_join (α := GSt Int) (fun x => x.Ok (fun x => [iv x]) (fun x => 0 ≤ x ∧ x < rg) ∧ 0 ≤ x.pt ∧ x.pt ≤ 19 ∧ rg ≤ (x.n : Int) ∧ x.n ≤ 6) ?k1 ?tm1 (fun x => [.own 36 [.val (.int .i64 0), .val (.slice none 0 0), .val (.slice none 0 0), .val (.slice none 0 0), .val (.slice none 0 0), .val (.slice none 0 0), .val (.slice none 0 0), .val (.int .i64 0), .val (.int .i64 0), .val (.int .i64 0)], .own 150 [.val (.slice Ad ln cp), .val (.int .i64 x.pt)], .own 36 [.val (.int .i64 rg), .gsl 3 x.n, .gsl 4 0, .gsl 5 0, .val (.slice none 0 0), .gsl 6 0, .gsl 7 0, .val (.int .i64 bl), .val (.int .i64 le), .val (.int .i64 ba)], .grow 113 1 x.n x.lo, .grow 115 2 0 [], .grow 118 7 0 [], .grow 3 1 0 [], .grow 3 1 0 []]) ?rest1 (fun HR => ?main1)
   case main1 =>
    by_cases hi : (n : Int) < rg
    ·have q1 : A.lt (Int.ofNat n) rg = true := by rw [hA]; simp [std]; omega
     obtain ⟨zv, hzv⟩ := nm ((Int.ofNat n).tmod rg)
     have hzv2 : 0 ≤ zv ∧ zv < rg := by rw [hzv]; exact tmod_lt (by simp) (by omega)
     have z1 : A.rem (Int.ofNat n) rg = zv := by rw [hA, hzv]; rfl
     obtain ⟨n1, hn1⟩ := nm (n + 1)
     obtain ⟨lo1, hlo1⟩ := nm (lo ++ [.int .i64 zv])
     have a1 : A.eqn n n = true := by rw [hA]; simp [std]
     have a2 : A.fits n 1 = true := by rw [hA]; simp [std]; omega
     have a3 : A.addn n 1 = n1 := by rw [hA, hn1]; rfl
     have a4 : A.app lo [.int .i64 zv] = lo1 := by rw [hA, hlo1]; rfl
     have c1 : A.add .i64 (Int.ofNat n) 1 = Int.ofNat n1 := by rw [hA, hn1]; exact (wrap64 (by simp; omega) (by simp; omega)).trans (by simp)
     refine zaa zag hA rfl rfl 400 ?_
     conv => arg 3; cbv
     repeat (simp only [c1, rgz, z1, a1, a2, a3, a4, q1]; try (conv => arg 3; cbv))
     refine zai (l := [0, 1, 2, 9, 4, 5, 6, 7]) ⟨rfl, rfl, rfl⟩ hL2 (⟨⟨pt, n + 1, n1, lo1, l' ++ [zv]⟩, hok.snoc (y := zv) hzv2 _ _ hn1 hlo1, by dsimp only; omega⟩ : { x : GSt Int // x.Ok (fun x => [iv x]) (fun x => 0 ≤ x ∧ x < rg) ∧ 0 ≤ x.pt ∧ x.pt ≤ 5 + 2 * (x.n : Int) ∧ x.n ≤ 6 }) ?_ rfl rfl rfl ?_ ?_ ?_ ?_
     ·dsimp only
      omega
     ·intro b hb
      simp only [List.mem_cons, List.not_mem_nil, or_false] at hb
      rcases hb with rfl | rfl | rfl | rfl | rfl | rfl | rfl | rfl <;> simp [MB.ok, S1.ok]
     ·exact zao (by cbv <;> trivial)
     ·exact ⟨.inr rfl, .inr rfl, .inr rfl, .inr rfl, .inr rfl, .inr rfl, .inr rfl, .inr rfl, trivial⟩
     ·cbv
      simp
    ·have q1 : A.lt (Int.ofNat n) rg = false := by rw [hA]; simp [std]; omega
     refine zaa zag hA rfl rfl 400 ?_
     conv => arg 3; cbv
     repeat (simp only [q1]; try (conv => arg 3; cbv))
     refine zcj 1 rfl hln (by omega) hl hrd (by omega) (by omega) rfl (fun b14 pt15 hp16 => ?_)
     cases b14
     ·refine zaa zag hA rfl rfl 400 ?_
      conv => arg 3; cbv
      repeat (simp only [rgz]; try (conv => arg 3; cbv))
      refine zck [5, 27, 28, 29, 30, 31, 32, 33, 34, 35, 36, 37, 38, 39, 40, 41, 42, 43, 44, 45, 46, 47, 48, 49, 50] ?_
      conv => arg 3; cbv
      exact HR ⟨pt15, 0, n, lo, l'⟩ ⟨hok.at _ _, by dsimp only; omega⟩
     ·by_cases hi2 : n < 6
      ·have q2 : A.lt (Int.ofNat n) 6 = true := by rw [hA]; simp [std]; omega
       obtain ⟨zv, hzv⟩ := nm ((Int.ofNat n).tmod rg)
       have hzv2 : 0 ≤ zv ∧ zv < rg := by rw [hzv]; exact tmod_lt (by simp) (by omega)
       have z1 : A.rem (Int.ofNat n) rg = zv := by rw [hA, hzv]; rfl
       obtain ⟨n1, hn1⟩ := nm (n + 1)
       obtain ⟨lo1, hlo1⟩ := nm (lo ++ [.int .i64 zv])
       have a1 : A.eqn n n = true := by rw [hA]; simp [std]
       have a2 : A.fits n 1 = true := by rw [hA]; simp [std]; omega
       have a3 : A.addn n 1 = n1 := by rw [hA, hn1]; rfl
       have a4 : A.app lo [.int .i64 zv] = lo1 := by rw [hA, hlo1]; rfl
       have c1 : A.add .i64 (Int.ofNat n) 1 = Int.ofNat n1 := by rw [hA, hn1]; exact (wrap64 (by simp; omega) (by simp; omega)).trans (by simp)
       refine zaa zag hA rfl rfl 400 ?_
       conv => arg 3; cbv
       repeat (simp only [c1, rgz, z1, a1, a2, a3, a4, q2]; try (conv => arg 3; cbv))
       refine zai (l := [0, 1, 2, 9, 4, 5, 6, 7]) ⟨rfl, rfl, rfl⟩ hL2 (⟨⟨pt15, n + 1, n1, lo1, l' ++ [zv]⟩, hok.snoc (y := zv) hzv2 _ _ hn1 hlo1, by dsimp only; omega⟩ : { x : GSt Int // x.Ok (fun x => [iv x]) (fun x => 0 ≤ x ∧ x < rg) ∧ 0 ≤ x.pt ∧ x.pt ≤ 5 + 2 * (x.n : Int) ∧ x.n ≤ 6 }) ?_ rfl rfl rfl ?_ ?_ ?_ ?_
       ·dsimp only
        omega
       ·intro b hb
        simp only [List.mem_cons, List.not_mem_nil, or_false] at hb
        rcases hb with rfl | rfl | rfl | rfl | rfl | rfl | rfl | rfl <;> simp [MB.ok, S1.ok]
       ·exact zao (by cbv <;> trivial)
       ·exact ⟨.inr rfl, .inr rfl, .inr rfl, .inr rfl, .inr rfl, .inr rfl, .inr rfl, .inr rfl, trivial⟩
       ·cbv
        simp
      ·have q2 : A.lt (Int.ofNat n) 6 = false := by rw [hA]; simp [std]; omega
       refine zaa zag hA rfl rfl 400 ?_
       conv => arg 3; cbv
       repeat (simp only [q2]; try (conv => arg 3; cbv))
       refine zck [5, 27, 28, 29, 30, 31, 32, 33, 34, 35, 36, 37, 38, 39, 40, 41, 42, 43, 44, 45, 46, 47, 48, 49, 50] ?_
       conv => arg 3; cbv
       exact HR ⟨pt15, 0, n, lo, l'⟩ ⟨hok.at _ _, by dsimp only; omega⟩
   case rest1 =>
    intro x hx
    obtain ⟨pt, _, nz, loz, lz⟩ := x
    obtain ⟨hkz, hbz⟩ := hx
    dsimp only at hbz ⊢
    have hnz : nz = lz.length := hkz.n
    have hloz : loz = _ := hkz.lo
    obtain ⟨zi, hzi⟩ := nm ((nz : Int))
    have gz : A.len nz = zi := by rw [hA, hzi]; rfl
    have gz0 : A.not (A.eq zi 0) = true := by rw [hA]; simp [std]; omega
    refine zaa zag hA rfl rfl 400 ?_
    conv => arg 3; cbv
    refine zbh 2 (α := { x : GSt (Int × Int) // x.Ok pairCells (fun x => (0 ≤ x.1 ∧ x.1 < (nz : Int)) ∧ 1 ≤ x.2 ∧ x.2 ≤ 4194304) ∧ 0 ≤ x.pt ∧ x.pt ≤ 19 + 2 * (x.n : Int) ∧ x.n ≤ 7 }) [51, 52, 53, 54, 55, 56, 57, 58, 59, 60, 61, 62, 63, 64, 65, 66, 67, 68, 69, 70, 71, 72, 73, 74, 75, 76, 77, 78, 79] (fun x => [(6, .one (.val (.int .i64 (Int.ofNat x.1.n))))]) (fun x => [.own 36 [.val (.int .i64 0), .val (.slice none 0 0), .val (.slice none 0 0), .val (.slice none 0 0), .val (.slice none 0 0), .val (.slice none 0 0), .val (.slice none 0 0), .val (.int .i64 0), .val (.int .i64 0), .val (.int .i64 0)], .own 150 [.val (.slice Ad ln cp), .val (.int .i64 x.1.pt)], .own 36 [.val (.int .i64 rg), .gsl 3 nz, .gsl 4 x.1.n, .gsl 5 0, .val (.slice none 0 0), .gsl 6 0, .gsl 7 0, .val (.int .i64 bl), .val (.int .i64 le), .val (.int .i64 ba)], .grow 113 1 nz loz, .grow 115 2 x.1.n x.1.lo, .grow 118 7 0 [], .grow 3 1 0 [], .grow 3 1 0 []]) (fun x => 8 - x.1.n) ⟨⟨pt, 0, 0, [], []⟩, .nil _ _, by dsimp only; omega⟩ ?_ ?_ (fun x => rfl) (fun x y hy => zbl hy trivial) rfl (fun x L' hL1 hL2 => ?_)
    ·cbv
     simp
    ·rfl
    ·obtain ⟨⟨pt, i, n, lo, l'⟩, hok, hb⟩ := x
     dsimp only at hb ⊢
     have hkn : n = l'.length := hok.n
     refine good_join (α := GSt (Int × Int)) (fun x => x.Ok pairCells (fun x => (0 ≤ x.1 ∧ x.1 < (nz : Int)) ∧ 1 ≤ x.2 ∧ x.2 ≤ 4194304) ∧ 0 ≤ x.pt ∧ x.pt ≤ 35 ∧ zi ≤ (x.n : Int) ∧ x.n ≤ 7) ?k2 ?tm2 (fun x => [.own 36 [.val (.int .i64 0), .val (.slice none 0 0), .val (.slice none 0 0), .val (.slice none 0 0), .val (.slice none 0 0), .val (.slice none 0 0), .val (.slice none 0 0), .val (.int .i64 0), .val (.int .i64 0), .val (.int .i64 0)], .own 150 [.val (.slice Ad ln cp), .val (.int .i64 x.pt)], .own 36 [.val (.int .i64 rg), .gsl 3 nz, .gsl 4 x.n, .gsl 5 0, .val (.slice none 0 0), .gsl 6 0, .gsl 7 0, .val (.int .i64 bl), .val (.int .i64 le), .val (.int .i64 ba)], .grow 113 1 nz loz, .grow 115 2 x.n x.lo, .grow 118 7 0 [], .grow 3 1 0 [], .grow 3 1 0 []]) ?rest2 (fun HR => ?main2)
     case main2 =>
      by_cases hi : (n : Int) < zi
      ·have q1 : A.lt (Int.ofNat n) zi = true := by rw [hA]; simp [std]; omega
       obtain ⟨cv, hcv⟩ := nm ((Int.ofNat n).tmod zi)
       have hcv2 : 0 ≤ cv ∧ cv < zi := by rw [hcv]; exact tmod_lt (by simp) (by omega)
       have z1 : A.rem (Int.ofNat n) zi = cv := by rw [hA, hcv]; rfl
       refine zaa zag hA rfl rfl 400 ?_
       conv => arg 3; cbv
       repeat (simp only [gz, gz0, z1, q1]; try (conv => arg 3; cbv))
       refine za9 1 rfl hln (by omega) hl hrd (by omega) rfl (fun r17 pt18 h19 hp20 => ?_)
       obtain ⟨cm, hcm⟩ := nm (r17 * 10)
       have z2 : A.mul .i64 r17 10 = cm := by rw [hA, hcm]; exact wrap64 (by omega) (by omega)
       obtain ⟨n1, hn1⟩ := nm (n + 1)
       obtain ⟨lo1, hlo1⟩ := nm (lo ++ [.int .i64 cv, .int .i64 cm])
       have a1 : A.eqn n n = true := by rw [hA]; simp [std]
       have a2 : A.fits n 1 = true := by rw [hA]; simp [std]; omega
       have a3 : A.addn n 1 = n1 := by rw [hA, hn1]; rfl
       have a4 : A.app lo [.int .i64 cv, .int .i64 cm] = lo1 := by rw [hA, hlo1]; rfl
       have c1 : A.add .i64 (Int.ofNat n) 1 = Int.ofNat n1 := by rw [hA, hn1]; exact (wrap64 (by simp; omega) (by simp; omega)).trans (by simp)
       refine zaa zag hA rfl rfl 400 ?_
       conv => arg 3; cbv
       repeat (simp only [z2, gz, a1, a2, a3, a4, c1]; try (conv => arg 3; cbv))
       refine zai (l := [0, 1, 2, 3, 9, 5, 6, 7]) ⟨rfl, rfl, rfl⟩ hL2 (⟨⟨pt18, n + 1, n1, lo1, l' ++ [(cv, cm)]⟩, hok.snoc (y := (cv, cm)) ⟨by dsimp only; omega, by dsimp only; omega⟩ _ _ hn1 hlo1, by dsimp only; omega⟩ : { x : GSt (Int × Int) // x.Ok pairCells (fun x => (0 ≤ x.1 ∧ x.1 < (nz : Int)) ∧ 1 ≤ x.2 ∧ x.2 ≤ 4194304) ∧ 0 ≤ x.pt ∧ x.pt ≤ 19 + 2 * (x.n : Int) ∧ x.n ≤ 7 }) ?_ rfl rfl rfl ?_ ?_ ?_ ?_
       ·dsimp only
        omega
       ·intro b hb
        simp only [List.mem_cons, List.not_mem_nil, or_false] at hb
        rcases hb with rfl | rfl | rfl | rfl | rfl | rfl | rfl | rfl <;> simp [MB.ok, S1.ok]
       ·exact zao (by cbv <;> trivial)
       ·exact ⟨.inr rfl, .inr rfl, .inr rfl, .inr rfl, .inr rfl, .inr rfl, .inr rfl, .inr rfl, trivial⟩
       ·cbv
        simp
      ·have q1 : A.lt (Int.ofNat n) zi = false := by rw [hA]; simp [std]; omega
       refine zaa zag hA rfl rfl 400 ?_
       conv => arg 3; cbv
       repeat (simp only [gz, q1]; try (conv => arg 3; cbv))
       refine zcj 1 rfl hln (by omega) hl hrd (by omega) (by omega) rfl (fun b21 pt22 hp23 => ?_)
       cases b21
       ·refine zaa zag hA rfl rfl 400 ?_
        conv => arg 3; cbv
        repeat (simp only [gz]; try (conv => arg 3; cbv))
        refine zck [6, 51, 52, 53, 54, 55, 56, 57, 58, 59, 60, 61, 62, 63, 64, 65, 66, 67, 68, 69, 70, 71, 72, 73, 74, 75, 76, 77, 78, 79] ?_
        conv => arg 3; cbv
        exact HR ⟨pt22, 0, n, lo, l'⟩ ⟨hok.at _ _, by dsimp only; omega⟩
       ·by_cases hi2 : n < 7
        ·have q2 : A.lt (Int.ofNat n) 7 = true := by rw [hA]; simp [std]; omega
         obtain ⟨cv, hcv⟩ := nm ((Int.ofNat n).tmod zi)
         have hcv2 : 0 ≤ cv ∧ cv < zi := by rw [hcv]; exact tmod_lt (by simp) (by omega)
         have z1 : A.rem (Int.ofNat n) zi = cv := by rw [hA, hcv]; rfl
         refine zaa zag hA rfl rfl 400 ?_
         conv => arg 3; cbv
         repeat (simp only [gz, gz0, z1, q2]; try (conv => arg 3; cbv))
         refine za9 1 rfl hln (by omega) hl hrd (by omega) rfl (fun r24 pt25 h26 hp27 => ?_)
         obtain ⟨cm, hcm⟩ := nm (r24 * 10)
         have z2 : A.mul .i64 r24 10 = cm := by rw [hA, hcm]; exact wrap64 (by omega) (by omega)
         obtain ⟨n1, hn1⟩ := nm (n + 1)
         obtain ⟨lo1, hlo1⟩ := nm (lo ++ [.int .i64 cv, .int .i64 cm])
         have a1 : A.eqn n n = true := by rw [hA]; simp [std]
         have a2 : A.fits n 1 = true := by rw [hA]; simp [std]; omega
         have a3 : A.addn n 1 = n1 := by rw [hA, hn1]; rfl
         have a4 : A.app lo [.int .i64 cv, .int .i64 cm] = lo1 := by rw [hA, hlo1]; rfl
         have c1 : A.add .i64 (Int.ofNat n) 1 = Int.ofNat n1 := by rw [hA, hn1]; exact (wrap64 (by simp; omega) (by simp; omega)).trans (by simp)
         refine zaa zag hA rfl rfl 400 ?_
         conv => arg 3; cbv
         repeat (simp only [z2, gz, a1, a2, a3, a4, c1]; try (conv => arg 3; cbv))
         refine zai (l := [0, 1, 2, 3, 9, 5, 6, 7]) ⟨rfl, rfl, rfl⟩ hL2 (⟨⟨pt25, n + 1, n1, lo1, l' ++ [(cv, cm)]⟩, hok.snoc (y := (cv, cm)) ⟨by dsimp only; omega, by dsimp only; omega⟩ _ _ hn1 hlo1, by dsimp only; omega⟩ : { x : GSt (Int × Int) // x.Ok pairCells (fun x => (0 ≤ x.1 ∧ x.1 < (nz : Int)) ∧ 1 ≤ x.2 ∧ x.2 ≤ 4194304) ∧ 0 ≤ x.pt ∧ x.pt ≤ 19 + 2 * (x.n : Int) ∧ x.n ≤ 7 }) ?_ rfl rfl rfl ?_ ?_ ?_ ?_
         ·dsimp only
          omega
         ·intro b hb
          simp only [List.mem_cons, List.not_mem_nil, or_false] at hb
          rcases hb with rfl | rfl | rfl | rfl | rfl | rfl | rfl | rfl <;> simp [MB.ok, S1.ok]
         ·exact zao (by cbv <;> trivial)
         ·exact ⟨.inr rfl, .inr rfl, .inr rfl, .inr rfl, .inr rfl, .inr rfl, .inr rfl, .inr rfl, trivial⟩
         ·cbv
          simp
        ·have q2 : A.lt (Int.ofNat n) 7 = false := by rw [hA]; simp [std]; omega
         refine zaa zag hA rfl rfl 400 ?_
         conv => arg 3; cbv
         repeat (simp only [gz, q2]; try (conv => arg 3; cbv))
         refine zck [6, 51, 52, 53, 54, 55, 56, 57, 58, 59, 60, 61, 62, 63, 64, 65, 66, 67, 68, 69, 70, 71, 72, 73, 74, 75, 76, 77, 78, 79] ?_
         conv => arg 3; cbv
         exact HR ⟨pt22, 0, n, lo, l'⟩ ⟨hok.at _ _, by dsimp only; omega⟩
     case rest2 =>
      intro x hx
      obtain ⟨pt, _, nc, loc, lc⟩ := x
      obtain ⟨hkc, hbc⟩ := hx
      dsimp only at hbc ⊢
      have hnc : nc = lc.length := hkc.n
      have hloc : loc = _ := hkc.lo
      refine zav 1 rfl hln (by omega) hl hrd (by omega) (by omega) rfl (fun rt ptt hrt hptt => ?_)
      obtain ⟨kt, rfl⟩ : ∃ k : Nat, rt = Int.ofNat k := ⟨rt.toNat, (Int.toNat_of_nonneg (by omega)).symm⟩
      refine zaa zag hA rfl rfl 400 ?_
      conv => arg 3; cbv
      obtain ⟨s2, al, e1, e2, e3, hal⟩ : ∃ s2 al : Int, A.conv .u64 rg = rg ∧ A.shl .i64 1 rg = s2 ∧ A.sub .i64 s2 1 = al ∧ 1 ≤ al ∧ al ≤ 7 ∧ al < 2 ^ rg.toNat := by
       rw [hA]
       rcases (show rg = 1 ∨ rg = 2 ∨ rg = 3 by omega) with h | h | h <;> rw [h]
       ·exact ⟨2, 1, rfl, rfl, rfl, by decide⟩
       ·exact ⟨4, 3, rfl, rfl, rfl, by decide⟩
       ·exact ⟨8, 7, rfl, rfl, rfl, by decide⟩
      have e0 : A.le 0 rg = true := by rw [hA]; simp [std]; omega
      refine zbh 3 (α := { x : GSt TenD // x.Ok TenD.cells (TenOk rg) ∧ 0 ≤ x.pt ∧ x.pt ≤ 36 + 10 * (x.n : Int) ∧ x.i + x.n ≤ 5 }) [8, 9, 82, 83, 84, 85, 86, 87, 88, 89, 90, 91, 92, 93, 94, 95, 96, 97, 98, 99, 100, 101, 102, 103, 104, 105, 106, 107, 108, 109, 110, 111, 112, 113, 114, 115, 116, 117, 118, 119, 120, 121, 122] (fun x => [(7, .one (.val (.int .i64 (Int.ofNat x.1.i))))]) (fun x => [.own 36 [.val (.int .i64 0), .val (.slice none 0 0), .val (.slice none 0 0), .val (.slice none 0 0), .val (.slice none 0 0), .val (.slice none 0 0), .val (.slice none 0 0), .val (.int .i64 0), .val (.int .i64 0), .val (.int .i64 0)], .own 150 [.val (.slice Ad ln cp), .val (.int .i64 x.1.pt)], .own 36 [.val (.int .i64 rg), .gsl 3 nz, .gsl 4 nc, .gsl 5 x.1.n, .val (.slice none 0 0), .gsl 6 0, .gsl 7 0, .val (.int .i64 bl), .val (.int .i64 le), .val (.int .i64 ba)], .grow 113 1 nz loz, .grow 115 2 nc loc, .grow 118 7 x.1.n x.1.lo, .grow 3 1 0 [], .grow 3 1 0 []]) (fun x => x.1.i) ⟨⟨ptt, kt, 0, [], []⟩, .nil _ _, by dsimp only; simp at hrt; omega⟩ ?_ ?_ (fun x => rfl) (fun x y hy => zbl hy trivial) rfl (fun x L' hL1 hL2 => ?_)
      ·cbv
       simp
      ·rfl
      ·by_cases hi : 0 < x.1.i
       ·obtain ⟨⟨pt, i, n, lo, l'⟩, hok, hb⟩ := x
        dsimp only at hb ⊢
        dsimp only at hi
        have hkn : n = l'.length := hok.n
        obtain ⟨i1, hi1⟩ := nm (i - 1)
        have c1 : A.sub .i64 (Int.ofNat i) 1 = Int.ofNat i1 := by rw [hA, hi1]; exact (wrap64 (by simp; omega) (by simp; omega)).trans (by simp; omega)
        have q1 : A.lt 0 (Int.ofNat i) = true := by rw [hA]; simp [std]; omega
        refine zaa zag hA rfl rfl 400 ?_
        conv => arg 3; cbv
        repeat (simp only [q1]; try (conv => arg 3; cbv))
        refine za9 1 rfl hln (by omega) hl hrd (by omega) rfl (fun ld pa hld hpa => ?_)
        obtain ⟨ld1, hld1⟩ := nm (ld + 1)
        have e4 : A.add .i64 ld 1 = ld1 := by rw [hA, hld1]; exact wrap64 (by omega) (by omega)
        refine good_join (α := TenD × Int) (fun x => TenOk rg x.1 ∧ 0 ≤ x.2 ∧ x.2 ≤ pt + 6) ?k3 ?tm3 (fun x => [.own 36 [.val (.int .i64 0), .val (.slice none 0 0), .val (.slice none 0 0), .val (.slice none 0 0), .val (.slice none 0 0), .val (.slice none 0 0), .val (.slice none 0 0), .val (.int .i64 0), .val (.int .i64 0), .val (.int .i64 0)], .own 150 [.val (.slice Ad ln cp), .val (.int .i64 x.2)], .own 36 [.val (.int .i64 rg), .gsl 3 nz, .gsl 4 nc, .gsl 5 n, .val (.slice none 0 0), .gsl 6 0, .gsl 7 0, .val (.int .i64 bl), .val (.int .i64 le), .val (.int .i64 ba)], .grow 113 1 nz loz, .grow 115 2 nc loc, .grow 118 7 n lo, .grow 3 1 0 [], .grow 3 1 0 [], .own 118 [.val (.int .i64 x.1.load), .val (.int .i64 x.1.shadow), .val (.int .i64 x.1.prio), .val (.int .i64 x.1.lag), .val (.int .i64 x.1.allowed), .val (.int .i64 x.1.group), .val (.bool x.1.noisy)]]) ?rest3 (fun HR => ?main3)
        case main3 =>
         refine zaa zag hA rfl rfl 400 ?_
         conv => arg 3; cbv
         repeat (simp only [e0, e1, e2, e3, e4]; try (conv => arg 3; cbv))
         refine good_hfork zag 4 19 rfl rfl rfl rfl rfl rfl rfl (by rfl) rfl rfl rfl (by rfl) rfl ?_ ?_
         ·refine zav 1 rfl hln (by omega) hl hrd (by omega) (by omega) rfl (fun sh p1 hsh hp1 => ?_)
          refine zaa zag hA rfl rfl 400 ?_
          conv => arg 3; cbv
          repeat (simp only [e0, e1, e2, e3, e4]; try (conv => arg 3; cbv))
          refine good_hfork zag 6 19 rfl rfl rfl rfl rfl rfl rfl (by rfl) rfl rfl rfl (by rfl) rfl ?_ ?_
          ·refine zav 1 rfl hln (by omega) hl hrd (by omega) (by omega) rfl (fun pr p2 hpr hp2 => ?_)
           refine zaa zag hA rfl rfl 400 ?_
           conv => arg 3; cbv
           repeat (simp only [e0, e1, e2, e3, e4]; try (conv => arg 3; cbv))
           refine good_hfork zag 8 19 rfl rfl rfl rfl rfl rfl rfl (by rfl) rfl rfl rfl (by rfl) rfl ?_ ?_
           ·refine za9 1 rfl hln (by omega) hl hrd (by omega) rfl (fun la p3 hla hp3 => ?_)
            refine zaa zag hA rfl rfl 400 ?_
            conv => arg 3; cbv
            repeat (simp only [e0, e1, e2, e3, e4]; try (conv => arg 3; cbv))
            refine good_hfork zag 15 19 rfl rfl rfl rfl rfl rfl rfl (by rfl) rfl rfl rfl (by rfl) rfl ?_ ?_
            ·refine zav 1 rfl hln (by omega) hl hrd (by omega) (by omega) rfl (fun gr p4 hgr hp4 => ?_)
             refine zaa zag hA rfl rfl 400 ?_
             conv => arg 3; cbv
             repeat (simp only [e0, e1, e2, e3, e4]; try (conv => arg 3; cbv))
             refine good_hfork zag 17 19 rfl rfl rfl rfl rfl rfl rfl (by rfl) rfl rfl rfl (by rfl) rfl ?_ ?_
             ·refine zcj 1 rfl hln (by omega) hl hrd (by omega) (by omega) rfl (fun no p5 hp5 => ?_)
              refine zaa zag hA rfl rfl 400 ?_
              conv => arg 3; cbv
              repeat (simp only [e0, e1, e2, e3, e4]; try (conv => arg 3; cbv))
              refine good_hforkE zag 18 19 rfl rfl rfl rfl rfl rfl rfl (by rfl) rfl rfl rfl (by rfl) rfl ?_ ?_
              ·refine zaa zag hA rfl rfl 400 ?_
               conv => arg 3; cbv
               refine zck [8, 86, 87, 88, 89, 90, 91, 92, 93, 94, 95, 96, 97, 98, 99, 100, 101, 102, 103, 104, 105, 106] ?_
               conv => arg 3; cbv
               exact HR ⟨⟨ld, sh, pr, la, al, gr, no⟩, p5⟩ ⟨⟨by dsimp only; omega, by dsimp only; omega, by dsimp only; omega, by dsimp only; omega, ⟨hal.1, hal.2.2⟩, by dsimp only; omega⟩, by dsimp only; omega⟩
              ·refine zaa zag hA rfl rfl 400 ?_
               conv => arg 3; cbv
               refine zck [8, 86, 87, 88, 89, 90, 91, 92, 93, 94, 95, 96, 97, 98, 99, 100, 101, 102, 103, 104, 105, 106] ?_
               conv => arg 3; cbv
               exact HR ⟨⟨ld, sh, pr, la, al, gr, no⟩, p5⟩ ⟨⟨by dsimp only; omega, by dsimp only; omega, by dsimp only; omega, by dsimp only; omega, ⟨hal.1, hal.2.2⟩, by dsimp only; omega⟩, by dsimp only; omega⟩
             ·refine zaa zag hA rfl rfl 400 ?_
              conv => arg 3; cbv
              repeat (simp only [e0, e1, e2, e3, e4]; try (conv => arg 3; cbv))
              refine zcj 1 rfl hln (by omega) hl hrd (by omega) (by omega) rfl (fun no p5 hp5 => ?_)
              refine zaa zag hA rfl rfl 400 ?_
              conv => arg 3; cbv
              repeat (simp only [e0, e1, e2, e3, e4]; try (conv => arg 3; cbv))
              refine zck [8, 86, 87, 88, 89, 90, 91, 92, 93, 94, 95, 96, 97, 98, 99, 100, 101, 102, 103, 104, 105, 106] ?_
              conv => arg 3; cbv
              exact HR ⟨⟨ld, sh, pr, la, al, gr, no⟩, p5⟩ ⟨⟨by dsimp only; omega, by dsimp only; omega, by dsimp only; omega, by dsimp only; omega, ⟨hal.1, hal.2.2⟩, by dsimp only; omega⟩, by dsimp only; omega⟩
            ·refine zaa zag hA rfl rfl 400 ?_
             conv => arg 3; cbv
             repeat (simp only [e0, e1, e2, e3, e4]; try (conv => arg 3; cbv))
             refine zav 1 rfl hln (by omega) hl hrd (by omega) (by omega) rfl (fun gr p4 hgr hp4 => ?_)
             refine zaa zag hA rfl rfl 400 ?_
             conv => arg 3; cbv
             repeat (simp only [e0, e1, e2, e3, e4]; try (conv => arg 3; cbv))
             refine zcj 1 rfl hln (by omega) hl hrd (by omega) (by omega) rfl (fun no p5 hp5 => ?_)
             refine zaa zag hA rfl rfl 400 ?_
             conv => arg 3; cbv
             repeat (simp only [e0, e1, e2, e3, e4]; try (conv => arg 3; cbv))
             refine zck [8, 86, 87, 88, 89, 90, 91, 92, 93, 94, 95, 96, 97, 98, 99, 100, 101, 102, 103, 104, 105, 106] ?_
             conv => arg 3; cbv
             exact HR ⟨⟨ld, sh, pr, la, al, gr, no⟩, p5⟩ ⟨⟨by dsimp only; omega, by dsimp only; omega, by dsimp only; omega, by dsimp only; omega, ⟨hal.1, hal.2.2⟩, by dsimp only; omega⟩, by dsimp only; omega⟩
           ·refine zaa zag hA rfl rfl 400 ?_
            conv => arg 3; cbv
            repeat (simp only [e0, e1, e2, e3, e4]; try (conv => arg 3; cbv))
            refine za9 1 rfl hln (by omega) hl hrd (by omega) rfl (fun la p3 hla hp3 => ?_)
            refine zaa zag hA rfl rfl 400 ?_
            conv => arg 3; cbv
            repeat (simp only [e0, e1, e2, e3, e4]; try (conv => arg 3; cbv))
            refine zav 1 rfl hln (by omega) hl hrd (by omega) (by omega) rfl (fun gr p4 hgr hp4 => ?_)
            refine zaa zag hA rfl rfl 400 ?_
            conv => arg 3; cbv
            repeat (simp only [e0, e1, e2, e3, e4]; try (conv => arg 3; cbv))
            refine zcj 1 rfl hln (by omega) hl hrd (by omega) (by omega) rfl (fun no p5 hp5 => ?_)
            refine zaa zag hA rfl rfl 400 ?_
            conv => arg 3; cbv
            repeat (simp only [e0, e1, e2, e3, e4]; try (conv => arg 3; cbv))
            refine zck [8, 86, 87, 88, 89, 90, 91, 92, 93, 94, 95, 96, 97, 98, 99, 100, 101, 102, 103, 104, 105, 106] ?_
            conv => arg 3; cbv
            exact HR ⟨⟨ld, sh, pr, la, al, gr, no⟩, p5⟩ ⟨⟨by dsimp only; omega, by dsimp only; omega, by dsimp only; omega, by dsimp only; omega, ⟨hal.1, hal.2.2⟩, by dsimp only; omega⟩, by dsimp only; omega⟩
          ·refine zaa zag hA rfl rfl 400 ?_
           conv => arg 3; cbv
           repeat (simp only [e0, e1, e2, e3, e4]; try (conv => arg 3; cbv))
           refine zav 1 rfl hln (by omega) hl hrd (by omega) (by omega) rfl (fun pr p2 hpr hp2 => ?_)
           refine zaa zag hA rfl rfl 400 ?_
           conv => arg 3; cbv
           repeat (simp only [e0, e1, e2, e3, e4]; try (conv => arg 3; cbv))
           refine za9 1 rfl hln (by omega) hl hrd (by omega) rfl (fun la p3 hla hp3 => ?_)
           refine zaa zag hA rfl rfl 400 ?_
           conv => arg 3; cbv
           repeat (simp only [e0, e1, e2, e3, e4]; try (conv => arg 3; cbv))
           refine zav 1 rfl hln (by omega) hl hrd (by omega) (by omega) rfl (fun gr p4 hgr hp4 => ?_)
           refine zaa zag hA rfl rfl 400 ?_
           conv => arg 3; cbv
           repeat (simp only [e0, e1, e2, e3, e4]; try (conv => arg 3; cbv))
           refine zcj 1 rfl hln (by omega) hl hrd (by omega) (by omega) rfl (fun no p5 hp5 => ?_)
           refine zaa zag hA rfl rfl 400 ?_
           conv => arg 3; cbv
           repeat (simp only [e0, e1, e2, e3, e4]; try (conv => arg 3; cbv))
           refine zck [8, 86, 87, 88, 89, 90, 91, 92, 93, 94, 95, 96, 97, 98, 99, 100, 101, 102, 103, 104, 105, 106] ?_
           conv => arg 3; cbv
           exact HR ⟨⟨ld, sh, pr, la, al, gr, no⟩, p5⟩ ⟨⟨by dsimp only; omega, by dsimp only; omega, by dsimp only; omega, by dsimp only; omega, ⟨hal.1, hal.2.2⟩, by dsimp only; omega⟩, by dsimp only; omega⟩
         ·refine zaa zag hA rfl rfl 400 ?_
          conv => arg 3; cbv
          repeat (simp only [e0, e1, e2, e3, e4]; try (conv => arg 3; cbv))
          refine zav 1 rfl hln (by omega) hl hrd (by omega) (by omega) rfl (fun sh p1 hsh hp1 => ?_)
          refine zaa zag hA rfl rfl 400 ?_
          conv => arg 3; cbv
          repeat (simp only [e0, e1, e2, e3, e4]; try (conv => arg 3; cbv))
          refine zav 1 rfl hln (by omega) hl hrd (by omega) (by omega) rfl (fun pr p2 hpr hp2 => ?_)
          refine zaa zag hA rfl rfl 400 ?_
          conv => arg 3; cbv
          repeat (simp only [e0, e1, e2, e3, e4]; try (conv => arg 3; cbv))
          refine za9 1 rfl hln (by omega) hl hrd (by omega) rfl (fun la p3 hla hp3 => ?_)
          refine zaa zag hA rfl rfl 400 ?_
          conv => arg 3; cbv
          repeat (simp only [e0, e1, e2, e3, e4]; try (conv => arg 3; cbv))
          refine zav 1 rfl hln (by omega) hl hrd (by omega) (by omega) rfl (fun gr p4 hgr hp4 => ?_)
          refine zaa zag hA rfl rfl 400 ?_
          conv => arg 3; cbv
          repeat (simp only [e0, e1, e2, e3, e4]; try (conv => arg 3; cbv))
          refine zcj 1 rfl hln (by omega) hl hrd (by omega) (by omega) rfl (fun no p5 hp5 => ?_)
          refine zaa zag hA rfl rfl 400 ?_
          conv => arg 3; cbv
          repeat (simp only [e0, e1, e2, e3, e4]; try (conv => arg 3; cbv))
          refine zck [8, 86, 87, 88, 89, 90, 91, 92, 93, 94, 95, 96, 97, 98, 99, 100, 101, 102, 103, 104, 105, 106] ?_
          conv => arg 3; cbv
          exact HR ⟨⟨ld, sh, pr, la, al, gr, no⟩, p5⟩ ⟨⟨by dsimp only; omega, by dsimp only; omega, by dsimp only; omega, by dsimp only; omega, ⟨hal.1, hal.2.2⟩, by dsimp only; omega⟩, by dsimp only; omega⟩
        case rest3 =>
         intro x hx
         obtain ⟨⟨ld', sh, pr, la, al0, gr, no⟩, pt1⟩ := x
         obtain ⟨htk, hpt1⟩ := hx
         dsimp only at hpt1 ⊢
         refine zaa zag hA rfl rfl 400 ?_
         conv => arg 3; cbv
         refine zcj 1 rfl hln (by omega) hl hrd (by omega) (by omega) rfl (fun b p1 hp1 => ?_)
         cases b
         ·obtain ⟨n1, hn1⟩ := nm (n + 1)
          obtain ⟨lo1, hlo1⟩ := nm (lo ++ [.int .i64 ld', .int .i64 sh, .int .i64 pr, .int .i64 la, .int .i64 al0, .int .i64 gr, .bool no])
          have a1 : A.eqn n n = true := by rw [hA]; simp [std]
          have a2 : A.fits n 1 = true := by rw [hA]; simp [std]; omega
          have a3 : A.addn n 1 = n1 := by rw [hA, hn1]; rfl
          have a4 : A.app lo [.int .i64 ld', .int .i64 sh, .int .i64 pr, .int .i64 la, .int .i64 al0, .int .i64 gr, .bool no] = lo1 := by rw [hA, hlo1]; rfl
          refine zaa zag hA rfl rfl 400 ?_
          conv => arg 3; cbv
          repeat (simp only [e0, e1, e2, e3, e4, a1, a2, a3, a4, c1]; try (conv => arg 3; cbv))
          refine zai (l := [0, 1, 2, 3, 4, 10, 6, 7]) ⟨rfl, rfl, rfl⟩ hL2 (⟨⟨p1, i1, n1, lo1, l' ++ [⟨ld', sh, pr, la, al0, gr, no⟩]⟩, hok.snoc (y := ⟨ld', sh, pr, la, al0, gr, no⟩) htk _ _ hn1 hlo1, by dsimp only; omega⟩ : { x : GSt TenD // x.Ok TenD.cells (TenOk rg) ∧ 0 ≤ x.pt ∧ x.pt ≤ 36 + 10 * (x.n : Int) ∧ x.i + x.n ≤ 5 }) ?_ rfl rfl rfl ?_ ?_ ?_ ?_
          ·dsimp only
           omega
          ·intro b hb
           simp only [List.mem_cons, List.not_mem_nil, or_false] at hb
           rcases hb with rfl | rfl | rfl | rfl | rfl | rfl | rfl | rfl <;> simp [MB.ok, S1.ok]
          ·exact zao (by cbv <;> trivial)
          ·exact ⟨.inr rfl, .inr rfl, .inr rfl, .inr rfl, .inr rfl, .inr rfl, .inr rfl, .inr rfl, trivial⟩
          ·cbv
           simp
         ·refine zaa zag hA rfl rfl 400 ?_
          conv => arg 3; cbv
          repeat (simp only [e0, e1, e2, e3, e4]; try (conv => arg 3; cbv))
          refine za9 1 rfl hln (by omega) hl hrd (by omega) rfl (fun r9 p2 hr9 hp2 => ?_)
          obtain ⟨n1, hn1⟩ := nm (n + 1)
          obtain ⟨lo1, hlo1⟩ := nm (lo ++ [.int .i64 ld', .int .i64 sh, .int .i64 pr, .int .i64 la, .int .i64 r9, .int .i64 gr, .bool no])
          have a1 : A.eqn n n = true := by rw [hA]; simp [std]
          have a2 : A.fits n 1 = true := by rw [hA]; simp [std]; omega
          have a3 : A.addn n 1 = n1 := by rw [hA, hn1]; rfl
          have a4 : A.app lo [.int .i64 ld', .int .i64 sh, .int .i64 pr, .int .i64 la, .int .i64 r9, .int .i64 gr, .bool no] = lo1 := by rw [hA, hlo1]; rfl
          refine zaa zag hA rfl rfl 400 ?_
          conv => arg 3; cbv
          repeat (simp only [e0, e1, e2, e3, e4, a1, a2, a3, a4, c1]; try (conv => arg 3; cbv))
          refine zai (l := [0, 1, 2, 3, 4, 10, 6, 7]) ⟨rfl, rfl, rfl⟩ hL2 (⟨⟨p2, i1, n1, lo1, l' ++ [⟨ld', sh, pr, la, r9, gr, no⟩]⟩, hok.snoc (y := ⟨ld', sh, pr, la, r9, gr, no⟩) ⟨htk.load, htk.shadow, htk.prio, htk.lag, ⟨hr9.1, Int.lt_of_le_of_lt hr9.2 hal.2.2⟩, htk.group⟩ _ _ hn1 hlo1, by dsimp only; omega⟩ : { x : GSt TenD // x.Ok TenD.cells (TenOk rg) ∧ 0 ≤ x.pt ∧ x.pt ≤ 36 + 10 * (x.n : Int) ∧ x.i + x.n ≤ 5 }) ?_ rfl rfl rfl ?_ ?_ ?_ ?_
          ·dsimp only
           omega
          ·intro b hb
           simp only [List.mem_cons, List.not_mem_nil, or_false] at hb
           rcases hb with rfl | rfl | rfl | rfl | rfl | rfl | rfl | rfl <;> simp [MB.ok, S1.ok]
          ·exact zao (by cbv <;> trivial)
          ·exact ⟨.inr rfl, .inr rfl, .inr rfl, .inr rfl, .inr rfl, .inr rfl, .inr rfl, .inr rfl, trivial⟩
          ·cbv
           simp
       ·obtain ⟨⟨pt, ut, nt, lot, lt⟩, hkt, hbt⟩ := x
        dsimp only at hi hbt ⊢
        have hnt : nt = lt.length := hkt.n
        have hlot : lot = _ := hkt.lo
        have q1 : A.lt 0 (Int.ofNat ut) = false := by rw [hA]; simp [std]; omega
        refine zaa zag hA rfl rfl 400 ?_
        conv => arg 3; cbv
        repeat (simp only [q1]; try (conv => arg 3; cbv))
        refine zav 1 rfl hln (by omega) hl hrd (by omega) (by omega) rfl (fun v0 pv hv0 hpv => ?_)
        refine zaa zag hA rfl rfl 400 ?_
        conv => arg 3; cbv
        refine zav 1 rfl hln (by omega) hl hrd (by omega) (by omega) rfl (fun rv pw hrv hpw => ?_)
        obtain ⟨kv, rfl⟩ : ∃ k : Nat, rv = Int.ofNat k := ⟨rv.toNat, (Int.toNat_of_nonneg (by omega)).symm⟩
        refine zaa zag hA rfl rfl 400 ?_
        conv => arg 3; cbv
        refine good_ownG 2 4 8 1 2 (vs := [.int .i64 0, .int .i64 v0]) rfl (by decide) rfl rfl rfl (by omega) rfl (by simp [Value.oneCell']) ?_
        conv => arg 3; cbv
        refine zbh 4 (α := { x : GSt (Int × Int) // x.Ok pairCells (fun x => 0 ≤ x.1 ∧ x.1 ≤ x.2 ∧ x.2 ≤ 30) ∧ 0 ≤ x.pt ∧ x.pt ≤ 90 + 10 * (x.n : Int) ∧ x.i + x.n ≤ 3 ∧ 1 ≤ x.n ∧ ∃ a t, x.l = (0, a) :: t }) [11, 130, 131, 132, 133, 134, 135, 136, 137, 138, 139, 140, 141, 142, 143, 144, 145, 146] (fun x => [(10, .one (.val (.int .i64 (Int.ofNat x.1.i))))]) (fun x => [.own 36 [.val (.int .i64 0), .val (.slice none 0 0), .val (.slice none 0 0), .val (.slice none 0 0), .val (.slice none 0 0), .val (.slice none 0 0), .val (.slice none 0 0), .val (.int .i64 0), .val (.int .i64 0), .val (.int .i64 0)], .own 150 [.val (.slice Ad ln cp), .val (.int .i64 x.1.pt)], .own 36 [.val (.int .i64 rg), .gsl 3 nz, .gsl 4 nc, .gsl 5 nt, .gsl 9 x.1.n, .gsl 6 0, .gsl 7 0, .val (.int .i64 bl), .val (.int .i64 le), .val (.int .i64 ba)], .grow 113 1 nz loz, .grow 115 2 nc loc, .grow 118 7 nt lot, .grow 3 1 0 [], .grow 3 1 0 [], .dead, .grow 120 2 x.1.n x.1.lo]) (fun x => x.1.i) ⟨⟨pw, kv, 1, [.int .i64 0, .int .i64 v0], [(0, v0)]⟩, ⟨rfl, rfl, by simp; omega⟩, by dsimp only; omega, by dsimp only; omega, by dsimp only; simp at hrv; omega, by dsimp only; omega, v0, [], rfl⟩ ?_ ?_ (fun x => rfl) (fun x y hy => zbl hy trivial) rfl (fun x L' hL1 hL2 => ?_)
        ·cbv
         simp
        ·rfl
        ·by_cases hi : 0 < x.1.i
         ·obtain ⟨⟨pt, i, n, lo, l'⟩, hok, hb⟩ := x
          dsimp only at hb ⊢
          dsimp only at hi
          have hkn : n = l'.length := hok.n
          obtain ⟨i1, hi1⟩ := nm (i - 1)
          have c1 : A.sub .i64 (Int.ofNat i) 1 = Int.ofNat i1 := by rw [hA, hi1]; exact (wrap64 (by simp; omega) (by simp; omega)).trans (by simp; omega)
          have q1 : A.lt 0 (Int.ofNat i) = true := by rw [hA]; simp [std]; omega
          refine zaa zag hA rfl rfl 400 ?_
          conv => arg 3; cbv
          repeat (simp only [q1]; try (conv => arg 3; cbv))
          refine zav 1 rfl hln (by omega) hl hrd (by omega) (by omega) rfl (fun lw p1 hlw hp1 => ?_)
          refine zaa zag hA rfl rfl 400 ?_
          conv => arg 3; cbv
          refine zav 1 rfl hln (by omega) hl hrd (by omega) (by omega) rfl (fun r p2 hr hp2 => ?_)
          obtain ⟨hw, hhw⟩ := nm (lw + r)
          have e4 : A.add .i64 lw r = hw := by rw [hA, hhw]; exact wrap64 (by omega) (by omega)
          obtain ⟨n1, hn1⟩ := nm (n + 1)
          obtain ⟨lo1, hlo1⟩ := nm (lo ++ [.int .i64 lw, .int .i64 hw])
          have a1 : A.eqn n n = true := by rw [hA]; simp [std]
          have a2 : A.fits n 1 = true := by rw [hA]; simp [std]; omega
          have a3 : A.addn n 1 = n1 := by rw [hA, hn1]; rfl
          have a4 : A.app lo [.int .i64 lw, .int .i64 hw] = lo1 := by rw [hA, hlo1]; rfl
          refine zaa zag hA rfl rfl 400 ?_
          conv => arg 3; cbv
          repeat (simp only [e4, a1, a2, a3, a4, c1]; try (conv => arg 3; cbv))
          refine zai (l := [0, 1, 2, 3, 4, 5, 6, 7, 8, 11]) ⟨rfl, rfl, rfl⟩ hL2 (⟨⟨p2, i1, n1, lo1, l' ++ [(lw, hw)]⟩, hok.snoc (y := (lw, hw)) ⟨by dsimp only; omega, by dsimp only; omega, by dsimp only; omega⟩ _ _ hn1 hlo1, by dsimp only; omega, by dsimp only; omega, by dsimp only; omega, by dsimp only; omega, by obtain ⟨a, t, ht⟩ := hb.2.2.2.2; exact ⟨a, t ++ [(lw, hw)], by dsimp only at ht ⊢; rw [ht]; rfl⟩⟩ : { x : GSt (Int × Int) // x.Ok pairCells (fun x => 0 ≤ x.1 ∧ x.1 ≤ x.2 ∧ x.2 ≤ 30) ∧ 0 ≤ x.pt ∧ x.pt ≤ 90 + 10 * (x.n : Int) ∧ x.i + x.n ≤ 3 ∧ 1 ≤ x.n ∧ ∃ a t, x.l = (0, a) :: t }) ?_ rfl rfl rfl ?_ ?_ ?_ ?_
          ·dsimp only
           omega
          ·intro b hb
           simp only [List.mem_cons, List.not_mem_nil, or_false] at hb
           rcases hb with rfl | rfl | rfl | rfl | rfl | rfl | rfl | rfl | rfl | rfl <;> simp [MB.ok, S1.ok]
          ·exact zao (by cbv <;> trivial)
          ·exact ⟨.inr rfl, .inr rfl, .inr rfl, .inr rfl, .inr rfl, .inr rfl, .inr rfl, .inr rfl, .inl rfl, .inr rfl, trivial⟩
          ·cbv
           simp
         ·obtain ⟨⟨pt, uv, nv, lov, lv⟩, hkv, hbv⟩ := x
          dsimp only at hi hbv ⊢
          have hnv : nv = lv.length := hkv.n
          have hlov : lov = _ := hkv.lo
          have q1 : A.lt 0 (Int.ofNat uv) = false := by rw [hA]; simp [std]; omega
          refine zaa zag hA rfl rfl 400 ?_
          conv => arg 3; cbv
          repeat (simp only [q1]; try (conv => arg 3; cbv))
          refine zav 1 rfl hln (by omega) hl hrd (by omega) (by omega) rfl (fun rr pr hrr hpr => ?_)
          obtain ⟨kr, hkr0⟩ : ∃ k : Nat, (k : Int) = 2 * rr + 1 := ⟨(2 * rr + 1).toNat, Int.toNat_of_nonneg (by omega)⟩
          obtain ⟨m2, hm2⟩ := nm (2 * rr)
          have e5 : A.mul .i64 2 rr = m2 := by rw [hA, hm2]; exact wrap64 (by omega) (by omega)
          have e6 : A.add .i64 m2 1 = Int.ofNat kr := by rw [hA, hm2]; exact (wrap64 (by omega) (by omega)).trans hkr0.symm
          refine zaa zag hA rfl rfl 400 ?_
          conv => arg 3; cbv
          repeat (simp only [e5, e6]; try (conv => arg 3; cbv))
          refine zbh 5 (α := { x : GSt Int // x.Ok (fun x => [iv x]) (fun x => 0 ≤ x ∧ x < (nz : Int)) ∧ 0 ≤ x.pt ∧ x.pt ≤ 130 + 10 * (x.n : Int) ∧ x.i + x.n = kr }) [151, 152, 153, 154, 155, 156, 157, 158, 159, 160, 161, 162, 163, 164] (fun x => [(12, .one (.val (.int .i64 (Int.ofNat x.1.i))))]) (fun x => [.own 36 [.val (.int .i64 0), .val (.slice none 0 0), .val (.slice none 0 0), .val (.slice none 0 0), .val (.slice none 0 0), .val (.slice none 0 0), .val (.slice none 0 0), .val (.int .i64 0), .val (.int .i64 0), .val (.int .i64 0)], .own 150 [.val (.slice Ad ln cp), .val (.int .i64 x.1.pt)], .own 36 [.val (.int .i64 rg), .gsl 3 nz, .gsl 4 nc, .gsl 5 nt, .gsl 9 nv, .gsl 6 x.1.n, .gsl 7 0, .val (.int .i64 bl), .val (.int .i64 le), .val (.int .i64 ba)], .grow 113 1 nz loz, .grow 115 2 nc loc, .grow 118 7 nt lot, .grow 3 1 x.1.n x.1.lo, .grow 3 1 0 [], .dead, .grow 120 2 nv lov]) (fun x => x.1.i) ⟨⟨pr, kr, 0, [], []⟩, .nil _ _, by dsimp only; omega⟩ ?_ ?_ (fun x => rfl) (fun x y hy => zbl hy trivial) rfl (fun x L' hL1 hL2 => ?_)
          ·cbv
           simp
          ·rfl
          ·by_cases hi : 0 < x.1.i
           ·obtain ⟨⟨pt, i, n, lo, l'⟩, hok, hb⟩ := x
            dsimp only at hb ⊢
            dsimp only at hi
            have hkn : n = l'.length := hok.n
            obtain ⟨i1, hi1⟩ := nm (i - 1)
            have c1 : A.sub .i64 (Int.ofNat i) 1 = Int.ofNat i1 := by rw [hA, hi1]; exact (wrap64 (by simp; omega) (by simp; omega)).trans (by simp; omega)
            have q1 : A.lt 0 (Int.ofNat i) = true := by rw [hA]; simp [std]; omega
            refine zaa zag hA rfl rfl 400 ?_
            conv => arg 3; cbv
            repeat (simp only [q1, gz]; try (conv => arg 3; cbv))
            refine zav 1 rfl hln (by omega) hl hrd (by omega) (by omega) rfl (fun r p2 hr hp2 => ?_)
            obtain ⟨n1, hn1⟩ := nm (n + 1)
            obtain ⟨lo1, hlo1⟩ := nm (lo ++ [.int .i64 r])
            have a1 : A.eqn n n = true := by rw [hA]; simp [std]
            have a2 : A.fits n 1 = true := by rw [hA]; simp [std]; omega
            have a3 : A.addn n 1 = n1 := by rw [hA, hn1]; rfl
            have a4 : A.app lo [.int .i64 r] = lo1 := by rw [hA, hlo1]; rfl
            refine zaa zag hA rfl rfl 400 ?_
            conv => arg 3; cbv
            repeat (simp only [a1, a2, a3, a4, c1]; try (conv => arg 3; cbv))
            refine zai (l := [0, 1, 2, 3, 4, 5, 11, 7, 8, 9]) ⟨rfl, rfl, rfl⟩ hL2 (⟨⟨p2, i1, n1, lo1, l' ++ [r]⟩, hok.snoc (y := r) (by show 0 ≤ r ∧ r < (nz : Int); omega) _ _ hn1 hlo1, by dsimp only; omega⟩ : { x : GSt Int // x.Ok (fun x => [iv x]) (fun x => 0 ≤ x ∧ x < (nz : Int)) ∧ 0 ≤ x.pt ∧ x.pt ≤ 130 + 10 * (x.n : Int) ∧ x.i + x.n = kr }) ?_ rfl rfl rfl ?_ ?_ ?_ ?_
            ·dsimp only
             omega
            ·intro b hb
             simp only [List.mem_cons, List.not_mem_nil, or_false] at hb
             rcases hb with rfl | rfl | rfl | rfl | rfl | rfl | rfl | rfl | rfl | rfl <;> simp [MB.ok, S1.ok]
            ·exact zao (by cbv <;> trivial)
            ·exact ⟨.inr rfl, .inr rfl, .inr rfl, .inr rfl, .inr rfl, .inr rfl, .inr rfl, .inr rfl, .inl rfl, .inr rfl, trivial⟩
            ·cbv
             simp
           ·obtain ⟨⟨pt, ur, nr, lor, lr⟩, hkr, hbr⟩ := x
            dsimp only at hi hbr ⊢
            have hnr : nr = lr.length := hkr.n
            have hlor : lor = _ := hkr.lo
            have q1 : A.lt 0 (Int.ofNat ur) = false := by rw [hA]; simp [std]; omega
            refine zaa zag hA rfl rfl 400 ?_
            conv => arg 3; cbv
            repeat (simp only [q1]; try (conv => arg 3; cbv))
            refine za9 1 rfl hln (by omega) hl hrd (by omega) rfl (fun ro po hro hpo => ?_)
            obtain ⟨ko, rfl⟩ : ∃ k : Nat, ro = Int.ofNat k := ⟨ro.toNat, (Int.toNat_of_nonneg (by omega)).symm⟩
            have hko4 : ko ≤ 4 := by have e : (ko : Int) ≤ 4 := hro.2; omega
            refine zaa zag hA rfl rfl 400 ?_
            conv => arg 3; cbv
            refine zbh 6 (α := { x : GSt Int // x.Ok (fun x => [iv x]) (fun x => 0 ≤ x ∧ x < (nz : Int)) ∧ 0 ≤ x.pt ∧ x.pt ≤ 170 + 10 * (x.n : Int) ∧ x.i + x.n = ko }) [167, 168, 169, 170, 171, 172, 173, 174, 175, 176, 177, 178, 179, 180] (fun x => [(13, .one (.val (.int .i64 (Int.ofNat x.1.i))))]) (fun x => [.own 36 [.val (.int .i64 0), .val (.slice none 0 0), .val (.slice none 0 0), .val (.slice none 0 0), .val (.slice none 0 0), .val (.slice none 0 0), .val (.slice none 0 0), .val (.int .i64 0), .val (.int .i64 0), .val (.int .i64 0)], .own 150 [.val (.slice Ad ln cp), .val (.int .i64 x.1.pt)], .own 36 [.val (.int .i64 rg), .gsl 3 nz, .gsl 4 nc, .gsl 5 nt, .gsl 9 nv, .gsl 6 nr, .gsl 7 x.1.n, .val (.int .i64 bl), .val (.int .i64 le), .val (.int .i64 ba)], .grow 113 1 nz loz, .grow 115 2 nc loc, .grow 118 7 nt lot, .grow 3 1 nr lor, .grow 3 1 x.1.n x.1.lo, .dead, .grow 120 2 nv lov]) (fun x => x.1.i) ⟨⟨po, ko, 0, [], []⟩, .nil _ _, by dsimp only; omega⟩ ?_ ?_ (fun x => rfl) (fun x y hy => zbl hy trivial) rfl (fun x L' hL1 hL2 => ?_)
            ·cbv
             simp
            ·rfl
            ·by_cases hi : 0 < x.1.i
             ·obtain ⟨⟨pt, i, n, lo, l'⟩, hok, hb⟩ := x
              dsimp only at hb ⊢
              dsimp only at hi
              have hkn : n = l'.length := hok.n
              obtain ⟨i1, hi1⟩ := nm (i - 1)
              have c1 : A.sub .i64 (Int.ofNat i) 1 = Int.ofNat i1 := by rw [hA, hi1]; exact (wrap64 (by simp; omega) (by simp; omega)).trans (by simp; omega)
              have q1 : A.lt 0 (Int.ofNat i) = true := by rw [hA]; simp [std]; omega
              refine zaa zag hA rfl rfl 400 ?_
              conv => arg 3; cbv
              repeat (simp only [q1, gz]; try (conv => arg 3; cbv))
              refine zav 1 rfl hln (by omega) hl hrd (by omega) (by omega) rfl (fun r p2 hr hp2 => ?_)
              obtain ⟨n1, hn1⟩ := nm (n + 1)
              obtain ⟨lo1, hlo1⟩ := nm (lo ++ [.int .i64 r])
              have a1 : A.eqn n n = true := by rw [hA]; simp [std]
              have a2 : A.fits n 1 = true := by rw [hA]; simp [std]; omega
              have a3 : A.addn n 1 = n1 := by rw [hA, hn1]; rfl
              have a4 : A.app lo [.int .i64 r] = lo1 := by rw [hA, hlo1]; rfl
              refine zaa zag hA rfl rfl 400 ?_
              conv => arg 3; cbv
              repeat (simp only [a1, a2, a3, a4, c1]; try (conv => arg 3; cbv))
              refine zai (l := [0, 1, 2, 3, 4, 5, 6, 11, 8, 9]) ⟨rfl, rfl, rfl⟩ hL2 (⟨⟨p2, i1, n1, lo1, l' ++ [r]⟩, hok.snoc (y := r) (by show 0 ≤ r ∧ r < (nz : Int); omega) _ _ hn1 hlo1, by dsimp only; omega⟩ : { x : GSt Int // x.Ok (fun x => [iv x]) (fun x => 0 ≤ x ∧ x < (nz : Int)) ∧ 0 ≤ x.pt ∧ x.pt ≤ 170 + 10 * (x.n : Int) ∧ x.i + x.n = ko }) ?_ rfl rfl rfl ?_ ?_ ?_ ?_
              ·dsimp only
               omega
              ·intro b hb
               simp only [List.mem_cons, List.not_mem_nil, or_false] at hb
               rcases hb with rfl | rfl | rfl | rfl | rfl | rfl | rfl | rfl | rfl | rfl <;> simp [MB.ok, S1.ok]
              ·exact zao (by cbv <;> trivial)
              ·exact ⟨.inr rfl, .inr rfl, .inr rfl, .inr rfl, .inr rfl, .inr rfl, .inr rfl, .inr rfl, .inl rfl, .inr rfl, trivial⟩
              ·cbv
               simp
             ·obtain ⟨⟨pt, uo, no, loo, lo⟩, hko, hbo⟩ := x
              dsimp only at hi hbo ⊢
              have hno : no = lo.length := hko.n
              have hloo : loo = _ := hko.lo
              have q1 : A.lt 0 (Int.ofNat uo) = false := by rw [hA]; simp [std]; omega
              refine zaa zag hA rfl rfl 400 ?_
              conv => arg 3; cbv
              repeat (simp only [q1]; try (conv => arg 3; cbv))
              refine zak zag (by rfl) (by rfl) (fun ρ w' hρ hSat => ?_)
              obtain ⟨Az, cz, ez, Rz⟩ := grow_rd hSat (Below.refl _ _) (h := 3) rfl
              obtain ⟨Ac, cc, ec, Rc⟩ := grow_rd hSat (Below.refl _ _) (h := 4) rfl
              obtain ⟨At, ct, et, Rt⟩ := grow_rd hSat (Below.refl _ _) (h := 5) rfl
              obtain ⟨Av, cv, ev, Rv⟩ := grow_rd hSat (Below.refl _ _) (h := 9) rfl
              obtain ⟨Ar, cr, er, Rr⟩ := grow_rd hSat (Below.refl _ _) (h := 6) rfl
              obtain ⟨Ao, co, eo, Ro⟩ := grow_rd hSat (Below.refl _ _) (h := 7) rfl
              rw [hloz, flat_iv] at Rz
              rw [hloc] at Rc
              rw [hlot] at Rt
              rw [hlov] at Rv
              rw [hlor, flat_iv] at Rr
              rw [hloo, flat_iv] at Ro
              obtain ⟨va, vt, hvt⟩ := hbv.2.2.2.2
              refine ⟨⟨⟨rg, lz, lc, lt, lv, lr, lo, bl, le, ba⟩, ⟨Az, cz, Ac, cc, At, ct, Av, cv, Ar, cr, Ao, co⟩, ⟨?_, ?_, ?_, ?_, ?_, ?_, ?_, ?_, ?_, ?_, hkz.all, ?_, ?_, ?_, hkv.all, ?_, hkt.all⟩, ?_, ⟨Rz, Rc, Rt, Rv, Rr, Ro⟩⟩, zah hSat.gr⟩
              all_goals first
               | (show ∀ x ∈ lc, (0 ≤ x.1 ∧ x.1 < (lz.length : Int)) ∧ 1 ≤ x.2 ∧ x.2 ≤ 4194304; rw [← hnz]; exact hkc.all)
               | (show ∀ x ∈ lr, 0 ≤ x ∧ x < (lz.length : Int); rw [← hnz]; exact hkr.all)
               | (show ∀ x ∈ lo, 0 ≤ x ∧ x < (lz.length : Int); rw [← hnz]; exact hko.all)
               | (intro x hx; rw [show lv = (0, va) :: vt from hvt] at hx; cases hx; rfl)
               | (simp only [concV, conc1, List.map, ez, ec, et, ev, er, eo]; rw [hnz, hnc, hnt, hnv, hnr, hno]; rfl)
               | (have hro' : 1 ≤ (ko : Int) ∧ (ko : Int) ≤ 4 := hro; have hrt' : 0 ≤ (kt : Int) ∧ (kt : Int) < 6 := hrt; dsimp only; omega)
end Go.Proofs.YtcgcfeablbjnaaaGreatDoor
