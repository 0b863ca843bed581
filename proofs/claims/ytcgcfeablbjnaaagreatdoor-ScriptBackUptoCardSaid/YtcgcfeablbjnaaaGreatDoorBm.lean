/- Parts of the proof that ScriptBack returns true for every input of bulk at most 1048576. -/
import Derived.Test.YtcgcfeablbjnaaaGreatDoorBg
import Derived.Test.YtcgcfeablbjnaaaGreatDoorBf
import Derived.Test.YtcgcfeablbjnaaaGreatDoorBk
import Derived.Test.YtcgcfeablbjnaaaGreatDoorBd
import Derived.Test.YtcgcfeablbjnaaaGreatDoorBl
import Derived.Test.YtcgcfeablbjnaaaGreatDoorBj
set_option linter.unusedSimpArgs false
set_option linter.unusedVariables false
set_option maxRecDepth 100000
set_option maxHeartbeats 8000000
namespace Go.Proofs.YtcgcfeablbjnaaaGreatDoor
open Go.RowKit Eng
theorem goes_regionOf : Goes Tryz.prog 79 := zam Tryz.func79 (by kernel_rfl) (by kernel_rfl)
theorem goes_inRegion : Goes Tryz.prog 41 := zam Tryz.func41 (by kernel_rfl) (by kernel_rfl)
def inRegTo (c : CfgD) (r : Int) (n : Nat) : List Int := ((List.range n).filter fun i => decide (c.regionOf (Int.ofNat i) = r)).map Int.ofNat
theorem grow_new {w w' : World} {ρ : Nat → Nat × Nat} {mem : List MB} (hS : Sat w [] ρ mem w') {h : Nat} {t : TypeId} {z n : Nat} {l : List Value} (hb : mem[h]? = some (.grow t z n l)) : w'.ownsRow w.heap.size t z (gslV (ρ h) n) n l := by
 obtain ⟨⟨h1, h2⟩, _⟩ := hS.blk h _ hb
 refine ⟨h1, h2.imp (fun h => h) ?_⟩
 rintro ⟨g, cap, cur, e, _, h3⟩
 refine ⟨g, cap, cur, e, ?_, h3⟩
 have hf := (hS.free h _ hb).1
 revert e hf
 generalize ρ h = p
 obtain ⟨b, q⟩ := p
 cases q with
 | zero => intro e; simp [gslV] at e
 | succ q =>
   intro e hf
   simp only [gslV, Value.slice.injEq, Option.some.injEq, Addr.mk.injEq] at e
   have := (hf rfl).resolve_left (by simp)
   omega
theorem inRegion_any (c : CfgD) (h : CfgH) (r : Int) (w : World) (ok : CfgOk c) (hC : CfgAt w w.heap.size c h) :
 Calls Tryz.prog 41 #[.agg (cfgV c h), .int .i64 r] w fun e w' => ∃ v, e = .returned v ∧ w'.ownsRow w.heap.size 3 1 v (inRegTo c r c.cells.length).length ((inRegTo c r c.cells.length).map iv) ∧ Below w.heap.size w w' := by
 obtain ⟨A, hA⟩ : ∃ A, A = std := ⟨_, rfl⟩
 obtain ⟨czl, hczl⟩ := nm (c.zones.length)
 obtain ⟨ccl, hccl⟩ := nm (c.cells.length)
 obtain ⟨ctl, hctl⟩ := nm (c.tens.length)
 obtain ⟨cvl, hcvl⟩ := nm (c.vers.length)
 obtain ⟨crl, hcrl⟩ := nm (c.reps.length)
 obtain ⟨col, hcol⟩ := nm (c.obs.length)
 obtain ⟨ci, hci⟩ := nm (Int.ofNat ccl)
 obtain ⟨N, hN⟩ := nm (fun n => (inRegTo c r n).length)
 obtain ⟨X, hX⟩ := nm (fun n => (inRegTo c r n).map iv)
 have hcc := ok.cells
 have F : A.len ccl = ci ∧ ∀ n, A.eqn n n = true := by
  rw [hA, hci]
  exact ⟨rfl, fun n => by simp [std]⟩
 refine zae (E := ⟨Tryz.prog, tabaT, ords41, Tryz.f41, w, [], [], fun _ _ _ => False⟩) zab (c := bodyOf Tryz.f41) (n := 0) Tryz.func41 rfl (show codeChk ords41 (bodyOf Tryz.f41) = true by decide +kernel) (rho []) (fun h p hp => zaq _ h p hp)
  (tm := [.agg [.val (iv c.regions), .val (.slice h.az czl h.kz), .val (.slice h.ac ccl h.kc), .val (.slice h.at_ ctl h.kt), .val (.slice h.av cvl h.kv), .val (.slice h.ar crl h.kr), .val (.slice h.ao col h.ko), .val (iv c.blast), .val (iv c.lease), .val (iv c.bake)], .one (.val (.int .i64 r))] ++ List.replicate 22 (.one (.val undef))) (mem := []) (Nat.le_refl _) ?_ ?_ (by rw [hczl, hccl, hctl, hcvl, hcrl, hcol]; rfl) ?_
 ·exact zan w [] _
 ·simp [SV.ok, S1.ok]
 ·refine zaa zab hA rfl rfl 400 ?_
  conv => arg 3; cbv
  repeat (simp only [F]; conv => arg 3; cbv)
  refine good_nilT 5 3 1 rfl rfl ?_
  conv => arg 3; cbv
  refine zbh 1 (α := { i : Nat // i ≤ ccl }) [5, 6, 7, 8, 9, 10, 11, 12, 13, 14, 15, 16, 17, 18, 19, 20, 21, 22] (fun x => [(5, .one (.gsl 1 (N x.1))), (6, .one (.val (.int .i64 (Int.ofNat x.1))))]) (fun x => [.own 36 [.val (iv c.regions), .val (.slice h.az czl h.kz), .val (.slice h.ac ccl h.kc), .val (.slice h.at_ ctl h.kt), .val (.slice h.av cvl h.kv), .val (.slice h.ar crl h.kr), .val (.slice h.ao col h.ko), .val (iv c.blast), .val (iv c.lease), .val (iv c.bake)], .grow 3 1 (N x.1) (X x.1)]) (fun x => ccl - x.1) ⟨0, Nat.zero_le _⟩ ?_ ?_ (fun x => rfl) (fun x y hy => ?_) rfl (fun x L' hL1 hL2 => ?_)
  ·dsimp only
   rw [show N 0 = 0 by rw [hN]; rfl]
   cbv
   simp
  ·dsimp only
   rw [show N 0 = 0 by rw [hN]; rfl, show X 0 = [] by rw [hX]; rfl]
  ·simp only [List.mem_cons, List.not_mem_nil, or_false] at hy
   rcases hy with rfl | rfl <;> simp [SV.ok, S1.ok]
  ·obtain ⟨i, hile⟩ := x
   dsimp only
   obtain ⟨n1, hn1⟩ := nm (i + 1)
   by_cases hi : i < ccl
   ·have q1 : A.lt (Int.ofNat i) ci = true := by rw [hA, hci]; simp [std]; omega
    have q2 : A.add .i64 (Int.ofNat i) 1 = Int.ofNat n1 := by rw [hA, hn1]; exact (wrap64 (by simp; omega) (by simp; omega)).trans (by simp)
    obtain ⟨rg, hrg⟩ := nm (c.regionOf (Int.ofNat i))
    refine zaa zab hA rfl rfl 400 ?_
    conv => arg 3; cbv
    repeat (simp only [F, q1, q2]; conv => arg 3; cbv)
    refine zac (.one (.val (.int .i64 rg))) trivial goes_regionOf (fun ρ w' hρ hSat => ?_) ?_
    ·have hbl : Below w.heap.size w w' := zah hSat.gr
     simp only [List.map, concV, conc1]
     rw [hrg, hczl, hccl, hctl, hcvl, hcrl, hcol]
     exact regionOf_any c h (Int.ofNat i) w' ok ((hC.below hbl).more hbl.size)
    refine zaa zab hA rfl rfl 400 ?_
    conv => arg 3; cbv
    by_cases hr : rg = r
    ·have q3 : A.eq rg r = true := by rw [hA]; simp [std, hr]
     have hst : inRegTo c r n1 = inRegTo c r i ++ [Int.ofNat i] := by
      simp only [inRegTo, hn1, List.range_succ, List.filter_append, List.map_append]
      rw [List.filter_cons_of_pos (by simp only [decide_eq_true_eq]; exact hrg.symm.trans hr)]
      rfl
     have q4 : A.addn (N i) 1 = N n1 := by rw [hA, hN]; simp [std, hst]
     have q5 : A.app (X i) [.int .i64 (Int.ofNat i)] = X n1 := by rw [hA, hX]; simp [std, hst]
     have q6 : A.fits (N i) 1 = true := by
      rw [hA, hN]
      have : (inRegTo c r i).length ≤ i := by simpa [inRegTo] using List.length_filter_le (fun i => decide (c.regionOf (Int.ofNat i) = r)) (List.range i)
      simp [std]; omega
     repeat (simp only [F, q2, q3, q4, q5, q6]; conv => arg 3; cbv)
     refine zai (l := [0, 3]) ⟨rfl, rfl, rfl⟩ hL2 ⟨n1, by omega⟩ ?_ rfl rfl rfl ?_ ?_ ?_ ?_
     ·dsimp only
      omega
     ·intro b hb
      simp only [List.mem_cons, List.not_mem_nil, or_false] at hb
      rcases hb with rfl | rfl <;> simp [MB.ok, S1.ok]
     ·exact zao (by cbv <;> trivial)
     ·exact ⟨.inr rfl, .inr rfl, trivial⟩
     ·cbv
      simp
    ·have q3 : A.eq rg r = false := by rw [hA]; simp [std, hr]
     have hst : inRegTo c r n1 = inRegTo c r i := by
      simp only [inRegTo, hn1, List.range_succ, List.filter_append, List.map_append]
      rw [List.filter_cons_of_neg (by simp only [decide_eq_true_eq]; exact fun e => hr (hrg.trans e))]
      simp
     have n2 : N n1 = N i := by rw [hN]; simp [hst]
     have x2 : X n1 = X i := by rw [hX]; simp [hst]
     repeat (simp only [F, q2, q3]; conv => arg 3; cbv)
     refine zai (l := [0, 1]) ⟨rfl, rfl, rfl⟩ hL2 ⟨n1, by omega⟩ ?_ rfl rfl rfl ?_ ?_ ?_ ?_
     ·dsimp only
      omega
     ·intro b hb
      simp only [List.mem_cons, List.not_mem_nil, or_false] at hb
      rcases hb with rfl | rfl <;> simp [MB.ok, S1.ok]
     ·exact zao (by cbv <;> trivial)
     ·dsimp only
      rw [n2, x2]
      exact ⟨.inr rfl, .inr rfl, trivial⟩
     ·dsimp only
      rw [n2]
      cbv
      simp
   ·have q1 : A.lt (Int.ofNat i) ci = false := by rw [hA, hci]; simp [std]; omega
    obtain rfl : ccl = i := by omega
    refine zaa zab hA rfl rfl 400 ?_
    conv => arg 3; cbv
    repeat (simp only [F, q1]; conv => arg 3; cbv)
    refine zak zab (by rfl) (by rfl) (fun ρ w' hρ hSat => ⟨_, rfl, ?_, zah hSat.gr⟩)
    have := grow_new hSat (h := 1) rfl
    rw [hN, hX, hccl] at this
    rw [← hccl, hN]
    rw [← hccl] at this
    exact this
theorem goes_mnext : Goes Tryz.prog 16 := zam Tryz.func16 (by kernel_rfl) (by kernel_rfl)
theorem goes_mrange : Goes Tryz.prog 36 := zam Tryz.func36 (by kernel_rfl) (by kernel_rfl)
theorem goes_mmore : Goes Tryz.prog 17 := zam Tryz.func17 (by kernel_rfl) (by kernel_rfl)
theorem goes_mnew : Goes Tryz.prog 15 := zam Tryz.func15 (by kernel_rfl) (by kernel_rfl)
theorem goes_entry : Goes Tryz.prog 42 := zam Tryz.func42 (by kernel_rfl) (by kernel_rfl)
def PtOk (l : List Int) (p : Int) : Prop := 0 ≤ p ∧ p ≤ l.length
theorem tape_sat {w0 w : World} {ρ : Nat → Nat × Nat} {mem : List MB} (H : Sat w0 [] ρ mem w) {t : Nat} {A : Option Addr} {cp ln : Nat} {l : List Int} {pt : Int} (hb : mem[t]? = some (.own 90 [.val (.slice A ln cp), .val (.int .i64 pt)])) (hln : ln = l.length) (hp : PtOk l pt) (hl : l.length ≤ 1000) (hrd : Rd w0 w0.heap.size A (l.map iv)) : TapeX (A, cp, l) w (ρ t).1 := by
 have hk := H.blk t _ hb
 have hf := ((H.free t _ hb).1 rfl).resolve_left (by simp)
 refine ⟨A, cp, pt.toNat, l, ?_, by have := hp; unfold PtOk at this; omega, hl, (hrd.below (zah H.gr)).more hf, rfl⟩
 have e : ((pt.toNat : Nat) : Int) = pt := by have := hp.1; omega
 rw [e, ← hln]
 exact hk.2
theorem tape_back {w : World} {g : Nat} {A : Option Addr} {cp : Nat} {l : List Int} (h : TapeX (A, cp, l) w g) : ∃ pt, PtOk l pt ∧ w.heap[g]? = some (.cells #[.slice A l.length cp, .int .i64 pt] 90 (0, 0)) := by
 obtain ⟨A', c', p, l', hb, h1, _, _, he⟩ := h
 simp only [Prod.mk.injEq] at he
 obtain ⟨rfl, rfl, rfl⟩ := he
 exact ⟨p, ⟨by omega, by omega⟩, hb⟩
theorem gr_of_grown {w w' : World} {g : Nat} (h : w.grownBy w' (some g)) : Gr (fun i => i = g) w w' := ⟨h.os, h.tape, h.output, h.size, fun i hi hn => h.block i hi (by simpa using hn)⟩
theorem tape_upd {w0 w w' : World} {ρ : Nat → Nat × Nat} {mem : List MB} (H : Sat w0 [] ρ mem w) {t : Nat} {A : Option Addr} {cp ln : Nat} {l : List Int} {pt pt' : Int} (hb : mem[t]? = some (.own 90 [.val (.slice A ln cp), .val (.int .i64 pt)])) (hln : ln = l.length) (hG : Gr (fun i => i = (ρ t).1) w w') (hw : w'.heap[(ρ t).1]? = some (.cells #[.slice A l.length cp, .int .i64 pt'] 90 (0, 0))) : Sat w0 [] ρ (setAt mem t (.own 90 [.val (.slice A ln cp), .val (.int .i64 pt')])) w' := by
 have hlt := (List.getElem?_eq_some_iff.1 hb).1
 have hk := H.blk t _ hb
 rw [zaj]
 refine H.upd hG (fun h => h = t) (by simp) (fun i hi => ⟨t, _, rfl, hb, rfl, hi.symm⟩) (fun h hh => List.getElem?_set_ne (Ne.symm hh)) (fun h b b' hh hb0 hb' => ?_)
 subst hh
 rw [List.getElem?_set_self hlt] at hb'
 obtain rfl := Option.some.inj hb'
 obtain rfl := Option.some.inj (hb.symm.trans hb0)
 exact ⟨rfl, rfl, by simp [MB.ok, S1.ok], hk.1, by rw [hw, hln]; rfl⟩
theorem inL_self (t h : Nat) (hh : inL [t] h = false) : h ≠ t := by
 rintro rfl
 simp [inL, Nat.beq_refl] at hh
section
variable {T : List (TypeId × TI)} {D : Ords} {fn : Func} {w0 : World} {ρ0 : List (Nat × Nat)} {L : Nat → Act → World → Prop} {R : Ending → World → Prop} {dst : Option Tmp} {k : List It} {tm : PT} {mem : List MB}
theorem za1 {A : Option Addr} {cp ln : Nat} {l : List Int} {pt : Int} (t : Nat) (hb : nth mem t = some (.own 90 [.val (.slice A ln cp), .val (.int .i64 pt)])) (hln : ln = l.length) (hp : PtOk l pt) (hl : l.length ≤ 1000) (hrd : Rd w0 w0.heap.size A (l.map iv)) {n : Int} (hn : 1 ≤ n) (hn2 : n ≤ 1000000000) (hk : headW [t] k = true)
 (h : ∀ r pt', 0 ≤ r → r < n → PtOk l pt' → Eng.Good (⟨Tryz.prog, T, D, fn, w0, [], ρ0, L⟩ : Eng.Env) R ⟨k, putE tm dst (.one (.val (.int .i64 r))), setAt mem t (.own 90 [.val (.slice A ln cp), .val (.int .i64 pt')])⟩) : Eng.Good (⟨Tryz.prog, T, D, fn, w0, [], ρ0, L⟩ : Eng.Env) R ⟨.call 16 [.one (.ptr t 0 0), .one (.val (.int .i64 n))] dst :: k, tm, mem⟩ := by
 rw [za2] at hb
 refine za3 (α := { q : Int × Int // (0 ≤ q.1 ∧ q.1 < n) ∧ PtOk l q.2 }) [t] (fun x => .one (.val (.int .i64 x.1.1))) (fun x => setAt mem t (.own 90 [.val (.slice A ln cp), .val (.int .i64 x.1.2)])) (fun x => by simp [zaj]) (fun x h _ hh => by rw [zaj, List.getElem?_set_ne (inL_self t h hh).symm]) (fun x => trivial) hk goes_mnext (fun ρ w hρ H => ?_) (fun x => h _ _ x.2.1.1 x.2.1.2 x.2.2)
 have h0 := (H.blk t _ hb).1
 simp only [List.map, concV, conc1, h0]
 refine (zdd (ρ t).1 n w hn hn2 (tape_sat H hb hln hp hl hrd)).mono ?_
 rintro e w' ⟨r, hr, rfl, ht, hg, _⟩
 obtain ⟨pt', hp', hw⟩ := tape_back ht
 exact ⟨⟨(r, pt'), ⟨by omega, hr⟩, hp'⟩, ρ, rfl, fun _ _ => rfl, tape_upd H hb hln (gr_of_grown hg) hw⟩
theorem good_mrange {A : Option Addr} {cp ln : Nat} {l : List Int} {pt : Int} (t : Nat) (hb : nth mem t = some (.own 90 [.val (.slice A ln cp), .val (.int .i64 pt)])) (hln : ln = l.length) (hp : PtOk l pt) (hl : l.length ≤ 1000) (hrd : Rd w0 w0.heap.size A (l.map iv)) {lo hi : Int} (h1 : lo ≤ hi) (h2 : -1000000 ≤ lo) (h3 : hi ≤ 1000000) (hk : headW [t] k = true)
 (h : ∀ r pt', lo ≤ r → r ≤ hi → PtOk l pt' → Eng.Good (⟨Tryz.prog, T, D, fn, w0, [], ρ0, L⟩ : Eng.Env) R ⟨k, putE tm dst (.one (.val (.int .i64 r))), setAt mem t (.own 90 [.val (.slice A ln cp), .val (.int .i64 pt')])⟩) : Eng.Good (⟨Tryz.prog, T, D, fn, w0, [], ρ0, L⟩ : Eng.Env) R ⟨.call 36 [.one (.ptr t 0 0), .one (.val (.int .i64 lo)), .one (.val (.int .i64 hi))] dst :: k, tm, mem⟩ := by
 rw [za2] at hb
 refine za3 (α := { q : Int × Int // (lo ≤ q.1 ∧ q.1 ≤ hi) ∧ PtOk l q.2 }) [t] (fun x => .one (.val (.int .i64 x.1.1))) (fun x => setAt mem t (.own 90 [.val (.slice A ln cp), .val (.int .i64 x.1.2)])) (fun x => by simp [zaj]) (fun x h _ hh => by rw [zaj, List.getElem?_set_ne (inL_self t h hh).symm]) (fun x => trivial) hk goes_mrange (fun ρ w hρ H => ?_) (fun x => h _ _ x.2.1.1 x.2.1.2 x.2.2)
 have h0 := (H.blk t _ hb).1
 simp only [List.map, concV, conc1, h0]
 refine (zch (ρ t).1 lo hi w h1 h2 h3 (tape_sat H hb hln hp hl hrd)).mono ?_
 rintro e w' ⟨r, hr, hr2, rfl, ht, hg, _⟩
 obtain ⟨pt', hp', hw⟩ := tape_back ht
 exact ⟨⟨(r, pt'), ⟨hr, hr2⟩, hp'⟩, ρ, rfl, fun _ _ => rfl, tape_upd H hb hln (gr_of_grown hg) hw⟩
theorem good_mmore {A : Option Addr} {cp ln : Nat} {l : List Int} {pt : Int} (t : Nat) (hb : nth mem t = some (.own 90 [.val (.slice A ln cp), .val (.int .i64 pt)])) (hln : ln = l.length) (hp : PtOk l pt) (hl : l.length ≤ 1000) (hrd : Rd w0 w0.heap.size A (l.map iv)) (hk : headW [t] k = true)
 (h : ∀ (b : Bool) pt', PtOk l pt' → Eng.Good (⟨Tryz.prog, T, D, fn, w0, [], ρ0, L⟩ : Eng.Env) R ⟨k, putE tm dst (.one (.val (.bool b))), setAt mem t (.own 90 [.val (.slice A ln cp), .val (.int .i64 pt')])⟩) : Eng.Good (⟨Tryz.prog, T, D, fn, w0, [], ρ0, L⟩ : Eng.Env) R ⟨.call 17 [.one (.ptr t 0 0)] dst :: k, tm, mem⟩ := by
 rw [za2] at hb
 refine za3 (α := { q : Bool × Int // PtOk l q.2 }) [t] (fun x => .one (.val (.bool x.1.1))) (fun x => setAt mem t (.own 90 [.val (.slice A ln cp), .val (.int .i64 x.1.2)])) (fun x => by simp [zaj]) (fun x h _ hh => by rw [zaj, List.getElem?_set_ne (inL_self t h hh).symm]) (fun x => trivial) hk goes_mmore (fun ρ w hρ H => ?_) (fun x => h _ _ x.2)
 have h0 := (H.blk t _ hb).1
 simp only [List.map, concV, conc1, h0]
 refine (mmore_x (ρ t).1 w (tape_sat H hb hln hp hl hrd)).mono ?_
 rintro e w' ⟨b, rfl, ht, hg, _⟩
 obtain ⟨pt', hp', hw⟩ := tape_back ht
 exact ⟨⟨(b, pt'), hp'⟩, ρ, rfl, fun _ _ => rfl, tape_upd H hb hln (gr_of_grown hg) hw⟩
theorem za5 {a b c d e : Int} (h : Eng.Good (⟨Tryz.prog, T, D, fn, w0, [], ρ0, L⟩ : Eng.Env) R ⟨k, putE tm dst (.agg [.val (.int .i64 a), .val (.int .i64 b), .val (.int .i64 c), .val (.int .i64 d), .val (.int .i64 e), .val (.int .i64 0), .val (.int .i64 0), .val (.int .i64 0), .val (.int .i64 0)]), mem⟩) : Eng.Good (⟨Tryz.prog, T, D, fn, w0, [], ρ0, L⟩ : Eng.Env) R ⟨.call 42 [.one (.val (.int .i64 a)), .one (.val (.int .i64 b)), .one (.val (.int .i64 c)), .one (.val (.int .i64 d)), .one (.val (.int .i64 e))] dst :: k, tm, mem⟩ :=
 zac (.agg [.val (.int .i64 a), .val (.int .i64 b), .val (.int .i64 c), .val (.int .i64 d), .val (.int .i64 e), .val (.int .i64 0), .val (.int .i64 0), .val (.int .i64 0), .val (.int .i64 0)]) (by simp [SV.ok, S1.ok]) goes_entry (fun ρ w' hρ hSat => entry_any a b c d e w') h
end
section
variable {T : List (TypeId × TI)} {D : Ords} {fn : Func} {w0 : World} {ρ0 : List (Nat × Nat)} {L : Nat → Act → World → Prop} {R : Ending → World → Prop} {dst : Option Tmp} {k : List It} {tm : PT} {mem : List MB}
theorem good_mnew {A : Option Addr} {cp ln : Nat} {l : List Int} (hln : ln = l.length) (hl : l.length ≤ 1000) (hrd : Rd w0 w0.heap.size A (l.map iv)) (hk : headW [] k = true)
 (h : ∀ pt', PtOk l pt' → Eng.Good (⟨Tryz.prog, T, D, fn, w0, [], ρ0, L⟩ : Eng.Env) R ⟨k, putE tm dst (.one (.ptr (len mem) 0 0)), mem ++ [.own 90 [.val (.slice A ln cp), .val (.int .i64 pt')]]⟩) : Eng.Good (⟨Tryz.prog, T, D, fn, w0, [], ρ0, L⟩ : Eng.Env) R ⟨.call 15 [.one (.val (.slice A ln cp))] dst :: k, tm, mem⟩ := by
 refine za3 (α := { q : Int // PtOk l q }) [] (fun x => .one (.ptr (len mem) 0 0)) (fun x => mem ++ [.own 90 [.val (.slice A ln cp), .val (.int .i64 x.1)]]) (fun x => by simp) (fun x h hh _ => by rw [List.getElem?_append_left hh]) (fun x => by show len mem < _; simp [za0]) hk goes_mnew (fun ρ w hρ H => ?_) (fun x => h _ x.2)
 simp only [List.map, concV, conc1, hln]
 have hb0 : Below w0.heap.size w0 w := zah H.gr
 refine (mnew_x A cp l w hl ((hrd.below hb0).more hb0.size)).mono ?_
 rintro e w' ⟨rfl, ht, hg, hs⟩
 obtain ⟨pt', hp', hw⟩ := tape_back ht
 have hbel : Below w.heap.size w w' := grown_below hg (Nat.le_refl _) (fun k hk => by cases hk)
 refine ⟨⟨pt', hp'⟩, ext2 ρ mem.length (w.heap.size, 0), ?_, fun h hh => za4 hh, ?_⟩
 ·simp only [za0, zau]
 ·refine (H.below hbel).addB (p := (w.heap.size, 0)) (fun h hh => za4 hh) (zau _ _) ⟨rfl, ?_⟩ (by simp [MB.ok, S1.ok]) (fun _ => H.gr.size) (fun h => by cases h) (fun h c hc hk => ?_)
  ·rw [hw, ← hln]; rfl
  ·have : (c.wr (ρ h) || c.rd) = true := by
    rcases hk with ⟨_, h1⟩ | ⟨h1, _⟩
    ·exact h1
    ·cases h1
   exact Nat.ne_of_lt (H.lt hc this)
end
theorem goes_mconfig : Goes Tryz.prog 37 := zam Tryz.func37 (by kernel_rfl) (by kernel_rfl)
theorem Eng.Sat.addRd {w0 : World} {own : List Nat} {ρ : Nat → Nat × Nat} {mem : List MB} {w : World} {B : Nat} (H : Sat w0 own ρ mem w) (hP : ∀ (h : Nat) (c : MB), mem[h]? = some c → c.wr (ρ h) = true → (ρ h).1 < B) {l : List Value} {p : Nat × Nat} (hc : ∀ (j : Nat) v, l[j]? = some v → w.cell? ⟨p.1, p.2 + j, none⟩ = some v) (hlt : p.1 < w.heap.size) (hge : B ≤ p.1) :
 ∃ ρ', (∀ h, h < mem.length → ρ h = ρ' h) ∧ ρ' mem.length = p ∧ Sat w0 own ρ' (mem ++ [.rsym l]) w ∧ ∀ (h : Nat) (c : MB), (mem ++ [.rsym l])[h]? = some c → c.wr (ρ' h) = true → (ρ' h).1 < B := by
 refine ⟨ext2 ρ mem.length p, fun h hh => za4 hh, zau _ _, H.addB (fun h hh => za4 hh) (zau _ _) hc trivial (fun h => by cases h) (fun _ => hlt) (fun h c hcm hk => ?_), fun h c hcm hw => ?_⟩
 ·rcases hk with ⟨h1, _⟩ | ⟨_, h1⟩
  ·cases h1
  ·have := hP h c hcm h1
   omega
 ·rcases Nat.lt_trichotomy h mem.length with h1 | h1 | h1
  ·rw [List.getElem?_append_left h1] at hcm
   rw [← za4 h1] at hw ⊢
   exact hP h c hcm hw
  ·subst h1
   simp at hcm
   subst hcm
   cases hw
  ·rw [List.getElem?_eq_none (by simp; omega)] at hcm
   cases hcm
section
variable {T : List (TypeId × TI)} {D : Ords} {fn : Func} {w0 : World} {ρ0 : List (Nat × Nat)} {L : Nat → Act → World → Prop} {R : Ending → World → Prop} {dst : Option Tmp} {k : List It} {tm : PT} {mem : List MB}
theorem good_mconfig {A : Option Addr} {cp ln : Nat} {l : List Int} {pt : Int} (t : Nat) (hb : nth mem t = some (.own 90 [.val (.slice A ln cp), .val (.int .i64 pt)])) (hln : ln = l.length) (hp : PtOk l pt) (hl : l.length ≤ 1000) (hrd : Rd w0 w0.heap.size A (l.map iv)) (hk : headW [t] k = true)
 (h : ∀ (c : CfgD) pt' kz kc kt kv kr ko czl ccl ctl cvl crl col Zz Zc Zt Zv Zr Zo, MillCfg c → PtOk l pt' → czl = c.zones.length → ccl = c.cells.length → ctl = c.tens.length → cvl = c.vers.length → crl = c.reps.length → col = c.obs.length → Zz = c.zones.map iv → Zc = c.cells.flatMap pairCells → Zt = c.tens.flatMap TenD.cells → Zv = c.vers.flatMap pairCells → Zr = c.reps.map iv → Zo = c.obs.map iv → Eng.Good (⟨Tryz.prog, T, D, fn, w0, [], ρ0, L⟩ : Eng.Env) R ⟨k, putE tm dst (.agg [.val (iv c.regions), .slc (len mem) 0 czl kz, .slc (len mem + 1) 0 ccl kc, .slc (len mem + 2) 0 ctl kt, .slc (len mem + 3) 0 cvl kv, .slc (len mem + 4) 0 crl kr, .slc (len mem + 5) 0 col ko, .val (iv c.blast), .val (iv c.lease), .val (iv c.bake)]), setAt mem t (.own 90 [.val (.slice A ln cp), .val (.int .i64 pt')]) ++ [.rsym Zz, .rsym Zc, .rsym Zt, .rsym Zv, .rsym Zr, .rsym Zo]⟩) : Eng.Good (⟨Tryz.prog, T, D, fn, w0, [], ρ0, L⟩ : Eng.Env) R ⟨.call 37 [.one (.ptr t 0 0)] dst :: k, tm, mem⟩ := by
 rw [za2] at hb
 have hlt := (List.getElem?_eq_some_iff.1 hb).1
 refine za3 (α := { q : CfgD × Int × Nat × Nat × Nat × Nat × Nat × Nat // MillCfg q.1 ∧ PtOk l q.2.1 }) [t] (fun x => .agg [.val (iv x.1.1.regions), .slc (len mem) 0 x.1.1.zones.length x.1.2.2.1, .slc (len mem + 1) 0 x.1.1.cells.length x.1.2.2.2.1, .slc (len mem + 2) 0 x.1.1.tens.length x.1.2.2.2.2.1, .slc (len mem + 3) 0 x.1.1.vers.length x.1.2.2.2.2.2.1, .slc (len mem + 4) 0 x.1.1.reps.length x.1.2.2.2.2.2.2.1, .slc (len mem + 5) 0 x.1.1.obs.length x.1.2.2.2.2.2.2.2, .val (iv x.1.1.blast), .val (iv x.1.1.lease), .val (iv x.1.1.bake)]) (fun x => setAt mem t (.own 90 [.val (.slice A ln cp), .val (.int .i64 x.1.2.1)]) ++ [.rsym (x.1.1.zones.map iv), .rsym (x.1.1.cells.flatMap pairCells), .rsym (x.1.1.tens.flatMap TenD.cells), .rsym (x.1.1.vers.flatMap pairCells), .rsym (x.1.1.reps.map iv), .rsym (x.1.1.obs.map iv)]) (fun x => by simp [zaj]) (fun x h hh hn => by rw [List.getElem?_append_left (by simpa [zaj] using hh), zaj, List.getElem?_set_ne (inL_self t h hn).symm]) (fun x => by simp [SV.ok, S1.ok, za0, zaj]) hk goes_mconfig (fun ρ w hρ H => ?_) (fun x => h _ _ _ _ _ _ _ _ _ _ _ _ _ _ _ _ _ _ _ _ x.2.1 x.2.2 rfl rfl rfl rfl rfl rfl rfl rfl rfl rfl rfl rfl)
 have h0 := (H.blk t _ hb).1
 simp only [List.map, concV, conc1, h0]
 refine (mconfig_any (ρ t).1 w (tape_sat H hb hln hp hl hrd)).mono ?_
 rintro e w' ⟨⟨c, hh, hM, rfl, hC, hF⟩, ht, hG⟩
 obtain ⟨pt', hp', hw⟩ := tape_back ht
 have H0 := tape_upd H hb hln hG hw
 have ok := hM.ok
 have P0 : ∀ (h : Nat) (c : MB), (setAt mem t (.own 90 [.val (.slice A ln cp), .val (.int .i64 pt')]))[h]? = some c → c.wr (ρ h) = true → (ρ h).1 < w.heap.size := fun h c hc hw => by
  rw [zaj] at hc
  by_cases hht : h = t
  ·subst hht
   exact H.lt hb rfl
  ·rw [List.getElem?_set_ne (Ne.symm hht)] at hc
   exact H.lt hc (by rw [hw]; rfl)
 obtain ⟨b0, o0, e0, l0, q0⟩ := zca hC.zones (by have := ok.zones; simp; omega)
 obtain ⟨ρ1, a1, c1, H1, P1⟩ := H0.addRd P0 (p := (b0, o0)) q0 l0 (hF ⟨b0, o0, none⟩ (.inl e0))
 obtain ⟨b1, o1, e1, l1, q1⟩ := zca hC.cells (by have := ok.cells; rw [zbm pairCells 2 (fun _ => rfl)]; omega)
 obtain ⟨ρ2, a2, c2, H2, P2⟩ := H1.addRd P1 (p := (b1, o1)) q1 l1 (hF ⟨b1, o1, none⟩ (.inr (.inl e1)))
 obtain ⟨b2, o2, e2, l2, q2⟩ := zca hC.tens (by have := hM.tens; rw [zbm TenD.cells 7 (fun _ => rfl)]; omega)
 obtain ⟨ρ3, a3, c3, H3, P3⟩ := H2.addRd P2 (p := (b2, o2)) q2 l2 (hF ⟨b2, o2, none⟩ (.inr (.inr (.inl e2))))
 obtain ⟨b3, o3, e3, l3, q3⟩ := zca hC.vers (by have := ok.vers; rw [zbm pairCells 2 (fun _ => rfl)]; omega)
 obtain ⟨ρ4, a4, c4, H4, P4⟩ := H3.addRd P3 (p := (b3, o3)) q3 l3 (hF ⟨b3, o3, none⟩ (.inr (.inr (.inr (.inl e3)))))
 obtain ⟨b4, o4, e4, l4, q4⟩ := zca hC.reps (by have := ok.reps; simp; omega)
 obtain ⟨ρ5, a5, c5, H5, P5⟩ := H4.addRd P4 (p := (b4, o4)) q4 l4 (hF ⟨b4, o4, none⟩ (.inr (.inr (.inr (.inr (.inl e4))))))
 obtain ⟨b5, o5, e5, l5, q5⟩ := zca hC.obs (by have := ok.obs; simp; omega)
 obtain ⟨ρ6, a6, c6, H6, P6⟩ := H5.addRd P5 (p := (b5, o5)) q5 l5 (hF ⟨b5, o5, none⟩ (.inr (.inr (.inr (.inr (.inr (e5)))))))
 have hsl : (setAt mem t (.own 90 [.val (.slice A ln cp), .val (.int .i64 pt')])).length = mem.length := by simp [zaj]
 simp only [List.length_append, List.length_cons, List.length_nil, hsl] at a1 c1 a2 c2 a3 c3 a4 c4 a5 c5 a6 c6
 obtain ⟨az, kz, ac, kc, at_, kt, av, kv, ar, kr, ao, ko⟩ := hh
 simp only at e0 e1 e2 e3 e4 e5
 subst e0 e1 e2 e3 e4 e5
 have g0 : ρ6 (mem.length) = (b0, o0) := (a6 _ (by omega)).symm.trans ((a5 _ (by omega)).symm.trans ((a4 _ (by omega)).symm.trans ((a3 _ (by omega)).symm.trans ((a2 _ (by omega)).symm.trans (c1)))))
 have g1 : ρ6 (mem.length + 1) = (b1, o1) := (a6 _ (by omega)).symm.trans ((a5 _ (by omega)).symm.trans ((a4 _ (by omega)).symm.trans ((a3 _ (by omega)).symm.trans (c2))))
 have g2 : ρ6 (mem.length + 2) = (b2, o2) := (a6 _ (by omega)).symm.trans ((a5 _ (by omega)).symm.trans ((a4 _ (by omega)).symm.trans (c3)))
 have g3 : ρ6 (mem.length + 3) = (b3, o3) := (a6 _ (by omega)).symm.trans ((a5 _ (by omega)).symm.trans (c4))
 have g4 : ρ6 (mem.length + 4) = (b4, o4) := (a6 _ (by omega)).symm.trans (c5)
 have g5 : ρ6 (mem.length + 5) = (b5, o5) := c6
 refine ⟨⟨(c, pt', kz, kc, kt, kv, kr, ko), hM, hp'⟩, ρ6, ?_, fun h hh => ?_, by simpa using H6⟩
 ·simp only [concV, conc1, List.map, za0, g0, g1, g2, g3, g4, g5, cfgV, Nat.add_zero]
 ·rw [a1 h hh, a2 h (by omega), a3 h (by omega), a4 h (by omega), a5 h (by omega), a6 h (by omega)]
end
theorem goes_try : Goes Tryz.prog 39 := zam Tryz.func39 (by kernel_rfl) (by kernel_rfl)
def Ch (h : Nat) : Prop := h = 10 ∨ h = 11 ∨ h = 12 ∨ h = 13 ∨ h = 14
theorem ch_inL {h : Nat} (hh : ¬ Ch h) : inL [10, 11, 12, 13, 14] h = false := by
 cases hb : inL [10, 11, 12, 13, 14] h with
 | false => rfl
 | true =>
   have := inL_mem.1 hb
   simp only [List.mem_cons, List.not_mem_nil, or_false] at this
   exact absurd this hh
theorem inL_ch {h : Nat} (hh : inL [10, 11, 14] h = false) : h ≠ 10 ∧ h ≠ 11 ∧ h ≠ 14 := by
 refine ⟨?_, ?_, ?_⟩ <;> rintro rfl <;> simp [inL] at hh
def tryM (mem : List MB) (a b c d e : MB) : List MB := setAt (setAt (setAt (setAt (setAt mem 10 a) 11 b) 12 c) 13 d) 14 e
theorem tryM_get {mem : List MB} {a b c d e : MB} (h14 : 14 < mem.length) : (tryM mem a b c d e).length = mem.length ∧ (∀ h, ¬ Ch h → (tryM mem a b c d e)[h]? = mem[h]?) ∧ (tryM mem a b c d e)[10]? = some a ∧ (tryM mem a b c d e)[11]? = some b ∧ (tryM mem a b c d e)[12]? = some c ∧ (tryM mem a b c d e)[13]? = some d ∧ (tryM mem a b c d e)[14]? = some e := by
 unfold tryM
 simp only [zaj]
 refine ⟨by simp, fun h hh => ?_, ?_, ?_, ?_, ?_, ?_⟩
 ·simp only [Ch, not_or] at hh
  rw [List.getElem?_set_ne (by omega), List.getElem?_set_ne (by omega), List.getElem?_set_ne (by omega), List.getElem?_set_ne (by omega), List.getElem?_set_ne (by omega)]
 ·rw [List.getElem?_set_ne (by omega), List.getElem?_set_ne (by omega), List.getElem?_set_ne (by omega), List.getElem?_set_ne (by omega), List.getElem?_set_self (by omega)]
 ·rw [List.getElem?_set_ne (by omega), List.getElem?_set_ne (by omega), List.getElem?_set_ne (by omega), List.getElem?_set_self (by simp; omega)]
 ·rw [List.getElem?_set_ne (by omega), List.getElem?_set_ne (by omega), List.getElem?_set_self (by simp; omega)]
 ·rw [List.getElem?_set_ne (by omega), List.getElem?_set_self (by simp; omega)]
 ·rw [List.getElem?_set_self (by simp; omega)]
section
variable {T : List (TypeId × TI)} {D : Ords} {fn : Func} {w0 : World} {L : Nat → Act → World → Prop} {R : Ending → World → Prop} {dst : Option Tmp} {k : List It} {tm : PT} {mem : List MB}
theorem zbc {c : CfgD} {s : StD} {n : Nat} {lo : List Value} {kz kc kt kv kr ko czl ccl ctl cvl crl col : Nat} {Zz Zc Zt Zv Zr Zo : List Value} {kts kcs tl cl : Nat} {xs ys r1 r2 : List Value} {ek et en ec eo ep el eh ev : Int} {all : List Oper} (dead : List Nat) (hk : plainK k = true) (m3 : nth mem 3 = some (.rsym Zz)) (m4 : nth mem 4 = some (.rsym Zc)) (m5 : nth mem 5 = some (.rsym Zt)) (m6 : nth mem 6 = some (.rsym Zv)) (m7 : nth mem 7 = some (.rsym Zr)) (m8 : nth mem 8 = some (.rsym Zo))
 (m9 : nth mem 9 = some (.own 36 [.val (iv c.regions), .slc 3 0 czl kz, .slc 4 0 ccl kc, .slc 5 0 ctl kt, .slc 6 0 cvl kv, .slc 7 0 crl kr, .slc 8 0 col ko, .val (iv c.blast), .val (iv c.lease), .val (iv c.bake)])) (m10 : nth mem 10 = some (.sym 105 xs)) (m11 : nth mem 11 = some (.sym 107 ys)) (m12 : nth mem 12 = some (.own 61 [.val (iv s.tick), .val (iv s.count), .slc 10 0 tl kts, .slc 11 0 cl kcs, .val (iv s.proven), .val (iv s.evac), .val (iv s.low), .val (iv s.high)])) (m13 : nth mem 13 = some (.own 57 [.gsl 14 n])) (m14 : nth mem 14 = some (.grow 96 9 n lo))
 (hM : MillCfg c) (sok : StOk c s) (hn : n ≤ 900) (hczl : czl = c.zones.length) (hccl : ccl = c.cells.length) (hctl : ctl = c.tens.length) (hcvl : cvl = c.vers.length) (hcrl : crl = c.reps.length) (hcol : col = c.obs.length) (hZz : Zz = c.zones.map iv) (hZc : Zc = c.cells.flatMap pairCells) (hZt : Zt = c.tens.flatMap TenD.cells) (hZv : Zv = c.vers.flatMap pairCells) (hZr : Zr = c.reps.map iv) (hZo : Zo = c.obs.map iv) (htl : tl = s.tens.length) (hcl : cl = s.cells.length) (hxs : xs = s.tens.flatMap TsD.cells ++ r1) (hys : ys = s.cells.flatMap CsD.cells ++ r2)
 (hfm : freeM [10, 11, 12, 13, 14] 0 mem = true) (hft : freeP [10, 11, 14] (fgt dead (putE tm dst (.tup []))) = true)
 (h : ∀ s2 kt2 kc2 tl2 cl2 xs2 ys2 q1 q2 n2 l2, StOk c s2 → tl2 = s2.tens.length → cl2 = s2.cells.length → xs2 = s2.tens.flatMap TsD.cells ++ q1 → ys2 = s2.cells.flatMap CsD.cells ++ q2 → n2 ≤ n + 1 → Eng.Good (⟨Tryz.prog, T, D, fn, w0, [], [], L⟩ : Eng.Env) R ⟨k, fgt dead (putE tm dst (.tup [])), tryM mem (.sym 105 xs2) (.sym 107 ys2) (.own 61 [.val (iv s2.tick), .val (iv s2.count), .slc 10 0 tl2 kt2, .slc 11 0 cl2 kc2, .val (iv s2.proven), .val (iv s2.evac), .val (iv s2.low), .val (iv s2.high)]) (.own 57 [.gsl 14 n2]) (.grow 96 9 n2 l2)⟩) :
 Eng.Good (⟨Tryz.prog, T, D, fn, w0, [], [], L⟩ : Eng.Env) R ⟨.call 39 [.agg [.val (.int .i64 ek), .val (.int .i64 et), .val (.int .i64 en), .val (.int .i64 ec), .val (.int .i64 eo), .val (.int .i64 ep), .val (.int .i64 el), .val (.int .i64 eh), .val (.int .i64 ev)], .one (.ptr 9 0 0), .one (.ptr 12 0 0), .one (.ptr 13 0 0)] dst :: .ops all [] :: k, tm, mem⟩ := by
 rw [za2] at m3 m4 m5 m6 m7 m8 m9 m10 m11 m12 m13 m14
 subst hczl hccl hctl hcvl hcrl hcol hZz hZc hZt hZv hZr hZo htl hcl hxs hys
 intro ρ w a hρ hl H htm ha hit
 have h14 : 14 < mem.length := (List.getElem?_eq_some_iff.1 m14).1
 have k9 := H.blk 9 _ m9
 have k10 := H.blk 10 _ m10
 have k11 := H.blk 11 _ m11
 have k12 := H.blk 12 _ m12
 have k13 := H.blk 13 _ m13
 have k14 := H.blk 14 _ m14
 have p9 := k9.1
 have p10 := k10.1
 have p11 := k11.1
 have p12 := k12.1
 have p13 := k13.1
 refine ⟨goes_try, ?_⟩
 have ok := hM.ok
 have hap : ∀ (i j : Nat) (b d : MB), mem[i]? = some b → mem[j]? = some d → b.wr (ρ i) = true → (d.wr (ρ j) || d.rd) = true → i ≠ j → (ρ i).1 ≠ (ρ j).1 := H.apart
 have w14 : ∀ g, (gslV (ρ 14) n).ownBlock = some g → MB.wr (ρ 14) (.grow 96 9 n lo) = true ∧ (ρ 14).1 = g := fun g hg => by
  revert hg
  generalize ρ 14 = p
  obtain ⟨b, q⟩ := p
  cases q with
  | zero => intro hg; simp [gslV, Value.ownBlock] at hg
  | succ q => intro hg; exact ⟨rfl, by simpa [gslV, Value.ownBlock] using hg⟩
 have hS3 : ∀ i, TryS (ρ 12).1 (ρ 13).1 (gslV (ρ 14) n) i → ∃ (h : Nat) (b : MB), Ch h ∧ mem[h]? = some b ∧ b.wr (ρ h) = true ∧ (ρ h).1 = i := fun i hi => by
  rcases hi with rfl | rfl | hi
  ·exact ⟨12, _, .inr (.inr (.inl rfl)), m12, rfl, rfl⟩
  ·exact ⟨13, _, .inr (.inr (.inr (.inl rfl))), m13, rfl, rfl⟩
  ·exact ⟨14, _, .inr (.inr (.inr (.inr rfl))), m14, (w14 i hi).1, (w14 i hi).2⟩
 have hS4 : ∀ i, TryS (ρ 12).1 (ρ 13).1 (gslV (ρ 14) n) i → ∃ (h : Nat) (b : MB), mem[h]? = some b ∧ b.wr (ρ h) = true ∧ (ρ h).1 = i := fun i hi => by
  obtain ⟨h, b, _, h1⟩ := hS3 i hi
  exact ⟨h, b, h1⟩
 have hC : ∀ w', Gr (TryS (ρ 12).1 (ρ 13).1 (gslV (ρ 14) n)) w w' → CfgAt w' w'.heap.size c ⟨some ⟨(ρ 3).1, (ρ 3).2, none⟩, kz, some ⟨(ρ 4).1, (ρ 4).2, none⟩, kc, some ⟨(ρ 5).1, (ρ 5).2, none⟩, kt, some ⟨(ρ 6).1, (ρ 6).2, none⟩, kv, some ⟨(ρ 7).1, (ρ 7).2, none⟩, kr, some ⟨(ρ 8).1, (ρ 8).2, none⟩, ko⟩ := fun w' hG =>
  ⟨rd_sat H hG hS4 m3, rd_sat H hG hS4 m4, rd_sat H hG hS4 m5, rd_sat H hG hS4 m6, rd_sat H hG hS4 m7, rd_sat H hG hS4 m8⟩
 have hrow : ∀ w', Gr (TryS (ρ 12).1 (ρ 13).1 (gslV (ρ 14) n)) w w' → w'.heap[(ρ 10).1]? = w.heap[(ρ 10).1]? ∧ w'.heap[(ρ 11).1]? = w.heap[(ρ 11).1]? := fun w' hG => by
  refine ⟨hG.block _ (H.lt m10 rfl) fun hs => ?_, hG.block _ (H.lt m11 rfl) fun hs => ?_⟩
  ·rcases hs with h1 | h1 | h1
   ·exact hap 10 12 _ _ m10 m12 rfl rfl (by omega) h1
   ·exact hap 10 13 _ _ m10 m13 rfl rfl (by omega) h1
   ·exact hap 14 10 _ _ m14 m10 (w14 _ h1).1 rfl (by omega) (w14 _ h1).2
  ·rcases hs with h1 | h1 | h1
   ·exact hap 11 12 _ _ m11 m12 rfl rfl (by omega) h1
   ·exact hap 11 13 _ _ m11 m13 rfl rfl (by omega) h1
   ·exact hap 14 11 _ _ m14 m11 (w14 _ h1).1 rfl (by omega) (w14 _ h1).2
 have hSt : ∀ w', Gr (TryS (ρ 12).1 (ρ 13).1 (gslV (ρ 14) n)) w w' → StAt w' w'.heap.size s ⟨some ⟨(ρ 10).1, 0, none⟩, kts, some ⟨(ρ 11).1, 0, none⟩, kcs⟩ := fun w' hG =>
  ⟨rd_blk (t := 105) ((hrow w' hG).1.trans k10.2), rd_blk (t := 107) ((hrow w' hG).2.trans k11.2)⟩
 have hcall := try_any c ⟨some ⟨(ρ 3).1, (ρ 3).2, none⟩, kz, some ⟨(ρ 4).1, (ρ 4).2, none⟩, kc, some ⟨(ρ 5).1, (ρ 5).2, none⟩, kt, some ⟨(ρ 6).1, (ρ 6).2, none⟩, kv, some ⟨(ρ 7).1, (ρ 7).2, none⟩, kr, some ⟨(ρ 8).1, (ρ 8).2, none⟩, ko⟩ s ⟨some ⟨(ρ 10).1, 0, none⟩, kts, some ⟨(ρ 11).1, 0, none⟩, kcs⟩ (gslV (ρ 14) n) n lo (ρ 9).1 (ρ 12).1 (ρ 13).1 ek et en ec eo ep el eh ev w ok sok (by have := hM.tens; omega) k9.2 (by have := k12.2; simp only [List.map, conc1, p10, p11] at this; exact this) k13.2 k14.1 k14.2 (by omega) (hap 12 9 _ _ m12 m9 rfl rfl (by omega)).symm (hap 13 9 _ _ m13 m9 rfl rfl (by omega)).symm (hap 12 13 _ _ m12 m13 rfl rfl (by omega)) (fun g hg => by
  obtain ⟨h1, rfl⟩ := w14 g hg
  exact ⟨hap 14 9 _ _ m14 m9 h1 rfl (by omega), hap 14 12 _ _ m14 m12 h1 rfl (by omega), hap 14 13 _ _ m14 m13 h1 rfl (by omega)⟩) hC hSt
 simp only [List.map, concV, conc1, p9, p12, p13]
 refine hcall.mono ?_
 rintro e w' ⟨rfl, s2, hs2, v2, n2, l2, R2⟩
 refine ⟨_, rfl, ?_⟩
 obtain ⟨p2, hp2⟩ := gsl_of R2.own
 obtain ⟨gt, gc, kt2, kc2, q1, q2, rfl, b1, b2, hne, hgg, hd2⟩ : ∃ gt gc kt2 kc2 q1 q2, hs2 = ⟨some ⟨gt, 0, none⟩, kt2, some ⟨gc, 0, none⟩, kc2⟩ ∧ w'.heap[gt]? = some (.cells (s2.tens.flatMap TsD.cells ++ q1).toArray 105 (0, 0)) ∧ w'.heap[gc]? = some (.cells (s2.cells.flatMap CsD.cells ++ q2).toArray 107 (0, 0)) ∧ gt ≠ gc ∧ ((gt = (ρ 10).1 ∧ gc = (ρ 11).1) ∨ (w.heap.size ≤ gt ∧ w.heap.size ≤ gc)) ∧ ∀ g, v2.ownBlock = some g → g ≠ gt ∧ g ≠ gc := by
  rcases R2.rows with ⟨rfl, rfl⟩ | ⟨gt, gc, kt, kc, q1, q2, rfl, b1, b2, hne, z1, z2, hd⟩
  ·refine ⟨(ρ 10).1, (ρ 11).1, kts, kcs, r1, r2, rfl, (hrow w' R2.gr).1.trans k10.2, (hrow w' R2.gr).2.trans k11.2, hap 10 11 _ _ m10 m11 rfl rfl (by omega), .inl ⟨rfl, rfl⟩, fun g hg => ?_⟩
   rcases R2.blk g hg with h1 | h1
   ·obtain ⟨h2, rfl⟩ := w14 g h1
    exact ⟨hap 14 10 _ _ m14 m10 h2 rfl (by omega), hap 14 11 _ _ m14 m11 h2 rfl (by omega)⟩
   ·have := H.lt m10 rfl
    have := H.lt m11 rfl
    omega
  ·exact ⟨gt, gc, kt, kc, q1, q2, rfl, b1, b2, hne, .inr ⟨z1, z2⟩, hd⟩
 have w2 : MB.wr p2 (.grow 96 9 n2 l2) = true → v2.ownBlock = some p2.1 := fun hw => by
  rw [← hp2]
  obtain ⟨b, q⟩ := p2
  cases q with
  | zero => simp [MB.wr] at hw
  | succ q => rfl
 let ρ' : Nat → Nat × Nat := fun h => if h = 10 then (gt, 0) else if h = 11 then (gc, 0) else if h = 14 then p2 else ρ h
 have e10 : ρ' 10 = (gt, 0) := rfl
 have e11 : ρ' 11 = (gc, 0) := rfl
 have e12 : ρ' 12 = ρ 12 := rfl
 have e13 : ρ' 13 = ρ 13 := rfl
 have e14 : ρ' 14 = p2 := rfl
 have eo : ∀ h, h ≠ 10 ∧ h ≠ 11 ∧ h ≠ 14 → ρ' h = ρ h := fun h hh => by simp only [ρ', if_neg hh.1, if_neg hh.2.1, if_neg hh.2.2]
 obtain ⟨tlen, tsame, t10, t11, t12, t13, t14⟩ := tryM_get (mem := mem) (a := .sym 105 (s2.tens.flatMap TsD.cells ++ q1)) (b := .sym 107 (s2.cells.flatMap CsD.cells ++ q2)) (c := .own 61 [.val (iv s2.tick), .val (iv s2.count), .slc 10 0 s2.tens.length kt2, .slc 11 0 s2.cells.length kc2, .val (iv s2.proven), .val (iv s2.evac), .val (iv s2.low), .val (iv s2.high)]) (d := .own 57 [.gsl 14 n2]) (e := .grow 96 9 n2 l2) h14
 have l12 := H.lt m12 rfl
 have l13 := H.lt m13 rfl
 have x1 : gt ≠ (ρ 12).1 ∧ gt ≠ (ρ 13).1 ∧ gc ≠ (ρ 12).1 ∧ gc ≠ (ρ 13).1 := by
  rcases hgg with ⟨rfl, rfl⟩ | ⟨z1, z2⟩
  ·exact ⟨hap 10 12 _ _ m10 m12 rfl rfl (by omega), hap 10 13 _ _ m10 m13 rfl rfl (by omega), hap 11 12 _ _ m11 m12 rfl rfl (by omega), hap 11 13 _ _ m11 m13 rfl rfl (by omega)⟩
  ·omega
 have x2 : MB.wr p2 (.grow 96 9 n2 l2) = true → (p2.1 ≠ gt ∧ p2.1 ≠ gc) ∧ p2.1 ≠ (ρ 12).1 ∧ p2.1 ≠ (ρ 13).1 := fun hw => by
  refine ⟨hd2 _ (w2 hw), ?_⟩
  rcases R2.blk _ (w2 hw) with h1 | h1
  ·obtain ⟨h2, h3⟩ := w14 _ h1
   rw [← h3]
   exact ⟨hap 14 12 _ _ m14 m12 h2 rfl (by omega), hap 14 13 _ _ m14 m13 h2 rfl (by omega)⟩
  ·omega
 have x3 : (ρ 12).1 ≠ (ρ 13).1 := hap 12 13 _ _ m12 m13 rfl rfl (by omega)
 have HS := H.rework (ρ' := ρ') R2.gr Ch tlen hS3 tsame (fun h hh => eo h (inL_ch (by
  have := ch_inL hh
  cases hb : inL [10, 11, 14] h with
  | false => rfl
  | true =>
    have := inL_mem.1 hb
    simp only [List.mem_cons, List.not_mem_nil, or_false] at this
    simp only [Ch, not_or] at hh
    omega))) (fun h b hh hb hat => free_blk (l := [10, 11, 12, 13, 14]) (fun j hj => eo j (by
    refine ⟨?_, ?_, ?_⟩ <;> rintro rfl <;> simp [inL] at hj)) (freeM_get hfm h b hb (by rw [Nat.zero_add]; exact ch_inL hh)) hat)
  (fun h b' hh hb' => by
   rcases hh with rfl | rfl | rfl | rfl | rfl
   ·rw [t10] at hb'; obtain rfl := Option.some.inj hb'
    refine ⟨rfl, trivial, ⟨rfl, b1⟩, fun _ => ?_⟩
    rcases hgg with ⟨h1, _⟩ | ⟨h1, _⟩
    ·exact .inl ⟨_, m10, rfl, h1⟩
    ·exact .inr h1
   ·rw [t11] at hb'; obtain rfl := Option.some.inj hb'
    refine ⟨rfl, trivial, ⟨rfl, b2⟩, fun _ => ?_⟩
    rcases hgg with ⟨_, h1⟩ | ⟨_, h1⟩
    ·exact .inl ⟨_, m11, rfl, h1⟩
    ·exact .inr h1
   ·rw [t12] at hb'; obtain rfl := Option.some.inj hb'
    refine ⟨rfl, by simp [MB.ok, S1.ok]; omega, ⟨p12, ?_⟩, fun _ => .inl ⟨_, m12, rfl, rfl⟩⟩
    have := R2.st
    simp only [List.map, conc1, e10, e11, e12, Nat.zero_add]
    exact this
   ·rw [t13] at hb'; obtain rfl := Option.some.inj hb'
    refine ⟨rfl, by simp [MB.ok, S1.ok]; omega, ⟨p13, ?_⟩, fun _ => .inl ⟨_, m13, rfl, rfl⟩⟩
    have := R2.out
    simp only [List.map, conc1, e14, e13, hp2]
    exact this
   ·rw [t14] at hb'; obtain rfl := Option.some.inj hb'
    refine ⟨rfl, trivial, ⟨by rw [e14, hp2]; exact R2.own, R2.one⟩, fun hw => ?_⟩
    rw [e14] at hw ⊢
    rcases R2.blk _ (w2 hw) with h1 | h1
    ·obtain ⟨h2, h3⟩ := w14 _ h1
     exact .inl ⟨_, m14, h2, h3.symm⟩
    ·exact .inr h1)
  (fun i j b d hi hj hb hd hbw hdw hij => by
   have y1 := x1
   rcases hi with rfl | rfl | rfl | rfl | rfl <;> rcases hj with rfl | rfl | rfl | rfl | rfl
   all_goals first
    | exact absurd rfl hij
    | exact hne
    | exact hne.symm
    | exact y1.1
    | exact y1.2.1
    | exact y1.2.2.1
    | exact y1.2.2.2
    | exact y1.1.symm
    | exact y1.2.1.symm
    | exact y1.2.2.1.symm
    | exact y1.2.2.2.symm
    | exact x3
    | exact x3.symm
    | (rw [t14] at hb; obtain rfl := Option.some.inj hb; rw [e14] at hbw; have z := x2 hbw; first | exact z.1.1 | exact z.1.2 | exact z.2.1 | exact z.2.2)
    | (rw [t14] at hd; obtain rfl := Option.some.inj hd; rw [e14] at hdw; have z := x2 hdw; first | exact z.1.1.symm | exact z.1.2.symm | exact z.2.1.symm | exact z.2.2.symm))
 have hput : Rel ρ (fgt dead (putE tm dst (.tup []))) (a.put dst (.tuple #[])) := fgt_rel dead (zbu ha dst (.tup []))
 have := h s2 kt2 kc2 _ _ _ _ q1 q2 n2 l2 R2.sok rfl rfl rfl rfl R2.len ρ' w' (a.put dst (.tuple #[])) (fun i p hi => by simp at hi) (Nat.zero_le _) HS (by
  rw [tlen]
  exact fgt_ok dead (zcc htm (by intro x hx; cases hx))) (freeP_rel (l := [10, 11, 14]) (fun j hj => eo j (inL_ch hj)) hft hput) (fun it hi => zcu hk it hi _)
 rw [cont_rho ρ' ρ hk] at this
 exact this
end
section
variable {T : List (TypeId × TI)} {D : Ords} {fn : Func} {w0 : World} {ρ0 : List (Nat × Nat)} {L : Nat → Act → World → Prop} {R : Ending → World → Prop} {dst : Option Tmp} {k : List It} {tm : PT} {mem : List MB}
theorem good_inReg {c : CfgD} {kz kc kt kv kr ko czl ccl ctl cvl crl col : Nat} {Zz Zc Zt Zv Zr Zo : List Value} {r : Int} {nn : Nat} {XR : List Value} (hk : headW [] k = true) (m3 : nth mem 3 = some (.rsym Zz)) (m4 : nth mem 4 = some (.rsym Zc)) (m5 : nth mem 5 = some (.rsym Zt)) (m6 : nth mem 6 = some (.rsym Zv)) (m7 : nth mem 7 = some (.rsym Zr)) (m8 : nth mem 8 = some (.rsym Zo)) (ok : CfgOk c) (hczl : czl = c.zones.length) (hccl : ccl = c.cells.length) (hctl : ctl = c.tens.length) (hcvl : cvl = c.vers.length) (hcrl : crl = c.reps.length) (hcol : col = c.obs.length) (hZz : Zz = c.zones.map iv) (hZc : Zc = c.cells.flatMap pairCells) (hZt : Zt = c.tens.flatMap TenD.cells) (hZv : Zv = c.vers.flatMap pairCells) (hZr : Zr = c.reps.map iv) (hZo : Zo = c.obs.map iv) (hnn : nn = (inRegTo c r c.cells.length).length) (hXR : XR = (inRegTo c r c.cells.length).map iv) (h0 : 0 < nn)
 (h : ∀ cap, Eng.Good (⟨Tryz.prog, T, D, fn, w0, [], ρ0, L⟩ : Eng.Env) R ⟨k, putE tm dst (.one (.slc (len mem) 0 nn cap)), mem ++ [.rsym XR]⟩) : Eng.Good (⟨Tryz.prog, T, D, fn, w0, [], ρ0, L⟩ : Eng.Env) R ⟨.call 41 [.agg [.val (iv c.regions), .slc 3 0 czl kz, .slc 4 0 ccl kc, .slc 5 0 ctl kt, .slc 6 0 cvl kv, .slc 7 0 crl kr, .slc 8 0 col ko, .val (iv c.blast), .val (iv c.lease), .val (iv c.bake)], .one (.val (.int .i64 r))] dst :: k, tm, mem⟩ := by
 rw [za2] at m3 m4 m5 m6 m7 m8
 subst hczl hccl hctl hcvl hcrl hcol hZz hZc hZt hZv hZr hZo
 refine za3 (α := Nat) [] (fun x => .one (.slc (len mem) 0 nn x)) (fun x => mem ++ [.rsym XR]) (fun x => by simp) (fun x h hh _ => by rw [List.getElem?_append_left hh]) (fun x => by show len mem < _; simp [za0]) hk goes_inRegion (fun ρ w hρ H => ?_) h
 have rd : ∀ {a : Nat} {l : List Value}, mem[a]? = some (.rsym l) → Rd w w.heap.size (some ⟨(ρ a).1, (ρ a).2, none⟩) l := fun ha => rd_sat H (Gr.refl (fun _ => False) w) (fun i hi => hi.elim) ha
 simp only [List.map, concV, conc1, Nat.add_zero]
 refine (inRegion_any c ⟨some ⟨(ρ 3).1, (ρ 3).2, none⟩, kz, some ⟨(ρ 4).1, (ρ 4).2, none⟩, kc, some ⟨(ρ 5).1, (ρ 5).2, none⟩, kt, some ⟨(ρ 6).1, (ρ 6).2, none⟩, kv, some ⟨(ρ 7).1, (ρ 7).2, none⟩, kr, some ⟨(ρ 8).1, (ρ 8).2, none⟩, ko⟩ r w ok ⟨rd m3, rd m4, rd m5, rd m6, rd m7, rd m8⟩).mono ?_
 rintro e w' ⟨v, rfl, ho, hb⟩
 rcases ho.2 with ⟨_, h1⟩ | ⟨g, cap, cur, rfl, hge, hcur, hle, _, hsz, htk⟩
 ·omega
 have hgl : g < w'.heap.size := (Array.getElem?_eq_some_iff.1 hcur).1
 refine ⟨cap, ext2 ρ mem.length (g, 0), ?_, fun h hh => za4 hh, ?_⟩
 ·simp only [za0, zau, hnn]
 ·refine (H.below hb).addB (p := (g, 0)) (fun h hh => za4 hh) (zau _ _) (fun j u hu => ?_) trivial (fun h => by cases h) (fun _ => hgl) (fun h c hc hk => ?_)
  ·rw [hXR, ← htk, List.getElem?_take] at hu
   split at hu
   ·rw [Nat.zero_add]
    simp only [World.cell?, hcur]
    simpa using hu
   ·cases hu
  ·rcases hk with ⟨h1, _⟩ | ⟨_, h1⟩
   ·cases h1
   ·have := H.lt hc (by rw [h1]; rfl)
    show (ρ h).1 ≠ g
    omega
end
theorem inReg_pos {c : CfgD} (hM : MillCfg c) : 0 < (inRegTo c 0 c.cells.length).length := by
 obtain ⟨x, hx, hx0⟩ := hM.cell0
 have hz := hM.zone0
 have hr : c.regionOf 0 = 0 := by
  have hlen : 0 < c.cells.length := by have := hM.ok.cells; omega
  have hzo : c.zoneOf 0 = 0 := by
   unfold CfgD.zoneOf
   rw [if_neg (by omega)]
   have : c.cells.getD (0 : Int).toNat (0, 0) = x := by simp [List.getD, hx]
   rw [this]; exact hx0
  unfold CfgD.regionOf
  rw [hzo, if_neg (by omega)]
  simp [List.getD, hz]
 have : (0 : Nat) ∈ (List.range c.cells.length).filter fun i => decide (c.regionOf (Int.ofNat i) = 0) := by
  have := hM.ok.cells
  simp only [List.mem_filter, List.mem_range, decide_eq_true_eq]
  exact ⟨by omega, hr⟩
 simp only [inRegTo, List.length_map]
 exact List.length_pos_of_mem this
theorem inReg_le (c : CfgD) : (inRegTo c 0 c.cells.length).length ≤ c.cells.length := by
 simpa [inRegTo] using List.length_filter_le (fun i => decide (c.regionOf (Int.ofNat i) = 0)) (List.range c.cells.length)
structure PSt where
 i : Nat
 pt : Int
 s : StD
 kt : Nat
 kc : Nat
 tl : Nat
 cl : Nat
 xs : List Value
 ys : List Value
 r1 : List Value
 r2 : List Value
 n : Nat
 lo : List Value
structure PSt.Ok (c : CfgD) (l : List Int) (x : PSt) : Prop where
 pt : PtOk l x.pt
 sok : StOk c x.s
 tl : x.tl = x.s.tens.length
 cl : x.cl = x.s.cells.length
 xs : x.xs = x.s.tens.flatMap TsD.cells ++ x.r1
 ys : x.ys = x.s.cells.flatMap CsD.cells ++ x.r2
def ordsP : Ords := [(11, [(0, false), (2, false), (3, false), (1, true), (4, true), (5, true), (6, true), (7, true), (8, true), (9, true)], 10, [2]), (19, [(0, false), (1, false), (2, false), (3, false), (4, false), (9, false), (5, false), (6, true), (7, true), (8, false), (10, true), (11, true), (12, true), (13, true)], 14, [2,16,18]), (25, [(0, false), (1, false), (2, false), (3, false), (5, false), (6, false), (7, false), (8, false), (10, false), (11, false), (12, false), (4, true), (9, true), (13, true), (14, false), (15, true), (16, true), (17, true)], 18, [2]), (50, [(0, false), (1, false), (2, false), (3, false), (4, false), (5, false), (6, false), (7, false), (8, false), (14, false), (9, true), (10, true), (11, true), (12, true), (13, false), (15, true), (16, true), (17, true), (18, true), (19, true), (20, true)], 21, [2,15]), (31, [(0, false), (1, false), (2, false), (3, true), (4, true), (5, true), (6, true), (7, true)], 8, [2]), (52, [(0, false), (1, false), (2, false), (3, true), (4, true)], 5, [0,1]), (30, [(0, false), (3, false), (4, false), (1, false), (5, false), (2, false), (6, false), (7, false), (8, true), (9, true)], 10, [15])]
theorem packed_any (Ad : Option Addr) (cp : Nat) (l : List Int) (w : World) (hl : l.length ≤ 1000) (hrd : Rd w w.heap.size Ad (l.map iv)) :
 Calls Tryz.prog 19 #[.slice Ad l.length cp] w fun e w' => ∃ c h v2 s3 h3, e = .returned (.tuple #[.agg (cfgV c h), v2, .agg (stV s3 h3)]) ∧ MillCfg c ∧ Below w.heap.size w w' := by
 obtain ⟨ln, hln⟩ := nm (l.length)
 obtain ⟨A, hA⟩ : ∃ A, A = std := ⟨_, rfl⟩
 refine zae (E := ⟨Tryz.prog, tabaT, ordsP, Tryz.f19, w, [], [], fun _ _ _ => False⟩) zab (c := bodyOf Tryz.f19) (n := 0) Tryz.func19 rfl (show codeChk ordsP (bodyOf Tryz.f19) = true by decide +kernel) (rho []) (fun h p hp => zaq _ h p hp)
  (tm := [.one (.val (.slice Ad ln cp))] ++ List.replicate 269 (.one (.val undef))) (mem := []) (Nat.le_refl _) ?_ ?_ (by rw [hln]; rfl) ?_
 ·exact zan w [] _
 ·simp [SV.ok, S1.ok]
 ·refine zaa zab hA rfl rfl 400 ?_
  conv => arg 3; cbv
  refine good_mnew hln hl hrd rfl (fun pt0 hp0 => ?_)
  refine zaa zab hA rfl rfl 400 ?_
  conv => arg 3; cbv
  refine good_mconfig 2 rfl hln hp0 hl hrd rfl (fun c pt1 kz kc kt kv kr ko czl ccl ctl cvl crl col Zz Zc Zt Zv Zr Zo hM hp1 hczl hccl hctl hcvl hcrl hcol hZz hZc hZt hZv hZr hZo => ?_)
  have ok := hM.ok
  obtain ⟨s0, hs0⟩ : ∃ s, s = newSt c := ⟨_, rfl⟩
  have sok0 : StOk c s0 := by rw [hs0]; exact newSt_ok ok
  obtain ⟨tl0, htl0⟩ := nm (s0.tens.length)
  obtain ⟨cl0, hcl0⟩ := nm (s0.cells.length)
  obtain ⟨ti, hti⟩ := nm (Int.ofNat ctl)
  obtain ⟨ci, hci⟩ := nm (Int.ofNat ccl)
  obtain ⟨nn, hnn⟩ := nm ((inRegTo c 0 c.cells.length).length)
  obtain ⟨XR, hXR⟩ := nm ((inRegTo c 0 c.cells.length).map iv)
  obtain ⟨ni, hni⟩ := nm (Int.ofNat nn)
  have hnn0 : 0 < nn := by rw [hnn]; exact inReg_pos hM
  have hten := hM.tens
  have hcel := ok.cells
  have F : A.len ctl = ti ∧ A.len ccl = ci ∧ A.len nn = ni := by
   rw [hA, hti, hci, hni]
   exact ⟨rfl, rfl, rfl⟩
  refine zaa zab hA rfl rfl 400 ?_
  conv => arg 3; cbv
  repeat (simp only [F]; try (conv => arg 3; cbv))
  refine good_newSt s0 tl0 cl0 htl0 hcl0 (.inr ⟨_, _, _, rfl, rfl⟩) goes_new (fun ρ w' hρ hSat => ?_) (fun kts kcs r1 r2 xs ys hxs hys => ?_)
  ·simp only [List.map, concV, conc1, Nat.add_zero]
   rw [hs0, hczl, hccl, hctl, hcvl, hcrl, hcol]
   exact new_any c ⟨some ⟨(ρ 3).1, (ρ 3).2, none⟩, kz, some ⟨(ρ 4).1, (ρ 4).2, none⟩, kc, some ⟨(ρ 5).1, (ρ 5).2, none⟩, kt, some ⟨(ρ 6).1, (ρ 6).2, none⟩, kv, some ⟨(ρ 7).1, (ρ 7).2, none⟩, kr, some ⟨(ρ 8).1, (ρ 8).2, none⟩, ko⟩ w' (by omega) (by omega) (by omega) (by omega)
  refine zaa zab hA rfl rfl 400 ?_
  conv => arg 3; cbv
  repeat (simp only [F]; try (conv => arg 3; cbv))
  refine zcy 13 0 96 9 rfl rfl rfl ?_
  conv => arg 3; cbv
  refine zbh 1 (α := { x : PSt // x.i ≤ ctl ∧ PSt.Ok c l x ∧ x.n ≤ 4 * x.i }) [10, 11, 12, 13, 14, 26, 31, 32, 33, 34, 35, 36, 37, 38, 39, 40, 41, 42, 43, 44, 45, 46, 47, 48, 49, 50, 51, 52, 53, 54, 55, 56, 57, 58, 59, 60, 61, 62, 63, 64, 65, 66, 67, 68, 69, 70, 71, 72, 73, 74, 75, 76, 77, 78, 79, 80, 81, 82, 83, 84, 85, 86, 87, 88, 89, 90, 91, 92, 93, 94, 95, 96, 97, 98, 99, 100, 101, 102, 103, 104, 105, 106, 107, 108, 109, 110, 111, 112, 113, 114, 115, 116, 117, 118, 147, 149, 178, 181, 182, 237, 239, 240, 248, 250, 251] (fun x => [(31, .one (.val (.int .i64 (Int.ofNat x.1.i))))]) (fun x => [.own 36 [.val (.int .i64 0), .val (.slice none 0 0), .val (.slice none 0 0), .val (.slice none 0 0), .val (.slice none 0 0), .val (.slice none 0 0), .val (.slice none 0 0), .val (.int .i64 0), .val (.int .i64 0), .val (.int .i64 0)], .own 61 [.val (.int .i64 0), .val (.int .i64 0), .val (.slice none 0 0), .val (.slice none 0 0), .val (.int .i64 0), .val (.int .i64 0), .val (.int .i64 0), .val (.int .i64 0)], .own 90 [.val (.slice Ad ln cp), .val (.int .i64 x.1.pt)], .rsym Zz, .rsym Zc, .rsym Zt, .rsym Zv, .rsym Zr, .rsym Zo, .own 36 [.val (iv c.regions), .slc 3 0 czl kz, .slc 4 0 ccl kc, .slc 5 0 ctl kt, .slc 6 0 cvl kv, .slc 7 0 crl kr, .slc 8 0 col ko, .val (iv c.blast), .val (iv c.lease), .val (iv c.bake)], .sym 105 x.1.xs, .sym 107 x.1.ys, .own 61 [.val (iv x.1.s.tick), .val (iv x.1.s.count), .slc 10 0 x.1.tl x.1.kt, .slc 11 0 x.1.cl x.1.kc, .val (iv x.1.s.proven), .val (iv x.1.s.evac), .val (iv x.1.s.low), .val (iv x.1.s.high)], .own 57 [.gsl 14 x.1.n], .grow 96 9 x.1.n x.1.lo]) (fun x => ctl - x.1.i) ⟨⟨0, pt1, s0, kts, kcs, tl0, cl0, xs, ys, r1, r2, 0, []⟩, Nat.zero_le _, ⟨hp1, sok0, htl0, hcl0, hxs, hys⟩, Nat.zero_le _⟩ ?_ ?_ (fun x => rfl) (fun x y hy => zbl hy trivial) rfl (fun x L' hL1 hL2 => ?_)
  ·cbv
   simp
  ·rfl
  ·obtain ⟨⟨i, pt, s, kt', kc', tl, cl, xs, ys, rr1, rr2, n, lo⟩, hile, hok, hnn'⟩ := x
   obtain ⟨hpt, hsok, htl, hcl, hxs, hys⟩ := hok
   dsimp only at hile hnn' hpt hsok htl hcl hxs hys ⊢
   obtain ⟨n1, hn1⟩ := nm (i + 1)
   have q2 : A.add .i64 (Int.ofNat i) 1 = Int.ofNat n1 := by rw [hA, hn1]; exact (wrap64 (by simp; omega) (by simp; omega)).trans (by simp)
   by_cases hi : i < ctl
   ·have q1 : A.lt (Int.ofNat i) ti = true := by rw [hA, hti]; simp [std]; omega
    refine zaa zab hA rfl rfl 400 ?_
    conv => arg 3; cbv
    repeat (simp only [F, q1]; try (conv => arg 3; cbv))
    refine za1 2 rfl hln hpt hl hrd (by rw [hci]; show (1 : Int) ≤ (ccl : Int); omega) (by rw [hci]; show (ccl : Int) ≤ 1000000000; omega) rfl (fun r216 pt217 u218 u219 hp220 => ?_)
    refine zaa zab hA rfl rfl 400 ?_
    conv => arg 3; cbv
    repeat (simp only [F]; try (conv => arg 3; cbv))
    refine za1 2 rfl hln hp220 hl hrd (by omega) (by omega) rfl (fun r221 pt222 u223 u224 hp225 => ?_)
    refine zaa zab hA rfl rfl 400 ?_
    conv => arg 3; cbv
    repeat (simp only [F]; try (conv => arg 3; cbv))
    by_cases hr2 : 0 < r221
    ·have b1 : A.lt 0 r221 = true := by rw [hA]; exact decide_eq_true hr2
     repeat (simp only [F, b1]; try (conv => arg 3; cbv))
     refine good_inReg rfl rfl rfl rfl rfl rfl rfl ok hczl hccl hctl hcvl hcrl hcol hZz hZc hZt hZv hZr hZo hnn hXR hnn0 (fun cap1 => ?_)
     refine zaa zab hA rfl rfl 400 ?_
     conv => arg 3; cbv
     repeat (simp only [F]; try (conv => arg 3; cbv))
     refine good_inReg rfl rfl rfl rfl rfl rfl rfl ok hczl hccl hctl hcvl hcrl hcol hZz hZc hZt hZv hZr hZo hnn hXR hnn0 (fun cap2 => ?_)
     refine zaa zab hA rfl rfl 400 ?_
     conv => arg 3; cbv
     repeat (simp only [F]; try (conv => arg 3; cbv))
     refine za1 2 rfl hln hp225 hl hrd (by rw [hni]; show (1 : Int) ≤ (nn : Int); omega) (by rw [hni]; show (nn : Int) ≤ 1000000000; have := inReg_le c; omega) rfl (fun r226 pt227 u228 u229 hp230 => ?_)
     refine zaa zab hA rfl rfl 400 ?_
     conv => arg 3; cbv
     have hni' : ni = (nn : Int) := hni
     obtain ⟨m, hm⟩ : ∃ m : Nat, r226 = (m : Int) := ⟨r226.toNat, by omega⟩
     obtain ⟨hv, hhv⟩ : ∃ x, (inRegTo c 0 c.cells.length)[m]? = some x := ⟨_, List.getElem?_eq_getElem (by omega)⟩
     have y1 : A.inb r226 nn = true := by rw [hA]; simp [std]; omega
     have y2 : A.idx 0 r226 1 = m := by rw [hA, hm]; simp [std]
     have y3 : A.get XR m 0 = some (.int .i64 hv) := by rw [hA, hXR]; simp [std, hhv]
     repeat (simp only [F, y1, y2, y3]; try (conv => arg 3; cbv))
     refine za1 2 rfl hln hp230 hl hrd (by rw [hci]; show (1 : Int) ≤ (ccl : Int); omega) (by rw [hci]; show (ccl : Int) ≤ 1000000000; omega) rfl (fun r231 pt232 u233 u234 hp235 => ?_)
     refine zaa zab hA rfl rfl 400 ?_
     conv => arg 3; cbv
     repeat (simp only [F, b1]; try (conv => arg 3; cbv))
     refine za5 ?_
     refine zaa zab hA rfl rfl 400 ?_
     conv => arg 3; cbv
     repeat (simp only [F]; try (conv => arg 3; cbv))
     refine zbc [26, 86, 88, 147, 149, 178, 181, 182, 237, 239, 240, 248, 250, 251] rfl rfl rfl rfl rfl rfl rfl rfl rfl rfl rfl rfl rfl hM hsok (by omega) hczl hccl hctl hcvl hcrl hcol hZz hZc hZt hZv hZr hZo htl hcl hxs hys rfl rfl (fun s236 kt237 kc238 tl239 cl240 xs241 ys242 q1243 q2244 n245 lo246 sok247 htl248 hcl249 hxs250 hys251 hn252 => ?_)
     refine zaa zab hA rfl rfl 400 ?_
     conv => arg 3; cbv
     repeat (simp only [F]; try (conv => arg 3; cbv))
     refine za5 ?_
     refine zaa zab hA rfl rfl 400 ?_
     conv => arg 3; cbv
     repeat (simp only [F]; try (conv => arg 3; cbv))
     refine zbc [26, 86, 88, 147, 149, 178, 181, 182, 237, 239, 240, 248, 250, 251] rfl rfl rfl rfl rfl rfl rfl rfl rfl rfl rfl rfl rfl hM sok247 (by omega) hczl hccl hctl hcvl hcrl hcol hZz hZc hZt hZv hZr hZo htl248 hcl249 hxs250 hys251 rfl rfl (fun s253 kt254 kc255 tl256 cl257 xs258 ys259 q1260 q2261 n262 lo263 sok264 htl265 hcl266 hxs267 hys268 hn269 => ?_)
     refine zaa zab hA rfl rfl 400 ?_
     conv => arg 3; cbv
     repeat (simp only [F]; try (conv => arg 3; cbv))
     refine za5 ?_
     refine zaa zab hA rfl rfl 400 ?_
     conv => arg 3; cbv
     repeat (simp only [F]; try (conv => arg 3; cbv))
     refine zbc [26, 86, 88, 147, 149, 178, 181, 182, 237, 239, 240, 248, 250, 251] rfl rfl rfl rfl rfl rfl rfl rfl rfl rfl rfl rfl rfl hM sok264 (by omega) hczl hccl hctl hcvl hcrl hcol hZz hZc hZt hZv hZr hZo htl265 hcl266 hxs267 hys268 rfl rfl (fun s270 kt271 kc272 tl273 cl274 xs275 ys276 q1277 q2278 n279 lo280 sok281 htl282 hcl283 hxs284 hys285 hn286 => ?_)
     refine zaa zab hA rfl rfl 400 ?_
     conv => arg 3; cbv
     obtain ⟨t, ht⟩ : ∃ t, s270.tens[i]? = some t := ⟨_, List.getElem?_eq_getElem (by rw [sok281.tl]; omega)⟩
     obtain ⟨q, hq⟩ := nm (i * 12)
     have z1 : A.inb (Int.ofNat i) tl273 = true := by rw [hA, htl282, sok281.tl]; simp [std]; omega
     have z2 : A.idx 0 (Int.ofNat i) 12 = q := by rw [hA, hq]; simp [std]
     have z3 : A.getN xs275 q 0 12 = some [.bool t.placed, .bool t.shed, .int .i64 t.home, .int .i64 t.standby, .int .i64 t.next, .int .i64 t.target, .int .i64 t.epoch, .int .i64 t.win.cell, .int .i64 t.win.epoch, .int .i64 t.win.version, .int .i64 t.win.lo, .int .i64 t.win.hi] := by rw [hA, hq, hxs284]; exact zc3 TsD.cells 12 (fun _ => rfl) ht q1277
     repeat (simp only [F, q2, z1, z2, z3]; try (conv => arg 3; cbv))
     cases hpl : t.placed
     ·simp only [hpl]
      conv => arg 3; cbv
      repeat (simp only [F, q2, z1, z2, z3]; try (conv => arg 3; cbv))
      refine zai (l := [0, 1, 2, 3, 4, 5, 6, 7, 8, 9, 10, 11, 12, 13, 14]) ⟨rfl, rfl, rfl⟩ hL2 ⟨⟨n1, pt232, s270, kt271, kc272, tl273, cl274, xs275, ys276, q1277, q2278, n279, lo280⟩, by show n1 ≤ ctl; omega, ⟨hp235, sok281, htl282, hcl283, hxs284, hys285⟩, by show n279 ≤ 4 * n1; omega⟩ ?_ rfl rfl rfl ?_ ?_ ?_ ?_
      ·dsimp only
       omega
      ·intro b hb
       simp only [List.mem_cons, List.not_mem_nil, or_false] at hb
       rcases hb with rfl | rfl | rfl | rfl | rfl | rfl | rfl | rfl | rfl | rfl | rfl | rfl | rfl | rfl | rfl <;> simp [MB.ok, S1.ok]
      ·exact zao (by cbv <;> trivial)
      ·exact ⟨.inr rfl, .inr rfl, .inr rfl, .inr rfl, .inr rfl, .inr rfl, .inr rfl, .inr rfl, .inr rfl, .inr rfl, .inr rfl, .inr rfl, .inr rfl, .inr rfl, .inr rfl, trivial⟩
      ·cbv
       simp
     ·simp only [hpl]
      conv => arg 3; cbv
      repeat (simp only [F, q2, z1, z2, z3]; try (conv => arg 3; cbv))
      refine za1 2 rfl hln hp235 hl hrd (by omega) (by omega) rfl (fun r287 pt288 u289 u290 hp291 => ?_)
      refine zaa zab hA rfl rfl 400 ?_
      conv => arg 3; cbv
      repeat (simp only [F, q2, z1, z2, z3]; try (conv => arg 3; cbv))
      by_cases hr4 : 0 < r287
      ·have b2 : A.lt 0 r287 = true := by rw [hA]; exact decide_eq_true hr4
       repeat (simp only [F, b2]; try (conv => arg 3; cbv))
       refine za5 ?_
       refine zaa zab hA rfl rfl 400 ?_
       conv => arg 3; cbv
       repeat (simp only [F]; try (conv => arg 3; cbv))
       refine good_mrange 2 rfl hln hp291 hl hrd (ok.lease.1) (by omega) (Int.le_trans ok.lease.2 (by decide)) rfl (fun r292 pt293 u294 u295 hp296 => ?_)
       refine zaa zab hA rfl rfl 400 ?_
       conv => arg 3; cbv
       repeat (simp only [F]; try (conv => arg 3; cbv))
       refine zbc [26, 86, 88, 147, 149, 178, 181, 182, 237, 239, 240, 248, 250, 251] rfl rfl rfl rfl rfl rfl rfl rfl rfl rfl rfl rfl rfl hM sok281 (by omega) hczl hccl hctl hcvl hcrl hcol hZz hZc hZt hZv hZr hZo htl282 hcl283 hxs284 hys285 rfl rfl (fun s297 kt298 kc299 tl300 cl301 xs302 ys303 q1304 q2305 n306 lo307 sok308 htl309 hcl310 hxs311 hys312 hn313 => ?_)
       refine zaa zab hA rfl rfl 400 ?_
       conv => arg 3; cbv
       repeat (simp only [F, q2]; try (conv => arg 3; cbv))
       refine zai (l := [0, 1, 2, 3, 4, 5, 6, 7, 8, 9, 10, 11, 12, 13, 14]) ⟨rfl, rfl, rfl⟩ hL2 ⟨⟨n1, pt293, s297, kt298, kc299, tl300, cl301, xs302, ys303, q1304, q2305, n306, lo307⟩, by show n1 ≤ ctl; omega, ⟨hp296, sok308, htl309, hcl310, hxs311, hys312⟩, by show n306 ≤ 4 * n1; omega⟩ ?_ rfl rfl rfl ?_ ?_ ?_ ?_
       ·dsimp only
        omega
       ·intro b hb
        simp only [List.mem_cons, List.not_mem_nil, or_false] at hb
        rcases hb with rfl | rfl | rfl | rfl | rfl | rfl | rfl | rfl | rfl | rfl | rfl | rfl | rfl | rfl | rfl <;> simp [MB.ok, S1.ok]
       ·exact zao (by cbv <;> trivial)
       ·exact ⟨.inr rfl, .inr rfl, .inr rfl, .inr rfl, .inr rfl, .inr rfl, .inr rfl, .inr rfl, .inr rfl, .inr rfl, .inr rfl, .inr rfl, .inr rfl, .inr rfl, .inr rfl, trivial⟩
       ·cbv
        simp
      ·have b2 : A.lt 0 r287 = false := by rw [hA]; exact decide_eq_false hr4
       repeat (simp only [F, q2, b2]; try (conv => arg 3; cbv))
       refine zai (l := [0, 1, 2, 3, 4, 5, 6, 7, 8, 9, 10, 11, 12, 13, 14]) ⟨rfl, rfl, rfl⟩ hL2 ⟨⟨n1, pt288, s270, kt271, kc272, tl273, cl274, xs275, ys276, q1277, q2278, n279, lo280⟩, by show n1 ≤ ctl; omega, ⟨hp291, sok281, htl282, hcl283, hxs284, hys285⟩, by show n279 ≤ 4 * n1; omega⟩ ?_ rfl rfl rfl ?_ ?_ ?_ ?_
       ·dsimp only
        omega
       ·intro b hb
        simp only [List.mem_cons, List.not_mem_nil, or_false] at hb
        rcases hb with rfl | rfl | rfl | rfl | rfl | rfl | rfl | rfl | rfl | rfl | rfl | rfl | rfl | rfl | rfl <;> simp [MB.ok, S1.ok]
       ·exact zao (by cbv <;> trivial)
       ·exact ⟨.inr rfl, .inr rfl, .inr rfl, .inr rfl, .inr rfl, .inr rfl, .inr rfl, .inr rfl, .inr rfl, .inr rfl, .inr rfl, .inr rfl, .inr rfl, .inr rfl, .inr rfl, trivial⟩
       ·cbv
        simp
    ·have b1 : A.lt 0 r221 = false := by rw [hA]; exact decide_eq_false hr2
     repeat (simp only [F, b1]; try (conv => arg 3; cbv))
     refine za1 2 rfl hln hp225 hl hrd (by rw [hci]; show (1 : Int) ≤ (ccl : Int); omega) (by rw [hci]; show (ccl : Int) ≤ 1000000000; omega) rfl (fun r314 pt315 u316 u317 hp318 => ?_)
     refine zaa zab hA rfl rfl 400 ?_
     conv => arg 3; cbv
     repeat (simp only [F, b1]; try (conv => arg 3; cbv))
     refine za5 ?_
     refine zaa zab hA rfl rfl 400 ?_
     conv => arg 3; cbv
     repeat (simp only [F]; try (conv => arg 3; cbv))
     refine zbc [26, 86, 88, 147, 149, 178, 181, 182, 237, 239, 240, 248, 250, 251] rfl rfl rfl rfl rfl rfl rfl rfl rfl rfl rfl rfl rfl hM hsok (by omega) hczl hccl hctl hcvl hcrl hcol hZz hZc hZt hZv hZr hZo htl hcl hxs hys rfl rfl (fun s319 kt320 kc321 tl322 cl323 xs324 ys325 q1326 q2327 n328 lo329 sok330 htl331 hcl332 hxs333 hys334 hn335 => ?_)
     refine zaa zab hA rfl rfl 400 ?_
     conv => arg 3; cbv
     repeat (simp only [F]; try (conv => arg 3; cbv))
     refine za5 ?_
     refine zaa zab hA rfl rfl 400 ?_
     conv => arg 3; cbv
     repeat (simp only [F]; try (conv => arg 3; cbv))
     refine zbc [26, 86, 88, 147, 149, 178, 181, 182, 237, 239, 240, 248, 250, 251] rfl rfl rfl rfl rfl rfl rfl rfl rfl rfl rfl rfl rfl hM sok330 (by omega) hczl hccl hctl hcvl hcrl hcol hZz hZc hZt hZv hZr hZo htl331 hcl332 hxs333 hys334 rfl rfl (fun s336 kt337 kc338 tl339 cl340 xs341 ys342 q1343 q2344 n345 lo346 sok347 htl348 hcl349 hxs350 hys351 hn352 => ?_)
     refine zaa zab hA rfl rfl 400 ?_
     conv => arg 3; cbv
     repeat (simp only [F]; try (conv => arg 3; cbv))
     refine za5 ?_
     refine zaa zab hA rfl rfl 400 ?_
     conv => arg 3; cbv
     repeat (simp only [F]; try (conv => arg 3; cbv))
     refine zbc [26, 86, 88, 147, 149, 178, 181, 182, 237, 239, 240, 248, 250, 251] rfl rfl rfl rfl rfl rfl rfl rfl rfl rfl rfl rfl rfl hM sok347 (by omega) hczl hccl hctl hcvl hcrl hcol hZz hZc hZt hZv hZr hZo htl348 hcl349 hxs350 hys351 rfl rfl (fun s353 kt354 kc355 tl356 cl357 xs358 ys359 q1360 q2361 n362 lo363 sok364 htl365 hcl366 hxs367 hys368 hn369 => ?_)
     refine zaa zab hA rfl rfl 400 ?_
     conv => arg 3; cbv
     obtain ⟨t, ht⟩ : ∃ t, s353.tens[i]? = some t := ⟨_, List.getElem?_eq_getElem (by rw [sok364.tl]; omega)⟩
     obtain ⟨q, hq⟩ := nm (i * 12)
     have z1 : A.inb (Int.ofNat i) tl356 = true := by rw [hA, htl365, sok364.tl]; simp [std]; omega
     have z2 : A.idx 0 (Int.ofNat i) 12 = q := by rw [hA, hq]; simp [std]
     have z3 : A.getN xs358 q 0 12 = some [.bool t.placed, .bool t.shed, .int .i64 t.home, .int .i64 t.standby, .int .i64 t.next, .int .i64 t.target, .int .i64 t.epoch, .int .i64 t.win.cell, .int .i64 t.win.epoch, .int .i64 t.win.version, .int .i64 t.win.lo, .int .i64 t.win.hi] := by rw [hA, hq, hxs367]; exact zc3 TsD.cells 12 (fun _ => rfl) ht q1360
     repeat (simp only [F, q2, z1, z2, z3]; try (conv => arg 3; cbv))
     cases hpl : t.placed
     ·simp only [hpl]
      conv => arg 3; cbv
      repeat (simp only [F, q2, z1, z2, z3]; try (conv => arg 3; cbv))
      refine zai (l := [0, 1, 2, 3, 4, 5, 6, 7, 8, 9, 10, 11, 12, 13, 14]) ⟨rfl, rfl, rfl⟩ hL2 ⟨⟨n1, pt315, s353, kt354, kc355, tl356, cl357, xs358, ys359, q1360, q2361, n362, lo363⟩, by show n1 ≤ ctl; omega, ⟨hp318, sok364, htl365, hcl366, hxs367, hys368⟩, by show n362 ≤ 4 * n1; omega⟩ ?_ rfl rfl rfl ?_ ?_ ?_ ?_
      ·dsimp only
       omega
      ·intro b hb
       simp only [List.mem_cons, List.not_mem_nil, or_false] at hb
       rcases hb with rfl | rfl | rfl | rfl | rfl | rfl | rfl | rfl | rfl | rfl | rfl | rfl | rfl | rfl | rfl <;> simp [MB.ok, S1.ok]
      ·exact zao (by cbv <;> trivial)
      ·exact ⟨.inr rfl, .inr rfl, .inr rfl, .inr rfl, .inr rfl, .inr rfl, .inr rfl, .inr rfl, .inr rfl, .inr rfl, .inr rfl, .inr rfl, .inr rfl, .inr rfl, .inr rfl, trivial⟩
      ·cbv
       simp
     ·simp only [hpl]
      conv => arg 3; cbv
      repeat (simp only [F, q2, z1, z2, z3]; try (conv => arg 3; cbv))
      refine za1 2 rfl hln hp318 hl hrd (by omega) (by omega) rfl (fun r370 pt371 u372 u373 hp374 => ?_)
      refine zaa zab hA rfl rfl 400 ?_
      conv => arg 3; cbv
      repeat (simp only [F, q2, z1, z2, z3]; try (conv => arg 3; cbv))
      by_cases hr4 : 0 < r370
      ·have b2 : A.lt 0 r370 = true := by rw [hA]; exact decide_eq_true hr4
       repeat (simp only [F, b2]; try (conv => arg 3; cbv))
       refine za5 ?_
       refine zaa zab hA rfl rfl 400 ?_
       conv => arg 3; cbv
       repeat (simp only [F]; try (conv => arg 3; cbv))
       refine good_mrange 2 rfl hln hp374 hl hrd (ok.lease.1) (by omega) (Int.le_trans ok.lease.2 (by decide)) rfl (fun r375 pt376 u377 u378 hp379 => ?_)
       refine zaa zab hA rfl rfl 400 ?_
       conv => arg 3; cbv
       repeat (simp only [F]; try (conv => arg 3; cbv))
       refine zbc [26, 86, 88, 147, 149, 178, 181, 182, 237, 239, 240, 248, 250, 251] rfl rfl rfl rfl rfl rfl rfl rfl rfl rfl rfl rfl rfl hM sok364 (by omega) hczl hccl hctl hcvl hcrl hcol hZz hZc hZt hZv hZr hZo htl365 hcl366 hxs367 hys368 rfl rfl (fun s380 kt381 kc382 tl383 cl384 xs385 ys386 q1387 q2388 n389 lo390 sok391 htl392 hcl393 hxs394 hys395 hn396 => ?_)
       refine zaa zab hA rfl rfl 400 ?_
       conv => arg 3; cbv
       repeat (simp only [F, q2]; try (conv => arg 3; cbv))
       refine zai (l := [0, 1, 2, 3, 4, 5, 6, 7, 8, 9, 10, 11, 12, 13, 14]) ⟨rfl, rfl, rfl⟩ hL2 ⟨⟨n1, pt376, s380, kt381, kc382, tl383, cl384, xs385, ys386, q1387, q2388, n389, lo390⟩, by show n1 ≤ ctl; omega, ⟨hp379, sok391, htl392, hcl393, hxs394, hys395⟩, by show n389 ≤ 4 * n1; omega⟩ ?_ rfl rfl rfl ?_ ?_ ?_ ?_
       ·dsimp only
        omega
       ·intro b hb
        simp only [List.mem_cons, List.not_mem_nil, or_false] at hb
        rcases hb with rfl | rfl | rfl | rfl | rfl | rfl | rfl | rfl | rfl | rfl | rfl | rfl | rfl | rfl | rfl <;> simp [MB.ok, S1.ok]
       ·exact zao (by cbv <;> trivial)
       ·exact ⟨.inr rfl, .inr rfl, .inr rfl, .inr rfl, .inr rfl, .inr rfl, .inr rfl, .inr rfl, .inr rfl, .inr rfl, .inr rfl, .inr rfl, .inr rfl, .inr rfl, .inr rfl, trivial⟩
       ·cbv
        simp
      ·have b2 : A.lt 0 r370 = false := by rw [hA]; exact decide_eq_false hr4
       repeat (simp only [F, q2, b2]; try (conv => arg 3; cbv))
       refine zai (l := [0, 1, 2, 3, 4, 5, 6, 7, 8, 9, 10, 11, 12, 13, 14]) ⟨rfl, rfl, rfl⟩ hL2 ⟨⟨n1, pt371, s353, kt354, kc355, tl356, cl357, xs358, ys359, q1360, q2361, n362, lo363⟩, by show n1 ≤ ctl; omega, ⟨hp374, sok364, htl365, hcl366, hxs367, hys368⟩, by show n362 ≤ 4 * n1; omega⟩ ?_ rfl rfl rfl ?_ ?_ ?_ ?_
       ·dsimp only
        omega
       ·intro b hb
        simp only [List.mem_cons, List.not_mem_nil, or_false] at hb
        rcases hb with rfl | rfl | rfl | rfl | rfl | rfl | rfl | rfl | rfl | rfl | rfl | rfl | rfl | rfl | rfl <;> simp [MB.ok, S1.ok]
       ·exact zao (by cbv <;> trivial)
       ·exact ⟨.inr rfl, .inr rfl, .inr rfl, .inr rfl, .inr rfl, .inr rfl, .inr rfl, .inr rfl, .inr rfl, .inr rfl, .inr rfl, .inr rfl, .inr rfl, .inr rfl, .inr rfl, trivial⟩
       ·cbv
        simp
   ·have q1 : A.lt (Int.ofNat i) ti = false := by rw [hA, hti]; simp [std]; omega
    refine zaa zab hA rfl rfl 400 ?_
    conv => arg 3; cbv
    repeat (simp only [F, q1]; try (conv => arg 3; cbv))
    refine zbh 2 (α := { x : PSt // x.i ≤ 12 ∧ PSt.Ok c l x ∧ x.n ≤ 40 + x.i }) [15, 16, 17, 18, 19, 20, 26, 86, 88, 119, 120, 121, 122, 123, 124, 125, 126, 127, 128, 129, 130, 131, 132, 133, 134, 135, 136, 137, 138, 139, 140, 141, 142, 143, 144, 145, 146, 147, 148, 149, 150, 151, 152, 153, 154, 155, 156, 157, 158, 159, 160, 161, 162, 163, 164, 165, 166, 167, 168, 169, 170, 171, 172, 173, 174, 175, 176, 177, 178, 179, 180, 181, 182, 183, 184, 185, 186, 187, 188, 189, 190, 191, 192, 193, 194, 195, 196, 197, 198, 199, 200, 201, 202, 203, 204, 205, 206, 207, 208, 209, 210, 211, 212, 213, 214, 215, 216, 217, 218, 219, 220, 221, 222, 223, 224, 225, 226, 227, 228, 229, 230, 231, 232, 233, 234, 235, 236, 237, 238, 239, 240, 241, 242, 243, 244, 245, 246, 247, 248, 249, 250, 251, 252, 253, 254, 255, 256, 257, 258, 259, 260, 261, 262, 263, 264, 265, 266] (fun x => [(15, .one (.val (.int .i64 (Int.ofNat x.1.i))))]) (fun x => [.own 36 [.val (.int .i64 0), .val (.slice none 0 0), .val (.slice none 0 0), .val (.slice none 0 0), .val (.slice none 0 0), .val (.slice none 0 0), .val (.slice none 0 0), .val (.int .i64 0), .val (.int .i64 0), .val (.int .i64 0)], .own 61 [.val (.int .i64 0), .val (.int .i64 0), .val (.slice none 0 0), .val (.slice none 0 0), .val (.int .i64 0), .val (.int .i64 0), .val (.int .i64 0), .val (.int .i64 0)], .own 90 [.val (.slice Ad ln cp), .val (.int .i64 x.1.pt)], .rsym Zz, .rsym Zc, .rsym Zt, .rsym Zv, .rsym Zr, .rsym Zo, .own 36 [.val (iv c.regions), .slc 3 0 czl kz, .slc 4 0 ccl kc, .slc 5 0 ctl kt, .slc 6 0 cvl kv, .slc 7 0 crl kr, .slc 8 0 col ko, .val (iv c.blast), .val (iv c.lease), .val (iv c.bake)], .sym 105 x.1.xs, .sym 107 x.1.ys, .own 61 [.val (iv x.1.s.tick), .val (iv x.1.s.count), .slc 10 0 x.1.tl x.1.kt, .slc 11 0 x.1.cl x.1.kc, .val (iv x.1.s.proven), .val (iv x.1.s.evac), .val (iv x.1.s.low), .val (iv x.1.s.high)], .own 57 [.gsl 14 x.1.n], .grow 96 9 x.1.n x.1.lo]) (fun x => 12 - x.1.i) ⟨⟨0, pt, s, kt', kc', tl, cl, xs, ys, rr1, rr2, n, lo⟩, Nat.zero_le _, ⟨hpt, hsok, htl, hcl, hxs, hys⟩, by show n ≤ 40 + 0; omega⟩ ?_ ?_ (fun x => rfl) (fun x y hy => zbl hy trivial) rfl (fun x L' hL1 hL2 => ?_)
    ·cbv
     simp
    ·rfl
    ·obtain ⟨⟨i, pt, s, kt', kc', tl, cl, xs, ys, rr1, rr2, n, lo⟩, hile, hok, hnn'⟩ := x
     obtain ⟨hpt, hsok, htl, hcl, hxs, hys⟩ := hok
     dsimp only at hile hnn' hpt hsok htl hcl hxs hys ⊢
     obtain ⟨n1, hn1⟩ := nm (i + 1)
     have q2 : A.add .i64 (Int.ofNat i) 1 = Int.ofNat n1 := by rw [hA, hn1]; exact (wrap64 (by simp; omega) (by simp; omega)).trans (by simp)
     by_cases hi : i < 12
     ·have q1 : A.lt (Int.ofNat i) 12 = true := by rw [hA]; simp [std]; omega
      refine zaa zab hA rfl rfl 400 ?_
      conv => arg 3; cbv
      repeat (simp only [F, q1]; try (conv => arg 3; cbv))
      refine good_mmore 2 rfl hln hpt hl hrd rfl (fun b ptm hpm => ?_)
      cases b
      ·refine zaa zab hA rfl rfl 400 ?_
       conv => arg 3; cbv
       repeat (simp only [F]; try (conv => arg 3; cbv))
       refine good_ret3 zab (by rfl) (by rfl) (by rfl) (by rfl) (fun ρ w' hρ hSat => ⟨c, ⟨some ⟨(ρ 3).1, (ρ 3).2, none⟩, kz, some ⟨(ρ 4).1, (ρ 4).2, none⟩, kc, some ⟨(ρ 5).1, (ρ 5).2, none⟩, kt, some ⟨(ρ 6).1, (ρ 6).2, none⟩, kv, some ⟨(ρ 7).1, (ρ 7).2, none⟩, kr, some ⟨(ρ 8).1, (ρ 8).2, none⟩, ko⟩, gslV (ρ 14) n, s, ⟨some ⟨(ρ 10).1, (ρ 10).2, none⟩, kt', some ⟨(ρ 11).1, (ρ 11).2, none⟩, kc'⟩, ?_, hM, zah hSat.gr⟩)
       simp only [concV, conc1, List.map, Nat.add_zero]
       rw [hczl, hccl, hctl, hcvl, hcrl, hcol, htl, hcl]
       rfl
      ·refine zaa zab hA rfl rfl 400 ?_
       conv => arg 3; cbv
       repeat (simp only [F]; try (conv => arg 3; cbv))
       refine za1 2 rfl hln hpm hl hrd (by rw [hti]; show (1 : Int) ≤ (ctl : Int); omega) (by rw [hti]; show (ctl : Int) ≤ 1000000000; omega) rfl (fun r1 pt2 u3 u4 hp5 => ?_)
       refine zaa zab hA rfl rfl 400 ?_
       conv => arg 3; cbv
       repeat (simp only [F]; try (conv => arg 3; cbv))
       refine za1 2 rfl hln hp5 hl hrd (by rw [hci]; show (1 : Int) ≤ (ccl : Int); omega) (by rw [hci]; show (ccl : Int) ≤ 1000000000; omega) rfl (fun r6 pt7 u8 u9 hp10 => ?_)
       refine zaa zab hA rfl rfl 400 ?_
       conv => arg 3; cbv
       repeat (simp only [F]; try (conv => arg 3; cbv))
       refine za1 2 rfl hln hp10 hl hrd (by omega) (by omega) rfl (fun r11 pt12 u13 u14 hp15 => ?_)
       refine zaa zab hA rfl rfl 400 ?_
       conv => arg 3; cbv
       repeat (simp only [F]; try (conv => arg 3; cbv))
       refine za5 ?_
       refine zaa zab hA rfl rfl 400 ?_
       conv => arg 3; cbv
       repeat (simp only [F]; try (conv => arg 3; cbv))
       refine za1 2 rfl hln hp15 hl hrd (by omega) (by omega) rfl (fun r16 pt17 u18 u19 hp20 => ?_)
       refine zaa zab hA rfl rfl 400 ?_
       conv => arg 3; cbv
       repeat (simp only [F]; try (conv => arg 3; cbv))
       rcases (show r16 = 0 ∨ r16 = 1 ∨ r16 = 2 ∨ r16 = 3 ∨ r16 = 4 ∨ r16 = 5 ∨ r16 = 6 ∨ r16 = 7 ∨ 8 ≤ r16 by omega) with rfl | rfl | rfl | rfl | rfl | rfl | rfl | rfl | hd8
       ·have kf : ∀ j, A.eq 0 j = decide (0 = j) := fun j => by rw [hA]; rfl
        repeat (simp only [F, kf]; try (conv => arg 3; cbv))
        refine za5 ?_
        refine zaa zab hA rfl rfl 400 ?_
        conv => arg 3; cbv
        repeat (simp only [F]; try (conv => arg 3; cbv))
        refine zbc [26, 86, 88, 147, 149, 178, 181, 182, 237, 239, 240, 248, 250, 251] rfl rfl rfl rfl rfl rfl rfl rfl rfl rfl rfl rfl rfl hM hsok (by omega) hczl hccl hctl hcvl hcrl hcol hZz hZc hZt hZv hZr hZo htl hcl hxs hys rfl rfl (fun s21 kt22 kc23 tl24 cl25 xs26 ys27 q128 q229 n30 lo31 sok32 htl33 hcl34 hxs35 hys36 hn37 => ?_)
        refine zaa zab hA rfl rfl 400 ?_
        conv => arg 3; cbv
        repeat (simp only [F, q2]; try (conv => arg 3; cbv))
        refine zai (l := [0, 1, 2, 3, 4, 5, 6, 7, 8, 9, 10, 11, 12, 13, 14]) ⟨rfl, rfl, rfl⟩ hL2 ⟨⟨n1, pt17, s21, kt22, kc23, tl24, cl25, xs26, ys27, q128, q229, n30, lo31⟩, by show n1 ≤ 12; omega, ⟨hp20, sok32, htl33, hcl34, hxs35, hys36⟩, by show n30 ≤ 40 + n1; omega⟩ ?_ rfl rfl rfl ?_ ?_ ?_ ?_
        ·dsimp only
         omega
        ·intro b hb
         simp only [List.mem_cons, List.not_mem_nil, or_false] at hb
         rcases hb with rfl | rfl | rfl | rfl | rfl | rfl | rfl | rfl | rfl | rfl | rfl | rfl | rfl | rfl | rfl <;> simp [MB.ok, S1.ok]
        ·exact zao (by cbv <;> trivial)
        ·exact ⟨.inr rfl, .inr rfl, .inr rfl, .inr rfl, .inr rfl, .inr rfl, .inr rfl, .inr rfl, .inr rfl, .inr rfl, .inr rfl, .inr rfl, .inr rfl, .inr rfl, .inr rfl, trivial⟩
        ·cbv
         simp
       ·have kf : ∀ j, A.eq 1 j = decide (1 = j) := fun j => by rw [hA]; rfl
        repeat (simp only [F, kf]; try (conv => arg 3; cbv))
        refine za5 ?_
        refine zaa zab hA rfl rfl 400 ?_
        conv => arg 3; cbv
        repeat (simp only [F]; try (conv => arg 3; cbv))
        refine zbc [26, 86, 88, 147, 149, 178, 181, 182, 237, 239, 240, 248, 250, 251] rfl rfl rfl rfl rfl rfl rfl rfl rfl rfl rfl rfl rfl hM hsok (by omega) hczl hccl hctl hcvl hcrl hcol hZz hZc hZt hZv hZr hZo htl hcl hxs hys rfl rfl (fun s38 kt39 kc40 tl41 cl42 xs43 ys44 q145 q246 n47 lo48 sok49 htl50 hcl51 hxs52 hys53 hn54 => ?_)
        refine zaa zab hA rfl rfl 400 ?_
        conv => arg 3; cbv
        repeat (simp only [F, q2]; try (conv => arg 3; cbv))
        refine zai (l := [0, 1, 2, 3, 4, 5, 6, 7, 8, 9, 10, 11, 12, 13, 14]) ⟨rfl, rfl, rfl⟩ hL2 ⟨⟨n1, pt17, s38, kt39, kc40, tl41, cl42, xs43, ys44, q145, q246, n47, lo48⟩, by show n1 ≤ 12; omega, ⟨hp20, sok49, htl50, hcl51, hxs52, hys53⟩, by show n47 ≤ 40 + n1; omega⟩ ?_ rfl rfl rfl ?_ ?_ ?_ ?_
        ·dsimp only
         omega
        ·intro b hb
         simp only [List.mem_cons, List.not_mem_nil, or_false] at hb
         rcases hb with rfl | rfl | rfl | rfl | rfl | rfl | rfl | rfl | rfl | rfl | rfl | rfl | rfl | rfl | rfl <;> simp [MB.ok, S1.ok]
        ·exact zao (by cbv <;> trivial)
        ·exact ⟨.inr rfl, .inr rfl, .inr rfl, .inr rfl, .inr rfl, .inr rfl, .inr rfl, .inr rfl, .inr rfl, .inr rfl, .inr rfl, .inr rfl, .inr rfl, .inr rfl, .inr rfl, trivial⟩
        ·cbv
         simp
       ·have kf : ∀ j, A.eq 2 j = decide (2 = j) := fun j => by rw [hA]; rfl
        repeat (simp only [F, kf]; try (conv => arg 3; cbv))
        refine za5 ?_
        refine zaa zab hA rfl rfl 400 ?_
        conv => arg 3; cbv
        repeat (simp only [F]; try (conv => arg 3; cbv))
        refine zbc [26, 86, 88, 147, 149, 178, 181, 182, 237, 239, 240, 248, 250, 251] rfl rfl rfl rfl rfl rfl rfl rfl rfl rfl rfl rfl rfl hM hsok (by omega) hczl hccl hctl hcvl hcrl hcol hZz hZc hZt hZv hZr hZo htl hcl hxs hys rfl rfl (fun s55 kt56 kc57 tl58 cl59 xs60 ys61 q162 q263 n64 lo65 sok66 htl67 hcl68 hxs69 hys70 hn71 => ?_)
        refine zaa zab hA rfl rfl 400 ?_
        conv => arg 3; cbv
        repeat (simp only [F, q2]; try (conv => arg 3; cbv))
        refine zai (l := [0, 1, 2, 3, 4, 5, 6, 7, 8, 9, 10, 11, 12, 13, 14]) ⟨rfl, rfl, rfl⟩ hL2 ⟨⟨n1, pt17, s55, kt56, kc57, tl58, cl59, xs60, ys61, q162, q263, n64, lo65⟩, by show n1 ≤ 12; omega, ⟨hp20, sok66, htl67, hcl68, hxs69, hys70⟩, by show n64 ≤ 40 + n1; omega⟩ ?_ rfl rfl rfl ?_ ?_ ?_ ?_
        ·dsimp only
         omega
        ·intro b hb
         simp only [List.mem_cons, List.not_mem_nil, or_false] at hb
         rcases hb with rfl | rfl | rfl | rfl | rfl | rfl | rfl | rfl | rfl | rfl | rfl | rfl | rfl | rfl | rfl <;> simp [MB.ok, S1.ok]
        ·exact zao (by cbv <;> trivial)
        ·exact ⟨.inr rfl, .inr rfl, .inr rfl, .inr rfl, .inr rfl, .inr rfl, .inr rfl, .inr rfl, .inr rfl, .inr rfl, .inr rfl, .inr rfl, .inr rfl, .inr rfl, .inr rfl, trivial⟩
        ·cbv
         simp
       ·have kf : ∀ j, A.eq 3 j = decide (3 = j) := fun j => by rw [hA]; rfl
        repeat (simp only [F, kf]; try (conv => arg 3; cbv))
        refine za1 2 rfl hln hp20 hl hrd (by omega) (by omega) rfl (fun r72 pt73 u74 u75 hp76 => ?_)
        refine zaa zab hA rfl rfl 400 ?_
        conv => arg 3; cbv
        repeat (simp only [F]; try (conv => arg 3; cbv))
        refine zbc [26, 86, 88, 147, 149, 178, 181, 182, 237, 239, 240, 248, 250, 251] rfl rfl rfl rfl rfl rfl rfl rfl rfl rfl rfl rfl rfl hM hsok (by omega) hczl hccl hctl hcvl hcrl hcol hZz hZc hZt hZv hZr hZo htl hcl hxs hys rfl rfl (fun s77 kt78 kc79 tl80 cl81 xs82 ys83 q184 q285 n86 lo87 sok88 htl89 hcl90 hxs91 hys92 hn93 => ?_)
        refine zaa zab hA rfl rfl 400 ?_
        conv => arg 3; cbv
        repeat (simp only [F, q2]; try (conv => arg 3; cbv))
        refine zai (l := [0, 1, 2, 3, 4, 5, 6, 7, 8, 9, 10, 11, 12, 13, 14]) ⟨rfl, rfl, rfl⟩ hL2 ⟨⟨n1, pt73, s77, kt78, kc79, tl80, cl81, xs82, ys83, q184, q285, n86, lo87⟩, by show n1 ≤ 12; omega, ⟨hp76, sok88, htl89, hcl90, hxs91, hys92⟩, by show n86 ≤ 40 + n1; omega⟩ ?_ rfl rfl rfl ?_ ?_ ?_ ?_
        ·dsimp only
         omega
        ·intro b hb
         simp only [List.mem_cons, List.not_mem_nil, or_false] at hb
         rcases hb with rfl | rfl | rfl | rfl | rfl | rfl | rfl | rfl | rfl | rfl | rfl | rfl | rfl | rfl | rfl <;> simp [MB.ok, S1.ok]
        ·exact zao (by cbv <;> trivial)
        ·exact ⟨.inr rfl, .inr rfl, .inr rfl, .inr rfl, .inr rfl, .inr rfl, .inr rfl, .inr rfl, .inr rfl, .inr rfl, .inr rfl, .inr rfl, .inr rfl, .inr rfl, .inr rfl, trivial⟩
        ·cbv
         simp
       ·have kf : ∀ j, A.eq 4 j = decide (4 = j) := fun j => by rw [hA]; rfl
        repeat (simp only [F, kf]; try (conv => arg 3; cbv))
        refine good_mrange 2 rfl hln hp20 hl hrd (by omega) (by omega) (by omega) rfl (fun r94 pt95 u96 u97 hp98 => ?_)
        refine zaa zab hA rfl rfl 400 ?_
        conv => arg 3; cbv
        repeat (simp only [F]; try (conv => arg 3; cbv))
        refine zbc [26, 86, 88, 147, 149, 178, 181, 182, 237, 239, 240, 248, 250, 251] rfl rfl rfl rfl rfl rfl rfl rfl rfl rfl rfl rfl rfl hM hsok (by omega) hczl hccl hctl hcvl hcrl hcol hZz hZc hZt hZv hZr hZo htl hcl hxs hys rfl rfl (fun s99 kt100 kc101 tl102 cl103 xs104 ys105 q1106 q2107 n108 lo109 sok110 htl111 hcl112 hxs113 hys114 hn115 => ?_)
        refine zaa zab hA rfl rfl 400 ?_
        conv => arg 3; cbv
        repeat (simp only [F, q2]; try (conv => arg 3; cbv))
        refine zai (l := [0, 1, 2, 3, 4, 5, 6, 7, 8, 9, 10, 11, 12, 13, 14]) ⟨rfl, rfl, rfl⟩ hL2 ⟨⟨n1, pt95, s99, kt100, kc101, tl102, cl103, xs104, ys105, q1106, q2107, n108, lo109⟩, by show n1 ≤ 12; omega, ⟨hp98, sok110, htl111, hcl112, hxs113, hys114⟩, by show n108 ≤ 40 + n1; omega⟩ ?_ rfl rfl rfl ?_ ?_ ?_ ?_
        ·dsimp only
         omega
        ·intro b hb
         simp only [List.mem_cons, List.not_mem_nil, or_false] at hb
         rcases hb with rfl | rfl | rfl | rfl | rfl | rfl | rfl | rfl | rfl | rfl | rfl | rfl | rfl | rfl | rfl <;> simp [MB.ok, S1.ok]
        ·exact zao (by cbv <;> trivial)
        ·exact ⟨.inr rfl, .inr rfl, .inr rfl, .inr rfl, .inr rfl, .inr rfl, .inr rfl, .inr rfl, .inr rfl, .inr rfl, .inr rfl, .inr rfl, .inr rfl, .inr rfl, .inr rfl, trivial⟩
        ·cbv
         simp
       ·have kf : ∀ j, A.eq 5 j = decide (5 = j) := fun j => by rw [hA]; rfl
        repeat (simp only [F, kf]; try (conv => arg 3; cbv))
        refine za1 2 rfl hln hp20 hl hrd (ok.regions.1) (Int.le_trans ok.regions.2 (by decide)) rfl (fun r116 pt117 u118 u119 hp120 => ?_)
        refine zaa zab hA rfl rfl 400 ?_
        conv => arg 3; cbv
        repeat (simp only [F]; try (conv => arg 3; cbv))
        refine zbc [26, 86, 88, 147, 149, 178, 181, 182, 237, 239, 240, 248, 250, 251] rfl rfl rfl rfl rfl rfl rfl rfl rfl rfl rfl rfl rfl hM hsok (by omega) hczl hccl hctl hcvl hcrl hcol hZz hZc hZt hZv hZr hZo htl hcl hxs hys rfl rfl (fun s121 kt122 kc123 tl124 cl125 xs126 ys127 q1128 q2129 n130 lo131 sok132 htl133 hcl134 hxs135 hys136 hn137 => ?_)
        refine zaa zab hA rfl rfl 400 ?_
        conv => arg 3; cbv
        repeat (simp only [F, q2]; try (conv => arg 3; cbv))
        refine zai (l := [0, 1, 2, 3, 4, 5, 6, 7, 8, 9, 10, 11, 12, 13, 14]) ⟨rfl, rfl, rfl⟩ hL2 ⟨⟨n1, pt117, s121, kt122, kc123, tl124, cl125, xs126, ys127, q1128, q2129, n130, lo131⟩, by show n1 ≤ 12; omega, ⟨hp120, sok132, htl133, hcl134, hxs135, hys136⟩, by show n130 ≤ 40 + n1; omega⟩ ?_ rfl rfl rfl ?_ ?_ ?_ ?_
        ·dsimp only
         omega
        ·intro b hb
         simp only [List.mem_cons, List.not_mem_nil, or_false] at hb
         rcases hb with rfl | rfl | rfl | rfl | rfl | rfl | rfl | rfl | rfl | rfl | rfl | rfl | rfl | rfl | rfl <;> simp [MB.ok, S1.ok]
        ·exact zao (by cbv <;> trivial)
        ·exact ⟨.inr rfl, .inr rfl, .inr rfl, .inr rfl, .inr rfl, .inr rfl, .inr rfl, .inr rfl, .inr rfl, .inr rfl, .inr rfl, .inr rfl, .inr rfl, .inr rfl, .inr rfl, trivial⟩
        ·cbv
         simp
       ·have kf : ∀ j, A.eq 6 j = decide (6 = j) := fun j => by rw [hA]; rfl
        obtain ⟨m, hm⟩ : ∃ m : Nat, r1 = (m : Int) := ⟨r1.toNat, by omega⟩
        have hml : m < s.tens.length := by rw [hsok.tl]; have e0 : ti = (ctl : Int) := hti; omega
        obtain ⟨t, ht⟩ : ∃ t, s.tens[m]? = some t := ⟨_, List.getElem?_eq_getElem hml⟩
        obtain ⟨q, hq⟩ := nm (m * 12)
        have z1 : A.inb r1 tl = true := by rw [hA, hm, htl]; simp [std]; omega
        have z2 : A.idx 0 r1 12 = q := by rw [hA, hq, hm]; simp [std]
        have z3 : A.get xs q 4 = some (.int .i64 t.next) := by rw [hA, hq, hxs]; exact zap TsD.cells 12 (fun _ => rfl) ht rr1 4 (by omega)
        repeat (simp only [F, kf, z1, z2, z3]; try (conv => arg 3; cbv))
        refine za5 ?_
        refine zaa zab hA rfl rfl 400 ?_
        conv => arg 3; cbv
        repeat (simp only [F]; try (conv => arg 3; cbv))
        refine zbc [26, 86, 88, 147, 149, 178, 181, 182, 237, 239, 240, 248, 250, 251] rfl rfl rfl rfl rfl rfl rfl rfl rfl rfl rfl rfl rfl hM hsok (by omega) hczl hccl hctl hcvl hcrl hcol hZz hZc hZt hZv hZr hZo htl hcl hxs hys rfl rfl (fun s138 kt139 kc140 tl141 cl142 xs143 ys144 q1145 q2146 n147 lo148 sok149 htl150 hcl151 hxs152 hys153 hn154 => ?_)
        refine zaa zab hA rfl rfl 400 ?_
        conv => arg 3; cbv
        repeat (simp only [F, q2]; try (conv => arg 3; cbv))
        refine zai (l := [0, 1, 2, 3, 4, 5, 6, 7, 8, 9, 10, 11, 12, 13, 14]) ⟨rfl, rfl, rfl⟩ hL2 ⟨⟨n1, pt17, s138, kt139, kc140, tl141, cl142, xs143, ys144, q1145, q2146, n147, lo148⟩, by show n1 ≤ 12; omega, ⟨hp20, sok149, htl150, hcl151, hxs152, hys153⟩, by show n147 ≤ 40 + n1; omega⟩ ?_ rfl rfl rfl ?_ ?_ ?_ ?_
        ·dsimp only
         omega
        ·intro b hb
         simp only [List.mem_cons, List.not_mem_nil, or_false] at hb
         rcases hb with rfl | rfl | rfl | rfl | rfl | rfl | rfl | rfl | rfl | rfl | rfl | rfl | rfl | rfl | rfl <;> simp [MB.ok, S1.ok]
        ·exact zao (by cbv <;> trivial)
        ·exact ⟨.inr rfl, .inr rfl, .inr rfl, .inr rfl, .inr rfl, .inr rfl, .inr rfl, .inr rfl, .inr rfl, .inr rfl, .inr rfl, .inr rfl, .inr rfl, .inr rfl, .inr rfl, trivial⟩
        ·cbv
         simp
       ·have kf : ∀ j, A.eq 7 j = decide (7 = j) := fun j => by rw [hA]; rfl
        obtain ⟨m, hm⟩ : ∃ m : Nat, r6 = (m : Int) := ⟨r6.toNat, by omega⟩
        have hml : m < s.cells.length := by rw [hsok.cl]; have e0 : ci = (ccl : Int) := hci; omega
        obtain ⟨x, hx⟩ : ∃ x, s.cells[m]? = some x := ⟨_, List.getElem?_eq_getElem hml⟩
        obtain ⟨q, hq⟩ := nm (m * 4)
        have z1 : A.inb r6 cl = true := by rw [hA, hm, hcl]; simp [std]; omega
        have z2 : A.idx 0 r6 4 = q := by rw [hA, hq, hm]; simp [std]
        have z3 : A.get ys q 2 = some (.int .i64 x.wanted) := by rw [hA, hq, hys]; exact zap CsD.cells 4 (fun _ => rfl) hx rr2 2 (by omega)
        obtain ⟨l2, hl2⟩ := nm (2 * c.lease)
        have z4 : A.mul .i64 2 c.lease = l2 := by rw [hA, hl2]; exact wrap64 (by have := ok.lease; omega) (by have := ok.lease; omega)
        repeat (simp only [F, kf, z1, z2, z3, z4]; try (conv => arg 3; cbv))
        refine za1 2 rfl hln hp20 hl hrd (by have := ok.lease; omega) (by have := ok.lease; omega) rfl (fun r155 pt156 u157 u158 hp159 => ?_)
        refine zaa zab hA rfl rfl 400 ?_
        conv => arg 3; cbv
        repeat (simp only [F]; try (conv => arg 3; cbv))
        refine zbc [26, 86, 88, 147, 149, 178, 181, 182, 237, 239, 240, 248, 250, 251] rfl rfl rfl rfl rfl rfl rfl rfl rfl rfl rfl rfl rfl hM hsok (by omega) hczl hccl hctl hcvl hcrl hcol hZz hZc hZt hZv hZr hZo htl hcl hxs hys rfl rfl (fun s160 kt161 kc162 tl163 cl164 xs165 ys166 q1167 q2168 n169 lo170 sok171 htl172 hcl173 hxs174 hys175 hn176 => ?_)
        refine zaa zab hA rfl rfl 400 ?_
        conv => arg 3; cbv
        repeat (simp only [F, q2]; try (conv => arg 3; cbv))
        refine zai (l := [0, 1, 2, 3, 4, 5, 6, 7, 8, 9, 10, 11, 12, 13, 14]) ⟨rfl, rfl, rfl⟩ hL2 ⟨⟨n1, pt156, s160, kt161, kc162, tl163, cl164, xs165, ys166, q1167, q2168, n169, lo170⟩, by show n1 ≤ 12; omega, ⟨hp159, sok171, htl172, hcl173, hxs174, hys175⟩, by show n169 ≤ 40 + n1; omega⟩ ?_ rfl rfl rfl ?_ ?_ ?_ ?_
        ·dsimp only
         omega
        ·intro b hb
         simp only [List.mem_cons, List.not_mem_nil, or_false] at hb
         rcases hb with rfl | rfl | rfl | rfl | rfl | rfl | rfl | rfl | rfl | rfl | rfl | rfl | rfl | rfl | rfl <;> simp [MB.ok, S1.ok]
        ·exact zao (by cbv <;> trivial)
        ·exact ⟨.inr rfl, .inr rfl, .inr rfl, .inr rfl, .inr rfl, .inr rfl, .inr rfl, .inr rfl, .inr rfl, .inr rfl, .inr rfl, .inr rfl, .inr rfl, .inr rfl, .inr rfl, trivial⟩
        ·cbv
         simp
       ·have kf : A.eq r16 0 = false ∧ A.eq r16 1 = false ∧ A.eq r16 2 = false ∧ A.eq r16 3 = false ∧ A.eq r16 4 = false ∧ A.eq r16 5 = false ∧ A.eq r16 6 = false ∧ A.eq r16 7 = false := by
         rw [hA]
         refine ⟨?_, ?_, ?_, ?_, ?_, ?_, ?_, ?_⟩ <;> (simp [std]; omega)
        obtain ⟨m, hm⟩ : ∃ m : Nat, r1 = (m : Int) := ⟨r1.toNat, by omega⟩
        have hml : m < s.tens.length := by rw [hsok.tl]; have e0 : ti = (ctl : Int) := hti; omega
        obtain ⟨t, ht⟩ : ∃ t, s.tens[m]? = some t := ⟨_, List.getElem?_eq_getElem hml⟩
        obtain ⟨q, hq⟩ := nm (m * 12)
        have z1 : A.inb r1 tl = true := by rw [hA, hm, htl]; simp [std]; omega
        have z2 : A.idx 0 r1 12 = q := by rw [hA, hq, hm]; simp [std]
        have z3 : A.getN xs q 0 12 = some [.bool t.placed, .bool t.shed, .int .i64 t.home, .int .i64 t.standby, .int .i64 t.next, .int .i64 t.target, .int .i64 t.epoch, .int .i64 t.win.cell, .int .i64 t.win.epoch, .int .i64 t.win.version, .int .i64 t.win.lo, .int .i64 t.win.hi] := by rw [hA, hq, hxs]; exact zc3 TsD.cells 12 (fun _ => rfl) ht rr1
        repeat (simp only [F, kf, z1, z2, z3]; try (conv => arg 3; cbv))
        refine za5 ?_
        refine zaa zab hA rfl rfl 400 ?_
        conv => arg 3; cbv
        repeat (simp only [F]; try (conv => arg 3; cbv))
        refine good_mrange 2 rfl hln hp20 hl hrd (ok.lease.1) (by omega) (Int.le_trans ok.lease.2 (by decide)) rfl (fun r177 pt178 u179 u180 hp181 => ?_)
        refine zaa zab hA rfl rfl 400 ?_
        conv => arg 3; cbv
        repeat (simp only [F]; try (conv => arg 3; cbv))
        by_cases hho : 0 ≤ t.home
        ·have tok := hsok.ten t (List.mem_of_getElem? ht)
         obtain ⟨m2, hm2⟩ : ∃ m : Nat, t.home = (m : Int) := ⟨t.home.toNat, by omega⟩
         have hml2 : m2 < s.cells.length := by rw [hsok.cl]; have := tok.home; omega
         obtain ⟨x, hx⟩ : ∃ x, s.cells[m2]? = some x := ⟨_, List.getElem?_eq_getElem hml2⟩
         obtain ⟨q3, hq3⟩ := nm (m2 * 4)
         have y0 : A.le 0 t.home = true := by rw [hA]; exact decide_eq_true hho
         have y1 : A.inb t.home cl = true := by rw [hA, hm2, hcl]; simp [std]; omega
         have y2 : A.idx 0 t.home 4 = q3 := by rw [hA, hq3, hm2]; simp [std]
         have y3 : A.get ys q3 1 = some (.int .i64 x.running) := by rw [hA, hq3, hys]; exact zap CsD.cells 4 (fun _ => rfl) hx rr2 1 (by omega)
         repeat (simp only [F, y0, y1, y2, y3]; try (conv => arg 3; cbv))
         refine zbc [26, 86, 88, 147, 149, 178, 181, 182, 237, 239, 240, 248, 250, 251] rfl rfl rfl rfl rfl rfl rfl rfl rfl rfl rfl rfl rfl hM hsok (by omega) hczl hccl hctl hcvl hcrl hcol hZz hZc hZt hZv hZr hZo htl hcl hxs hys rfl rfl (fun s182 kt183 kc184 tl185 cl186 xs187 ys188 q1189 q2190 n191 lo192 sok193 htl194 hcl195 hxs196 hys197 hn198 => ?_)
         refine zaa zab hA rfl rfl 400 ?_
         conv => arg 3; cbv
         repeat (simp only [F, q2]; try (conv => arg 3; cbv))
         refine zai (l := [0, 1, 2, 3, 4, 5, 6, 7, 8, 9, 10, 11, 12, 13, 14]) ⟨rfl, rfl, rfl⟩ hL2 ⟨⟨n1, pt178, s182, kt183, kc184, tl185, cl186, xs187, ys188, q1189, q2190, n191, lo192⟩, by show n1 ≤ 12; omega, ⟨hp181, sok193, htl194, hcl195, hxs196, hys197⟩, by show n191 ≤ 40 + n1; omega⟩ ?_ rfl rfl rfl ?_ ?_ ?_ ?_
         ·dsimp only
          omega
         ·intro b hb
          simp only [List.mem_cons, List.not_mem_nil, or_false] at hb
          rcases hb with rfl | rfl | rfl | rfl | rfl | rfl | rfl | rfl | rfl | rfl | rfl | rfl | rfl | rfl | rfl <;> simp [MB.ok, S1.ok]
         ·exact zao (by cbv <;> trivial)
         ·exact ⟨.inr rfl, .inr rfl, .inr rfl, .inr rfl, .inr rfl, .inr rfl, .inr rfl, .inr rfl, .inr rfl, .inr rfl, .inr rfl, .inr rfl, .inr rfl, .inr rfl, .inr rfl, trivial⟩
         ·cbv
          simp
        ·have y0 : A.le 0 t.home = false := by rw [hA]; exact decide_eq_false hho
         repeat (simp only [F, y0]; try (conv => arg 3; cbv))
         refine zbc [26, 86, 88, 147, 149, 178, 181, 182, 237, 239, 240, 248, 250, 251] rfl rfl rfl rfl rfl rfl rfl rfl rfl rfl rfl rfl rfl hM hsok (by omega) hczl hccl hctl hcvl hcrl hcol hZz hZc hZt hZv hZr hZo htl hcl hxs hys rfl rfl (fun s199 kt200 kc201 tl202 cl203 xs204 ys205 q1206 q2207 n208 lo209 sok210 htl211 hcl212 hxs213 hys214 hn215 => ?_)
         refine zaa zab hA rfl rfl 400 ?_
         conv => arg 3; cbv
         repeat (simp only [F, q2]; try (conv => arg 3; cbv))
         refine zai (l := [0, 1, 2, 3, 4, 5, 6, 7, 8, 9, 10, 11, 12, 13, 14]) ⟨rfl, rfl, rfl⟩ hL2 ⟨⟨n1, pt178, s199, kt200, kc201, tl202, cl203, xs204, ys205, q1206, q2207, n208, lo209⟩, by show n1 ≤ 12; omega, ⟨hp181, sok210, htl211, hcl212, hxs213, hys214⟩, by show n208 ≤ 40 + n1; omega⟩ ?_ rfl rfl rfl ?_ ?_ ?_ ?_
         ·dsimp only
          omega
         ·intro b hb
          simp only [List.mem_cons, List.not_mem_nil, or_false] at hb
          rcases hb with rfl | rfl | rfl | rfl | rfl | rfl | rfl | rfl | rfl | rfl | rfl | rfl | rfl | rfl | rfl <;> simp [MB.ok, S1.ok]
         ·exact zao (by cbv <;> trivial)
         ·exact ⟨.inr rfl, .inr rfl, .inr rfl, .inr rfl, .inr rfl, .inr rfl, .inr rfl, .inr rfl, .inr rfl, .inr rfl, .inr rfl, .inr rfl, .inr rfl, .inr rfl, .inr rfl, trivial⟩
         ·cbv
          simp
     ·have q1 : A.lt (Int.ofNat i) 12 = false := by rw [hA]; simp [std]; omega
      refine zaa zab hA rfl rfl 400 ?_
      conv => arg 3; cbv
      repeat (simp only [F, q1]; try (conv => arg 3; cbv))
      refine good_ret3 zab (by rfl) (by rfl) (by rfl) (by rfl) (fun ρ w' hρ hSat => ⟨c, ⟨some ⟨(ρ 3).1, (ρ 3).2, none⟩, kz, some ⟨(ρ 4).1, (ρ 4).2, none⟩, kc, some ⟨(ρ 5).1, (ρ 5).2, none⟩, kt, some ⟨(ρ 6).1, (ρ 6).2, none⟩, kv, some ⟨(ρ 7).1, (ρ 7).2, none⟩, kr, some ⟨(ρ 8).1, (ρ 8).2, none⟩, ko⟩, gslV (ρ 14) n, s, ⟨some ⟨(ρ 10).1, (ρ 10).2, none⟩, kt', some ⟨(ρ 11).1, (ρ 11).2, none⟩, kc'⟩, ?_, hM, zah hSat.gr⟩)
      simp only [concV, conc1, List.map, Nat.add_zero]
      rw [hczl, hccl, hctl, hcvl, hcrl, hcol, htl, hcl]
      rfl
end Go.Proofs.YtcgcfeablbjnaaaGreatDoor
