/- Parts of the proof that ScriptBack returns true for every input of bulk at most 1048576. -/
import Derived.Test.YtcgcfeablbjnaaaGreatDoorBg
set_option linter.unusedSimpArgs false
set_option linter.unusedVariables false
set_option maxRecDepth 100000
set_option maxHeartbeats 8000000
namespace Go.Proofs.YtcgcfeablbjnaaaGreatDoor
open Go.RowKit Eng
theorem granted_any (c : CfgD) (h : CfgH) (s : StD) (hs : StH) (n k : Nat) (t : TsD) (x : CsD) (ek et eo ep el eh ev : Int) (w : World) (hle : 0 ≤ c.lease ∧ c.lease ≤ 1000) (ht : s.tens[n]? = some t) (hx : s.cells[k]? = some x) (htep : 0 ≤ t.epoch ∧ t.epoch ≤ 1048576) (het : 0 ≤ et ∧ et ≤ 1073741824) (hel : 0 ≤ el ∧ el ≤ 1073741824) (heh : 0 ≤ eh ∧ eh ≤ 1073741824) (hS : StAt w w.heap.size s hs) :
 Calls Tryz.prog 93 #[.agg (cfgV c h), .agg (stV s hs), .agg (EnD.cells ⟨ek, et, (n : Nat), (k : Nat), eo, ep, el, eh, ev⟩)] w fun e w' => e = .returned (.int .i64 (grantedD c s ⟨ek, et, (n : Nat), (k : Nat), eo, ep, el, eh, ev⟩)) ∧ Below w.heap.size w w' := by
 have hn : n < s.tens.length := (List.getElem?_eq_some_iff.1 ht).1
 have hk : k < s.cells.length := (List.getElem?_eq_some_iff.1 hx).1
 obtain ⟨b, o, b2, o2, kt, kc, rfl, hb, hb2, hr1, hr2⟩ := st_open ht hx hS
 obtain ⟨A, hA⟩ : ∃ A, A = std := ⟨_, rfl⟩
 obtain ⟨xs, hxs⟩ := nm (s.tens.flatMap TsD.cells)
 obtain ⟨ys, hys⟩ := nm (s.cells.flatMap CsD.cells)
 obtain ⟨q, hq⟩ := nm (n * 12)
 obtain ⟨p, hp⟩ := nm (k * 4)
 obtain ⟨tl, htl⟩ := nm (s.tens.length)
 obtain ⟨cl, hcl⟩ := nm (s.cells.length)
 obtain ⟨ni, hni⟩ := nm ((n : Int))
 obtain ⟨ki, hki⟩ := nm ((k : Int))
 obtain ⟨czl, hczl⟩ := nm (c.zones.length)
 obtain ⟨ccl, hccl⟩ := nm (c.cells.length)
 obtain ⟨ctl, hctl⟩ := nm (c.tens.length)
 obtain ⟨cvl, hcvl⟩ := nm (c.vers.length)
 obtain ⟨crl, hcrl⟩ := nm (c.reps.length)
 obtain ⟨col, hcol⟩ := nm (c.obs.length)
 obtain ⟨tp, htp⟩ := nm (t.epoch + 1)
 obtain ⟨tk, htk⟩ := nm (et + c.lease)
 obtain ⟨df, hdf⟩ := nm (eh - el)
 have F : A.not true = false ∧ A.not false = true ∧ A.inb ni tl = true ∧ A.idx 0 ni 12 = q ∧ A.getN xs q 0 12 = some [.bool t.placed, .bool t.shed, .int .i64 t.home, .int .i64 t.standby, .int .i64 t.next, .int .i64 t.target, .int .i64 t.epoch, .int .i64 t.win.cell, .int .i64 t.win.epoch, .int .i64 t.win.version, .int .i64 t.win.lo, .int .i64 t.win.hi] ∧ A.inb ki cl = true ∧ A.idx 0 ki 4 = p ∧ A.getN ys p 0 4 = some [.int .i64 x.mode, .int .i64 x.running, .int .i64 x.wanted, .int .i64 x.since] ∧ A.add .i64 t.epoch 1 = tp ∧ A.add .i64 et c.lease = tk ∧ A.sub .i64 eh el = df := by
  rw [hA]
  exact ⟨rfl, rfl, by rw [hni, htl]; simp [std]; omega, by rw [hq, hni]; simp [std], by rw [hq, hxs]; have := zc3 TsD.cells 12 (fun _ => rfl) ht []; rw [List.append_nil] at this; exact this, by rw [hki, hcl]; simp [std]; omega, by rw [hp, hki]; simp [std], by rw [hp, hys]; have := zc3 CsD.cells 4 (fun _ => rfl) hx []; rw [List.append_nil] at this; exact this, by rw [htp]; exact wrap64 (by omega) (by omega), by rw [htk]; exact wrap64 (by omega) (by omega), by rw [hdf]; exact wrap64 (by omega) (by omega)⟩
 refine zae (E := ⟨Tryz.prog, tabaT, ords93, Tryz.f93, w, [], [(b, o), (b2, o2)], fun _ _ _ => False⟩) zab (c := bodyOf Tryz.f93) (n := 0) Tryz.func93 rfl (show codeChk ords93 (bodyOf Tryz.f93) = true by decide +kernel) (rho [(b, o), (b2, o2)]) (fun h p hp => zaq _ h p hp)
  (tm := [.agg [.val (iv c.regions), .val (.slice h.az czl h.kz), .val (.slice h.ac ccl h.kc), .val (.slice h.at_ ctl h.kt), .val (.slice h.av cvl h.kv), .val (.slice h.ar crl h.kr), .val (.slice h.ao col h.ko), .val (iv c.blast), .val (iv c.lease), .val (iv c.bake)], .agg [.val (iv s.tick), .val (iv s.count), .slc 0 0 tl kt, .slc 1 0 cl kc, .val (iv s.proven), .val (iv s.evac), .val (iv s.low), .val (iv s.high)], .agg [.val (.int .i64 ek), .val (.int .i64 et), .val (.int .i64 ni), .val (.int .i64 ki), .val (.int .i64 eo), .val (.int .i64 ep), .val (.int .i64 el), .val (.int .i64 eh), .val (.int .i64 ev)]] ++ List.replicate 131 (.one (.val undef))) (mem := [.rsym xs, .rsym ys]) (Nat.le_refl _) ?_ ?_ (by rw [hczl, hccl, hctl, hcvl, hcrl, hcol]; rw [htl, hcl, hni, hki]; rfl) ?_
 ·have h1 := (zan w [] (rho [(b, o), (b2, o2)])).addR (p := (b, o)) rfl (l := xs) (by rw [hxs]; exact hr1) hb (by simp)
  exact h1.addR (p := (b2, o2)) rfl (l := ys) (by rw [hys]; exact hr2) hb2 (by simp)
 ·simp [SV.ok, S1.ok]
 ·refine zaa zab hA rfl rfl 400 ?_
  conv => arg 3; cbv
  repeat' first
   | refine zak zab (by rfl) (by rfl) (fun ρ w' hρ hSat => ⟨?_, zah hSat.gr⟩)
   | (simp only [F]; conv => arg 3; cbv)
   | (split <;> (rename_i hsp; simp only [hsp, F]; conv => arg 3; cbv))
   | (split <;> conv => arg 3; cbv)
  all_goals
   have z1 := zbi ht
   have z2 := zb8 hx
   clear F hSat
   subst hA
   rcases t with ⟨_, _, _, _, _, _, _, ⟨_, _, _, _, _⟩⟩
   cases x
   cases c
   simp_all [grantedD, std, concV, conc1] <;> (intros; omega)
theorem goes_granted : Goes Tryz.prog 93 := zam Tryz.func93 (by kernel_rfl) (by kernel_rfl)
section
variable {T : List (TypeId × TI)} {D : Ords} {fn : Func} {w : World} {L : Nat → Act → World → Prop} {R : Ending → World → Prop} {dst : Option Tmp} {k : List It} {tm : PT} {mem : List MB} {c : CfgD} {h : CfgH} {B gt gc kt kc tl cl czl ccl ctl cvl crl col : Nat} {s : StD}
theorem g_granted {xs ys r1 r2 : List Value} {n m : Nat} {t : TsD} {x : CsD} {ni ki ek et eo ep el eh ev : Int} (K : KX w c h B gt gc) (sok : StOk c s) (hz : Cz c czl ccl ctl cvl crl col) (ht : s.tens[n]? = some t) (hx : s.cells[m]? = some x) (hni : ni = (n : Int)) (hki : ki = (m : Int)) (hxs : xs = s.tens.flatMap TsD.cells ++ r1) (hys : ys = s.cells.flatMap CsD.cells ++ r2) (htl : tl = s.tens.length) (hcl : cl = s.cells.length) (het : 0 ≤ et ∧ et ≤ 1073741824) (hel : 0 ≤ el ∧ el ≤ 1073741824) (heh : 0 ≤ eh ∧ eh ≤ 1073741824)
 (h0 : mem[0]? = some (.sym 105 xs)) (h1 : mem[1]? = some (.sym 107 ys)) (h2 : 2 ≤ mem.length) (hg : ∀ b, b = grantedD c s ⟨ek, et, (n : Nat), (m : Nat), eo, ep, el, eh, ev⟩ → Eng.Good ⟨Tryz.prog, T, D, fn, w, [gt, gc], [(gt, 0), (gc, 0)], L⟩ R ⟨k, putE tm dst (.one (.val (.int .i64 b))), mem⟩) : Eng.Good ⟨Tryz.prog, T, D, fn, w, [gt, gc], [(gt, 0), (gc, 0)], L⟩ R ⟨.call 93 [.agg [.val (iv c.regions), .val (.slice h.az czl h.kz), .val (.slice h.ac ccl h.kc), .val (.slice h.at_ ctl h.kt), .val (.slice h.av cvl h.kv), .val (.slice h.ar crl h.kr), .val (.slice h.ao col h.ko), .val (iv c.blast), .val (iv c.lease), .val (iv c.bake)], .agg [.val (iv s.tick), .val (iv s.count), .slc 0 0 tl kt, .slc 1 0 cl kc, .val (iv s.proven), .val (iv s.evac), .val (iv s.low), .val (iv s.high)], .agg [.val (.int .i64 ek), .val (.int .i64 et), .val (.int .i64 ni), .val (.int .i64 ki), .val (.int .i64 eo), .val (.int .i64 ep), .val (.int .i64 el), .val (.int .i64 eh), .val (.int .i64 ev)]] dst :: k, tm, mem⟩ :=
 zac (.one (.val (.int .i64 (grantedD c s ⟨ek, et, (n : Nat), (m : Nat), eo, ep, el, eh, ev⟩)))) trivial goes_granted (fun ρ w' hρ hSat => by
  have e0 := hρ 0 (gt, 0) rfl
  have e1 := hρ 1 (gc, 0) rfl
  have hst : StAt w' w'.heap.size s ⟨some ⟨gt, 0, none⟩, kt, some ⟨gc, 0, none⟩, kc⟩ := (zbx (kt := kt) (kc := kc) hSat e0 e1 h0 h1 hxs hys K.ne).toAt
  simp only [List.map, concV, conc1, e0, e1]
  rw [hz.z, hz.e, hz.t, hz.v, hz.r, hz.o, htl, hcl, hni, hki]
  have := K.ok.lease
  exact granted_any c h s ⟨some ⟨gt, 0, none⟩, kt, some ⟨gc, 0, none⟩, kc⟩ n m t x ek et eo ep el eh ev w' ⟨by omega, this.2⟩ ht hx (sok.ten t (List.mem_of_getElem? ht)).epoch het hel heh hst) (hg _ rfl)
end
theorem grant_any (c : CfgD) (h : CfgH) (B : Nat) (s : StD) (hs : StH) (gt gc n k : Nat) (t : TsD) (x : CsD) (ek et eo ep el eh ev : Int) (w : World) (ok : CfgOk c) (sok : StOk c s) (het : 0 ≤ et ∧ et ≤ 1073741824) (hel : 0 ≤ el ∧ el ≤ 1073741824) (heh : 0 ≤ eh ∧ eh ≤ 1073741824) (ht : s.tens[n]? = some t) (hx : s.cells[k]? = some x) (hC : CfgAt w B c h) (hB : B ≤ gt ∧ B ≤ gc) (hW : StW w s hs gt gc) :
 Calls Tryz.prog 67 #[.agg (cfgV c h), .agg (stV s hs), .agg (EnD.cells ⟨ek, et, (n : Nat), (k : Nat), eo, ep, el, eh, ev⟩)] w (StRet (grantD c s ⟨ek, et, (n : Nat), (k : Nat), eo, ep, el, eh, ev⟩) hs gt gc w) := by
 have hn : n < s.tens.length := (List.getElem?_eq_some_iff.1 ht).1
 have hk : k < s.cells.length := (List.getElem?_eq_some_iff.1 hx).1
 obtain ⟨a1, kt, a2, kc⟩ := hs
 obtain rfl : a1 = some ⟨gt, 0, none⟩ := hW.at_
 obtain rfl : a2 = some ⟨gc, 0, none⟩ := hW.ac
 obtain ⟨r1, hbt⟩ := hW.bt
 obtain ⟨r2, hbc⟩ := hW.bc
 have HNE := Lib.hid hW.ne
 have hlt := hW.lt
 obtain ⟨A, hA⟩ : ∃ A, A = std := ⟨_, rfl⟩
 obtain ⟨xs, hxs⟩ := nm (s.tens.flatMap TsD.cells ++ r1)
 obtain ⟨ys, hys⟩ := nm (s.cells.flatMap CsD.cells ++ r2)
 obtain ⟨tl, htl⟩ := nm (s.tens.length)
 obtain ⟨cl, hcl⟩ := nm (s.cells.length)
 obtain ⟨czl, hczl⟩ := nm (c.zones.length)
 obtain ⟨ccl, hccl⟩ := nm (c.cells.length)
 obtain ⟨ctl, hctl⟩ := nm (c.tens.length)
 obtain ⟨cvl, hcvl⟩ := nm (c.vers.length)
 obtain ⟨crl, hcrl⟩ := nm (c.reps.length)
 obtain ⟨col, hcol⟩ := nm (c.obs.length)
 have hz : Cz c czl ccl ctl cvl crl col := ⟨hczl, hccl, hctl, hcvl, hcrl, hcol⟩
 have K : KX w c h B gt gc := ⟨ok, hC, hB, hlt, HNE.out⟩
 obtain ⟨ni, hni⟩ := nm ((n : Int))
 obtain ⟨q, hq⟩ := nm (n * 12)
 obtain ⟨ki, hki⟩ := nm ((k : Int))
 obtain ⟨p, hp⟩ := nm (k * 4)
 obtain ⟨x1, hx1⟩ := nm ((s.setT n { t with win := ⟨(k : Int), ep, ev, el, eh⟩ }).tens.flatMap TsD.cells ++ r1)
 obtain ⟨x2, hx2⟩ := nm ((s.setT n { t with win := ⟨(k : Int), ep, ev, el, eh⟩, epoch := ep }).tens.flatMap TsD.cells ++ r1)
 obtain ⟨x3, hx3⟩ := nm ((s.setT n { t with win := ⟨(k : Int), ep, ev, el, eh⟩, epoch := ep, home := (k : Int) }).tens.flatMap TsD.cells ++ r1)
 obtain ⟨x4, hx4⟩ := nm ((s.setT n { t with win := ⟨(k : Int), ep, ev, el, eh⟩, epoch := ep, home := (k : Int), standby := -1 }).tens.flatMap TsD.cells ++ r1)
 obtain ⟨x5, hx5⟩ := nm ((s.setT n { t with win := ⟨(k : Int), ep, ev, el, eh⟩, epoch := ep, home := (k : Int), standby := -1, next := -1 }).tens.flatMap TsD.cells ++ r1)
 obtain ⟨x6, hx6⟩ := nm ((s.setT n { t with win := ⟨(k : Int), ep, ev, el, eh⟩, epoch := ep, home := (k : Int), standby := -1, next := -1, target := -1 }).tens.flatMap TsD.cells ++ r1)
 obtain ⟨x7, hx7⟩ := nm ((s.setT n { t with win := ⟨(k : Int), ep, ev, el, eh⟩, epoch := ep, home := (k : Int), standby := -1, next := -1, target := -1, shed := false }).tens.flatMap TsD.cells ++ r1)
 obtain ⟨x9, hx9⟩ := nm ((s.setT n { t with win := ⟨(k : Int), ep, ev, el, eh⟩, epoch := ep, home := (k : Int), target := -1 }).tens.flatMap TsD.cells ++ r1)
 have F : A.not true = false ∧ A.not false = true ∧ A.inb ni tl = true ∧ A.idx 0 ni 12 = q ∧ A.get xs q 0 = some (.bool t.placed) ∧ A.get xs q 1 = some (.bool t.shed) ∧ A.get xs q 2 = some (.int .i64 t.home) ∧ A.get xs q 3 = some (.int .i64 t.standby) ∧ A.get xs q 4 = some (.int .i64 t.next) ∧ A.get xs q 5 = some (.int .i64 t.target) ∧ A.inb ki cl = true ∧ A.idx 0 ki 4 = p ∧ A.get ys p 0 = some (.int .i64 x.mode) ∧ A.set xs q 7 [.int .i64 ki, .int .i64 ep, .int .i64 ev, .int .i64 el, .int .i64 eh] = some x1 ∧ A.set x1 q 6 [.int .i64 ep] = some x2 ∧ A.set x2 q 2 [.int .i64 ki] = some x3 ∧ A.set x3 q 3 [.int .i64 (-1)] = some x4 ∧ A.set x4 q 4 [.int .i64 (-1)] = some x5 ∧ A.set x5 q 5 [.int .i64 (-1)] = some x6 ∧ A.set x6 q 1 [.bool false] = some x7 ∧ A.set x3 q 5 [.int .i64 (-1)] = some x9 ∧ A.get x2 q 2 = some (.int .i64 t.home) ∧ A.get x2 q 3 = some (.int .i64 t.standby) := by
  rw [hA]
  exact ⟨rfl, rfl, by rw [hni, htl]; simp [std]; omega, by rw [hq, hni]; simp [std], by rw [hq, hxs]; exact zap TsD.cells 12 (fun _ => rfl) ht r1 0 (by omega), by rw [hq, hxs]; exact zap TsD.cells 12 (fun _ => rfl) ht r1 1 (by omega), by rw [hq, hxs]; exact zap TsD.cells 12 (fun _ => rfl) ht r1 2 (by omega), by rw [hq, hxs]; exact zap TsD.cells 12 (fun _ => rfl) ht r1 3 (by omega), by rw [hq, hxs]; exact zap TsD.cells 12 (fun _ => rfl) ht r1 4 (by omega), by rw [hq, hxs]; exact zap TsD.cells 12 (fun _ => rfl) ht r1 5 (by omega), by rw [hki, hcl]; simp [std]; omega, by rw [hp, hki]; simp [std], by rw [hp, hys]; exact zap CsD.cells 4 (fun _ => rfl) hx r2 0 (by omega), by rw [hq, hxs, hx1, hki]; exact zby TsD.cells 12 (fun _ => rfl) ht r1 7 _ (by simp) rfl, by rw [hq, hx1, hx2]; exact zco ht r1 6 _ (by simp) rfl, by rw [hq, hx2, hx3, hki]; exact zco ht r1 2 _ (by simp) rfl, by rw [hq, hx3, hx4]; exact zco ht r1 3 _ (by simp) rfl, by rw [hq, hx4, hx5]; exact zco ht r1 4 _ (by simp) rfl, by rw [hq, hx5, hx6]; exact zco ht r1 5 _ (by simp) rfl, by rw [hq, hx6, hx7]; exact zco ht r1 1 _ (by simp) rfl, by rw [hq, hx3, hx9]; exact zco ht r1 5 _ (by simp) rfl, by rw [hq, hx2]; exact zap TsD.cells 12 (fun _ => rfl) (zb4 (t' := { t with win := ⟨(k : Int), ep, ev, el, eh⟩, epoch := ep }) ht) r1 2 (by omega), by rw [hq, hx2]; exact zap TsD.cells 12 (fun _ => rfl) (zb4 (t' := { t with win := ⟨(k : Int), ep, ev, el, eh⟩, epoch := ep }) ht) r1 3 (by omega)⟩
 refine zae (E := ⟨Tryz.prog, tabaT, ords67, Tryz.f67, w, [gt, gc], [(gt, 0), (gc, 0)], fun _ _ _ => False⟩) zab (c := bodyOf Tryz.f67) (n := 0) Tryz.func67 rfl (show codeChk ords67 (bodyOf Tryz.f67) = true by decide +kernel) (rho [(gt, 0), (gc, 0)]) (fun h p hp => zaq _ h p hp)
  (tm := [.agg [.val (iv c.regions), .val (.slice h.az czl h.kz), .val (.slice h.ac ccl h.kc), .val (.slice h.at_ ctl h.kt), .val (.slice h.av cvl h.kv), .val (.slice h.ar crl h.kr), .val (.slice h.ao col h.ko), .val (iv c.blast), .val (iv c.lease), .val (iv c.bake)], .agg [.val (iv s.tick), .val (iv s.count), .slc 0 0 tl kt, .slc 1 0 cl kc, .val (iv s.proven), .val (iv s.evac), .val (iv s.low), .val (iv s.high)], .agg [.val (.int .i64 ek), .val (.int .i64 et), .val (.int .i64 ni), .val (.int .i64 ki), .val (.int .i64 eo), .val (.int .i64 ep), .val (.int .i64 el), .val (.int .i64 eh), .val (.int .i64 ev)]] ++ List.replicate 138 (.one (.val undef))) (mem := [.sym 105 xs, .sym 107 ys]) (Nat.le_refl _) ?_ ?_ (by rw [hczl, hccl, hctl, hcvl, hcrl, hcol]; rw [htl, hcl, hni, hki]; rfl) ?_
 ·have h1 := (zan w [gt, gc] (rho [(gt, 0), (gc, 0)])).addW (t := 105) (l := xs) (g := gt) rfl (by rw [hxs]; exact hbt) (by simp) (fun h hh => by cases hh)
  have h2 := h1.addW (t := 107) (l := ys) (g := gc) rfl (by rw [hys]; exact hbc) (by simp) (fun h hh => by cases (show h = 0 from Nat.lt_one_iff.1 hh); exact HNE.out)
  exact h2
 ·simp [SV.ok, S1.ok]
 ·refine zaa zab hA rfl rfl 400 ?_
  conv => arg 3; cbv
  repeat' first
   | (refine g_no _ (zaa zab hA rfl rfl 400 ?_); conv => arg 3; cbv)
   | (refine zc4 K hz sok.evac htl hcl (fun _ _ => zaa zab hA rfl rfl 400 ?_); conv => arg 3; cbv)
   | (refine g_may K hz hni (by have := sok.tl; omega) (fun _ _ => zaa zab hA rfl rfl 400 ?_); conv => arg 3; cbv)
   | (refine g_tog K hz (fun _ _ => zaa zab hA rfl rfl 400 ?_); conv => arg 3; cbv)
   | (refine g_fit (s := s.setT n { t with win := ⟨(k : Int), ep, ev, el, eh⟩, epoch := ep }) K hz hx2 hys ((zbb _ _ _).trans sok.tl) (htl.trans (zbb _ _ _).symm) hcl rfl rfl (by simp) (fun _ => zaa zab hA rfl rfl 400 ?_) (fun _ => zaa zab hA rfl rfl 400 ?_) <;> conv => arg 3; cbv)
   | (refine g_fit (s := s.setT n { t with win := ⟨(k : Int), ep, ev, el, eh⟩, epoch := ep, home := (k : Int), standby := -1, next := -1, target := -1, shed := false }) K hz hx7 hys ((zbb _ _ _).trans sok.tl) (htl.trans (zbb _ _ _).symm) hcl rfl rfl (by simp) (fun _ => zaa zab hA rfl rfl 400 ?_) (fun _ => zaa zab hA rfl rfl 400 ?_) <;> conv => arg 3; cbv)
   | (refine g_fit (s := s.setT n { t with win := ⟨(k : Int), ep, ev, el, eh⟩, epoch := ep, home := (k : Int), target := -1 }) K hz hx9 hys ((zbb _ _ _).trans sok.tl) (htl.trans (zbb _ _ _).symm) hcl rfl rfl (by simp) (fun _ => zaa zab hA rfl rfl 400 ?_) (fun _ => zaa zab hA rfl rfl 400 ?_) <;> conv => arg 3; cbv)
   | (refine g_granted K sok hz ht hx hni hki hxs hys htl hcl het hel heh rfl rfl (by simp) (fun _ _ => zaa zab hA rfl rfl 400 ?_); conv => arg 3; cbv)
   | refine zad zab (by rfl) (by rfl) (by rfl) (fun ρ w' hρ hSat => ?_)
   | (simp only [F]; conv => arg 3; cbv)
   | (split <;> (rename_i hsp; simp only [hsp, F]; conv => arg 3; cbv))
   | (split <;> conv => arg 3; cbv)
  all_goals first
   | exact StRet.bad (by first | decide | (clear F hSat; subst hA; simp_all [std]; done)) (zaw hSat.gr) (by have z1 := zbi ht; have z_hx := zb8 hx; clear F hSat; subst hA; rcases t with ⟨_, _, _, _, _, _, _, ⟨_, _, _, _, _⟩⟩; cases x; simp_all [grantD, std, grantT] <;> (intros; omega))
   | (have e0 := hρ 0 (gt, 0) rfl
      have e1 := hρ 1 (gc, 0) rfl
      simp only [List.map, concV, conc1, e0, e1]
      rw [htl, hcl]
      exact StRet.good2 (s := s.setT n { t with win := ⟨(k : Int), ep, ev, el, eh⟩, epoch := ep }) (zaw hSat.gr) (zbx hSat e0 e1 rfl rfl hx2 hys HNE.out) (by have z1 := zbi ht; have z_hx := zb8 hx; clear F hSat; subst hA; rcases t with ⟨_, _, _, _, _, _, _, ⟨_, _, _, _, _⟩⟩; cases x; simp_all [grantD, std, grantT] <;> (intros; omega)) (zbw _ _ _ _))
   | (have e0 := hρ 0 (gt, 0) rfl
      have e1 := hρ 1 (gc, 0) rfl
      simp only [List.map, concV, conc1, e0, e1]
      rw [htl, hcl]
      exact StRet.good2 (s := s.setT n { t with win := ⟨(k : Int), ep, ev, el, eh⟩, epoch := ep, home := (k : Int), standby := -1, next := -1, target := -1, shed := false }) (zaw hSat.gr) (zbx hSat e0 e1 rfl rfl hx7 hys HNE.out) (by have z1 := zbi ht; have z_hx := zb8 hx; clear F hSat; subst hA; rcases t with ⟨_, _, _, _, _, _, _, ⟨_, _, _, _, _⟩⟩; cases x; simp_all [grantD, std, grantT] <;> (intros; omega)) (zbw _ _ _ _))
   | (have e0 := hρ 0 (gt, 0) rfl
      have e1 := hρ 1 (gc, 0) rfl
      simp only [List.map, concV, conc1, e0, e1]
      rw [htl, hcl]
      exact StRet.good2 (s := s.setT n { t with win := ⟨(k : Int), ep, ev, el, eh⟩, epoch := ep, home := (k : Int), target := -1 }) (zaw hSat.gr) (zbx hSat e0 e1 rfl rfl hx9 hys HNE.out) (by have z1 := zbi ht; have z_hx := zb8 hx; clear F hSat; subst hA; rcases t with ⟨_, _, _, _, _, _, _, ⟨_, _, _, _, _⟩⟩; cases x; simp_all [grantD, std, grantT] <;> (intros; omega)) (zbw _ _ _ _))
end Go.Proofs.YtcgcfeablbjnaaaGreatDoor
