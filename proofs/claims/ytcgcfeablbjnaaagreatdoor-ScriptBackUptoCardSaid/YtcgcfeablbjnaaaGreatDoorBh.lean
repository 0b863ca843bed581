/- Parts of the proof that ScriptBack returns true for every input of bulk at most 1048576. -/
import Derived.Test.YtcgcfeablbjnaaaGreatDoorBg
set_option linter.unusedSimpArgs false
set_option linter.unusedVariables false
set_option maxRecDepth 100000
set_option maxHeartbeats 8000000
namespace Go.Proofs.YtcgcfeablbjnaaaGreatDoor
open Go.RowKit Eng
theorem migrate_any (c : CfgD) (h : CfgH) (B : Nat) (s : StD) (hs : StH) (gt gc n k : Nat) (t : TsD) (x : CsD) (ek et eo ep el eh ev : Int) (w : World) (ok : CfgOk c) (sok : StOk c s) (ht : s.tens[n]? = some t) (hx : s.cells[k]? = some x) (hC : CfgAt w B c h) (hB : B ≤ gt ∧ B ≤ gc) (hW : StW w s hs gt gc) :
 Calls Tryz.prog 71 #[.agg (cfgV c h), .agg (stV s hs), .agg (EnD.cells ⟨ek, et, (n : Nat), (k : Nat), eo, ep, el, eh, ev⟩)] w (StRet (migrateD c s ⟨ek, et, (n : Nat), (k : Nat), eo, ep, el, eh, ev⟩) hs gt gc w) := by
 have hn : n < s.tens.length := (List.getElem?_eq_some_iff.1 ht).1
 have hk : k < s.cells.length := (List.getElem?_eq_some_iff.1 hx).1
 obtain ⟨a1, kt, a2, kc⟩ := hs
 obtain rfl : a1 = some ⟨gt, 0, none⟩ := hW.at_
 obtain rfl : a2 = some ⟨gc, 0, none⟩ := hW.ac
 obtain ⟨r1, hbt⟩ := hW.bt
 obtain ⟨r2, hbc⟩ := hW.bc
 have HNE := Lib.hid hW.ne
 have hlt := hW.lt
 obtain ⟨A, hA⟩ : ∃ A, A = std := ⟨_, rfl⟩
 obtain ⟨xs, hxs⟩ := nm (s.tens.flatMap TsD.cells ++ r1)
 obtain ⟨ys, hys⟩ := nm (s.cells.flatMap CsD.cells ++ r2)
 obtain ⟨tl, htl⟩ := nm (s.tens.length)
 obtain ⟨cl, hcl⟩ := nm (s.cells.length)
 obtain ⟨czl, hczl⟩ := nm (c.zones.length)
 obtain ⟨ccl, hccl⟩ := nm (c.cells.length)
 obtain ⟨ctl, hctl⟩ := nm (c.tens.length)
 obtain ⟨cvl, hcvl⟩ := nm (c.vers.length)
 obtain ⟨crl, hcrl⟩ := nm (c.reps.length)
 obtain ⟨col, hcol⟩ := nm (c.obs.length)
 have hz : Cz c czl ccl ctl cvl crl col := ⟨hczl, hccl, hctl, hcvl, hcrl, hcol⟩
 have K : KX w c h B gt gc := ⟨ok, hC, hB, hlt, HNE.out⟩
 obtain ⟨ni, hni⟩ := nm ((n : Int))
 obtain ⟨q, hq⟩ := nm (n * 12)
 obtain ⟨ki, hki⟩ := nm ((k : Int))
 obtain ⟨p, hp⟩ := nm (k * 4)
 obtain ⟨x1, hx1⟩ := nm ((s.setT n { t with target := (k : Int) }).tens.flatMap TsD.cells ++ r1)
 have F : A.not true = false ∧ A.not false = true ∧ A.inb ni tl = true ∧ A.idx 0 ni 12 = q ∧ A.get xs q 0 = some (.bool t.placed) ∧ A.get xs q 1 = some (.bool t.shed) ∧ A.get xs q 2 = some (.int .i64 t.home) ∧ A.get xs q 3 = some (.int .i64 t.standby) ∧ A.get xs q 4 = some (.int .i64 t.next) ∧ A.get xs q 5 = some (.int .i64 t.target) ∧ A.inb ki cl = true ∧ A.idx 0 ki 4 = p ∧ A.get ys p 0 = some (.int .i64 x.mode) ∧ A.set xs q 5 [.int .i64 ki] = some x1 := by
  rw [hA]
  exact ⟨rfl, rfl, by rw [hni, htl]; simp [std]; omega, by rw [hq, hni]; simp [std], by rw [hq, hxs]; exact zap TsD.cells 12 (fun _ => rfl) ht r1 0 (by omega), by rw [hq, hxs]; exact zap TsD.cells 12 (fun _ => rfl) ht r1 1 (by omega), by rw [hq, hxs]; exact zap TsD.cells 12 (fun _ => rfl) ht r1 2 (by omega), by rw [hq, hxs]; exact zap TsD.cells 12 (fun _ => rfl) ht r1 3 (by omega), by rw [hq, hxs]; exact zap TsD.cells 12 (fun _ => rfl) ht r1 4 (by omega), by rw [hq, hxs]; exact zap TsD.cells 12 (fun _ => rfl) ht r1 5 (by omega), by rw [hki, hcl]; simp [std]; omega, by rw [hp, hki]; simp [std], by rw [hp, hys]; exact zap CsD.cells 4 (fun _ => rfl) hx r2 0 (by omega), by rw [hq, hxs, hx1, hki]; exact zby TsD.cells 12 (fun _ => rfl) ht r1 5 _ (by simp) rfl⟩
 refine zae (E := ⟨Tryz.prog, tabaT, ords71, Tryz.f71, w, [gt, gc], [(gt, 0), (gc, 0)], fun _ _ _ => False⟩) zab (c := bodyOf Tryz.f71) (n := 0) Tryz.func71 rfl (show codeChk ords71 (bodyOf Tryz.f71) = true by decide +kernel) (rho [(gt, 0), (gc, 0)]) (fun h p hp => zaq _ h p hp)
  (tm := [.agg [.val (iv c.regions), .val (.slice h.az czl h.kz), .val (.slice h.ac ccl h.kc), .val (.slice h.at_ ctl h.kt), .val (.slice h.av cvl h.kv), .val (.slice h.ar crl h.kr), .val (.slice h.ao col h.ko), .val (iv c.blast), .val (iv c.lease), .val (iv c.bake)], .agg [.val (iv s.tick), .val (iv s.count), .slc 0 0 tl kt, .slc 1 0 cl kc, .val (iv s.proven), .val (iv s.evac), .val (iv s.low), .val (iv s.high)], .agg [.val (.int .i64 ek), .val (.int .i64 et), .val (.int .i64 ni), .val (.int .i64 ki), .val (.int .i64 eo), .val (.int .i64 ep), .val (.int .i64 el), .val (.int .i64 eh), .val (.int .i64 ev)]] ++ List.replicate 124 (.one (.val undef))) (mem := [.sym 105 xs, .sym 107 ys]) (Nat.le_refl _) ?_ ?_ (by rw [hczl, hccl, hctl, hcvl, hcrl, hcol]; rw [htl, hcl, hni, hki]; rfl) ?_
 ·have h1 := (zan w [gt, gc] (rho [(gt, 0), (gc, 0)])).addW (t := 105) (l := xs) (g := gt) rfl (by rw [hxs]; exact hbt) (by simp) (fun h hh => by cases hh)
  have h2 := h1.addW (t := 107) (l := ys) (g := gc) rfl (by rw [hys]; exact hbc) (by simp) (fun h hh => by cases (show h = 0 from Nat.lt_one_iff.1 hh); exact HNE.out)
  exact h2
 ·simp [SV.ok, S1.ok]
 ·refine zaa zab hA rfl rfl 400 ?_
  conv => arg 3; cbv
  repeat' first
   | (refine g_no _ (zaa zab hA rfl rfl 400 ?_); conv => arg 3; cbv)
   | (refine zc4 K hz sok.evac htl hcl (fun _ _ => zaa zab hA rfl rfl 400 ?_); conv => arg 3; cbv)
   | (refine g_may K hz hni (by have := sok.tl; omega) (fun _ _ => zaa zab hA rfl rfl 400 ?_); conv => arg 3; cbv)
   | (refine g_tog K hz (fun _ _ => zaa zab hA rfl rfl 400 ?_); conv => arg 3; cbv)
   | (refine g_fit (s := s.setT n { t with target := (k : Int) }) K hz hx1 hys ((zbb _ _ _).trans sok.tl) (htl.trans (zbb _ _ _).symm) hcl rfl rfl (by simp) (fun _ => zaa zab hA rfl rfl 400 ?_) (fun _ => zaa zab hA rfl rfl 400 ?_) <;> conv => arg 3; cbv)
   | refine zad zab (by rfl) (by rfl) (by rfl) (fun ρ w' hρ hSat => ?_)
   | (simp only [F]; conv => arg 3; cbv)
   | (split <;> (rename_i hsp; simp only [hsp, F]; conv => arg 3; cbv))
   | (split <;> conv => arg 3; cbv)
  all_goals first
   | exact StRet.bad (by decide) (zaw hSat.gr) (by clear F hSat; subst hA; cases t; cases x; simp_all [migrateD, zbi ht, zb8 hx, std] <;> (intros; omega))
   | (have e0 := hρ 0 (gt, 0) rfl
      have e1 := hρ 1 (gc, 0) rfl
      simp only [List.map, concV, conc1, e0, e1]
      rw [htl, hcl]
      exact StRet.good2 (s := s.setT n { t with target := (k : Int) }) (zaw hSat.gr) (zbx hSat e0 e1 rfl rfl hx1 hys HNE.out) (by clear F hSat; subst hA; cases t; cases x; simp_all [migrateD, zbi ht, zb8 hx, std] <;> (intros; omega)) (zbw _ _ _ _))
theorem place_one (c : CfgD) (h : CfgH) (B : Nat) (s : StD) (hs : StH) (gt gc n k : Nat) (t : TsD) (x : CsD) (ek et ep el eh ev : Int) (w : World) (ok : CfgOk c) (sok : StOk c s) (ht : s.tens[n]? = some t) (hx : s.cells[k]? = some x) (hC : CfgAt w B c h) (hB : B ≤ gt ∧ B ≤ gc) (hW : StW w s hs gt gc) :
 Calls Tryz.prog 66 #[.agg (cfgV c h), .agg (stV s hs), .agg (EnD.cells ⟨ek, et, (n : Nat), (k : Nat), (-1), ep, el, eh, ev⟩)] w (StRet (placeD c s ⟨ek, et, (n : Nat), (k : Nat), (-1), ep, el, eh, ev⟩) hs gt gc w) := by
 have hn : n < s.tens.length := (List.getElem?_eq_some_iff.1 ht).1
 have hk : k < s.cells.length := (List.getElem?_eq_some_iff.1 hx).1
 obtain ⟨a1, kt, a2, kc⟩ := hs
 obtain rfl : a1 = some ⟨gt, 0, none⟩ := hW.at_
 obtain rfl : a2 = some ⟨gc, 0, none⟩ := hW.ac
 obtain ⟨r1, hbt⟩ := hW.bt
 obtain ⟨r2, hbc⟩ := hW.bc
 have HNE := Lib.hid hW.ne
 have hlt := hW.lt
 obtain ⟨A, hA⟩ : ∃ A, A = std := ⟨_, rfl⟩
 obtain ⟨xs, hxs⟩ := nm (s.tens.flatMap TsD.cells ++ r1)
 obtain ⟨ys, hys⟩ := nm (s.cells.flatMap CsD.cells ++ r2)
 obtain ⟨tl, htl⟩ := nm (s.tens.length)
 obtain ⟨cl, hcl⟩ := nm (s.cells.length)
 obtain ⟨czl, hczl⟩ := nm (c.zones.length)
 obtain ⟨ccl, hccl⟩ := nm (c.cells.length)
 obtain ⟨ctl, hctl⟩ := nm (c.tens.length)
 obtain ⟨cvl, hcvl⟩ := nm (c.vers.length)
 obtain ⟨crl, hcrl⟩ := nm (c.reps.length)
 obtain ⟨col, hcol⟩ := nm (c.obs.length)
 have hz : Cz c czl ccl ctl cvl crl col := ⟨hczl, hccl, hctl, hcvl, hcrl, hcol⟩
 have K : KX w c h B gt gc := ⟨ok, hC, hB, hlt, HNE.out⟩
 obtain ⟨ni, hni⟩ := nm ((n : Int))
 obtain ⟨q, hq⟩ := nm (n * 12)
 obtain ⟨ki, hki⟩ := nm ((k : Int))
 obtain ⟨p, hp⟩ := nm (k * 4)
 obtain ⟨x1, hx1⟩ := nm ((s.setT n { t with placed := true }).tens.flatMap TsD.cells ++ r1)
 obtain ⟨x2, hx2⟩ := nm ((s.setT n { t with placed := true, home := (k : Int) }).tens.flatMap TsD.cells ++ r1)
 obtain ⟨x3, hx3⟩ := nm ((s.setT n { t with placed := true, home := (k : Int), standby := (-1 : Int) }).tens.flatMap TsD.cells ++ r1)
 have F : A.not true = false ∧ A.not false = true ∧ A.inb ni tl = true ∧ A.idx 0 ni 12 = q ∧ A.get xs q 0 = some (.bool t.placed) ∧ A.inb ki cl = true ∧ A.idx 0 ki 4 = p ∧ A.get ys p 0 = some (.int .i64 x.mode) ∧ A.set xs q 0 [.bool true] = some x1 ∧ A.set x1 q 2 [.int .i64 ki] = some x2 ∧ A.set x2 q 3 [.int .i64 (-1)] = some x3 ∧ A.le 0 (-1) = false := by
  rw [hA]
  exact ⟨rfl, rfl, by rw [hni, htl]; simp [std]; omega, by rw [hq, hni]; simp [std], by rw [hq, hxs]; exact zap TsD.cells 12 (fun _ => rfl) ht r1 0 (by omega), by rw [hki, hcl]; simp [std]; omega, by rw [hp, hki]; simp [std], by rw [hp, hys]; exact zap CsD.cells 4 (fun _ => rfl) hx r2 0 (by omega), by rw [hq, hxs, hx1]; exact zby TsD.cells 12 (fun _ => rfl) ht r1 0 _ (by simp) rfl, by rw [hq, hx1, hx2, hki]; exact zco ht r1 2 _ (by simp) rfl, by rw [hq, hx2, hx3]; exact zco ht r1 3 _ (by simp) rfl, rfl⟩
 refine zae (E := ⟨Tryz.prog, tabaT, ords66, Tryz.f66, w, [gt, gc], [(gt, 0), (gc, 0)], fun _ _ _ => False⟩) zab (c := bodyOf Tryz.f66) (n := 0) Tryz.func66 rfl (show codeChk ords66 (bodyOf Tryz.f66) = true by decide +kernel) (rho [(gt, 0), (gc, 0)]) (fun h p hp => zaq _ h p hp)
  (tm := [.agg [.val (iv c.regions), .val (.slice h.az czl h.kz), .val (.slice h.ac ccl h.kc), .val (.slice h.at_ ctl h.kt), .val (.slice h.av cvl h.kv), .val (.slice h.ar crl h.kr), .val (.slice h.ao col h.ko), .val (iv c.blast), .val (iv c.lease), .val (iv c.bake)], .agg [.val (iv s.tick), .val (iv s.count), .slc 0 0 tl kt, .slc 1 0 cl kc, .val (iv s.proven), .val (iv s.evac), .val (iv s.low), .val (iv s.high)], .agg [.val (.int .i64 ek), .val (.int .i64 et), .val (.int .i64 ni), .val (.int .i64 ki), .val (.int .i64 (-1)), .val (.int .i64 ep), .val (.int .i64 el), .val (.int .i64 eh), .val (.int .i64 ev)]] ++ List.replicate 116 (.one (.val undef))) (mem := [.sym 105 xs, .sym 107 ys]) (Nat.le_refl _) ?_ ?_ (by rw [hczl, hccl, hctl, hcvl, hcrl, hcol]; rw [htl, hcl, hni, hki]; rfl) ?_
 ·have h1 := (zan w [gt, gc] (rho [(gt, 0), (gc, 0)])).addW (t := 105) (l := xs) (g := gt) rfl (by rw [hxs]; exact hbt) (by simp) (fun h hh => by cases hh)
  have h2 := h1.addW (t := 107) (l := ys) (g := gc) rfl (by rw [hys]; exact hbc) (by simp) (fun h hh => by cases (show h = 0 from Nat.lt_one_iff.1 hh); exact HNE.out)
  exact h2
 ·simp [SV.ok, S1.ok]
 ·refine zaa zab hA rfl rfl 400 ?_
  conv => arg 3; cbv
  repeat' first
   | (refine g_no _ (zaa zab hA rfl rfl 400 ?_); conv => arg 3; cbv)
   | (refine zc4 K hz sok.evac htl hcl (fun _ _ => zaa zab hA rfl rfl 400 ?_); conv => arg 3; cbv)
   | (refine g_may K hz hni (by have := sok.tl; omega) (fun _ _ => zaa zab hA rfl rfl 400 ?_); conv => arg 3; cbv)
   | (refine g_tog K hz (fun _ _ => zaa zab hA rfl rfl 400 ?_); conv => arg 3; cbv)
   | (refine g_fit (s := s.setT n { t with placed := true, home := (k : Int), standby := (-1 : Int) }) K hz hx3 hys ((zbb _ _ _).trans sok.tl) (htl.trans (zbb _ _ _).symm) hcl rfl rfl (by simp) (fun _ => zaa zab hA rfl rfl 400 ?_) (fun _ => zaa zab hA rfl rfl 400 ?_) <;> conv => arg 3; cbv)
   | refine zad zab (by rfl) (by rfl) (by rfl) (fun ρ w' hρ hSat => ?_)
   | (simp only [F]; conv => arg 3; cbv)
   | (split <;> (rename_i hsp; simp only [hsp, F]; conv => arg 3; cbv))
   | (split <;> conv => arg 3; cbv)
  all_goals first
   | exact StRet.bad (by decide) (zaw hSat.gr) (by have z1 := zbi ht; have z_hx := zb8 hx; clear F hSat; subst hA; cases t; cases x; simp_all [placeD, std] <;> (intros; omega))
   | (have e0 := hρ 0 (gt, 0) rfl
      have e1 := hρ 1 (gc, 0) rfl
      simp only [List.map, concV, conc1, e0, e1]
      rw [htl, hcl]
      exact StRet.good2 (s := s.setT n { t with placed := true, home := (k : Int), standby := (-1 : Int) }) (zaw hSat.gr) (zbx hSat e0 e1 rfl rfl hx3 hys HNE.out) (by have z1 := zbi ht; have z_hx := zb8 hx; clear F hSat; subst hA; cases t; cases x; simp_all [placeD, std] <;> (intros; omega)) (zbw _ _ _ _))
theorem place_two (c : CfgD) (h : CfgH) (B : Nat) (s : StD) (hs : StH) (gt gc n k m2 : Nat) (t : TsD) (x y : CsD) (ek et ep el eh ev : Int) (w : World) (ok : CfgOk c) (sok : StOk c s) (ht : s.tens[n]? = some t) (hx : s.cells[k]? = some x) (hy : s.cells[m2]? = some y) (hC : CfgAt w B c h) (hB : B ≤ gt ∧ B ≤ gc) (hW : StW w s hs gt gc) :
 Calls Tryz.prog 66 #[.agg (cfgV c h), .agg (stV s hs), .agg (EnD.cells ⟨ek, et, (n : Nat), (k : Nat), (m2 : Nat), ep, el, eh, ev⟩)] w (StRet (placeD c s ⟨ek, et, (n : Nat), (k : Nat), (m2 : Nat), ep, el, eh, ev⟩) hs gt gc w) := by
 have hn : n < s.tens.length := (List.getElem?_eq_some_iff.1 ht).1
 have hk : k < s.cells.length := (List.getElem?_eq_some_iff.1 hx).1
 have hm2 : m2 < s.cells.length := (List.getElem?_eq_some_iff.1 hy).1
 obtain ⟨a1, kt, a2, kc⟩ := hs
 obtain rfl : a1 = some ⟨gt, 0, none⟩ := hW.at_
 obtain rfl : a2 = some ⟨gc, 0, none⟩ := hW.ac
 obtain ⟨r1, hbt⟩ := hW.bt
 obtain ⟨r2, hbc⟩ := hW.bc
 have HNE := Lib.hid hW.ne
 have hlt := hW.lt
 obtain ⟨A, hA⟩ : ∃ A, A = std := ⟨_, rfl⟩
 obtain ⟨xs, hxs⟩ := nm (s.tens.flatMap TsD.cells ++ r1)
 obtain ⟨ys, hys⟩ := nm (s.cells.flatMap CsD.cells ++ r2)
 obtain ⟨tl, htl⟩ := nm (s.tens.length)
 obtain ⟨cl, hcl⟩ := nm (s.cells.length)
 obtain ⟨czl, hczl⟩ := nm (c.zones.length)
 obtain ⟨ccl, hccl⟩ := nm (c.cells.length)
 obtain ⟨ctl, hctl⟩ := nm (c.tens.length)
 obtain ⟨cvl, hcvl⟩ := nm (c.vers.length)
 obtain ⟨crl, hcrl⟩ := nm (c.reps.length)
 obtain ⟨col, hcol⟩ := nm (c.obs.length)
 have hz : Cz c czl ccl ctl cvl crl col := ⟨hczl, hccl, hctl, hcvl, hcrl, hcol⟩
 have K : KX w c h B gt gc := ⟨ok, hC, hB, hlt, HNE.out⟩
 obtain ⟨ni, hni⟩ := nm ((n : Int))
 obtain ⟨q, hq⟩ := nm (n * 12)
 obtain ⟨ki, hki⟩ := nm ((k : Int))
 obtain ⟨p, hp⟩ := nm (k * 4)
 obtain ⟨mi, hmi⟩ := nm ((m2 : Int))
 obtain ⟨p2, hp2⟩ := nm (m2 * 4)
 obtain ⟨x1, hx1⟩ := nm ((s.setT n { t with placed := true }).tens.flatMap TsD.cells ++ r1)
 obtain ⟨x2, hx2⟩ := nm ((s.setT n { t with placed := true, home := (k : Int) }).tens.flatMap TsD.cells ++ r1)
 obtain ⟨x3, hx3⟩ := nm ((s.setT n { t with placed := true, home := (k : Int), standby := (m2 : Int) }).tens.flatMap TsD.cells ++ r1)
 have F : A.not true = false ∧ A.not false = true ∧ A.inb ni tl = true ∧ A.idx 0 ni 12 = q ∧ A.get xs q 0 = some (.bool t.placed) ∧ A.inb ki cl = true ∧ A.idx 0 ki 4 = p ∧ A.get ys p 0 = some (.int .i64 x.mode) ∧ A.inb mi cl = true ∧ A.idx 0 mi 4 = p2 ∧ A.get ys p2 0 = some (.int .i64 y.mode) ∧ A.set xs q 0 [.bool true] = some x1 ∧ A.set x1 q 2 [.int .i64 ki] = some x2 ∧ A.set x2 q 3 [.int .i64 mi] = some x3 ∧ A.le 0 mi = true := by
  rw [hA]
  exact ⟨rfl, rfl, by rw [hni, htl]; simp [std]; omega, by rw [hq, hni]; simp [std], by rw [hq, hxs]; exact zap TsD.cells 12 (fun _ => rfl) ht r1 0 (by omega), by rw [hki, hcl]; simp [std]; omega, by rw [hp, hki]; simp [std], by rw [hp, hys]; exact zap CsD.cells 4 (fun _ => rfl) hx r2 0 (by omega), by rw [hmi, hcl]; simp [std]; omega, by rw [hp2, hmi]; simp [std], by rw [hp2, hys]; exact zap CsD.cells 4 (fun _ => rfl) hy r2 0 (by omega), by rw [hq, hxs, hx1]; exact zby TsD.cells 12 (fun _ => rfl) ht r1 0 _ (by simp) rfl, by rw [hq, hx1, hx2, hki]; exact zco ht r1 2 _ (by simp) rfl, by rw [hq, hx2, hx3, hmi]; exact zco ht r1 3 _ (by simp) rfl, by rw [hmi]; simp [std]⟩
 refine zae (E := ⟨Tryz.prog, tabaT, ords66, Tryz.f66, w, [gt, gc], [(gt, 0), (gc, 0)], fun _ _ _ => False⟩) zab (c := bodyOf Tryz.f66) (n := 0) Tryz.func66 rfl (show codeChk ords66 (bodyOf Tryz.f66) = true by decide +kernel) (rho [(gt, 0), (gc, 0)]) (fun h p hp => zaq _ h p hp)
  (tm := [.agg [.val (iv c.regions), .val (.slice h.az czl h.kz), .val (.slice h.ac ccl h.kc), .val (.slice h.at_ ctl h.kt), .val (.slice h.av cvl h.kv), .val (.slice h.ar crl h.kr), .val (.slice h.ao col h.ko), .val (iv c.blast), .val (iv c.lease), .val (iv c.bake)], .agg [.val (iv s.tick), .val (iv s.count), .slc 0 0 tl kt, .slc 1 0 cl kc, .val (iv s.proven), .val (iv s.evac), .val (iv s.low), .val (iv s.high)], .agg [.val (.int .i64 ek), .val (.int .i64 et), .val (.int .i64 ni), .val (.int .i64 ki), .val (.int .i64 mi), .val (.int .i64 ep), .val (.int .i64 el), .val (.int .i64 eh), .val (.int .i64 ev)]] ++ List.replicate 116 (.one (.val undef))) (mem := [.sym 105 xs, .sym 107 ys]) (Nat.le_refl _) ?_ ?_ (by rw [hczl, hccl, hctl, hcvl, hcrl, hcol]; rw [htl, hcl, hni, hki, hmi]; rfl) ?_
 ·have h1 := (zan w [gt, gc] (rho [(gt, 0), (gc, 0)])).addW (t := 105) (l := xs) (g := gt) rfl (by rw [hxs]; exact hbt) (by simp) (fun h hh => by cases hh)
  have h2 := h1.addW (t := 107) (l := ys) (g := gc) rfl (by rw [hys]; exact hbc) (by simp) (fun h hh => by cases (show h = 0 from Nat.lt_one_iff.1 hh); exact HNE.out)
  exact h2
 ·simp [SV.ok, S1.ok]
 ·refine zaa zab hA rfl rfl 400 ?_
  conv => arg 3; cbv
  repeat' first
   | (refine g_no _ (zaa zab hA rfl rfl 400 ?_); conv => arg 3; cbv)
   | (refine zc4 K hz sok.evac htl hcl (fun _ _ => zaa zab hA rfl rfl 400 ?_); conv => arg 3; cbv)
   | (refine g_may K hz hni (by have := sok.tl; omega) (fun _ _ => zaa zab hA rfl rfl 400 ?_); conv => arg 3; cbv)
   | (refine g_tog K hz (fun _ _ => zaa zab hA rfl rfl 400 ?_); conv => arg 3; cbv)
   | (refine g_fit (s := s.setT n { t with placed := true, home := (k : Int), standby := (m2 : Int) }) K hz hx3 hys ((zbb _ _ _).trans sok.tl) (htl.trans (zbb _ _ _).symm) hcl rfl rfl (by simp) (fun _ => zaa zab hA rfl rfl 400 ?_) (fun _ => zaa zab hA rfl rfl 400 ?_) <;> conv => arg 3; cbv)
   | refine zad zab (by rfl) (by rfl) (by rfl) (fun ρ w' hρ hSat => ?_)
   | (simp only [F]; conv => arg 3; cbv)
   | (split <;> (rename_i hsp; simp only [hsp, F]; conv => arg 3; cbv))
   | (split <;> conv => arg 3; cbv)
  all_goals first
   | exact StRet.bad (by decide) (zaw hSat.gr) (by have z1 := zbi ht; have z_hx := zb8 hx; have z_hy := zb8 hy; clear F hSat; subst hA; cases t; cases x; cases y; simp_all [placeD, std] <;> (intros; omega))
   | (have e0 := hρ 0 (gt, 0) rfl
      have e1 := hρ 1 (gc, 0) rfl
      simp only [List.map, concV, conc1, e0, e1]
      rw [htl, hcl]
      exact StRet.good2 (s := s.setT n { t with placed := true, home := (k : Int), standby := (m2 : Int) }) (zaw hSat.gr) (zbx hSat e0 e1 rfl rfl hx3 hys HNE.out) (by have z1 := zbi ht; have z_hx := zb8 hx; have z_hy := zb8 hy; clear F hSat; subst hA; cases t; cases x; cases y; simp_all [placeD, std] <;> (intros; omega)) (zbw _ _ _ _))
theorem standby_any (c : CfgD) (h : CfgH) (B : Nat) (s : StD) (hs : StH) (gt gc n k : Nat) (t : TsD) (x : CsD) (ek et eo ep el eh ev : Int) (w : World) (ok : CfgOk c) (sok : StOk c s) (ht : s.tens[n]? = some t) (hx : s.cells[k]? = some x) (hC : CfgAt w B c h) (hB : B ≤ gt ∧ B ≤ gc) (hW : StW w s hs gt gc) :
 Calls Tryz.prog 69 #[.agg (cfgV c h), .agg (stV s hs), .agg (EnD.cells ⟨ek, et, (n : Nat), (k : Nat), eo, ep, el, eh, ev⟩)] w (StRet (standbyD c s ⟨ek, et, (n : Nat), (k : Nat), eo, ep, el, eh, ev⟩) hs gt gc w) := by
 have hn : n < s.tens.length := (List.getElem?_eq_some_iff.1 ht).1
 have hk : k < s.cells.length := (List.getElem?_eq_some_iff.1 hx).1
 have hk0 : ¬ (k : Int) < 0 := by omega
 obtain ⟨a1, kt, a2, kc⟩ := hs
 obtain rfl : a1 = some ⟨gt, 0, none⟩ := hW.at_
 obtain rfl : a2 = some ⟨gc, 0, none⟩ := hW.ac
 obtain ⟨r1, hbt⟩ := hW.bt
 obtain ⟨r2, hbc⟩ := hW.bc
 have HNE := Lib.hid hW.ne
 have hlt := hW.lt
 obtain ⟨A, hA⟩ : ∃ A, A = std := ⟨_, rfl⟩
 obtain ⟨xs, hxs⟩ := nm (s.tens.flatMap TsD.cells ++ r1)
 obtain ⟨ys, hys⟩ := nm (s.cells.flatMap CsD.cells ++ r2)
 obtain ⟨tl, htl⟩ := nm (s.tens.length)
 obtain ⟨cl, hcl⟩ := nm (s.cells.length)
 obtain ⟨czl, hczl⟩ := nm (c.zones.length)
 obtain ⟨ccl, hccl⟩ := nm (c.cells.length)
 obtain ⟨ctl, hctl⟩ := nm (c.tens.length)
 obtain ⟨cvl, hcvl⟩ := nm (c.vers.length)
 obtain ⟨crl, hcrl⟩ := nm (c.reps.length)
 obtain ⟨col, hcol⟩ := nm (c.obs.length)
 have hz : Cz c czl ccl ctl cvl crl col := ⟨hczl, hccl, hctl, hcvl, hcrl, hcol⟩
 have K : KX w c h B gt gc := ⟨ok, hC, hB, hlt, HNE.out⟩
 obtain ⟨ni, hni⟩ := nm ((n : Int))
 obtain ⟨q, hq⟩ := nm (n * 12)
 obtain ⟨ki, hki⟩ := nm ((k : Int))
 obtain ⟨p, hp⟩ := nm (k * 4)
 obtain ⟨x1, hx1⟩ := nm ((s.setT n { t with next := (k : Int) }).tens.flatMap TsD.cells ++ r1)
 have F : A.not true = false ∧ A.not false = true ∧ A.inb ni tl = true ∧ A.idx 0 ni 12 = q ∧ A.get xs q 0 = some (.bool t.placed) ∧ A.get xs q 2 = some (.int .i64 t.home) ∧ A.get xs q 3 = some (.int .i64 t.standby) ∧ A.get xs q 5 = some (.int .i64 t.target) ∧ A.inb ki cl = true ∧ A.idx 0 ki 4 = p ∧ A.get ys p 0 = some (.int .i64 x.mode) ∧ A.set xs q 4 [.int .i64 ki] = some x1 ∧ A.lt ki 0 = false := by
  rw [hA]
  exact ⟨rfl, rfl, by rw [hni, htl]; simp [std]; omega, by rw [hq, hni]; simp [std], by rw [hq, hxs]; exact zap TsD.cells 12 (fun _ => rfl) ht r1 0 (by omega), by rw [hq, hxs]; exact zap TsD.cells 12 (fun _ => rfl) ht r1 2 (by omega), by rw [hq, hxs]; exact zap TsD.cells 12 (fun _ => rfl) ht r1 3 (by omega), by rw [hq, hxs]; exact zap TsD.cells 12 (fun _ => rfl) ht r1 5 (by omega), by rw [hki, hcl]; simp [std]; omega, by rw [hp, hki]; simp [std], by rw [hp, hys]; exact zap CsD.cells 4 (fun _ => rfl) hx r2 0 (by omega), by rw [hq, hxs, hx1, hki]; exact zby TsD.cells 12 (fun _ => rfl) ht r1 4 _ (by simp) rfl, by rw [hki]; simp [std]⟩
 refine zae (E := ⟨Tryz.prog, tabaT, ords69, Tryz.f69, w, [gt, gc], [(gt, 0), (gc, 0)], fun _ _ _ => False⟩) zab (c := bodyOf Tryz.f69) (n := 0) Tryz.func69 rfl (show codeChk ords69 (bodyOf Tryz.f69) = true by decide +kernel) (rho [(gt, 0), (gc, 0)]) (fun h p hp => zaq _ h p hp)
  (tm := [.agg [.val (iv c.regions), .val (.slice h.az czl h.kz), .val (.slice h.ac ccl h.kc), .val (.slice h.at_ ctl h.kt), .val (.slice h.av cvl h.kv), .val (.slice h.ar crl h.kr), .val (.slice h.ao col h.ko), .val (iv c.blast), .val (iv c.lease), .val (iv c.bake)], .agg [.val (iv s.tick), .val (iv s.count), .slc 0 0 tl kt, .slc 1 0 cl kc, .val (iv s.proven), .val (iv s.evac), .val (iv s.low), .val (iv s.high)], .agg [.val (.int .i64 ek), .val (.int .i64 et), .val (.int .i64 ni), .val (.int .i64 ki), .val (.int .i64 eo), .val (.int .i64 ep), .val (.int .i64 el), .val (.int .i64 eh), .val (.int .i64 ev)]] ++ List.replicate 115 (.one (.val undef))) (mem := [.sym 105 xs, .sym 107 ys]) (Nat.le_refl _) ?_ ?_ (by rw [hczl, hccl, hctl, hcvl, hcrl, hcol]; rw [htl, hcl, hni, hki]; rfl) ?_
 ·have h1 := (zan w [gt, gc] (rho [(gt, 0), (gc, 0)])).addW (t := 105) (l := xs) (g := gt) rfl (by rw [hxs]; exact hbt) (by simp) (fun h hh => by cases hh)
  have h2 := h1.addW (t := 107) (l := ys) (g := gc) rfl (by rw [hys]; exact hbc) (by simp) (fun h hh => by cases (show h = 0 from Nat.lt_one_iff.1 hh); exact HNE.out)
  exact h2
 ·simp [SV.ok, S1.ok]
 ·refine zaa zab hA rfl rfl 400 ?_
  conv => arg 3; cbv
  repeat' first
   | (refine g_no _ (zaa zab hA rfl rfl 400 ?_); conv => arg 3; cbv)
   | (refine zc4 K hz sok.evac htl hcl (fun _ _ => zaa zab hA rfl rfl 400 ?_); conv => arg 3; cbv)
   | (refine g_may K hz hni (by have := sok.tl; omega) (fun _ _ => zaa zab hA rfl rfl 400 ?_); conv => arg 3; cbv)
   | (refine g_tog K hz (fun _ _ => zaa zab hA rfl rfl 400 ?_); conv => arg 3; cbv)
   | (refine g_fit (s := s.setT n { t with next := (k : Int) }) K hz hx1 hys ((zbb _ _ _).trans sok.tl) (htl.trans (zbb _ _ _).symm) hcl rfl rfl (by simp) (fun _ => zaa zab hA rfl rfl 400 ?_) (fun _ => zaa zab hA rfl rfl 400 ?_) <;> conv => arg 3; cbv)
   | refine zad zab (by rfl) (by rfl) (by rfl) (fun ρ w' hρ hSat => ?_)
   | (simp only [F]; conv => arg 3; cbv)
   | (split <;> (rename_i hsp; simp only [hsp, F]; conv => arg 3; cbv))
   | (split <;> conv => arg 3; cbv)
  all_goals first
   | exact StRet.bad (by decide) (zaw hSat.gr) (by have z1 := zbi ht; have z_hx := zb8 hx; clear F hSat; subst hA; cases t; cases x; simp_all [standbyD, std] <;> (intros; omega))
   | (have e0 := hρ 0 (gt, 0) rfl
      have e1 := hρ 1 (gc, 0) rfl
      simp only [List.map, concV, conc1, e0, e1]
      rw [htl, hcl]
      exact StRet.good2 (s := s.setT n { t with next := (k : Int) }) (zaw hSat.gr) (zbx hSat e0 e1 rfl rfl hx1 hys HNE.out) (by have z1 := zbi ht; have z_hx := zb8 hx; clear F hSat; subst hA; cases t; cases x; simp_all [standbyD, std] <;> (intros; omega)) (zbw _ _ _ _))
theorem standby_none (c : CfgD) (h : CfgH) (B : Nat) (s : StD) (hs : StH) (gt gc n : Nat) (t : TsD) (ek et eo ep el eh ev : Int) (w : World) (ok : CfgOk c) (sok : StOk c s) (ht : s.tens[n]? = some t) (hC : CfgAt w B c h) (hB : B ≤ gt ∧ B ≤ gc) (hW : StW w s hs gt gc) :
 Calls Tryz.prog 69 #[.agg (cfgV c h), .agg (stV s hs), .agg (EnD.cells ⟨ek, et, (n : Nat), (-1), eo, ep, el, eh, ev⟩)] w (StRet (standbyD c s ⟨ek, et, (n : Nat), (-1), eo, ep, el, eh, ev⟩) hs gt gc w) := by
 have hn : n < s.tens.length := (List.getElem?_eq_some_iff.1 ht).1
 obtain ⟨a1, kt, a2, kc⟩ := hs
 obtain rfl : a1 = some ⟨gt, 0, none⟩ := hW.at_
 obtain rfl : a2 = some ⟨gc, 0, none⟩ := hW.ac
 obtain ⟨r1, hbt⟩ := hW.bt
 obtain ⟨r2, hbc⟩ := hW.bc
 have HNE := Lib.hid hW.ne
 have hlt := hW.lt
 obtain ⟨A, hA⟩ : ∃ A, A = std := ⟨_, rfl⟩
 obtain ⟨xs, hxs⟩ := nm (s.tens.flatMap TsD.cells ++ r1)
 obtain ⟨ys, hys⟩ := nm (s.cells.flatMap CsD.cells ++ r2)
 obtain ⟨tl, htl⟩ := nm (s.tens.length)
 obtain ⟨cl, hcl⟩ := nm (s.cells.length)
 obtain ⟨czl, hczl⟩ := nm (c.zones.length)
 obtain ⟨ccl, hccl⟩ := nm (c.cells.length)
 obtain ⟨ctl, hctl⟩ := nm (c.tens.length)
 obtain ⟨cvl, hcvl⟩ := nm (c.vers.length)
 obtain ⟨crl, hcrl⟩ := nm (c.reps.length)
 obtain ⟨col, hcol⟩ := nm (c.obs.length)
 have hz : Cz c czl ccl ctl cvl crl col := ⟨hczl, hccl, hctl, hcvl, hcrl, hcol⟩
 have K : KX w c h B gt gc := ⟨ok, hC, hB, hlt, HNE.out⟩
 obtain ⟨ni, hni⟩ := nm ((n : Int))
 obtain ⟨q, hq⟩ := nm (n * 12)
 obtain ⟨x1, hx1⟩ := nm ((s.setT n { t with next := (-1 : Int) }).tens.flatMap TsD.cells ++ r1)
 have F : A.not true = false ∧ A.not false = true ∧ A.inb ni tl = true ∧ A.idx 0 ni 12 = q ∧ A.get xs q 0 = some (.bool t.placed) ∧ A.set xs q 4 [.int .i64 (-1)] = some x1 ∧ A.lt (-1) 0 = true := by
  rw [hA]
  exact ⟨rfl, rfl, by rw [hni, htl]; simp [std]; omega, by rw [hq, hni]; simp [std], by rw [hq, hxs]; exact zap TsD.cells 12 (fun _ => rfl) ht r1 0 (by omega), by rw [hq, hxs, hx1]; exact zby TsD.cells 12 (fun _ => rfl) ht r1 4 _ (by simp) rfl, rfl⟩
 refine zae (E := ⟨Tryz.prog, tabaT, ords69, Tryz.f69, w, [gt, gc], [(gt, 0), (gc, 0)], fun _ _ _ => False⟩) zab (c := bodyOf Tryz.f69) (n := 0) Tryz.func69 rfl (show codeChk ords69 (bodyOf Tryz.f69) = true by decide +kernel) (rho [(gt, 0), (gc, 0)]) (fun h p hp => zaq _ h p hp)
  (tm := [.agg [.val (iv c.regions), .val (.slice h.az czl h.kz), .val (.slice h.ac ccl h.kc), .val (.slice h.at_ ctl h.kt), .val (.slice h.av cvl h.kv), .val (.slice h.ar crl h.kr), .val (.slice h.ao col h.ko), .val (iv c.blast), .val (iv c.lease), .val (iv c.bake)], .agg [.val (iv s.tick), .val (iv s.count), .slc 0 0 tl kt, .slc 1 0 cl kc, .val (iv s.proven), .val (iv s.evac), .val (iv s.low), .val (iv s.high)], .agg [.val (.int .i64 ek), .val (.int .i64 et), .val (.int .i64 ni), .val (.int .i64 (-1)), .val (.int .i64 eo), .val (.int .i64 ep), .val (.int .i64 el), .val (.int .i64 eh), .val (.int .i64 ev)]] ++ List.replicate 115 (.one (.val undef))) (mem := [.sym 105 xs, .sym 107 ys]) (Nat.le_refl _) ?_ ?_ (by rw [hczl, hccl, hctl, hcvl, hcrl, hcol]; rw [htl, hcl, hni]; rfl) ?_
 ·have h1 := (zan w [gt, gc] (rho [(gt, 0), (gc, 0)])).addW (t := 105) (l := xs) (g := gt) rfl (by rw [hxs]; exact hbt) (by simp) (fun h hh => by cases hh)
  have h2 := h1.addW (t := 107) (l := ys) (g := gc) rfl (by rw [hys]; exact hbc) (by simp) (fun h hh => by cases (show h = 0 from Nat.lt_one_iff.1 hh); exact HNE.out)
  exact h2
 ·simp [SV.ok, S1.ok]
 ·refine zaa zab hA rfl rfl 400 ?_
  conv => arg 3; cbv
  repeat' first
   | (refine g_no _ (zaa zab hA rfl rfl 400 ?_); conv => arg 3; cbv)
   | (refine zc4 K hz sok.evac htl hcl (fun _ _ => zaa zab hA rfl rfl 400 ?_); conv => arg 3; cbv)
   | (refine g_may K hz hni (by have := sok.tl; omega) (fun _ _ => zaa zab hA rfl rfl 400 ?_); conv => arg 3; cbv)
   | (refine g_tog K hz (fun _ _ => zaa zab hA rfl rfl 400 ?_); conv => arg 3; cbv)
   | (refine g_fit (s := s.setT n { t with next := (-1 : Int) }) K hz hx1 hys ((zbb _ _ _).trans sok.tl) (htl.trans (zbb _ _ _).symm) hcl rfl rfl (by simp) (fun _ => zaa zab hA rfl rfl 400 ?_) (fun _ => zaa zab hA rfl rfl 400 ?_) <;> conv => arg 3; cbv)
   | refine zad zab (by rfl) (by rfl) (by rfl) (fun ρ w' hρ hSat => ?_)
   | (simp only [F]; conv => arg 3; cbv)
   | (split <;> (rename_i hsp; simp only [hsp, F]; conv => arg 3; cbv))
   | (split <;> conv => arg 3; cbv)
  all_goals first
   | exact StRet.bad (by decide) (zaw hSat.gr) (by have z1 := zbi ht; clear F hSat; subst hA; cases t; simp_all [standbyD, std] <;> (intros; omega))
   | (have e0 := hρ 0 (gt, 0) rfl
      have e1 := hρ 1 (gc, 0) rfl
      simp only [List.map, concV, conc1, e0, e1]
      rw [htl, hcl]
      exact StRet.good2 (s := s.setT n { t with next := (-1 : Int) }) (zaw hSat.gr) (zbx hSat e0 e1 rfl rfl hx1 hys HNE.out) (by have z1 := zbi ht; clear F hSat; subst hA; cases t; simp_all [standbyD, std] <;> (intros; omega)) (zbw _ _ _ _))
theorem shed_one (c : CfgD) (h : CfgH) (B : Nat) (s : StD) (hs : StH) (gt gc n : Nat) (t : TsD) (ek et ec eo ep el eh : Int) (w : World) (ok : CfgOk c) (sok : StOk c s) (ht : s.tens[n]? = some t) (hC : CfgAt w B c h) (hB : B ≤ gt ∧ B ≤ gc) (hW : StW w s hs gt gc) :
 Calls Tryz.prog 73 #[.agg (cfgV c h), .agg (stV s hs), .agg (EnD.cells ⟨ek, et, (n : Nat), ec, eo, ep, el, eh, 1⟩)] w (StRet (shedD c s ⟨ek, et, (n : Nat), ec, eo, ep, el, eh, 1⟩) hs gt gc w) := by
 have hn : n < s.tens.length := (List.getElem?_eq_some_iff.1 ht).1
 obtain ⟨a1, kt, a2, kc⟩ := hs
 obtain rfl : a1 = some ⟨gt, 0, none⟩ := hW.at_
 obtain rfl : a2 = some ⟨gc, 0, none⟩ := hW.ac
 obtain ⟨r1, hbt⟩ := hW.bt
 obtain ⟨r2, hbc⟩ := hW.bc
 have HNE := Lib.hid hW.ne
 have hlt := hW.lt
 obtain ⟨A, hA⟩ : ∃ A, A = std := ⟨_, rfl⟩
 obtain ⟨xs, hxs⟩ := nm (s.tens.flatMap TsD.cells ++ r1)
 obtain ⟨ys, hys⟩ := nm (s.cells.flatMap CsD.cells ++ r2)
 obtain ⟨tl, htl⟩ := nm (s.tens.length)
 obtain ⟨cl, hcl⟩ := nm (s.cells.length)
 obtain ⟨czl, hczl⟩ := nm (c.zones.length)
 obtain ⟨ccl, hccl⟩ := nm (c.cells.length)
 obtain ⟨ctl, hctl⟩ := nm (c.tens.length)
 obtain ⟨cvl, hcvl⟩ := nm (c.vers.length)
 obtain ⟨crl, hcrl⟩ := nm (c.reps.length)
 obtain ⟨col, hcol⟩ := nm (c.obs.length)
 have hz : Cz c czl ccl ctl cvl crl col := ⟨hczl, hccl, hctl, hcvl, hcrl, hcol⟩
 have K : KX w c h B gt gc := ⟨ok, hC, hB, hlt, HNE.out⟩
 obtain ⟨ni, hni⟩ := nm ((n : Int))
 obtain ⟨q, hq⟩ := nm (n * 12)
 obtain ⟨x1, hx1⟩ := nm ((s.setT n { t with shed := true }).tens.flatMap TsD.cells ++ r1)
 obtain ⟨x2, hx2⟩ := nm ((s.setT n { t with shed := true, target := -1 }).tens.flatMap TsD.cells ++ r1)
 have F : A.not true = false ∧ A.not false = true ∧ A.inb ni tl = true ∧ A.idx 0 ni 12 = q ∧ A.get xs q 0 = some (.bool t.placed) ∧ A.get xs q 1 = some (.bool t.shed) ∧ A.get xs q 11 = some (.int .i64 t.win.hi) ∧ A.set xs q 1 [.bool true] = some x1 ∧ A.set x1 q 5 [.int .i64 (-1)] = some x2 ∧ A.eq 1 1 = true := by
  rw [hA]
  exact ⟨rfl, rfl, by rw [hni, htl]; simp [std]; omega, by rw [hq, hni]; simp [std], by rw [hq, hxs]; exact zap TsD.cells 12 (fun _ => rfl) ht r1 0 (by omega), by rw [hq, hxs]; exact zap TsD.cells 12 (fun _ => rfl) ht r1 1 (by omega), by rw [hq, hxs]; exact zap TsD.cells 12 (fun _ => rfl) ht r1 11 (by omega), by rw [hq, hxs, hx1]; exact zby TsD.cells 12 (fun _ => rfl) ht r1 1 _ (by simp) rfl, by rw [hq, hx1, hx2]; exact zco ht r1 5 _ (by simp) rfl, rfl⟩
 refine zae (E := ⟨Tryz.prog, tabaT, ords73, Tryz.f73, w, [gt, gc], [(gt, 0), (gc, 0)], fun _ _ _ => False⟩) zab (c := bodyOf Tryz.f73) (n := 0) Tryz.func73 rfl (show codeChk ords73 (bodyOf Tryz.f73) = true by decide +kernel) (rho [(gt, 0), (gc, 0)]) (fun h p hp => zaq _ h p hp)
  (tm := [.agg [.val (iv c.regions), .val (.slice h.az czl h.kz), .val (.slice h.ac ccl h.kc), .val (.slice h.at_ ctl h.kt), .val (.slice h.av cvl h.kv), .val (.slice h.ar crl h.kr), .val (.slice h.ao col h.ko), .val (iv c.blast), .val (iv c.lease), .val (iv c.bake)], .agg [.val (iv s.tick), .val (iv s.count), .slc 0 0 tl kt, .slc 1 0 cl kc, .val (iv s.proven), .val (iv s.evac), .val (iv s.low), .val (iv s.high)], .agg [.val (.int .i64 ek), .val (.int .i64 et), .val (.int .i64 ni), .val (.int .i64 ec), .val (.int .i64 eo), .val (.int .i64 ep), .val (.int .i64 el), .val (.int .i64 eh), .val (.int .i64 1)]] ++ List.replicate 79 (.one (.val undef))) (mem := [.sym 105 xs, .sym 107 ys]) (Nat.le_refl _) ?_ ?_ (by rw [hczl, hccl, hctl, hcvl, hcrl, hcol]; rw [htl, hcl, hni]; rfl) ?_
 ·have h1 := (zan w [gt, gc] (rho [(gt, 0), (gc, 0)])).addW (t := 105) (l := xs) (g := gt) rfl (by rw [hxs]; exact hbt) (by simp) (fun h hh => by cases hh)
  have h2 := h1.addW (t := 107) (l := ys) (g := gc) rfl (by rw [hys]; exact hbc) (by simp) (fun h hh => by cases (show h = 0 from Nat.lt_one_iff.1 hh); exact HNE.out)
  exact h2
 ·simp [SV.ok, S1.ok]
 ·refine zaa zab hA rfl rfl 400 ?_
  conv => arg 3; cbv
  repeat' first
   | (refine g_no _ (zaa zab hA rfl rfl 400 ?_); conv => arg 3; cbv)
   | (refine zc4 K hz sok.evac htl hcl (fun _ _ => zaa zab hA rfl rfl 400 ?_); conv => arg 3; cbv)
   | (refine g_may K hz hni (by have := sok.tl; omega) (fun _ _ => zaa zab hA rfl rfl 400 ?_); conv => arg 3; cbv)
   | (refine g_tog K hz (fun _ _ => zaa zab hA rfl rfl 400 ?_); conv => arg 3; cbv)
   | refine zad zab (by rfl) (by rfl) (by rfl) (fun ρ w' hρ hSat => ?_)
   | (simp only [F]; conv => arg 3; cbv)
   | (split <;> (rename_i hsp; simp only [hsp, F]; conv => arg 3; cbv))
   | (split <;> conv => arg 3; cbv)
  all_goals first
   | exact StRet.bad (by decide) (zaw hSat.gr) (by have z1 := zbi ht; clear F hSat; subst hA; rcases t with ⟨_, _, _, _, _, _, _, ⟨_, _, _, _, _⟩⟩; simp_all [shedD, std] <;> (intros; omega))
   | (have e0 := hρ 0 (gt, 0) rfl
      have e1 := hρ 1 (gc, 0) rfl
      simp only [List.map, concV, conc1, e0, e1]
      rw [htl, hcl]
      exact StRet.good2 (s := s.setT n { t with shed := true, target := -1 }) (zaw hSat.gr) (zbx hSat e0 e1 rfl rfl hx2 hys HNE.out) (by have z1 := zbi ht; clear F hSat; subst hA; rcases t with ⟨_, _, _, _, _, _, _, ⟨_, _, _, _, _⟩⟩; simp_all [shedD, std] <;> (intros; omega)) (zbw _ _ _ _))
theorem shed_not (c : CfgD) (h : CfgH) (B : Nat) (s : StD) (hs : StH) (gt gc n : Nat) (t : TsD) (ek et ec eo ep el eh ev : Int) (w : World) (ok : CfgOk c) (sok : StOk c s) (hev : ¬ ev = 1) (hsh : t.shed = false) (ht : s.tens[n]? = some t) (hC : CfgAt w B c h) (hB : B ≤ gt ∧ B ≤ gc) (hW : StW w s hs gt gc) :
 Calls Tryz.prog 73 #[.agg (cfgV c h), .agg (stV s hs), .agg (EnD.cells ⟨ek, et, (n : Nat), ec, eo, ep, el, eh, ev⟩)] w (StRet (shedD c s ⟨ek, et, (n : Nat), ec, eo, ep, el, eh, ev⟩) hs gt gc w) := by
 have hn : n < s.tens.length := (List.getElem?_eq_some_iff.1 ht).1
 obtain ⟨a1, kt, a2, kc⟩ := hs
 obtain rfl : a1 = some ⟨gt, 0, none⟩ := hW.at_
 obtain rfl : a2 = some ⟨gc, 0, none⟩ := hW.ac
 obtain ⟨r1, hbt⟩ := hW.bt
 obtain ⟨r2, hbc⟩ := hW.bc
 have HNE := Lib.hid hW.ne
 have hlt := hW.lt
 obtain ⟨A, hA⟩ : ∃ A, A = std := ⟨_, rfl⟩
 obtain ⟨xs, hxs⟩ := nm (s.tens.flatMap TsD.cells ++ r1)
 obtain ⟨ys, hys⟩ := nm (s.cells.flatMap CsD.cells ++ r2)
 obtain ⟨tl, htl⟩ := nm (s.tens.length)
 obtain ⟨cl, hcl⟩ := nm (s.cells.length)
 obtain ⟨czl, hczl⟩ := nm (c.zones.length)
 obtain ⟨ccl, hccl⟩ := nm (c.cells.length)
 obtain ⟨ctl, hctl⟩ := nm (c.tens.length)
 obtain ⟨cvl, hcvl⟩ := nm (c.vers.length)
 obtain ⟨crl, hcrl⟩ := nm (c.reps.length)
 obtain ⟨col, hcol⟩ := nm (c.obs.length)
 have hz : Cz c czl ccl ctl cvl crl col := ⟨hczl, hccl, hctl, hcvl, hcrl, hcol⟩
 have K : KX w c h B gt gc := ⟨ok, hC, hB, hlt, HNE.out⟩
 obtain ⟨ni, hni⟩ := nm ((n : Int))
 obtain ⟨q, hq⟩ := nm (n * 12)
 obtain ⟨x1, hx1⟩ := nm ((s.setT n { t with shed := true }).tens.flatMap TsD.cells ++ r1)
 have F : A.not true = false ∧ A.not false = true ∧ A.inb ni tl = true ∧ A.idx 0 ni 12 = q ∧ A.get xs q 1 = some (.bool false) ∧ A.set xs q 1 [.bool true] = some x1 ∧ A.eq ev 1 = false := by
  rw [hA]
  exact ⟨rfl, rfl, by rw [hni, htl]; simp [std]; omega, by rw [hq, hni]; simp [std], by rw [hq, hxs, ← hsh]; exact zap TsD.cells 12 (fun _ => rfl) ht r1 1 (by omega), by rw [hq, hxs, hx1]; exact zby TsD.cells 12 (fun _ => rfl) ht r1 1 _ (by simp) rfl, by simpa [std] using hev⟩
 refine zae (E := ⟨Tryz.prog, tabaT, ords73, Tryz.f73, w, [gt, gc], [(gt, 0), (gc, 0)], fun _ _ _ => False⟩) zab (c := bodyOf Tryz.f73) (n := 0) Tryz.func73 rfl (show codeChk ords73 (bodyOf Tryz.f73) = true by decide +kernel) (rho [(gt, 0), (gc, 0)]) (fun h p hp => zaq _ h p hp)
  (tm := [.agg [.val (iv c.regions), .val (.slice h.az czl h.kz), .val (.slice h.ac ccl h.kc), .val (.slice h.at_ ctl h.kt), .val (.slice h.av cvl h.kv), .val (.slice h.ar crl h.kr), .val (.slice h.ao col h.ko), .val (iv c.blast), .val (iv c.lease), .val (iv c.bake)], .agg [.val (iv s.tick), .val (iv s.count), .slc 0 0 tl kt, .slc 1 0 cl kc, .val (iv s.proven), .val (iv s.evac), .val (iv s.low), .val (iv s.high)], .agg [.val (.int .i64 ek), .val (.int .i64 et), .val (.int .i64 ni), .val (.int .i64 ec), .val (.int .i64 eo), .val (.int .i64 ep), .val (.int .i64 el), .val (.int .i64 eh), .val (.int .i64 ev)]] ++ List.replicate 79 (.one (.val undef))) (mem := [.sym 105 xs, .sym 107 ys]) (Nat.le_refl _) ?_ ?_ (by rw [hczl, hccl, hctl, hcvl, hcrl, hcol]; rw [htl, hcl, hni]; rfl) ?_
 ·have h1 := (zan w [gt, gc] (rho [(gt, 0), (gc, 0)])).addW (t := 105) (l := xs) (g := gt) rfl (by rw [hxs]; exact hbt) (by simp) (fun h hh => by cases hh)
  have h2 := h1.addW (t := 107) (l := ys) (g := gc) rfl (by rw [hys]; exact hbc) (by simp) (fun h hh => by cases (show h = 0 from Nat.lt_one_iff.1 hh); exact HNE.out)
  exact h2
 ·simp [SV.ok, S1.ok]
 ·refine zaa zab hA rfl rfl 400 ?_
  conv => arg 3; cbv
  repeat' first
   | (refine g_no _ (zaa zab hA rfl rfl 400 ?_); conv => arg 3; cbv)
   | (refine zc4 K hz sok.evac htl hcl (fun _ _ => zaa zab hA rfl rfl 400 ?_); conv => arg 3; cbv)
   | (refine g_may K hz hni (by have := sok.tl; omega) (fun _ _ => zaa zab hA rfl rfl 400 ?_); conv => arg 3; cbv)
   | (refine g_tog K hz (fun _ _ => zaa zab hA rfl rfl 400 ?_); conv => arg 3; cbv)
   | refine zad zab (by rfl) (by rfl) (by rfl) (fun ρ w' hρ hSat => ?_)
   | (simp only [F]; conv => arg 3; cbv)
   | (split <;> (rename_i hsp; simp only [hsp, F]; conv => arg 3; cbv))
   | (split <;> conv => arg 3; cbv)
  all_goals first
   | exact StRet.bad (by decide) (zaw hSat.gr) (by have z1 := zbi ht; clear F hSat; subst hA; rcases t with ⟨_, _, _, _, _, _, _, ⟨_, _, _, _, _⟩⟩; simp_all [shedD, std] <;> (intros; omega))
   | (have e0 := hρ 0 (gt, 0) rfl
      have e1 := hρ 1 (gc, 0) rfl
      simp only [List.map, concV, conc1, e0, e1]
      rw [htl, hcl]
      exact StRet.good2 (s := s.setT n { t with shed := true }) (zaw hSat.gr) (zbx hSat e0 e1 rfl rfl hx1 hys HNE.out) (by have z1 := zbi ht; clear F hSat; subst hA; rcases t with ⟨_, _, _, _, _, _, _, ⟨_, _, _, _, _⟩⟩; simp_all [shedD, std] <;> (intros; omega)) (zbw _ _ _ _))
theorem shed_two (c : CfgD) (h : CfgH) (B : Nat) (s : StD) (hs : StH) (gt gc n k : Nat) (t : TsD) (x : CsD) (ek et ec eo ep el eh ev : Int) (w : World) (ok : CfgOk c) (sok : StOk c s) (hev : ¬ ev = 1) (hsh : t.shed = true) (hho : t.home = (k : Int)) (ht : s.tens[n]? = some t) (hx : s.cells[k]? = some x) (hC : CfgAt w B c h) (hB : B ≤ gt ∧ B ≤ gc) (hW : StW w s hs gt gc) :
 Calls Tryz.prog 73 #[.agg (cfgV c h), .agg (stV s hs), .agg (EnD.cells ⟨ek, et, (n : Nat), ec, eo, ep, el, eh, ev⟩)] w (StRet (shedD c s ⟨ek, et, (n : Nat), ec, eo, ep, el, eh, ev⟩) hs gt gc w) := by
 have hn : n < s.tens.length := (List.getElem?_eq_some_iff.1 ht).1
 have hk : k < s.cells.length := (List.getElem?_eq_some_iff.1 hx).1
 obtain ⟨a1, kt, a2, kc⟩ := hs
 obtain rfl : a1 = some ⟨gt, 0, none⟩ := hW.at_
 obtain rfl : a2 = some ⟨gc, 0, none⟩ := hW.ac
 obtain ⟨r1, hbt⟩ := hW.bt
 obtain ⟨r2, hbc⟩ := hW.bc
 have HNE := Lib.hid hW.ne
 have hlt := hW.lt
 obtain ⟨A, hA⟩ : ∃ A, A = std := ⟨_, rfl⟩
 obtain ⟨xs, hxs⟩ := nm (s.tens.flatMap TsD.cells ++ r1)
 obtain ⟨ys, hys⟩ := nm (s.cells.flatMap CsD.cells ++ r2)
 obtain ⟨tl, htl⟩ := nm (s.tens.length)
 obtain ⟨cl, hcl⟩ := nm (s.cells.length)
 obtain ⟨czl, hczl⟩ := nm (c.zones.length)
 obtain ⟨ccl, hccl⟩ := nm (c.cells.length)
 obtain ⟨ctl, hctl⟩ := nm (c.tens.length)
 obtain ⟨cvl, hcvl⟩ := nm (c.vers.length)
 obtain ⟨crl, hcrl⟩ := nm (c.reps.length)
 obtain ⟨col, hcol⟩ := nm (c.obs.length)
 have hz : Cz c czl ccl ctl cvl crl col := ⟨hczl, hccl, hctl, hcvl, hcrl, hcol⟩
 have K : KX w c h B gt gc := ⟨ok, hC, hB, hlt, HNE.out⟩
 obtain ⟨ni, hni⟩ := nm ((n : Int))
 obtain ⟨q, hq⟩ := nm (n * 12)
 obtain ⟨ki, hki⟩ := nm ((k : Int))
 obtain ⟨p, hp⟩ := nm (k * 4)
 obtain ⟨x1, hx1⟩ := nm ((s.setT n { t with shed := false }).tens.flatMap TsD.cells ++ r1)
 have F : A.not true = false ∧ A.not false = true ∧ A.inb ni tl = true ∧ A.idx 0 ni 12 = q ∧ A.get xs q 1 = some (.bool true) ∧ A.get xs q 2 = some (.int .i64 ki) ∧ A.inb ki cl = true ∧ A.idx 0 ki 4 = p ∧ A.get ys p 0 = some (.int .i64 x.mode) ∧ A.set xs q 1 [.bool false] = some x1 ∧ A.eq ev 1 = false := by
  rw [hA]
  exact ⟨rfl, rfl, by rw [hni, htl]; simp [std]; omega, by rw [hq, hni]; simp [std], by rw [hq, hxs, ← hsh]; exact zap TsD.cells 12 (fun _ => rfl) ht r1 1 (by omega), by rw [hq, hxs, hki, ← hho]; exact zap TsD.cells 12 (fun _ => rfl) ht r1 2 (by omega), by rw [hki, hcl]; simp [std]; omega, by rw [hp, hki]; simp [std], by rw [hp, hys]; exact zap CsD.cells 4 (fun _ => rfl) hx r2 0 (by omega), by rw [hq, hxs, hx1]; exact zby TsD.cells 12 (fun _ => rfl) ht r1 1 _ (by simp) rfl, by simpa [std] using hev⟩
 refine zae (E := ⟨Tryz.prog, tabaT, ords73, Tryz.f73, w, [gt, gc], [(gt, 0), (gc, 0)], fun _ _ _ => False⟩) zab (c := bodyOf Tryz.f73) (n := 0) Tryz.func73 rfl (show codeChk ords73 (bodyOf Tryz.f73) = true by decide +kernel) (rho [(gt, 0), (gc, 0)]) (fun h p hp => zaq _ h p hp)
  (tm := [.agg [.val (iv c.regions), .val (.slice h.az czl h.kz), .val (.slice h.ac ccl h.kc), .val (.slice h.at_ ctl h.kt), .val (.slice h.av cvl h.kv), .val (.slice h.ar crl h.kr), .val (.slice h.ao col h.ko), .val (iv c.blast), .val (iv c.lease), .val (iv c.bake)], .agg [.val (iv s.tick), .val (iv s.count), .slc 0 0 tl kt, .slc 1 0 cl kc, .val (iv s.proven), .val (iv s.evac), .val (iv s.low), .val (iv s.high)], .agg [.val (.int .i64 ek), .val (.int .i64 et), .val (.int .i64 ni), .val (.int .i64 ec), .val (.int .i64 eo), .val (.int .i64 ep), .val (.int .i64 el), .val (.int .i64 eh), .val (.int .i64 ev)]] ++ List.replicate 79 (.one (.val undef))) (mem := [.sym 105 xs, .sym 107 ys]) (Nat.le_refl _) ?_ ?_ (by rw [hczl, hccl, hctl, hcvl, hcrl, hcol]; rw [htl, hcl, hni]; rfl) ?_
 ·have h1 := (zan w [gt, gc] (rho [(gt, 0), (gc, 0)])).addW (t := 105) (l := xs) (g := gt) rfl (by rw [hxs]; exact hbt) (by simp) (fun h hh => by cases hh)
  have h2 := h1.addW (t := 107) (l := ys) (g := gc) rfl (by rw [hys]; exact hbc) (by simp) (fun h hh => by cases (show h = 0 from Nat.lt_one_iff.1 hh); exact HNE.out)
  exact h2
 ·simp [SV.ok, S1.ok]
 ·refine zaa zab hA rfl rfl 400 ?_
  conv => arg 3; cbv
  repeat' first
   | (refine g_no _ (zaa zab hA rfl rfl 400 ?_); conv => arg 3; cbv)
   | (refine zc4 K hz sok.evac htl hcl (fun _ _ => zaa zab hA rfl rfl 400 ?_); conv => arg 3; cbv)
   | (refine g_may K hz hni (by have := sok.tl; omega) (fun _ _ => zaa zab hA rfl rfl 400 ?_); conv => arg 3; cbv)
   | (refine g_tog K hz (fun _ _ => zaa zab hA rfl rfl 400 ?_); conv => arg 3; cbv)
   | (refine g_fit (s := s.setT n { t with shed := false }) K hz hx1 hys ((zbb _ _ _).trans sok.tl) (htl.trans (zbb _ _ _).symm) hcl rfl rfl (by simp) (fun _ => zaa zab hA rfl rfl 400 ?_) (fun _ => zaa zab hA rfl rfl 400 ?_) <;> conv => arg 3; cbv)
   | refine zad zab (by rfl) (by rfl) (by rfl) (fun ρ w' hρ hSat => ?_)
   | (simp only [F]; conv => arg 3; cbv)
   | (split <;> (rename_i hsp; simp only [hsp, F]; conv => arg 3; cbv))
   | (split <;> conv => arg 3; cbv)
  all_goals first
   | exact StRet.bad (by decide) (zaw hSat.gr) (by have z1 := zbi ht; have z_hx := zb8 hx; clear F hSat; subst hA; rcases t with ⟨_, _, _, _, _, _, _, ⟨_, _, _, _, _⟩⟩; cases x; simp_all [shedD, std] <;> (intros; omega))
   | (have e0 := hρ 0 (gt, 0) rfl
      have e1 := hρ 1 (gc, 0) rfl
      simp only [List.map, concV, conc1, e0, e1]
      rw [htl, hcl]
      exact StRet.good2 (s := s.setT n { t with shed := false }) (zaw hSat.gr) (zbx hSat e0 e1 rfl rfl hx1 hys HNE.out) (by have z1 := zbi ht; have z_hx := zb8 hx; clear F hSat; subst hA; rcases t with ⟨_, _, _, _, _, _, _, ⟨_, _, _, _, _⟩⟩; cases x; simp_all [shedD, std] <;> (intros; omega)) (zbw _ _ _ _))
theorem shed_any (c : CfgD) (h : CfgH) (B : Nat) (s : StD) (hs : StH) (gt gc n : Nat) (t : TsD) (ek et ec eo ep el eh ev : Int) (w : World) (ok : CfgOk c) (sok : StOk c s) (ht : s.tens[n]? = some t) (hC : CfgAt w B c h) (hB : B ≤ gt ∧ B ≤ gc) (hW : StW w s hs gt gc) :
 Calls Tryz.prog 73 #[.agg (cfgV c h), .agg (stV s hs), .agg (EnD.cells ⟨ek, et, (n : Nat), ec, eo, ep, el, eh, ev⟩)] w (StRet (shedD c s ⟨ek, et, (n : Nat), ec, eo, ep, el, eh, ev⟩) hs gt gc w) := by
 by_cases hev : ev = 1
 ·subst hev
  exact shed_one c h B s hs gt gc n t ek et ec eo ep el eh w ok sok ht hC hB hW
 ·cases hsh : t.shed
  ·exact shed_not c h B s hs gt gc n t ek et ec eo ep el eh ev w ok sok hev hsh ht hC hB hW
  ·have tok := sok.ten t (List.mem_of_getElem? ht)
   have h0 := tok.placed (tok.shed hsh)
   have h1 := tok.home
   have h2 := sok.cl
   obtain ⟨k, hk⟩ : ∃ k : Nat, t.home = (k : Int) := ⟨t.home.toNat, by omega⟩
   obtain ⟨x, hx⟩ : ∃ x, s.cells[k]? = some x := ⟨_, List.getElem?_eq_getElem (by omega)⟩
   exact shed_two c h B s hs gt gc n k t x ek et ec eo ep el eh ev w ok sok hev hsh hk ht hx hC hB hW
theorem ready_any (s : StD) (hs : StH) (gt gc n k : Nat) (t : TsD) (x : CsD) (ek et eo ep el eh ev : Int) (w : World) (ht : s.tens[n]? = some t) (hx : s.cells[k]? = some x) (hW : StW w s hs gt gc) :
 Calls Tryz.prog 70 #[.agg (stV s hs), .agg (EnD.cells ⟨ek, et, (n : Nat), (k : Nat), eo, ep, el, eh, ev⟩)] w (StRet (readyD s ⟨ek, et, (n : Nat), (k : Nat), eo, ep, el, eh, ev⟩) hs gt gc w) := by
 have hn : n < s.tens.length := (List.getElem?_eq_some_iff.1 ht).1
 have hk : k < s.cells.length := (List.getElem?_eq_some_iff.1 hx).1
 obtain ⟨a1, kt, a2, kc⟩ := hs
 obtain rfl : a1 = some ⟨gt, 0, none⟩ := hW.at_
 obtain rfl : a2 = some ⟨gc, 0, none⟩ := hW.ac
 obtain ⟨r1, hbt⟩ := hW.bt
 obtain ⟨r2, hbc⟩ := hW.bc
 have HNE := Lib.hid hW.ne
 have hlt := hW.lt
 obtain ⟨A, hA⟩ : ∃ A, A = std := ⟨_, rfl⟩
 obtain ⟨xs, hxs⟩ := nm (s.tens.flatMap TsD.cells ++ r1)
 obtain ⟨ys, hys⟩ := nm (s.cells.flatMap CsD.cells ++ r2)
 obtain ⟨tl, htl⟩ := nm (s.tens.length)
 obtain ⟨cl, hcl⟩ := nm (s.cells.length)
 obtain ⟨ni, hni⟩ := nm ((n : Int))
 obtain ⟨q, hq⟩ := nm (n * 12)
 obtain ⟨ki, hki⟩ := nm ((k : Int))
 obtain ⟨p, hp⟩ := nm (k * 4)
 obtain ⟨x1, hx1⟩ := nm ((s.setT n { t with standby := (k : Int) }).tens.flatMap TsD.cells ++ r1)
 obtain ⟨x2, hx2⟩ := nm ((s.setT n { t with standby := (k : Int), next := (-1 : Int) }).tens.flatMap TsD.cells ++ r1)
 have F : A.not true = false ∧ A.not false = true ∧ A.inb ni tl = true ∧ A.idx 0 ni 12 = q ∧ A.get xs q 0 = some (.bool t.placed) ∧ A.get xs q 4 = some (.int .i64 t.next) ∧ A.inb ki cl = true ∧ A.idx 0 ki 4 = p ∧ A.get ys p 0 = some (.int .i64 x.mode) ∧ A.set xs q 3 [.int .i64 ki] = some x1 ∧ A.set x1 q 4 [.int .i64 (-1)] = some x2 := by
  rw [hA]
  exact ⟨rfl, rfl, by rw [hni, htl]; simp [std]; omega, by rw [hq, hni]; simp [std], by rw [hq, hxs]; exact zap TsD.cells 12 (fun _ => rfl) ht r1 0 (by omega), by rw [hq, hxs]; exact zap TsD.cells 12 (fun _ => rfl) ht r1 4 (by omega), by rw [hki, hcl]; simp [std]; omega, by rw [hp, hki]; simp [std], by rw [hp, hys]; exact zap CsD.cells 4 (fun _ => rfl) hx r2 0 (by omega), by rw [hq, hxs, hx1, hki]; exact zby TsD.cells 12 (fun _ => rfl) ht r1 3 _ (by simp) rfl, by rw [hq, hx1, hx2]; exact zco ht r1 4 _ (by simp) rfl⟩
 refine zae (E := ⟨Tryz.prog, tabaT, ords70, Tryz.f70, w, [gt, gc], [(gt, 0), (gc, 0)], fun _ _ _ => False⟩) zab (c := bodyOf Tryz.f70) (n := 0) Tryz.func70 rfl (show codeChk ords70 (bodyOf Tryz.f70) = true by decide +kernel) (rho [(gt, 0), (gc, 0)]) (fun h p hp => zaq _ h p hp)
  (tm := [.agg [.val (iv s.tick), .val (iv s.count), .slc 0 0 tl kt, .slc 1 0 cl kc, .val (iv s.proven), .val (iv s.evac), .val (iv s.low), .val (iv s.high)], .agg [.val (.int .i64 ek), .val (.int .i64 et), .val (.int .i64 ni), .val (.int .i64 ki), .val (.int .i64 eo), .val (.int .i64 ep), .val (.int .i64 el), .val (.int .i64 eh), .val (.int .i64 ev)]] ++ List.replicate 51 (.one (.val undef))) (mem := [.sym 105 xs, .sym 107 ys]) (Nat.le_refl _) ?_ ?_ (by rw [htl, hcl, hni, hki]; rfl) ?_
 ·have h1 := (zan w [gt, gc] (rho [(gt, 0), (gc, 0)])).addW (t := 105) (l := xs) (g := gt) rfl (by rw [hxs]; exact hbt) (by simp) (fun h hh => by cases hh)
  have h2 := h1.addW (t := 107) (l := ys) (g := gc) rfl (by rw [hys]; exact hbc) (by simp) (fun h hh => by cases (show h = 0 from Nat.lt_one_iff.1 hh); exact HNE.out)
  exact h2
 ·simp [SV.ok, S1.ok]
 ·refine zaa zab hA rfl rfl 400 ?_
  conv => arg 3; cbv
  repeat' first
   | (refine g_no _ (zaa zab hA rfl rfl 400 ?_); conv => arg 3; cbv)
   | refine zad zab (by rfl) (by rfl) (by rfl) (fun ρ w' hρ hSat => ?_)
   | (simp only [F]; conv => arg 3; cbv)
   | (split <;> (rename_i hsp; simp only [hsp, F]; conv => arg 3; cbv))
   | (split <;> conv => arg 3; cbv)
  all_goals first
   | exact StRet.bad (by decide) (zaw hSat.gr) (by have z1 := zbi ht; have z_hx := zb8 hx; clear F hSat; subst hA; cases t; cases x; simp_all [readyD, std] <;> (intros; omega))
   | (have e0 := hρ 0 (gt, 0) rfl
      have e1 := hρ 1 (gc, 0) rfl
      simp only [List.map, concV, conc1, e0, e1]
      rw [htl, hcl]
      exact StRet.good2 (s := s.setT n { t with standby := (k : Int), next := (-1 : Int) }) (zaw hSat.gr) (zbx hSat e0 e1 rfl rfl hx2 hys HNE.out) (by have z1 := zbi ht; have z_hx := zb8 hx; clear F hSat; subst hA; cases t; cases x; simp_all [readyD, std] <;> (intros; omega)) (zbw _ _ _ _))
theorem abandon_any (s : StD) (hs : StH) (gt gc n : Nat) (t : TsD) (ek et ec eo ep el eh ev : Int) (w : World) (ht : s.tens[n]? = some t) (hW : StW w s hs gt gc) :
 Calls Tryz.prog 72 #[.agg (stV s hs), .agg (EnD.cells ⟨ek, et, (n : Nat), ec, eo, ep, el, eh, ev⟩)] w (StRet (abandonD s ⟨ek, et, (n : Nat), ec, eo, ep, el, eh, ev⟩) hs gt gc w) := by
 have hn : n < s.tens.length := (List.getElem?_eq_some_iff.1 ht).1
 obtain ⟨a1, kt, a2, kc⟩ := hs
 obtain rfl : a1 = some ⟨gt, 0, none⟩ := hW.at_
 obtain rfl : a2 = some ⟨gc, 0, none⟩ := hW.ac
 obtain ⟨r1, hbt⟩ := hW.bt
 obtain ⟨r2, hbc⟩ := hW.bc
 have HNE := Lib.hid hW.ne
 have hlt := hW.lt
 obtain ⟨A, hA⟩ : ∃ A, A = std := ⟨_, rfl⟩
 obtain ⟨xs, hxs⟩ := nm (s.tens.flatMap TsD.cells ++ r1)
 obtain ⟨ys, hys⟩ := nm (s.cells.flatMap CsD.cells ++ r2)
 obtain ⟨tl, htl⟩ := nm (s.tens.length)
 obtain ⟨cl, hcl⟩ := nm (s.cells.length)
 obtain ⟨ni, hni⟩ := nm ((n : Int))
 obtain ⟨q, hq⟩ := nm (n * 12)
 obtain ⟨x1, hx1⟩ := nm ((s.setT n { t with target := (-1 : Int) }).tens.flatMap TsD.cells ++ r1)
 have F : A.not true = false ∧ A.not false = true ∧ A.inb ni tl = true ∧ A.idx 0 ni 12 = q ∧ A.get xs q 0 = some (.bool t.placed) ∧ A.get xs q 5 = some (.int .i64 t.target) ∧ A.set xs q 5 [.int .i64 (-1)] = some x1 := by
  rw [hA]
  exact ⟨rfl, rfl, by rw [hni, htl]; simp [std]; omega, by rw [hq, hni]; simp [std], by rw [hq, hxs]; exact zap TsD.cells 12 (fun _ => rfl) ht r1 0 (by omega), by rw [hq, hxs]; exact zap TsD.cells 12 (fun _ => rfl) ht r1 5 (by omega), by rw [hq, hxs, hx1]; exact zby TsD.cells 12 (fun _ => rfl) ht r1 5 _ (by simp) rfl⟩
 refine zae (E := ⟨Tryz.prog, tabaT, ords72, Tryz.f72, w, [gt, gc], [(gt, 0), (gc, 0)], fun _ _ _ => False⟩) zab (c := bodyOf Tryz.f72) (n := 0) Tryz.func72 rfl (show codeChk ords72 (bodyOf Tryz.f72) = true by decide +kernel) (rho [(gt, 0), (gc, 0)]) (fun h p hp => zaq _ h p hp)
  (tm := [.agg [.val (iv s.tick), .val (iv s.count), .slc 0 0 tl kt, .slc 1 0 cl kc, .val (iv s.proven), .val (iv s.evac), .val (iv s.low), .val (iv s.high)], .agg [.val (.int .i64 ek), .val (.int .i64 et), .val (.int .i64 ni), .val (.int .i64 ec), .val (.int .i64 eo), .val (.int .i64 ep), .val (.int .i64 el), .val (.int .i64 eh), .val (.int .i64 ev)]] ++ List.replicate 29 (.one (.val undef))) (mem := [.sym 105 xs, .sym 107 ys]) (Nat.le_refl _) ?_ ?_ (by rw [htl, hcl, hni]; rfl) ?_
 ·have h1 := (zan w [gt, gc] (rho [(gt, 0), (gc, 0)])).addW (t := 105) (l := xs) (g := gt) rfl (by rw [hxs]; exact hbt) (by simp) (fun h hh => by cases hh)
  have h2 := h1.addW (t := 107) (l := ys) (g := gc) rfl (by rw [hys]; exact hbc) (by simp) (fun h hh => by cases (show h = 0 from Nat.lt_one_iff.1 hh); exact HNE.out)
  exact h2
 ·simp [SV.ok, S1.ok]
 ·refine zaa zab hA rfl rfl 400 ?_
  conv => arg 3; cbv
  repeat' first
   | (refine g_no _ (zaa zab hA rfl rfl 400 ?_); conv => arg 3; cbv)
   | refine zad zab (by rfl) (by rfl) (by rfl) (fun ρ w' hρ hSat => ?_)
   | (simp only [F]; conv => arg 3; cbv)
   | (split <;> (rename_i hsp; simp only [hsp, F]; conv => arg 3; cbv))
   | (split <;> conv => arg 3; cbv)
  all_goals first
   | exact StRet.bad (by decide) (zaw hSat.gr) (by have z1 := zbi ht; clear F hSat; subst hA; cases t; simp_all [abandonD, std] <;> (intros; omega))
   | (have e0 := hρ 0 (gt, 0) rfl
      have e1 := hρ 1 (gc, 0) rfl
      simp only [List.map, concV, conc1, e0, e1]
      rw [htl, hcl]
      exact StRet.good2 (s := s.setT n { t with target := (-1 : Int) }) (zaw hSat.gr) (zbx hSat e0 e1 rfl rfl hx1 hys HNE.out) (by have z1 := zbi ht; clear F hSat; subst hA; cases t; simp_all [abandonD, std] <;> (intros; omega)) (zbw _ _ _ _))
end Go.Proofs.YtcgcfeablbjnaaaGreatDoor
