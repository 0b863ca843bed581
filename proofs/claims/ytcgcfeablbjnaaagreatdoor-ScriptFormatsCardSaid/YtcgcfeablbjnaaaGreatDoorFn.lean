/- Parts of the proof that ScriptFormats returns true for every input. -/
import Derived.Test.YtcgcfeablbjnaaaGreatDoorFm
import Derived.Test.YtcgcfeablbjnaaaGreatDoorFc
import Derived.Test.YtcgcfeablbjnaaaGreatDoorFk
import Derived.Test.YtcgcfeablbjnaaaGreatDoorFb
import Derived.Test.YtcgcfeablbjnaaaGreatDoorFe
import Derived.Test.YtcgcfeablbjnaaaGreatDoorFd
set_option linter.unusedSimpArgs false
set_option linter.unusedVariables false
namespace Go.Proofs.YtcgcfeablbjnaaaGreatDoor
open Go.RowKit Eng
set_option maxRecDepth 100000
set_option linter.unusedSimpArgs false
set_option linter.unusedVariables false
theorem goes_light : Goes Tryz.prog 6 := goes_of Tryz.func6 (by kernel_rfl) (by kernel_rfl)
theorem light_any (Ad : Option Addr) (n c : Nat) (w : World) : Calls Tryz.prog 6 #[.slice Ad n c] w fun e w' => e = .returned (.bool (decide ((n : Int) ≤ 150))) ∧ Below w.heap.size w w' := by
 obtain ⟨A, hA⟩ : ∃ A, A = std := ⟨_, rfl⟩
 obtain ⟨ni, hni⟩ : ∃ q, q = (n : Int) := ⟨_, rfl⟩
 obtain ⟨z, hz⟩ : ∃ q, q = decide ((n : Int) ≤ 150) := ⟨_, rfl⟩
 have F : A.len n = ni ∧ A.le ni 150 = z := by
  rw [hA, hni, hz]
  exact ⟨rfl, rfl⟩
 refine good_enter (E := ⟨Tryz.prog, tabaT, ([] : Ords), Tryz.f6, w, [], [], fun _ _ _ => False⟩) env_ok (c := bodyOf Tryz.f6) (n := 0) Tryz.func6 rfl (show codeChk ([] : Ords) (bodyOf Tryz.f6) = true by decide +kernel) (rho []) (fun h p hp => rho_eq _ h p hp)
  (tm := [.one (.val (.slice Ad n c))] ++ List.replicate 5 (.one (.val undef))) (mem := []) (Nat.le_refl _) ?_ ?_ (by rfl) ?_
 ·exact sat_nil w [] _
 ·simp [SV.ok, S1.ok]
 ·refine good_next env_ok hA rfl rfl 400 ?_
  conv => arg 3; cbv
  repeat (simp only [F]; try (conv => arg 3; cbv))
  refine good_ret1 env_ok (by rfl) (by rfl) (fun ρ w' hρ hSat => ⟨?_, gr_nil hSat.gr⟩)
  rw [← hz]; rfl
theorem goes_packed : Goes Tryz.prog 19 := goes_of Tryz.func19 (by kernel_rfl) (by kernel_rfl)
theorem goes_kconfig : Goes Tryz.prog 20 := goes_of Tryz.func20 (by kernel_rfl) (by kernel_rfl)
theorem goes_configs : Goes Tryz.prog 8 := goes_of Tryz.func8 (by kernel_rfl) (by kernel_rfl)
section
variable {T : List (TypeId × TI)} {D : Ords} {fn : Func} {w0 : World} {ρ0 : List (Nat × Nat)} {L : Nat → Act → World → Prop} {R : Ending → World → Prop} {dst : Option Tmp} {k : List It} {tm : PT} {mem : List MB}
theorem good_packed {Ad : Option Addr} {cp ln : Nat} {l : List Int} (hln : ln = l.length) (hl : l.length ≤ 1000) (hrd : Rd w0 w0.heap.size Ad (l.map iv)) (hk : headW [] k = true)
 (h : ∀ (c : CfgD) (hh : CfgH) czl ccl ctl cvl crl col (v2 : Value) (s3 : StD) (h3 : StH) tl cl, CfgOk c → czl = c.zones.length → ccl = c.cells.length → ctl = c.tens.length → cvl = c.vers.length → crl = c.reps.length → col = c.obs.length → Eng.Good (⟨Tryz.prog, T, D, fn, w0, [], ρ0, L⟩ : Eng.Env) R ⟨k, putE tm dst (.tup [.agg [.val (iv c.regions), .val (.slice hh.az czl hh.kz), .val (.slice hh.ac ccl hh.kc), .val (.slice hh.at_ ctl hh.kt), .val (.slice hh.av cvl hh.kv), .val (.slice hh.ar crl hh.kr), .val (.slice hh.ao col hh.ko), .val (iv c.blast), .val (iv c.lease), .val (iv c.bake)], .one (.val v2), .agg [.val (iv s3.tick), .val (iv s3.count), .val (.slice h3.at_ tl h3.kt), .val (.slice h3.ac cl h3.kc), .val (iv s3.proven), .val (iv s3.evac), .val (iv s3.low), .val (iv s3.high)]]), mem⟩) : Eng.Good (⟨Tryz.prog, T, D, fn, w0, [], ρ0, L⟩ : Eng.Env) R ⟨.call 19 [.one (.val (.slice Ad ln cp))] dst :: k, tm, mem⟩ := by
 refine good_writesL (α := { q : CfgD × CfgH × Value × StD × StH // CfgOk q.1 }) [] (fun x => .tup [.agg [.val (iv x.1.1.regions), .val (.slice x.1.2.1.az x.1.1.zones.length x.1.2.1.kz), .val (.slice x.1.2.1.ac x.1.1.cells.length x.1.2.1.kc), .val (.slice x.1.2.1.at_ x.1.1.tens.length x.1.2.1.kt), .val (.slice x.1.2.1.av x.1.1.vers.length x.1.2.1.kv), .val (.slice x.1.2.1.ar x.1.1.reps.length x.1.2.1.kr), .val (.slice x.1.2.1.ao x.1.1.obs.length x.1.2.1.ko), .val (iv x.1.1.blast), .val (iv x.1.1.lease), .val (iv x.1.1.bake)], .one (.val x.1.2.2.1), .agg [.val (iv x.1.2.2.2.1.tick), .val (iv x.1.2.2.2.1.count), .val (.slice x.1.2.2.2.2.at_ x.1.2.2.2.1.tens.length x.1.2.2.2.2.kt), .val (.slice x.1.2.2.2.2.ac x.1.2.2.2.1.cells.length x.1.2.2.2.2.kc), .val (iv x.1.2.2.2.1.proven), .val (iv x.1.2.2.2.1.evac), .val (iv x.1.2.2.2.1.low), .val (iv x.1.2.2.2.1.high)]]) (fun x => mem) (fun x => Nat.le_refl _) (fun x h hh _ => rfl) (fun x => by simp [SV.ok, TV.ok, S1.ok]) hk goes_packed (fun ρ w hρ H => ?_) (fun x => h _ _ _ _ _ _ _ _ _ _ _ _ _ x.2 rfl rfl rfl rfl rfl rfl)
 have hb0 : Below w0.heap.size w0 w := gr_nil H.gr
 simp only [List.map, concV, conc1, hln]
 refine (packed_any Ad cp l w hl ((hrd.below hb0).more hb0.size)).mono ?_
 rintro e w' ⟨c, hh, v2, s3, h3, rfl, hM, hb⟩
 exact ⟨⟨(c, hh, v2, s3, h3), hM.ok⟩, ρ, rfl, fun _ _ => rfl, H.below hb⟩
theorem good_kconfig {Ad : Option Addr} {cp ln : Nat} {l : List Int} (hln : ln = l.length) (hl : l.length ≤ 1000) (hrd : Rd w0 w0.heap.size Ad (l.map iv)) (hk : headW [] k = true)
 (h : ∀ (c : CfgD) (hh : CfgH) czl ccl ctl cvl crl col, CfgOk c → czl = c.zones.length → ccl = c.cells.length → ctl = c.tens.length → cvl = c.vers.length → crl = c.reps.length → col = c.obs.length → Eng.Good (⟨Tryz.prog, T, D, fn, w0, [], ρ0, L⟩ : Eng.Env) R ⟨k, putE tm dst (.agg [.val (iv c.regions), .val (.slice hh.az czl hh.kz), .val (.slice hh.ac ccl hh.kc), .val (.slice hh.at_ ctl hh.kt), .val (.slice hh.av cvl hh.kv), .val (.slice hh.ar crl hh.kr), .val (.slice hh.ao col hh.ko), .val (iv c.blast), .val (iv c.lease), .val (iv c.bake)]), mem⟩) : Eng.Good (⟨Tryz.prog, T, D, fn, w0, [], ρ0, L⟩ : Eng.Env) R ⟨.call 20 [.one (.val (.slice Ad ln cp))] dst :: k, tm, mem⟩ := by
 refine good_writesL (α := { q : CfgD × CfgH // CfgOk q.1 }) [] (fun x => .agg [.val (iv x.1.1.regions), .val (.slice x.1.2.az x.1.1.zones.length x.1.2.kz), .val (.slice x.1.2.ac x.1.1.cells.length x.1.2.kc), .val (.slice x.1.2.at_ x.1.1.tens.length x.1.2.kt), .val (.slice x.1.2.av x.1.1.vers.length x.1.2.kv), .val (.slice x.1.2.ar x.1.1.reps.length x.1.2.kr), .val (.slice x.1.2.ao x.1.1.obs.length x.1.2.ko), .val (iv x.1.1.blast), .val (iv x.1.1.lease), .val (iv x.1.1.bake)]) (fun x => mem) (fun x => Nat.le_refl _) (fun x h hh _ => rfl) (fun x => by simp [SV.ok, TV.ok, S1.ok]) hk goes_kconfig (fun ρ w hρ H => ?_) (fun x => h _ _ _ _ _ _ _ _ x.2 rfl rfl rfl rfl rfl rfl)
 have hb0 : Below w0.heap.size w0 w := gr_nil H.gr
 simp only [List.map, concV, conc1, hln]
 refine (kconfig_any Ad cp l w hl ((hrd.below hb0).more hb0.size)).mono ?_
 rintro e w' ⟨⟨c, hh, hM, rfl, _⟩, hb⟩
 exact ⟨⟨(c, hh), hM⟩, ρ, rfl, fun _ _ => rfl, H.below hb⟩
end
set_option maxHeartbeats 1000000 in
theorem configs_any (Ad : Option Addr) (cp : Nat) (l : List Int) (pk : Bool) (w : World) (hl : l.length ≤ 1000) (hrd : Rd w w.heap.size Ad (l.map iv)) :
 Calls Tryz.prog 8 #[.slice Ad l.length cp, .bool pk] w fun e w' => ∃ c h, CfgOk c ∧ e = .returned (.agg (cfgV c h)) ∧ Below w.heap.size w w' := by
 obtain ⟨ln, hln⟩ : ∃ q, q = l.length := ⟨_, rfl⟩
 obtain ⟨A, hA⟩ : ∃ A, A = std := ⟨_, rfl⟩
 cases pk
 ·refine good_enter (E := ⟨Tryz.prog, tabaT, ([] : Ords), Tryz.f8, w, [], [], fun _ _ _ => False⟩) env_ok (c := bodyOf Tryz.f8) (n := 0) Tryz.func8 rfl (show codeChk ([] : Ords) (bodyOf Tryz.f8) = true by decide +kernel) (rho []) (fun h p hp => rho_eq _ h p hp)
   (tm := [.one (.val (.slice Ad ln cp)), .one (.val (.bool false))] ++ List.replicate 16 (.one (.val undef))) (mem := []) (Nat.le_refl _) ?_ ?_ (by rw [hln]; rfl) ?_
  ·exact sat_nil w [] _
  ·simp [SV.ok, S1.ok]
  ·refine good_next env_ok hA rfl rfl 400 ?_
   conv => arg 3; cbv
   refine good_kconfig hln hl hrd rfl (fun c hh czl ccl ctl cvl crl col hM hczl hccl hctl hcvl hcrl hcol => ?_)
   refine good_next env_ok hA rfl rfl 400 ?_
   conv => arg 3; cbv
   refine good_ret1 env_ok (by rfl) (by rfl) (fun ρ w' hρ hSat => ⟨c, hh, hM, ?_, gr_nil hSat.gr⟩)
   rw [hczl, hccl, hctl, hcvl, hcrl, hcol]
   rfl
 ·refine good_enter (E := ⟨Tryz.prog, tabaT, ([] : Ords), Tryz.f8, w, [], [], fun _ _ _ => False⟩) env_ok (c := bodyOf Tryz.f8) (n := 0) Tryz.func8 rfl (show codeChk ([] : Ords) (bodyOf Tryz.f8) = true by decide +kernel) (rho []) (fun h p hp => rho_eq _ h p hp)
   (tm := [.one (.val (.slice Ad ln cp)), .one (.val (.bool true))] ++ List.replicate 16 (.one (.val undef))) (mem := []) (Nat.le_refl _) ?_ ?_ (by rw [hln]; rfl) ?_
  ·exact sat_nil w [] _
  ·simp [SV.ok, S1.ok]
  ·refine good_next env_ok hA rfl rfl 400 ?_
   conv => arg 3; cbv
   refine good_packed hln hl hrd rfl (fun c hh czl ccl ctl cvl crl col v2 s3 h3 tl cl hM hczl hccl hctl hcvl hcrl hcol => ?_)
   refine good_next env_ok hA rfl rfl 400 ?_
   conv => arg 3; cbv
   refine good_ret1 env_ok (by rfl) (by rfl) (fun ρ w' hρ hSat => ⟨c, hh, hM, ?_, gr_nil hSat.gr⟩)
   rw [hczl, hccl, hctl, hcvl, hcrl, hcol]
   rfl
end Go.Proofs.YtcgcfeablbjnaaaGreatDoor
namespace Go.Proofs.YtcgcfeablbjnaaaGreatDoor
open Go.RowKit Eng
set_option maxRecDepth 100000
set_option linter.unusedSimpArgs false
set_option linter.unusedVariables false
theorem goes_acts44 : Goes Tryz.prog 7 := goes_of Tryz.func7 (by kernel_rfl) (by kernel_rfl)
theorem goes_format44 : Goes Tryz.prog 9 := goes_of Tryz.func9 (by kernel_rfl) (by kernel_rfl)
theorem goes_rformat44 : Goes Tryz.prog 10 := goes_of Tryz.func10 (by kernel_rfl) (by kernel_rfl)
theorem goes_awake44 : Goes Tryz.prog 5 := goes_of Tryz.func5 (by kernel_rfl) (by kernel_rfl)
def ActsAt (w : World) (A : Option Addr) (l : List ActD) : Prop := Rd w w.heap.size A (actsCells l)
theorem sz_of {c : CfgD} (ok : CfgOk c) : CfgSz c := by
 have h1 := ok.tens
 have h2 := ok.cells
 have h3 := ok.regions
 have h4 := ok.vers
 have h5 := ok.reps
 exact ⟨by omega, h2.1, by omega, h3.1, by omega, h4.1, by omega, h5.1, by omega⟩
section
variable {T : List (TypeId × TI)} {D : Ords} {fn : Func} {w0 : World} {ρ0 : List (Nat × Nat)} {L : Nat → Act → World → Prop} {R : Ending → World → Prop} {dst : Option Tmp} {k : List It} {tm : PT} {mem : List MB}
theorem good_configs {Ad : Option Addr} {cp ln : Nat} {l : List Int} {pk : Bool} (hln : ln = l.length) (hl : l.length ≤ 1000) (hrd : Rd w0 w0.heap.size Ad (l.map iv)) (hk : headW [] k = true)
 (h : ∀ (c : CfgD) (hh : CfgH) czl ccl ctl cvl crl col, CfgOk c → czl = c.zones.length → ccl = c.cells.length → ctl = c.tens.length → cvl = c.vers.length → crl = c.reps.length → col = c.obs.length → Eng.Good (⟨Tryz.prog, T, D, fn, w0, [], ρ0, L⟩ : Eng.Env) R ⟨k, putE tm dst (.agg [.val (iv c.regions), .val (.slice hh.az czl hh.kz), .val (.slice hh.ac ccl hh.kc), .val (.slice hh.at_ ctl hh.kt), .val (.slice hh.av cvl hh.kv), .val (.slice hh.ar crl hh.kr), .val (.slice hh.ao col hh.ko), .val (iv c.blast), .val (iv c.lease), .val (iv c.bake)]), mem⟩) : Eng.Good (⟨Tryz.prog, T, D, fn, w0, [], ρ0, L⟩ : Eng.Env) R ⟨.call 8 [.one (.val (.slice Ad ln cp)), .one (.val (.bool pk))] dst :: k, tm, mem⟩ := by
 refine good_writesL (α := { q : CfgD × CfgH // CfgOk q.1 }) [] (fun x => .agg [.val (iv x.1.1.regions), .val (.slice x.1.2.az x.1.1.zones.length x.1.2.kz), .val (.slice x.1.2.ac x.1.1.cells.length x.1.2.kc), .val (.slice x.1.2.at_ x.1.1.tens.length x.1.2.kt), .val (.slice x.1.2.av x.1.1.vers.length x.1.2.kv), .val (.slice x.1.2.ar x.1.1.reps.length x.1.2.kr), .val (.slice x.1.2.ao x.1.1.obs.length x.1.2.ko), .val (iv x.1.1.blast), .val (iv x.1.1.lease), .val (iv x.1.1.bake)]) (fun x => mem) (fun x => Nat.le_refl _) (fun x h hh _ => rfl) (fun x => by simp [SV.ok, TV.ok, S1.ok]) hk goes_configs (fun ρ w hρ H => ?_) (fun x => h _ _ _ _ _ _ _ _ x.2 rfl rfl rfl rfl rfl rfl)
 have hb0 : Below w0.heap.size w0 w := gr_nil H.gr
 simp only [List.map, concV, conc1, hln]
 refine (configs_any Ad cp l pk w hl ((hrd.below hb0).more hb0.size)).mono ?_
 rintro e w' ⟨c, hh, hM, rfl, hb⟩
 exact ⟨⟨(c, hh), hM⟩, ρ, rfl, fun _ _ => rfl, H.below hb⟩
theorem good_growS {E : Eng.Env} (slot h : Nat) {t : TypeId} {z n : Nat} {l : List S1} {r : List Value} (hpk : plainK k = true) (hs : tget tm slot = some (.one (.slc h 0 n n))) (hb : nth mem h = some (.own t l)) (hrow : rowE std mem t z (.one (.slc h 0 n n)) = some (some h, n, r)) (hg : Eng.Good E R ⟨k, tset tm slot (.one (.gsl (len mem) n)), setAt mem h .dead ++ [.grow t z n r]⟩) : Eng.Good E R ⟨k, tm, mem⟩ := by
 intro ρ w a hρ hl H htm ha hit
 rw [nth_eq] at hb
 obtain ⟨ho, hone, hblk⟩ := row_ok H hrow
 obtain ⟨p, hp⟩ := gsl_of ho
 have hml : (setAt mem h .dead).length = mem.length := by simp [setAt_eq]
 have hex : ∀ j, j < mem.length → ρ j = ext2 ρ mem.length p j := fun j hj => ext2_lt hj
 have hrow' : ∀ g, (concV ρ (.one (.slc h 0 n n))).ownBlock = some g → (g ∈ E.own ∨ E.w0.heap.size ≤ g) ∧ g < w.heap.size ∧ ∀ (k : Nat) (b : MB), (mem.set h .dead)[k]? = some b → (b.wr (ρ k) || b.rd) = true → (ρ k).1 ≠ g := fun g hgg => by
  obtain ⟨h', b, e, hb', hw, rfl⟩ := hblk g hgg
  obtain rfl : h = h' := Option.some.inj e
  refine ⟨(H.free _ _ hb').1 hw, H.lt hb' (by rw [hw]; rfl), fun k c hc hcw => ?_⟩
  by_cases hk : k = h
  ·subst hk
   rw [List.getElem?_set_self (List.getElem?_eq_some_iff.1 hb').1] at hc
   obtain rfl := Option.some.inj hc
   simp [MB.wr, MB.rd] at hcw
  ·rw [List.getElem?_set_ne (Ne.symm hk)] at hc
   exact (H.apart h k b c hb' hc hw hcw (Ne.symm hk)).symm
 have HS := (H.kill h).addGrow (w' := w) (World.grownBy.refl w _) hrow' ho hone (.inl rfl) (ρ' := ext2 ρ mem.length p) (fun j hj => hex j (by simpa using hj)) (by rw [List.length_set, ext2_eq]; exact hp)
 have hrel : Rel (ext2 ρ mem.length p) (tset tm slot (.one (.gsl (len mem) n))) a := by
  have h1 := rel_put (ha.ext htm hex) (some slot) (.one (.gsl (len mem) n))
  have h2 : a.put (some slot) (concV (ext2 ρ mem.length p) (.one (.gsl (len mem) n))) = a := by
   have h3 := ha.at_ hs (by simp)
   rw [show concV (ext2 ρ mem.length p) (.one (.gsl (len mem) n)) = concV ρ (.one (.slc h 0 n n)) by simp only [concV, conc1, len_eq, ext2_eq]; exact hp]
   obtain ⟨t, d⟩ := a
   simp only [Act.put] at h3 ⊢
   congr 1
   refine Array.ext_getElem? fun i => ?_
   by_cases hi : slot = i
   ·subst hi
    have := (Array.getElem?_eq_some_iff.1 h3).1
    rw [Array.getElem?_setIfInBounds_self_of_lt this, h3]
   ·rw [Array.getElem?_setIfInBounds_ne hi]
  rw [h2] at h1
  exact h1
 have hl2 : (setAt mem h .dead ++ [MB.grow t z n r]).length = mem.length + 1 := by rw [List.length_append, hml]; rfl
 have := hg (ext2 ρ mem.length p) w a (fun j q hq => by rw [← hex j (Nat.lt_of_lt_of_le (List.getElem?_eq_some_iff.1 hq).1 hl)]; exact hρ j q hq) (by show E.ρ0.length ≤ _; rw [hl2]; exact Nat.le_succ_of_le hl) (by rw [setAt_eq]; exact HS) (by rw [hl2]; exact put_ok (d := some slot) (htm.mono (Nat.le_succ _)) (by show len mem < _; simp [len_eq])) hrel (fun it hi => plain_ok hpk it hi _)
 rw [cont_rho _ ρ hpk] at this
 exact this
end
section
variable {T : List (TypeId × TI)} {D : Ords} {fn : Func} {w0 : World} {p0 : Nat × Nat} {L : Nat → Act → World → Prop} {R : Ending → World → Prop} {dst : Option Tmp} {k : List It} {tm : PT} {m0 : MB}
theorem good_acts {Am : Option Addr} {cm ln : Nat} {m : List Int} {c : CfgD} {hh : CfgH} {czl ccl ctl cvl crl col : Nat} (hln : ln = m.length) (hl : m.length ≤ 1000) (hrd : Rd w0 w0.heap.size Am (m.map iv)) (ok : CfgOk c) (hczl : czl = c.zones.length) (hccl : ccl = c.cells.length) (hctl : ctl = c.tens.length) (hcvl : cvl = c.vers.length) (hcrl : crl = c.reps.length) (hcol : col = c.obs.length) (hk : headW [] k = true)
 (h : ∀ (acts : List ActD) (Aa : Option Addr) (ca na : Nat) (mb : MB) (q : Nat × Nat), (mb = .dead ∨ ∃ l, mb = .rsym l) → (∀ a ∈ acts, MillAct 3000 a) → acts.length ≤ 70 → na = acts.length → (∀ ρ w, ρ 1 = q → Sat w0 [] ρ [m0, mb] w → ActsAt w Aa acts) → (∀ ρ w (r : List MB), ρ 1 = q → Sat w0 [] ρ ([m0, mb] ++ r) w → ActsAt w Aa acts) → Eng.Good ⟨Tryz.prog, T, D, fn, w0, [], [p0, q], L⟩ R ⟨k, putE tm dst (.one (.val (.slice Aa na ca))), [m0, mb]⟩) :
 Eng.Good ⟨Tryz.prog, T, D, fn, w0, [], [p0], L⟩ R ⟨.call 7 [.one (.val (.slice Am ln cm)), .agg [.val (iv c.regions), .val (.slice hh.az czl hh.kz), .val (.slice hh.ac ccl hh.kc), .val (.slice hh.at_ ctl hh.kt), .val (.slice hh.av cvl hh.kv), .val (.slice hh.ar crl hh.kr), .val (.slice hh.ao col hh.ko), .val (iv c.blast), .val (iv c.lease), .val (iv c.bake)], .one (.val (.int .i64 40))] dst :: k, tm, [m0]⟩ := by
 subst hczl hccl hctl hcvl hcrl hcol
 intro ρ w a hρ hlen H htm ha hit
 have hb0 : Below w0.heap.size w0 w := gr_nil H.gr
 refine ⟨goes_acts44, ?_⟩
 simp only [List.map, concV, conc1, hln]
 refine (acts_any Am cm m c hh 40 w hl ((hrd.below hb0).more hb0.size) (sz_of ok) (by omega) (by omega)).mono ?_
 rintro e w' ⟨acts, v, hA, hL, rfl, ho, hb⟩
 refine ⟨_, rfl, ?_⟩
 have hten := ok.tens
 have hna : acts.length ≤ 70 := by omega
 obtain ⟨Aa, ca, rfl⟩ := own_form ho
 have key : ∃ (mb : MB) (q : Nat × Nat), (mb = .dead ∨ ∃ l, mb = .rsym l) ∧ Sat w0 [] (ext2 ρ 1 q) [m0, mb] w' ∧ ∀ ρ w (r : List MB), ρ 1 = q → Sat w0 [] ρ ([m0, mb] ++ r) w → ActsAt w Aa acts := by
  by_cases h0 : acts.length = 0
  ·refine ⟨.dead, (0, 0), .inl rfl, (H.below hb).addB (b := .dead) (p := (0, 0)) (fun h hh => ext2_lt hh) (ext2_eq _ _) trivial trivial (fun h => by cases h) (fun h => by cases h) (fun h c _ hk => by rcases hk with ⟨h1, _⟩ | ⟨h1, _⟩ <;> cases h1), fun ρ w r _ _ => ?_⟩
   have : acts = [] := List.eq_nil_of_length_eq_zero h0
   subst this
   exact Rd.nil
  ·rcases ho.2 with ⟨_, h1⟩ | ⟨g, cap, cur, e1, hge, hcur, hle, _, hsz, htk⟩
   ·exact absurd h1 h0
   ·simp only [Value.slice.injEq] at e1
    obtain ⟨rfl, _, rfl⟩ := e1
    have hgl : g < w'.heap.size := (Array.getElem?_eq_some_iff.1 hcur).1
    refine ⟨.rsym (actsCells acts), (g, 0), .inr ⟨_, rfl⟩, (H.below hb).addB (b := .rsym (actsCells acts)) (p := (g, 0)) (fun h hh => ext2_lt hh) (ext2_eq _ _) (fun j u hu => ?_) trivial (fun h => by cases h) (fun _ => hgl) (fun h c hc hk => ?_), fun ρ w r hq H' => ?_⟩
    ·rw [← htk, List.getElem?_take] at hu
     split at hu
     ·rw [Nat.zero_add]
      simp only [World.cell?, hcur]
      simpa using hu
     ·cases hu
    ·rcases hk with ⟨h1, _⟩ | ⟨_, h1⟩
     ·cases h1
     ·have := H.lt hc (by rw [h1]; rfl)
      show (ρ h).1 ≠ g
      omega
    ·have hb1 : ([m0, MB.rsym (actsCells acts)] ++ r)[1]? = some (.rsym (actsCells acts)) := rfl
     have := rd_sat H' (Gr.refl (fun _ => False) w) (fun i hi => hi.elim) hb1
     rw [hq] at this
     exact this
 obtain ⟨mb, q, hmbok, HS, hAt⟩ := key
 have e0 : ρ 0 = p0 := hρ 0 p0 rfl
 have hex : ∀ j, j < [m0].length → ρ j = ext2 ρ 1 q j := fun j hj => ext2_lt hj
 have := h acts Aa ca acts.length mb q hmbok hA hna rfl (fun ρ w hq H' => hAt ρ w [] hq (by simpa using H')) hAt (ext2 ρ 1 q) w' (a.put dst (.slice Aa acts.length ca)) (fun j p hj => by
  match j, hj with
  | 0, hj => cases hj; rw [← hex 0 (by simp)]; exact e0
  | 1, hj => cases hj; exact ext2_eq _ _
  | j + 2, hj => cases hj) (by simp) HS (put_ok (htm.mono (by simp)) trivial) (rel_put (ha.ext htm hex) dst (.one (.val (.slice Aa acts.length ca)))) (items_mem (tl hit) (by simp) fun it hi all n0 W m0' ls ord mm he h hh hw => by
    have hok := tl hit it hi
    rw [he] at hok
    have hlt : h < 1 := Nat.lt_of_lt_of_le hh hok.2.1
    obtain rfl : h = 0 := by omega
    rfl)
 rw [← cont_congr hex fun it hi => tl hit it hi] at this
 exact this
end
end Go.Proofs.YtcgcfeablbjnaaaGreatDoor
namespace Go.Proofs.YtcgcfeablbjnaaaGreatDoor
open Go.RowKit Eng
set_option maxRecDepth 100000
set_option linter.unusedSimpArgs false
set_option linter.unusedVariables false
theorem actsCells_len (l : List ActD) : (actsCells l).length = l.length * 11 := flat_len (fun a : ActD => a.cells.toList) 11 (fun _ => rfl) l
theorem act_small {ra : List ActD} (hnum : ∀ a ∈ ra, ∀ k, -9223372036854775808 ≤ a.num k ∧ a.num k ≤ 9223372036854775807) (hsm : ∀ (j : Nat) a, j < ra.length → ra[j]? = some a → a.key.length ≤ 300 ∧ a.value.length ≤ 300) : ∀ a ∈ ra, ActOk a := fun a ha => by
 obtain ⟨j, hj, rfl⟩ := List.mem_iff_getElem.1 ha
 have := hsm j _ hj (List.getElem?_eq_getElem hj)
 exact ⟨hnum _ ha, by omega, by omega⟩
theorem acts_one {w : World} {B : Nat} {ad : Addr} {ra : List ActD} {j : Nat} {a : ActD} (h : Rd w B (some ad) (actsCells ra)) (ha : ra[j]? = some a) : Rd w B (some (ad.add (j * 11))) (actsCells [a]) := fun i u hu => by
 have hl : i < 11 := by have := (List.getElem?_eq_some_iff.1 hu).1; rw [actsCells_len] at this; simpa using this
 have hc : (actsCells ra)[j * 11 + i]? = some u := by
  have := flat_at (fun a : ActD => a.cells.toList) 11 (fun _ => rfl) ra j i a ha hl
  rw [show actsCells ra = ra.flatMap (fun a => a.cells.toList) from rfl, this]
  simpa [actsCells] using hu
 obtain ⟨ad', e, hb, hcell⟩ := h _ u hc
 obtain rfl := Option.some.inj e
 exact ⟨_, rfl, by rw [block_add]; exact hb, by rw [Addr.add_add]; exact hcell⟩
theorem acts_cell {ra : List ActD} {i : Nat} {a : ActD} (ha : ra[i]? = some a) (j : Nat) (hj : j < 11) : std.get (actsCells ra) (i * 11) j = a.cells.toList[j]? := by
 have := get_row (fun a : ActD => a.cells.toList) 11 (fun _ => rfl) ha [] j hj
 rw [List.append_nil] at this
 exact this
theorem slen_list (l : List UInt8) : std.slen ⟨l.toArray⟩ = (l.length : Int) := by
 show ((l.toArray.size : Nat) : Int) = _
 simp
theorem lists_at {w : World} {q : Nat × Nat} {mem0 mb : MB} {Ar Aa : Option Addr} {ra acts : List ActD} {rl cr na ca : Nat} (hrl : rl = ra.length) (hna : na = acts.length) (ho1 : ∀ a ∈ ra, ActOk a) (ho2 : ∀ a ∈ acts, ActOk a) (h60 : rl ≤ 60) (h70 : acts.length ≤ 70) (hR : Rd w w.heap.size Ar (actsCells ra)) (hAt : ∀ ρ w' (r : List MB), ρ 1 = q → Sat w [] ρ ([mem0, mb] ++ r) w' → ActsAt w' Aa acts) (k : Nat) (hk : k < 2 + rl) :
 ∃ (Ax : Option Addr) (x : List ActD) (cx : Nat), ([Value.slice Ar rl cr, .slice Aa na ca] ++ (List.range rl).map (fun j => Value.slice (Ar.map (·.add (j * 11))) 1 (cr - j)))[k]? = some (.slice Ax x.length cx) ∧ (∀ a ∈ x, ActOk a) ∧ x.length ≤ 1000000 ∧ ∀ ρ w' (r : List MB), ρ 1 = q → Sat w [] ρ ([mem0, mb] ++ r) w' → Rd w' w'.heap.size Ax (actsCells x) := by
 match k, hk with
 | 0, _ => exact ⟨Ar, ra, cr, by rw [hrl]; rfl, ho1, by omega, fun ρ w' r _ H => (hR.below (gr_nil H.gr)).more (gr_nil H.gr).size⟩
 | 1, _ => exact ⟨Aa, acts, ca, by rw [hna]; rfl, ho2, by omega, hAt⟩
 | j + 2, hk =>
   have hj : j < rl := by omega
   obtain ⟨a, ha⟩ : ∃ a, ra[j]? = some a := ⟨_, List.getElem?_eq_getElem (by omega)⟩
   obtain ⟨ad, rfl⟩ : ∃ ad, Ar = some ad := by
    obtain ⟨ad, e, _⟩ := hR 0 _ (List.getElem?_eq_getElem (by rw [actsCells_len]; omega))
    exact ⟨ad, e⟩
   refine ⟨some (ad.add (j * 11)), [a], cr - j, ?_, fun x hx => ?_, by simp, fun ρ w' r _ H => acts_one ((hR.below (gr_nil H.gr)).more (gr_nil H.gr).size) ha⟩
   ·show ((List.range rl).map _)[j]? = _
    rw [List.getElem?_map, List.getElem?_range hj]
    rfl
   ·rw [List.mem_singleton] at hx
    subst hx
    exact ho1 _ (List.mem_of_getElem? ha)
theorem below_all {w w' : World} (h : Below w.heap.size w w') : Below w.heap.size w w' := h
theorem act_info : ∃ i, Tryz.prog.info? 29 = some i ∧ i.size = 11 := by
 have h : (Tryz.prog.info? 29).map (fun i => i.size) = some 11 := by kernel_rfl
 cases hi : Tryz.prog.info? 29 with
 | none => rw [hi] at h; cases h
 | some i => rw [hi] at h; exact ⟨i, rfl, by simpa using h⟩
set_option maxHeartbeats 4000000 in
theorem lawFormats_pos (Ar : Option Addr) (cr : Nat) (ra : List ActD) (Al : Option Addr) (cl' : Nat) (l : List Int) (pk : Bool) (Am : Option Addr) (cm : Nat) (m : List Int) (w : World) (he : Env w) (hnum : ∀ a ∈ ra, ∀ k, -9223372036854775808 ≤ a.num k ∧ a.num k ≤ 9223372036854775807) (hcap : ra.length ≤ cr) (hpos : 0 < ra.length)
 (hR : Rd w w.heap.size Ar (actsCells ra)) (hRl : Rd w w.heap.size Al (l.map iv)) (hRm : Rd w w.heap.size Am (m.map iv)) :
 Calls Tryz.prog 3 #[.slice Ar ra.length cr, .slice Al l.length cl', .bool pk, .slice Am m.length cm] w fun e w' => e = .returned (.bool true) ∧ Below w.heap.size w w' := by
 obtain ⟨ll, hll⟩ : ∃ q, q = l.length := ⟨_, rfl⟩
 obtain ⟨ml, hml⟩ : ∃ q, q = m.length := ⟨_, rfl⟩
 obtain ⟨rl, hrl⟩ : ∃ q, q = ra.length := ⟨_, rfl⟩
 obtain ⟨A, hA⟩ : ∃ A, A = std := ⟨_, rfl⟩
 obtain ⟨rli, hrli⟩ : ∃ q, q = Int.ofNat rl := ⟨_, rfl⟩
 have F : A.not true = false ∧ A.not false = true ∧ A.len rl = rli := by
  rw [hA, hrli]
  exact ⟨rfl, rfl, rfl⟩
 obtain ⟨b, o, hAr, hbl, hcell⟩ := rd_open hR (by rw [actsCells_len]; omega)
 obtain rfl := hAr
 obtain ⟨RC, hRC⟩ : ∃ q, q = actsCells ra := ⟨_, rfl⟩
 refine good_enter (E := ⟨Tryz.prog, tabaT, ords3, Tryz.f3, w, [], [(b, o)], fun _ _ _ => False⟩) env_ok (c := bodyOf Tryz.f3) (n := 0) Tryz.func3 rfl (show codeChk ords3 (bodyOf Tryz.f3) = true by decide +kernel) (rho [(b, o)]) (fun h p hp => rho_eq _ h p hp)
  (tm := [.one (.slc 0 0 rl cr), .one (.val (.slice Al ll cl')), .one (.val (.bool pk)), .one (.val (.slice Am ml cm))] ++ List.replicate 110 (.one (.val undef))) (mem := [.rsym RC]) (Nat.le_refl _) ?_ ?_ (by rw [hll, hml, hrl]; rfl) ?_
 ·exact (sat_nil w [] (rho [(b, o)])).addR (l := RC) (p := (b, o)) rfl (by rw [hRC]; exact hcell) hbl (by simp)
 ·simp [SV.ok, S1.ok]
 ·refine good_next env_ok hA rfl rfl 400 ?_
  conv => arg 3; cbv
  repeat (simp only [F]; try (conv => arg 3; cbv))
  refine good_below (.one (.val (.bool true))) trivial goes_awake44 (fun ρ w' hρ hSat => ?_) ?_
  ·exact awake_any w' (he.below (below_all (gr_nil hSat.gr)))
  by_cases h150 : (ll : Int) ≤ 150
  ·refine good_next env_ok hA rfl rfl 400 ?_
   conv => arg 3; cbv
   repeat (simp only [F]; try (conv => arg 3; cbv))
   refine good_below (.one (.val (.bool true))) trivial goes_light (fun ρ w' hρ hSat => ?_) ?_
   ·simp only [List.map, concV, conc1]
    have hh := light_any Al ll cl' w'
    rw [decide_eq_true h150] at hh
    exact hh
   by_cases h151 : (ml : Int) ≤ 150
   ·refine good_next env_ok hA rfl rfl 400 ?_
    conv => arg 3; cbv
    repeat (simp only [F]; try (conv => arg 3; cbv))
    refine good_below (.one (.val (.bool true))) trivial goes_light (fun ρ w' hρ hSat => ?_) ?_
    ·simp only [List.map, concV, conc1]
     have hh := light_any Am ml cm w'
     rw [decide_eq_true h151] at hh
     exact hh
    by_cases h60 : 60 < rli
    ·have b0 : A.lt 60 rli = true := by rw [hA]; exact decide_eq_true h60
     refine good_next env_ok hA rfl rfl 400 ?_
     conv => arg 3; cbv
     repeat (simp only [F, b0]; try (conv => arg 3; cbv))
     refine good_ret1 env_ok (by rfl) (by rfl) (fun ρ w' hρ hSat => ⟨?_, gr_nil hSat.gr⟩)
     rfl
    ·have b0 : A.lt 60 rli = false := by rw [hA]; exact decide_eq_false h60
     have hrl60 : rl ≤ 60 := by have e : rli = (rl : Int) := hrli; omega
     have hl1000 : l.length ≤ 1000 := by omega
     have hm1000 : m.length ≤ 1000 := by omega
     refine good_next env_ok hA rfl rfl 400 ?_
     conv => arg 3; cbv
     repeat (simp only [F, b0]; try (conv => arg 3; cbv))
     refine good_loopC 1 (α := { i : Nat // i ≤ rl ∧ ∀ (j : Nat) a, j < i → ra[j]? = some a → a.key.length ≤ 300 ∧ a.value.length ≤ 300 }) [8, 9, 38, 39, 40, 41, 42, 43, 44, 45, 46, 47, 48, 49, 50, 51, 52, 53, 54, 55, 56, 57, 58, 59] (fun x => [(38, .one (.val (.int .i64 (Int.ofNat x.1))))]) (fun x => rl - x.1) ⟨0, Nat.zero_le _, fun j a hj => by omega⟩ ?_ (fun x y hy => mem1_ok hy trivial) rfl (fun x L' hok hL1 hL2 => ?_)
     ·cbv
      simp
     ·obtain ⟨i, hile, hprev⟩ := x
      dsimp only
      obtain ⟨n1, hn1⟩ : ∃ q, q = i + 1 := ⟨_, rfl⟩
      by_cases hi : i < rl
      ·obtain ⟨a, ha⟩ : ∃ a, ra[i]? = some a := ⟨_, List.getElem?_eq_getElem (by omega)⟩
       obtain ⟨q, hq⟩ : ∃ q, q = i * 11 := ⟨_, rfl⟩
       obtain ⟨K, hK⟩ : ∃ q, q = (⟨a.key.toArray⟩ : ByteArray) := ⟨_, rfl⟩
       obtain ⟨Vv, hVv⟩ : ∃ q, q = (⟨a.value.toArray⟩ : ByteArray) := ⟨_, rfl⟩
       obtain ⟨kl, hkl⟩ : ∃ q, q = (a.key.length : Int) := ⟨_, rfl⟩
       obtain ⟨vl, hvl⟩ : ∃ q, q = (a.value.length : Int) := ⟨_, rfl⟩
       have q1 : A.lt (Int.ofNat i) rli = true := by rw [hA, hrli]; simp [std]; omega
       have q2 : A.add .i64 (Int.ofNat i) 1 = Int.ofNat n1 := by rw [hA, hn1]; exact (wrap64 (by simp; omega) (by simp; omega)).trans (by simp)
       have q3 : A.inb (Int.ofNat i) rl = true := by rw [hA]; simp [std]; omega
       have q4 : A.idx 0 (Int.ofNat i) 11 = q := by rw [hA, hq]; simp [std]
       have q5 : A.get RC q 9 = some (.string K) := by rw [hA, hq, hRC, hK]; exact acts_cell ha 9 (by omega)
       have q6 : A.get RC q 10 = some (.string Vv) := by rw [hA, hq, hRC, hVv]; exact acts_cell ha 10 (by omega)
       have q7 : A.slen K = kl := by rw [hA, hK, hkl]; exact slen_list _
       have q8 : A.slen Vv = vl := by rw [hA, hVv, hvl]; exact slen_list _
       by_cases h1 : 300 < kl
       ·have b1 : A.lt 300 kl = true := by rw [hA]; exact decide_eq_true h1
        refine good_next env_ok hA rfl rfl 400 ?_
        conv => arg 3; cbv
        repeat (simp only [F, q1, q3, q4, q5, q7, b1]; try (conv => arg 3; cbv))
        refine good_ret1 env_ok (by rfl) (by rfl) (fun ρ w' hρ hSat => ⟨?_, gr_nil hSat.gr⟩)
        rfl
       have b1 : A.lt 300 kl = false := by rw [hA]; exact decide_eq_false h1
       by_cases h2 : 300 < vl
       ·have b2 : A.lt 300 vl = true := by rw [hA]; exact decide_eq_true h2
        refine good_next env_ok hA rfl rfl 400 ?_
        conv => arg 3; cbv
        repeat (simp only [F, q1, q3, q4, q5, q6, q7, q8, b1, b2]; try (conv => arg 3; cbv))
        refine good_ret1 env_ok (by rfl) (by rfl) (fun ρ w' hρ hSat => ⟨?_, gr_nil hSat.gr⟩)
        rfl
       have b2 : A.lt 300 vl = false := by rw [hA]; exact decide_eq_false h2
       refine good_next env_ok hA rfl rfl 400 ?_
       conv => arg 3; cbv
       repeat (simp only [F, q1, q2, q3, q4, q5, q6, q7, q8, b1, b2]; try (conv => arg 3; cbv))
       intro ρ w' a' hρ hl H htm ha' hit
       refine hL2 a' w' ⟨⟨n1, by omega, fun j b hj hb => ?_⟩, ⟨ρ, hρ, H.take (ex := []) hok, subP_rel ?_ ha'⟩, ?_⟩
       ·rcases Nat.lt_succ_iff_lt_or_eq.1 (show j < i + 1 by omega) with h3 | rfl
        ·exact hprev j b h3 hb
        ·obtain rfl : a = b := Option.some.inj (ha.symm.trans hb)
         exact ⟨by omega, by omega⟩
       ·cbv
        simp
       ·dsimp only
        omega
      ·have q1 : A.lt (Int.ofNat i) rli = false := by rw [hA, hrli]; simp [std]; omega
       obtain rfl : rl = i := by omega
       have hsm := hprev
       refine good_next env_ok hA rfl rfl 400 ?_
       conv => arg 3; cbv
       repeat (simp only [F, q1]; try (conv => arg 3; cbv))
       refine good_conv 0 (.one (.val (.slice (some ⟨b, o, none⟩) rl cr))) rfl (by simp) trivial (fun ρ hρ => ?_) ?_
       ·have e0 := hρ 0 (b, o) rfl
        simp only [concV, conc1, e0, Nat.add_zero]
       conv => arg 3; cbv
       have hM0 : ∀ n, MB.ok n (.rsym RC) := fun _ => trivial
       refine good_configs hll hl1000 hRl rfl (fun c hh czl ccl ctl cvl crl col ok hczl hccl hctl hcvl hcrl hcol => ?_)
       refine good_next env_ok hA rfl rfl 400 ?_
       conv => arg 3; cbv
       repeat (simp only [F]; try (conv => arg 3; cbv))
       refine good_acts hml hm1000 hRm ok hczl hccl hctl hcvl hcrl hcol rfl (fun acts Aa ca na mb q hmbok hmill h70 hna hAt1 hAt => ?_)
       refine good_next env_ok hA rfl rfl 400 ?_
       conv => arg 3; cbv
       repeat (simp only [F]; try (conv => arg 3; cbv))
       obtain ⟨LV, hLV⟩ : ∃ q : Nat → List Value, q = fun n => [Value.slice (some ⟨b, o, none⟩) rl cr, .slice Aa na ca] ++ (List.range n).map (fun j => Value.slice ((some (⟨b, o, none⟩ : Addr)).map (·.add (j * 11))) 1 (cr - j)) := ⟨_, rfl⟩
       obtain ⟨N, hN⟩ : ∃ q : Nat → Nat, q = fun n => 2 + n := ⟨_, rfl⟩
       have okM : ∀ x, ∀ b ∈ ([.rsym RC, mb, .dead, .grow 22 1 (N x) (LV x)] : List MB), b.ok 4 := fun x b hb => by
        simp only [List.mem_cons, List.not_mem_nil, or_false] at hb
        rcases hb with rfl | rfl | rfl | rfl
        ·exact hM0 _
        ·rcases hmbok with rfl | ⟨_, rfl⟩ <;> trivial
        ·trivial
        ·trivial
       refine good_growS 11 2 (z := 1) rfl rfl rfl rfl ?_
       conv => arg 3; cbv
       refine good_loop 2 (α := { i : Nat // i ≤ rl }) [11, 12, 67, 70, 71, 72, 73, 74, 75, 76, 77, 78, 79, 80, 81] (fun x => [(11, .one (.gsl 3 (N x.1))), (70, .one (.val (.int .i64 (Int.ofNat x.1))))]) (fun x => [.rsym RC, mb, .dead, .grow 22 1 (N x.1) (LV x.1)]) (fun x => rl - x.1) ⟨0, Nat.zero_le _⟩ ?_ ?_ (fun x => rfl) (fun x y hy => ?_) rfl (fun x L' hL1 hL2 => ?_)
       ·dsimp only
        rw [show N 0 = 2 by rw [hN]]
        cbv
        simp
       ·dsimp only
        rw [show N 0 = 2 by rw [hN], show LV 0 = [Value.slice (some ⟨b, o, none⟩) rl cr, .slice Aa na ca] by rw [hLV]; simp]
       ·simp only [List.mem_cons, List.not_mem_nil, or_false] at hy
        rcases hy with rfl | rfl <;> simp [SV.ok, S1.ok]
       ·obtain ⟨i, hile⟩ := x
        dsimp only
        obtain ⟨n1, hn1⟩ : ∃ q, q = i + 1 := ⟨_, rfl⟩
        by_cases hi : i < rl
        ·have q1 : A.lt (Int.ofNat i) rli = true := by rw [hA, hrli]; simp [std]; omega
         have q2 : A.add .i64 (Int.ofNat i) 1 = Int.ofNat n1 := by rw [hA, hn1]; exact (wrap64 (by simp; omega) (by simp; omega)).trans (by simp)
         have q4 : A.addn (N i) 1 = N n1 := by rw [hA, hN, hn1]; simp [std]; omega
         obtain ⟨ad1, had1⟩ : ∃ q, q = (⟨b, o, none⟩ : Addr).add (i * 11) := ⟨_, rfl⟩
         obtain ⟨c1, hc1⟩ : ∃ q, q = cr - i := ⟨_, rfl⟩
         have q5 : A.app (LV i) [.slice (some ad1) 1 c1] = LV n1 := by rw [hA, hLV, hn1, had1, hc1]; simp [std, List.range_succ]
         have q6 : A.fits (N i) 1 = true := by rw [hA, hN]; simp [std]; omega
         have q7 : ∀ n, A.eqn n n = true := fun n => by rw [hA]; simp [std]
         refine good_next env_ok hA rfl rfl 400 ?_
         conv => arg 3; cbv
         repeat (simp only [F, q1, q2]; try (conv => arg 3; cbv))
         refine good_slice1 (i := i) (z := 11) (e := 29) Tryz.underlying22 act_info.choose_spec.1 act_info.choose_spec.2 rfl rfl rfl (by rw [hn1]; rfl) (by omega) ?_
         rw [← had1, ← hc1]
         refine good_next env_ok hA rfl rfl 400 ?_
         conv => arg 3; cbv
         repeat (simp only [F, q2, q4, q5, q6, q7]; try (conv => arg 3; cbv))
         refine good_againR (l := [0, 1, 2, 5]) ⟨rfl, rfl, rfl⟩ hL2 ⟨n1, by omega⟩ ?_ rfl rfl rfl ?_ ?_ ?_ ?_
         ·dsimp only
          omega
         ·exact okM _
         ·exact tmOk_chk (by cbv <;> trivial)
         ·exact ⟨.inr rfl, .inr (by rcases hmbok with rfl | ⟨_, rfl⟩ <;> rfl), .inl rfl, .inr rfl, trivial⟩
         ·cbv
          simp
        ·have q1 : A.lt (Int.ofNat i) rli = false := by rw [hA, hrli]; simp [std]; omega
         obtain rfl : rl = i := by omega
         refine good_next env_ok hA rfl rfl 400 ?_
         conv => arg 3; cbv
         repeat (simp only [F, q1]; try (conv => arg 3; cbv))
         obtain ⟨NN, hNN⟩ : ∃ q, q = N rl := ⟨_, rfl⟩
         obtain ⟨LL, hLL⟩ : ∃ q, q = LV rl := ⟨_, rfl⟩
         obtain ⟨NI, hNI⟩ : ∃ q, q = Int.ofNat NN := ⟨_, rfl⟩
         have hNv : NN = 2 + rl := by rw [hNN, hN]
         have q9 : A.len NN = NI := by rw [hA, hNI]; rfl
         have hel := lists_at (cr := cr) (ca := ca) hrl hna (act_small hnum (fun j a hj h => hsm j a (by omega) h)) (fun a ha => (mill_small (hmill a ha)).ok) hrl60 h70 hR hAt
         rw [← hNN, ← hLL]
         refine good_open 3 rfl rfl (by omega) (fun cc rr hcc hrr => ?_)
         obtain ⟨LR, hLR⟩ : ∃ q, q = LL ++ rr := ⟨_, rfl⟩
         rw [← hLR]
         rw [show mapBs (opn 3 (len [.rsym RC, mb, .dead, .grow 22 1 NN LL]) cc) (setAt [.rsym RC, mb, .dead, .grow 22 1 NN LL] 3 .dead) = [.rsym RC, mb, .dead, .dead] by rcases hmbok with rfl | ⟨_, rfl⟩ <;> rfl]
         conv => arg 3; cbv
         repeat (simp only [q9]; try (conv => arg 3; cbv))
         refine good_loopC 3 (α := { i : Nat // i ≤ NN }) [8, 14, 15, 16, 17, 18, 84, 85, 86, 87, 88, 89, 90, 91, 92, 93, 94, 95, 96, 97, 98, 99, 100, 101, 102, 103, 104, 105, 106] (fun x => [(84, .one (.val (.int .i64 (Int.ofNat x.1))))]) (fun x => NN - x.1) ⟨0, Nat.zero_le _⟩ ?_ (fun x y hy => mem1_ok hy trivial) rfl (fun x L' hok hL1 hL2 => ?_)
         ·cbv
          simp
         ·obtain ⟨i, hile⟩ := x
          dsimp only
          obtain ⟨n1, hn1⟩ : ∃ q, q = i + 1 := ⟨_, rfl⟩
          by_cases hi : i < NN
          ·obtain ⟨Ax, x, cx, hx, hxok, hxl, hxr⟩ := hel i (by omega)
           obtain ⟨xl, hxl'⟩ : ∃ q, q = x.length := ⟨_, rfl⟩
           obtain ⟨S, hS⟩ : ∃ q, q = (⟨(formatRes x).1.toArray⟩ : ByteArray) := ⟨_, rfl⟩
           obtain ⟨e, he'⟩ : ∃ q, q = (formatRes x).2 := ⟨_, rfl⟩
           have q1 : A.lt (Int.ofNat i) NI = true := by rw [hA, hNI]; simp [std]; omega
           have q2 : A.add .i64 (Int.ofNat i) 1 = Int.ofNat n1 := by rw [hA, hn1]; exact (wrap64 (by simp; omega) (by simp; omega)).trans (by simp)
           have q3 : A.inb (Int.ofNat i) NN = true := by rw [hA]; simp [std]; omega
           have q4 : A.idx 0 (Int.ofNat i) 1 = i := by rw [hA]; simp [std]
           have q5 : A.get LR i 0 = some (.slice Ax xl cx) := by
            rw [hA, hLR, hLL, hLV, hxl']
            show (_ ++ rr)[i + 0]? = _
            rw [Nat.add_zero, List.getElem?_append_left (by have := (List.getElem?_eq_some_iff.1 hx).1; exact this)]
            exact hx
           have q6 : A.seq S S = true := by rw [hA]; simp [std]
           have q7 : A.eq e e = true := by rw [hA]; simp [std]
           refine good_next env_ok hA rfl rfl 400 ?_
           conv => arg 3; cbv
           repeat (simp only [F, q1, q3, q4, q5]; try (conv => arg 3; cbv))
           refine good_below (.tup [.one (.val (.string S)), .one (.val (.int .i64 e))]) (by simp [SV.ok, TV.ok, S1.ok]) goes_format44 (fun ρ w' hρ hSat => ?_) ?_
           ·simp only [List.map, concV, conc1, hxl', hS, he']
            exact format_any Ax cx x w' (he.below (below_all (gr_nil hSat.gr))) hxok hxl (hxr ρ w' _ (hρ 1 q rfl) hSat)
           refine good_next env_ok hA rfl rfl 400 ?_
           conv => arg 3; cbv
           repeat (simp only [F]; try (conv => arg 3; cbv))
           refine good_below (.tup [.one (.val (.string S)), .one (.val (.int .i64 e))]) (by simp [SV.ok, TV.ok, S1.ok]) goes_rformat44 (fun ρ w' hρ hSat => ?_) ?_
           ·simp only [List.map, concV, conc1, hxl', hS, he']
            exact rformat_any Ax cx x w' hxok hxl (hxr ρ w' _ (hρ 1 q rfl) hSat)
           refine good_next env_ok hA rfl rfl 400 ?_
           conv => arg 3; cbv
           repeat (simp only [F, q2, q6, q7]; try (conv => arg 3; cbv))
           intro ρ w' a' hρ hl H htm ha' hit
           refine hL2 a' w' ⟨⟨n1, by omega⟩, ⟨ρ, hρ, H.take (ex := []) hok, subP_rel ?_ ha'⟩, ?_⟩
           ·cbv
            simp
           ·dsimp only
            omega
          ·have q1 : A.lt (Int.ofNat i) NI = false := by rw [hA, hNI]; simp [std]; omega
           obtain ⟨S, hS⟩ : ∃ q, q = (⟨(acts.flatMap lineText).toArray⟩ : ByteArray) := ⟨_, rfl⟩
           have q7 : A.eq 0 0 = true := by rw [hA]; simp [std]
           refine good_next env_ok hA rfl rfl 400 ?_
           conv => arg 3; cbv
           repeat (simp only [F, q1]; try (conv => arg 3; cbv))
           refine good_below (.tup [.one (.val (.string S)), .one (.val (.int .i64 0))]) (by simp [SV.ok, TV.ok, S1.ok]) goes_format44 (fun ρ w' hρ hSat => ?_) ?_
           ·simp only [List.map, concV, conc1, hna, hS]
            have hf := format_any Aa ca acts w' (he.below (below_all (gr_nil hSat.gr))) (fun a ha => (mill_small (hmill a ha)).ok) (by omega) (hAt ρ w' _ (hρ 1 q rfl) hSat)
            rw [mill_format acts h70 hmill] at hf
            exact hf
           refine good_next env_ok hA rfl rfl 400 ?_
           conv => arg 3; cbv
           repeat (simp only [F, q7]; try (conv => arg 3; cbv))
           refine good_ret1 env_ok (by rfl) (by rfl) (fun ρ w' hρ hSat => ⟨?_, gr_nil hSat.gr⟩)
           rfl
   ·refine good_next env_ok hA rfl rfl 400 ?_
    conv => arg 3; cbv
    repeat (simp only [F]; try (conv => arg 3; cbv))
    refine good_below (.one (.val (.bool false))) trivial goes_light (fun ρ w' hρ hSat => ?_) ?_
    ·simp only [List.map, concV, conc1]
     have hh := light_any Am ml cm w'
     rw [decide_eq_false h151] at hh
     exact hh
    refine good_next env_ok hA rfl rfl 400 ?_
    conv => arg 3; cbv
    repeat (simp only [F]; try (conv => arg 3; cbv))
    refine good_ret1 env_ok (by rfl) (by rfl) (fun ρ w' hρ hSat => ⟨?_, gr_nil hSat.gr⟩)
    rfl
  ·refine good_next env_ok hA rfl rfl 400 ?_
   conv => arg 3; cbv
   repeat (simp only [F]; try (conv => arg 3; cbv))
   refine good_below (.one (.val (.bool false))) trivial goes_light (fun ρ w' hρ hSat => ?_) ?_
   ·simp only [List.map, concV, conc1]
    have hh := light_any Al ll cl' w'
    rw [decide_eq_false h150] at hh
    exact hh
   refine good_next env_ok hA rfl rfl 400 ?_
   conv => arg 3; cbv
   repeat (simp only [F]; try (conv => arg 3; cbv))
   refine good_ret1 env_ok (by rfl) (by rfl) (fun ρ w' hρ hSat => ⟨?_, gr_nil hSat.gr⟩)
   rfl
end Go.Proofs.YtcgcfeablbjnaaaGreatDoor
namespace Go.Proofs.YtcgcfeablbjnaaaGreatDoor
open Go.RowKit Eng
set_option maxRecDepth 100000
set_option linter.unusedSimpArgs false
set_option linter.unusedVariables false
set_option maxHeartbeats 4000000 in
theorem lawFormats_nil (Ar : Option Addr) (cr : Nat) (ra : List ActD) (Al : Option Addr) (cl' : Nat) (l : List Int) (pk : Bool) (Am : Option Addr) (cm : Nat) (m : List Int) (w : World) (he : Env w) (hnum : ∀ a ∈ ra, ∀ k, -9223372036854775808 ≤ a.num k ∧ a.num k ≤ 9223372036854775807) (hcap : ra.length ≤ cr) (hpos : ra.length = 0)
 (hR : Rd w w.heap.size Ar (actsCells ra)) (hRl : Rd w w.heap.size Al (l.map iv)) (hRm : Rd w w.heap.size Am (m.map iv)) :
 Calls Tryz.prog 3 #[.slice Ar ra.length cr, .slice Al l.length cl', .bool pk, .slice Am m.length cm] w fun e w' => e = .returned (.bool true) ∧ Below w.heap.size w w' := by
 obtain ⟨ll, hll⟩ : ∃ q, q = l.length := ⟨_, rfl⟩
 obtain ⟨ml, hml⟩ : ∃ q, q = m.length := ⟨_, rfl⟩
 obtain ⟨rl, hrl⟩ : ∃ q, q = ra.length := ⟨_, rfl⟩
 obtain ⟨A, hA⟩ : ∃ A, A = std := ⟨_, rfl⟩
 obtain ⟨rli, hrli⟩ : ∃ q, q = Int.ofNat rl := ⟨_, rfl⟩
 have F : A.not true = false ∧ A.not false = true ∧ A.len rl = rli := by
  rw [hA, hrli]
  exact ⟨rfl, rfl, rfl⟩
 refine good_enter (E := ⟨Tryz.prog, tabaT, ords3, Tryz.f3, w, [], [(0, 0)], fun _ _ _ => False⟩) env_ok (c := bodyOf Tryz.f3) (n := 0) Tryz.func3 rfl (show codeChk ords3 (bodyOf Tryz.f3) = true by decide +kernel) (rho [(0, 0)]) (fun h p hp => rho_eq _ h p hp)
  (tm := [.one (.val (.slice Ar rl cr)), .one (.val (.slice Al ll cl')), .one (.val (.bool pk)), .one (.val (.slice Am ml cm))] ++ List.replicate 110 (.one (.val undef))) (mem := [.dead]) (Nat.le_refl _) ?_ ?_ (by rw [hll, hml, hrl]; rfl) ?_
 ·exact (sat_nil w [] (rho [(0, 0)])).addB (b := .dead) (p := (0, 0)) (fun h hh => rfl) rfl trivial trivial (fun h => by cases h) (fun h => by cases h) (fun h c hc _ => by simp at hc)
 ·simp [SV.ok, S1.ok]
 ·refine good_next env_ok hA rfl rfl 400 ?_
  conv => arg 3; cbv
  repeat (simp only [F]; try (conv => arg 3; cbv))
  refine good_below (.one (.val (.bool true))) trivial goes_awake44 (fun ρ w' hρ hSat => ?_) ?_
  ·exact awake_any w' (he.below (below_all (gr_nil hSat.gr)))
  by_cases h150 : (ll : Int) ≤ 150
  ·refine good_next env_ok hA rfl rfl 400 ?_
   conv => arg 3; cbv
   repeat (simp only [F]; try (conv => arg 3; cbv))
   refine good_below (.one (.val (.bool true))) trivial goes_light (fun ρ w' hρ hSat => ?_) ?_
   ·simp only [List.map, concV, conc1]
    have hh := light_any Al ll cl' w'
    rw [decide_eq_true h150] at hh
    exact hh
   by_cases h151 : (ml : Int) ≤ 150
   ·refine good_next env_ok hA rfl rfl 400 ?_
    conv => arg 3; cbv
    repeat (simp only [F]; try (conv => arg 3; cbv))
    refine good_below (.one (.val (.bool true))) trivial goes_light (fun ρ w' hρ hSat => ?_) ?_
    ·simp only [List.map, concV, conc1]
     have hh := light_any Am ml cm w'
     rw [decide_eq_true h151] at hh
     exact hh
    by_cases h60 : 60 < rli
    ·have b0 : A.lt 60 rli = true := by rw [hA]; exact decide_eq_true h60
     refine good_next env_ok hA rfl rfl 400 ?_
     conv => arg 3; cbv
     repeat (simp only [F, b0]; try (conv => arg 3; cbv))
     refine good_ret1 env_ok (by rfl) (by rfl) (fun ρ w' hρ hSat => ⟨?_, gr_nil hSat.gr⟩)
     rfl
    ·have b0 : A.lt 60 rli = false := by rw [hA]; exact decide_eq_false h60
     have hrl60 : rl ≤ 60 := by have e : rli = (rl : Int) := hrli; omega
     have hl1000 : l.length ≤ 1000 := by omega
     have hm1000 : m.length ≤ 1000 := by omega
     refine good_next env_ok hA rfl rfl 400 ?_
     conv => arg 3; cbv
     repeat (simp only [F, b0]; try (conv => arg 3; cbv))
     refine good_loopC 1 (α := { i : Nat // i ≤ rl ∧ ∀ (j : Nat) a, j < i → ra[j]? = some a → a.key.length ≤ 300 ∧ a.value.length ≤ 300 }) [8, 9, 38, 39, 40, 41, 42, 43, 44, 45, 46, 47, 48, 49, 50, 51, 52, 53, 54, 55, 56, 57, 58, 59] (fun x => [(38, .one (.val (.int .i64 (Int.ofNat x.1))))]) (fun x => rl - x.1) ⟨0, Nat.zero_le _, fun j a hj => by omega⟩ ?_ (fun x y hy => mem1_ok hy trivial) rfl (fun x L' hok hL1 hL2 => ?_)
     ·cbv
      simp
     ·obtain ⟨i, hile, hprev⟩ := x
      dsimp only
      obtain ⟨n1, hn1⟩ : ∃ q, q = i + 1 := ⟨_, rfl⟩
      by_cases hi : i < rl
      ·exact absurd hi (by omega)
      ·have q1 : A.lt (Int.ofNat i) rli = false := by rw [hA, hrli]; simp [std]; omega
       obtain rfl : rl = i := by omega
       have hsm := hprev
       refine good_next env_ok hA rfl rfl 400 ?_
       conv => arg 3; cbv
       repeat (simp only [F, q1]; try (conv => arg 3; cbv))
       have hM0 : ∀ n, MB.ok n (.dead) := fun _ => trivial
       refine good_configs hll hl1000 hRl rfl (fun c hh czl ccl ctl cvl crl col ok hczl hccl hctl hcvl hcrl hcol => ?_)
       refine good_next env_ok hA rfl rfl 400 ?_
       conv => arg 3; cbv
       repeat (simp only [F]; try (conv => arg 3; cbv))
       refine good_acts hml hm1000 hRm ok hczl hccl hctl hcvl hcrl hcol rfl (fun acts Aa ca na mb q hmbok hmill h70 hna hAt1 hAt => ?_)
       refine good_next env_ok hA rfl rfl 400 ?_
       conv => arg 3; cbv
       repeat (simp only [F]; try (conv => arg 3; cbv))
       obtain ⟨LV, hLV⟩ : ∃ q : Nat → List Value, q = fun n => [Value.slice Ar rl cr, .slice Aa na ca] ++ (List.range n).map (fun j => Value.slice (Ar.map (·.add (j * 11))) 1 (cr - j)) := ⟨_, rfl⟩
       obtain ⟨N, hN⟩ : ∃ q : Nat → Nat, q = fun n => 2 + n := ⟨_, rfl⟩
       have okM : ∀ x, ∀ b ∈ ([.dead, mb, .dead, .grow 22 1 (N x) (LV x)] : List MB), b.ok 4 := fun x b hb => by
        simp only [List.mem_cons, List.not_mem_nil, or_false] at hb
        rcases hb with rfl | rfl | rfl | rfl
        ·exact hM0 _
        ·rcases hmbok with rfl | ⟨_, rfl⟩ <;> trivial
        ·trivial
        ·trivial
       refine good_growS 11 2 (z := 1) rfl rfl rfl rfl ?_
       conv => arg 3; cbv
       refine good_loop 2 (α := { i : Nat // i ≤ rl }) [11, 12, 67, 70, 71, 72, 73, 74, 75, 76, 77, 78, 79, 80, 81] (fun x => [(11, .one (.gsl 3 (N x.1))), (70, .one (.val (.int .i64 (Int.ofNat x.1))))]) (fun x => [.dead, mb, .dead, .grow 22 1 (N x.1) (LV x.1)]) (fun x => rl - x.1) ⟨0, Nat.zero_le _⟩ ?_ ?_ (fun x => rfl) (fun x y hy => ?_) rfl (fun x L' hL1 hL2 => ?_)
       ·dsimp only
        rw [show N 0 = 2 by rw [hN]]
        cbv
        simp
       ·dsimp only
        rw [show N 0 = 2 by rw [hN], show LV 0 = [Value.slice Ar rl cr, .slice Aa na ca] by rw [hLV]; simp]
       ·simp only [List.mem_cons, List.not_mem_nil, or_false] at hy
        rcases hy with rfl | rfl <;> simp [SV.ok, S1.ok]
       ·obtain ⟨i, hile⟩ := x
        dsimp only
        obtain ⟨n1, hn1⟩ : ∃ q, q = i + 1 := ⟨_, rfl⟩
        by_cases hi : i < rl
        ·exact absurd hi (by omega)
        ·have q1 : A.lt (Int.ofNat i) rli = false := by rw [hA, hrli]; simp [std]; omega
         obtain rfl : rl = i := by omega
         refine good_next env_ok hA rfl rfl 400 ?_
         conv => arg 3; cbv
         repeat (simp only [F, q1]; try (conv => arg 3; cbv))
         obtain ⟨NN, hNN⟩ : ∃ q, q = N rl := ⟨_, rfl⟩
         obtain ⟨LL, hLL⟩ : ∃ q, q = LV rl := ⟨_, rfl⟩
         obtain ⟨NI, hNI⟩ : ∃ q, q = Int.ofNat NN := ⟨_, rfl⟩
         have hNv : NN = 2 + rl := by rw [hNN, hN]
         have q9 : A.len NN = NI := by rw [hA, hNI]; rfl
         have hel := lists_at (cr := cr) (ca := ca) hrl hna (act_small hnum (fun j a hj h => hsm j a (by omega) h)) (fun a ha => (mill_small (hmill a ha)).ok) hrl60 h70 hR hAt
         rw [← hNN, ← hLL]
         refine good_open 3 rfl rfl (by omega) (fun cc rr hcc hrr => ?_)
         obtain ⟨LR, hLR⟩ : ∃ q, q = LL ++ rr := ⟨_, rfl⟩
         rw [← hLR]
         rw [show mapBs (opn 3 (len [.dead, mb, .dead, .grow 22 1 NN LL]) cc) (setAt [.dead, mb, .dead, .grow 22 1 NN LL] 3 .dead) = [.dead, mb, .dead, .dead] by rcases hmbok with rfl | ⟨_, rfl⟩ <;> rfl]
         conv => arg 3; cbv
         repeat (simp only [q9]; try (conv => arg 3; cbv))
         refine good_loopC 3 (α := { i : Nat // i ≤ NN }) [8, 14, 15, 16, 17, 18, 84, 85, 86, 87, 88, 89, 90, 91, 92, 93, 94, 95, 96, 97, 98, 99, 100, 101, 102, 103, 104, 105, 106] (fun x => [(84, .one (.val (.int .i64 (Int.ofNat x.1))))]) (fun x => NN - x.1) ⟨0, Nat.zero_le _⟩ ?_ (fun x y hy => mem1_ok hy trivial) rfl (fun x L' hok hL1 hL2 => ?_)
         ·cbv
          simp
         ·obtain ⟨i, hile⟩ := x
          dsimp only
          obtain ⟨n1, hn1⟩ : ∃ q, q = i + 1 := ⟨_, rfl⟩
          by_cases hi : i < NN
          ·obtain ⟨Ax, x, cx, hx, hxok, hxl, hxr⟩ := hel i (by omega)
           obtain ⟨xl, hxl'⟩ : ∃ q, q = x.length := ⟨_, rfl⟩
           obtain ⟨S, hS⟩ : ∃ q, q = (⟨(formatRes x).1.toArray⟩ : ByteArray) := ⟨_, rfl⟩
           obtain ⟨e, he'⟩ : ∃ q, q = (formatRes x).2 := ⟨_, rfl⟩
           have q1 : A.lt (Int.ofNat i) NI = true := by rw [hA, hNI]; simp [std]; omega
           have q2 : A.add .i64 (Int.ofNat i) 1 = Int.ofNat n1 := by rw [hA, hn1]; exact (wrap64 (by simp; omega) (by simp; omega)).trans (by simp)
           have q3 : A.inb (Int.ofNat i) NN = true := by rw [hA]; simp [std]; omega
           have q4 : A.idx 0 (Int.ofNat i) 1 = i := by rw [hA]; simp [std]
           have q5 : A.get LR i 0 = some (.slice Ax xl cx) := by
            rw [hA, hLR, hLL, hLV, hxl']
            show (_ ++ rr)[i + 0]? = _
            rw [Nat.add_zero, List.getElem?_append_left (by have := (List.getElem?_eq_some_iff.1 hx).1; exact this)]
            exact hx
           have q6 : A.seq S S = true := by rw [hA]; simp [std]
           have q7 : A.eq e e = true := by rw [hA]; simp [std]
           refine good_next env_ok hA rfl rfl 400 ?_
           conv => arg 3; cbv
           repeat (simp only [F, q1, q3, q4, q5]; try (conv => arg 3; cbv))
           refine good_below (.tup [.one (.val (.string S)), .one (.val (.int .i64 e))]) (by simp [SV.ok, TV.ok, S1.ok]) goes_format44 (fun ρ w' hρ hSat => ?_) ?_
           ·simp only [List.map, concV, conc1, hxl', hS, he']
            exact format_any Ax cx x w' (he.below (below_all (gr_nil hSat.gr))) hxok hxl (hxr ρ w' _ (hρ 1 q rfl) hSat)
           refine good_next env_ok hA rfl rfl 400 ?_
           conv => arg 3; cbv
           repeat (simp only [F]; try (conv => arg 3; cbv))
           refine good_below (.tup [.one (.val (.string S)), .one (.val (.int .i64 e))]) (by simp [SV.ok, TV.ok, S1.ok]) goes_rformat44 (fun ρ w' hρ hSat => ?_) ?_
           ·simp only [List.map, concV, conc1, hxl', hS, he']
            exact rformat_any Ax cx x w' hxok hxl (hxr ρ w' _ (hρ 1 q rfl) hSat)
           refine good_next env_ok hA rfl rfl 400 ?_
           conv => arg 3; cbv
           repeat (simp only [F, q2, q6, q7]; try (conv => arg 3; cbv))
           intro ρ w' a' hρ hl H htm ha' hit
           refine hL2 a' w' ⟨⟨n1, by omega⟩, ⟨ρ, hρ, H.take (ex := []) hok, subP_rel ?_ ha'⟩, ?_⟩
           ·cbv
            simp
           ·dsimp only
            omega
          ·have q1 : A.lt (Int.ofNat i) NI = false := by rw [hA, hNI]; simp [std]; omega
           obtain ⟨S, hS⟩ : ∃ q, q = (⟨(acts.flatMap lineText).toArray⟩ : ByteArray) := ⟨_, rfl⟩
           have q7 : A.eq 0 0 = true := by rw [hA]; simp [std]
           refine good_next env_ok hA rfl rfl 400 ?_
           conv => arg 3; cbv
           repeat (simp only [F, q1]; try (conv => arg 3; cbv))
           refine good_below (.tup [.one (.val (.string S)), .one (.val (.int .i64 0))]) (by simp [SV.ok, TV.ok, S1.ok]) goes_format44 (fun ρ w' hρ hSat => ?_) ?_
           ·simp only [List.map, concV, conc1, hna, hS]
            have hf := format_any Aa ca acts w' (he.below (below_all (gr_nil hSat.gr))) (fun a ha => (mill_small (hmill a ha)).ok) (by omega) (hAt ρ w' _ (hρ 1 q rfl) hSat)
            rw [mill_format acts h70 hmill] at hf
            exact hf
           refine good_next env_ok hA rfl rfl 400 ?_
           conv => arg 3; cbv
           repeat (simp only [F, q7]; try (conv => arg 3; cbv))
           refine good_ret1 env_ok (by rfl) (by rfl) (fun ρ w' hρ hSat => ⟨?_, gr_nil hSat.gr⟩)
           rfl
   ·refine good_next env_ok hA rfl rfl 400 ?_
    conv => arg 3; cbv
    repeat (simp only [F]; try (conv => arg 3; cbv))
    refine good_below (.one (.val (.bool false))) trivial goes_light (fun ρ w' hρ hSat => ?_) ?_
    ·simp only [List.map, concV, conc1]
     have hh := light_any Am ml cm w'
     rw [decide_eq_false h151] at hh
     exact hh
    refine good_next env_ok hA rfl rfl 400 ?_
    conv => arg 3; cbv
    repeat (simp only [F]; try (conv => arg 3; cbv))
    refine good_ret1 env_ok (by rfl) (by rfl) (fun ρ w' hρ hSat => ⟨?_, gr_nil hSat.gr⟩)
    rfl
  ·refine good_next env_ok hA rfl rfl 400 ?_
   conv => arg 3; cbv
   repeat (simp only [F]; try (conv => arg 3; cbv))
   refine good_below (.one (.val (.bool false))) trivial goes_light (fun ρ w' hρ hSat => ?_) ?_
   ·simp only [List.map, concV, conc1]
    have hh := light_any Al ll cl' w'
    rw [decide_eq_false h150] at hh
    exact hh
   refine good_next env_ok hA rfl rfl 400 ?_
   conv => arg 3; cbv
   repeat (simp only [F]; try (conv => arg 3; cbv))
   refine good_ret1 env_ok (by rfl) (by rfl) (fun ρ w' hρ hSat => ⟨?_, gr_nil hSat.gr⟩)
   rfl
theorem lawFormats (Ar : Option Addr) (cr : Nat) (ra : List ActD) (Al : Option Addr) (cl' : Nat) (l : List Int) (pk : Bool) (Am : Option Addr) (cm : Nat) (m : List Int) (w : World) (he : Env w) (hnum : ∀ a ∈ ra, ∀ k, -9223372036854775808 ≤ a.num k ∧ a.num k ≤ 9223372036854775807) (hcap : ra.length ≤ cr)
 (hR : Rd w w.heap.size Ar (actsCells ra)) (hRl : Rd w w.heap.size Al (l.map iv)) (hRm : Rd w w.heap.size Am (m.map iv)) :
 Calls Tryz.prog 3 #[.slice Ar ra.length cr, .slice Al l.length cl', .bool pk, .slice Am m.length cm] w fun e w' => e = .returned (.bool true) ∧ Below w.heap.size w w' := by
 by_cases h0 : ra.length = 0
 ·exact lawFormats_nil Ar cr ra Al cl' l pk Am cm m w he hnum hcap h0 hR hRl hRm
 ·exact lawFormats_pos Ar cr ra Al cl' l pk Am cm m w he hnum hcap (by omega) hR hRl hRm
end Go.Proofs.YtcgcfeablbjnaaaGreatDoor
