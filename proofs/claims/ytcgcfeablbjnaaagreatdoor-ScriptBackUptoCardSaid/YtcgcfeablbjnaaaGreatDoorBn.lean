/- Parts of the proof that ScriptBack returns true for every input of bulk at most 1048576. -/
import Derived.Test.YtcgcfeablbjnaaaGreatDoorBm
import Derived.Test.YtcgcfeablbjnaaaGreatDoorBc
import Derived.Test.YtcgcfeablbjnaaaGreatDoorBk
import Derived.Test.YtcgcfeablbjnaaaGreatDoorBd
import Derived.Test.YtcgcfeablbjnaaaGreatDoorBf
import Derived.Test.YtcgcfeablbjnaaaGreatDoorBb
import Derived.Test.YtcgcfeablbjnaaaGreatDoorBe
import Derived.Test.YtcgcfeablbjnaaaGreatDoorBg
import Derived.Lib.ConvBytes
import Derived.Laws.BytesArg
import Derived.Laws.IdiomCopy
set_option linter.unusedSimpArgs false
set_option linter.unusedVariables false
set_option maxRecDepth 100000
set_option maxHeartbeats 8000000
namespace Go.Proofs.YtcgcfeablbjnaaaGreatDoor
open Go.RowKit Eng
theorem zc7 : Goes Tryz.prog 6 := zam Tryz.func6 (by kernel_rfl) (by kernel_rfl)
theorem light_any (Ad : Option Addr) (n c : Nat) (w : World) : Calls Tryz.prog 6 #[.slice Ad n c] w fun e w' => e = .returned (.bool (decide ((n : Int) ≤ 150))) ∧ Below w.heap.size w w' := by
 obtain ⟨A, hA⟩ : ∃ A, A = std := ⟨_, rfl⟩
 obtain ⟨ni, hni⟩ := nm ((n : Int))
 obtain ⟨z, hz⟩ := nm (decide ((n : Int) ≤ 150))
 have F : A.len n = ni ∧ A.le ni 150 = z := by
  rw [hA, hni, hz]
  exact ⟨rfl, rfl⟩
 refine zae (E := ⟨Tryz.prog, tabaT, ([] : Ords), Tryz.f6, w, [], [], fun _ _ _ => False⟩) zab (c := bodyOf Tryz.f6) (n := 0) Tryz.func6 rfl (show codeChk ([] : Ords) (bodyOf Tryz.f6) = true by decide +kernel) (rho []) (fun h p hp => zaq _ h p hp)
  (tm := [.one (.val (.slice Ad n c))] ++ List.replicate 5 (.one (.val undef))) (mem := []) (Nat.le_refl _) ?_ ?_ (by rfl) ?_
 ·exact zan w [] _
 ·simp [SV.ok, S1.ok]
 ·refine zaa zab hA rfl rfl 400 ?_
  conv => arg 3; cbv
  repeat (simp only [F]; try (conv => arg 3; cbv))
  refine zak zab (by rfl) (by rfl) (fun ρ w' hρ hSat => ⟨?_, zah hSat.gr⟩)
  rw [← hz]; rfl
theorem goes_packed : Goes Tryz.prog 19 := zam Tryz.func19 (by kernel_rfl) (by kernel_rfl)
theorem goes_kconfig : Goes Tryz.prog 20 := zam Tryz.func20 (by kernel_rfl) (by kernel_rfl)
theorem goes_configs : Goes Tryz.prog 8 := zam Tryz.func8 (by kernel_rfl) (by kernel_rfl)
section
variable {T : List (TypeId × TI)} {D : Ords} {fn : Func} {w0 : World} {ρ0 : List (Nat × Nat)} {L : Nat → Act → World → Prop} {R : Ending → World → Prop} {dst : Option Tmp} {k : List It} {tm : PT} {mem : List MB}
theorem good_packed {Ad : Option Addr} {cp ln : Nat} {l : List Int} (hln : ln = l.length) (hl : l.length ≤ 1000) (hrd : Rd w0 w0.heap.size Ad (l.map iv)) (hk : headW [] k = true)
 (h : ∀ (c : CfgD) (hh : CfgH) czl ccl ctl cvl crl col (v2 : Value) (s3 : StD) (h3 : StH) tl cl, CfgOk c → czl = c.zones.length → ccl = c.cells.length → ctl = c.tens.length → cvl = c.vers.length → crl = c.reps.length → col = c.obs.length → Eng.Good (⟨Tryz.prog, T, D, fn, w0, [], ρ0, L⟩ : Eng.Env) R ⟨k, putE tm dst (.tup [.agg [.val (iv c.regions), .val (.slice hh.az czl hh.kz), .val (.slice hh.ac ccl hh.kc), .val (.slice hh.at_ ctl hh.kt), .val (.slice hh.av cvl hh.kv), .val (.slice hh.ar crl hh.kr), .val (.slice hh.ao col hh.ko), .val (iv c.blast), .val (iv c.lease), .val (iv c.bake)], .one (.val v2), .agg [.val (iv s3.tick), .val (iv s3.count), .val (.slice h3.at_ tl h3.kt), .val (.slice h3.ac cl h3.kc), .val (iv s3.proven), .val (iv s3.evac), .val (iv s3.low), .val (iv s3.high)]]), mem⟩) : Eng.Good (⟨Tryz.prog, T, D, fn, w0, [], ρ0, L⟩ : Eng.Env) R ⟨.call 19 [.one (.val (.slice Ad ln cp))] dst :: k, tm, mem⟩ := by
 refine za3 (α := { q : CfgD × CfgH × Value × StD × StH // CfgOk q.1 }) [] (fun x => .tup [.agg [.val (iv x.1.1.regions), .val (.slice x.1.2.1.az x.1.1.zones.length x.1.2.1.kz), .val (.slice x.1.2.1.ac x.1.1.cells.length x.1.2.1.kc), .val (.slice x.1.2.1.at_ x.1.1.tens.length x.1.2.1.kt), .val (.slice x.1.2.1.av x.1.1.vers.length x.1.2.1.kv), .val (.slice x.1.2.1.ar x.1.1.reps.length x.1.2.1.kr), .val (.slice x.1.2.1.ao x.1.1.obs.length x.1.2.1.ko), .val (iv x.1.1.blast), .val (iv x.1.1.lease), .val (iv x.1.1.bake)], .one (.val x.1.2.2.1), .agg [.val (iv x.1.2.2.2.1.tick), .val (iv x.1.2.2.2.1.count), .val (.slice x.1.2.2.2.2.at_ x.1.2.2.2.1.tens.length x.1.2.2.2.2.kt), .val (.slice x.1.2.2.2.2.ac x.1.2.2.2.1.cells.length x.1.2.2.2.2.kc), .val (iv x.1.2.2.2.1.proven), .val (iv x.1.2.2.2.1.evac), .val (iv x.1.2.2.2.1.low), .val (iv x.1.2.2.2.1.high)]]) (fun x => mem) (fun x => Nat.le_refl _) (fun x h hh _ => rfl) (fun x => by simp [SV.ok, TV.ok, S1.ok]) hk goes_packed (fun ρ w hρ H => ?_) (fun x => h _ _ _ _ _ _ _ _ _ _ _ _ _ x.2 rfl rfl rfl rfl rfl rfl)
 have hb0 : Below w0.heap.size w0 w := zah H.gr
 simp only [List.map, concV, conc1, hln]
 refine (packed_any Ad cp l w hl ((hrd.below hb0).more hb0.size)).mono ?_
 rintro e w' ⟨c, hh, v2, s3, h3, rfl, hM, hb⟩
 exact ⟨⟨(c, hh, v2, s3, h3), hM.ok⟩, ρ, rfl, fun _ _ => rfl, H.below hb⟩
theorem good_kconfig {Ad : Option Addr} {cp ln : Nat} {l : List Int} (hln : ln = l.length) (hl : l.length ≤ 1000) (hrd : Rd w0 w0.heap.size Ad (l.map iv)) (hk : headW [] k = true)
 (h : ∀ (c : CfgD) (hh : CfgH) czl ccl ctl cvl crl col, CfgOk c → czl = c.zones.length → ccl = c.cells.length → ctl = c.tens.length → cvl = c.vers.length → crl = c.reps.length → col = c.obs.length → Eng.Good (⟨Tryz.prog, T, D, fn, w0, [], ρ0, L⟩ : Eng.Env) R ⟨k, putE tm dst (.agg [.val (iv c.regions), .val (.slice hh.az czl hh.kz), .val (.slice hh.ac ccl hh.kc), .val (.slice hh.at_ ctl hh.kt), .val (.slice hh.av cvl hh.kv), .val (.slice hh.ar crl hh.kr), .val (.slice hh.ao col hh.ko), .val (iv c.blast), .val (iv c.lease), .val (iv c.bake)]), mem⟩) : Eng.Good (⟨Tryz.prog, T, D, fn, w0, [], ρ0, L⟩ : Eng.Env) R ⟨.call 20 [.one (.val (.slice Ad ln cp))] dst :: k, tm, mem⟩ := by
 refine za3 (α := { q : CfgD × CfgH // CfgOk q.1 }) [] (fun x => .agg [.val (iv x.1.1.regions), .val (.slice x.1.2.az x.1.1.zones.length x.1.2.kz), .val (.slice x.1.2.ac x.1.1.cells.length x.1.2.kc), .val (.slice x.1.2.at_ x.1.1.tens.length x.1.2.kt), .val (.slice x.1.2.av x.1.1.vers.length x.1.2.kv), .val (.slice x.1.2.ar x.1.1.reps.length x.1.2.kr), .val (.slice x.1.2.ao x.1.1.obs.length x.1.2.ko), .val (iv x.1.1.blast), .val (iv x.1.1.lease), .val (iv x.1.1.bake)]) (fun x => mem) (fun x => Nat.le_refl _) (fun x h hh _ => rfl) (fun x => by simp [SV.ok, TV.ok, S1.ok]) hk goes_kconfig (fun ρ w hρ H => ?_) (fun x => h _ _ _ _ _ _ _ _ x.2 rfl rfl rfl rfl rfl rfl)
 have hb0 : Below w0.heap.size w0 w := zah H.gr
 simp only [List.map, concV, conc1, hln]
 refine (kconfig_any Ad cp l w hl ((hrd.below hb0).more hb0.size)).mono ?_
 rintro e w' ⟨⟨c, hh, hM, rfl, _⟩, hb⟩
 exact ⟨⟨(c, hh), hM⟩, ρ, rfl, fun _ _ => rfl, H.below hb⟩
end
theorem configs_any (Ad : Option Addr) (cp : Nat) (l : List Int) (pk : Bool) (w : World) (hl : l.length ≤ 1000) (hrd : Rd w w.heap.size Ad (l.map iv)) :
 Calls Tryz.prog 8 #[.slice Ad l.length cp, .bool pk] w fun e w' => ∃ c h, CfgOk c ∧ e = .returned (.agg (cfgV c h)) ∧ Below w.heap.size w w' := by
 obtain ⟨ln, hln⟩ := nm (l.length)
 obtain ⟨A, hA⟩ : ∃ A, A = std := ⟨_, rfl⟩
 cases pk
 ·refine zae (E := ⟨Tryz.prog, tabaT, ([] : Ords), Tryz.f8, w, [], [], fun _ _ _ => False⟩) zab (c := bodyOf Tryz.f8) (n := 0) Tryz.func8 rfl (show codeChk ([] : Ords) (bodyOf Tryz.f8) = true by decide +kernel) (rho []) (fun h p hp => zaq _ h p hp)
   (tm := [.one (.val (.slice Ad ln cp)), .one (.val (.bool false))] ++ List.replicate 16 (.one (.val undef))) (mem := []) (Nat.le_refl _) ?_ ?_ (by rw [hln]; rfl) ?_
  ·exact zan w [] _
  ·simp [SV.ok, S1.ok]
  ·refine zaa zab hA rfl rfl 400 ?_
   conv => arg 3; cbv
   refine good_kconfig hln hl hrd rfl (fun c hh czl ccl ctl cvl crl col hM hczl hccl hctl hcvl hcrl hcol => ?_)
   refine zaa zab hA rfl rfl 400 ?_
   conv => arg 3; cbv
   refine zak zab (by rfl) (by rfl) (fun ρ w' hρ hSat => ⟨c, hh, hM, ?_, zah hSat.gr⟩)
   rw [hczl, hccl, hctl, hcvl, hcrl, hcol]
   rfl
 ·refine zae (E := ⟨Tryz.prog, tabaT, ([] : Ords), Tryz.f8, w, [], [], fun _ _ _ => False⟩) zab (c := bodyOf Tryz.f8) (n := 0) Tryz.func8 rfl (show codeChk ([] : Ords) (bodyOf Tryz.f8) = true by decide +kernel) (rho []) (fun h p hp => zaq _ h p hp)
   (tm := [.one (.val (.slice Ad ln cp)), .one (.val (.bool true))] ++ List.replicate 16 (.one (.val undef))) (mem := []) (Nat.le_refl _) ?_ ?_ (by rw [hln]; rfl) ?_
  ·exact zan w [] _
  ·simp [SV.ok, S1.ok]
  ·refine zaa zab hA rfl rfl 400 ?_
   conv => arg 3; cbv
   refine good_packed hln hl hrd rfl (fun c hh czl ccl ctl cvl crl col v2 s3 h3 tl cl hM hczl hccl hctl hcvl hcrl hcol => ?_)
   refine zaa zab hA rfl rfl 400 ?_
   conv => arg 3; cbv
   refine zak zab (by rfl) (by rfl) (fun ρ w' hρ hSat => ⟨c, hh, hM, ?_, zah hSat.gr⟩)
   rw [hczl, hccl, hctl, hcvl, hcrl, hcol]
   rfl
end Go.Proofs.YtcgcfeablbjnaaaGreatDoor
namespace Go.Proofs.YtcgcfeablbjnaaaGreatDoor
open Go.Lib
def WordOk (w : List UInt8) : Prop := w ≠ [] ∧ ∀ b ∈ w, b.toNat < 128 ∧ b ≠ 32 ∧ b ≠ 10
theorem decode_at1 {s : ByteArray} {pos : Nat} {b : UInt8} {r : List UInt8} (h : s.data.toList.drop pos = b :: r) (hb : b.toNat < 128) : Utf8.decode s pos = (b.toNat, 1) := by
 have hlt : pos < s.data.toList.length := by
  refine Decidable.byContradiction fun hn => ?_
  rw [List.drop_eq_nil_of_le (by omega)] at h
  cases h
 have hg : s.data.toList.getD pos 0 = b := by
  rw [List.drop_eq_getElem_cons hlt] at h
  injection h with h1 _
  rw [List.getD_eq_getElem?_getD, List.getElem?_eq_getElem hlt, h1]
  rfl
 rw [decode_N, hg, decodeN_ascii _ _ _ _ _ hb]
theorem drop_lt {s : ByteArray} {pos : Nat} {b : UInt8} {r : List UInt8} (h : s.data.toList.drop pos = b :: r) : pos < s.size := by
 refine Decidable.byContradiction fun hn => ?_
 rw [List.drop_eq_nil_of_le (by simp; omega)] at h
 cases h
theorem drop_next {s : ByteArray} {pos : Nat} {b : UInt8} {r : List UInt8} (h : s.data.toList.drop pos = b :: r) : s.data.toList.drop (pos + 1) = r := by
 rw [← List.drop_drop, h]
 rfl
theorem blank_no {b : UInt8} (h : b ≠ 32) : isBlank b.toNat = false := by
 refine decide_eq_false fun hh => h ?_
 have : b.toNat = 32 := by omega
 exact UInt8.toNat_inj.1 (by rw [this]; rfl)
theorem spans_inW {s : ByteArray} : ∀ (w : List UInt8) {r : List UInt8} {f pos a : Nat} {acc : List (Nat × Nat)}, s.data.toList.drop pos = w ++ r → (∀ b ∈ w, b.toNat < 128 ∧ b ≠ 32) → spansFromP isBlank s (w.length + f) pos (some a) acc = spansFromP isBlank s f (pos + w.length) (some a) acc
 | [], r, f, pos, a, acc, h, _ => by simp
 | b :: w, r, f, pos, a, acc, h, hw => by
   have hb := hw b (by simp)
   have h' : s.data.toList.drop pos = b :: (w ++ r) := h
   rw [show (b :: w).length + f = (w.length + f) + 1 by simp; omega, spansFromP, if_pos (drop_lt h'), decode_at1 h' hb.1]
   simp only [blank_no hb.2]
   rw [if_neg (by simp), spans_inW w (drop_next h') (fun x hx => hw x (by simp [hx]))]
   congr 1
   simp; omega
theorem spans_start {s : ByteArray} {w r : List UInt8} {f pos : Nat} {acc : List (Nat × Nat)} (h : s.data.toList.drop pos = w ++ r) (hne : w ≠ []) (hw : ∀ b ∈ w, b.toNat < 128 ∧ b ≠ 32) : spansFromP isBlank s (w.length + f) pos none acc = spansFromP isBlank s f (pos + w.length) (some pos) acc := by
 cases w with
 | nil => exact absurd rfl hne
 | cons b w =>
   have hb := hw b (by simp)
   have h' : s.data.toList.drop pos = b :: (w ++ r) := h
   rw [show (b :: w).length + f = (w.length + f) + 1 by simp; omega, spansFromP, if_pos (drop_lt h'), decode_at1 h' hb.1]
   simp only [blank_no hb.2]
   rw [if_neg (by simp), spans_inW w (drop_next h') (fun x hx => hw x (by simp [hx]))]
   congr 1
   simp; omega
theorem spans_blank {s : ByteArray} {r : List UInt8} {f pos a : Nat} {acc : List (Nat × Nat)} (h : s.data.toList.drop pos = 32 :: r) : spansFromP isBlank s (f + 1) pos (some a) acc = spansFromP isBlank s f (pos + 1) none (acc ++ [(a, pos)]) := by
 rw [spansFromP, if_pos (drop_lt h), decode_at1 h (by decide)]
 simp only [show isBlank (32 : UInt8).toNat = true by decide]
 rfl
def extOf (s : ByteArray) (x : Nat × Nat) : List UInt8 := (s.extract x.1 x.2).data.toList
theorem ext_word {s : ByteArray} {w r : List UInt8} {pos : Nat} (h : s.data.toList.drop pos = w ++ r) : extOf s (pos, pos + w.length) = w := by
 show (s.extract pos (pos + w.length)).data.toList = w
 rw [ByteArray.data_extract, Array.toList_extract]
 rw [List.extract_eq_take_drop, h, Nat.add_sub_cancel_left]
 simp
theorem spans_words {s : ByteArray} : ∀ (ws : List (List UInt8)) {f pos : Nat} {acc : List (Nat × Nat)}, s.data.toList.drop pos = join ws [32] → (∀ w ∈ ws, w ≠ [] ∧ ∀ b ∈ w, b.toNat < 128 ∧ b ≠ 32) → (join ws [32]).length ≤ f → (closeSpans s (spansFromP isBlank s f pos none acc)).map (extOf s) = acc.map (extOf s) ++ ws
 | [], f, pos, acc, h, _, _ => by
   have hp : ¬ pos < s.size := fun hlt => by
    rw [join_nil, List.drop_eq_nil_iff] at h
    simp at h
    omega
   rw [spansFromP_end _ _ _ _ _ _ hp]
   simp [closeSpans]
 | [w], f, pos, acc, h, hw, hf => by
   rw [join_one] at h hf
   obtain ⟨hne, hb⟩ := hw w (by simp)
   obtain ⟨g, rfl⟩ : ∃ g, f = w.length + g := ⟨f - w.length, by omega⟩
   have h' : s.data.toList.drop pos = w ++ [] := by rw [h, List.append_nil]
   rw [spans_start h' hne hb]
   have hsz : pos + w.length = s.size := by
    have := congrArg List.length h
    simp at this
    have hpos : 0 < w.length := by cases w with | nil => exact absurd rfl hne | cons _ _ => simp
    omega
   rw [spansFromP_end _ _ _ _ _ _ (by omega)]
   simp only [closeSpans, List.map_append, List.map_cons, List.map_nil]
   rw [← hsz, ext_word h']
 | w :: w2 :: r, f, pos, acc, h, hw, hf => by
   have hj : join (w :: w2 :: r) [32] = w ++ 32 :: join (w2 :: r) [32] := by rw [join_cons, join_cons w2]; simp [joinTail]
   rw [hj] at h hf
   obtain ⟨hne, hb⟩ := hw w (by simp)
   obtain ⟨g, rfl⟩ : ∃ g, f = w.length + (g + 1) := ⟨f - w.length - 1, by simp at hf; omega⟩
   rw [spans_start h hne hb]
   have h1 : s.data.toList.drop (pos + w.length) = 32 :: join (w2 :: r) [32] := by rw [← List.drop_drop, h]; simp
   rw [spans_blank h1, spans_words (w2 :: r) (drop_next h1) (fun x hx => hw x (by simp [hx])) (by simp at hf; omega)]
   rw [List.map_append, List.map_cons, List.map_nil, ext_word h]
   simp
theorem words_join {ws : List (List UInt8)} (h : ∀ w ∈ ws, WordOk w) : wordsOf (join ws [32]) = ws := by
 have := spans_words (s := ⟨(join ws [32]).toArray⟩) ws (f := (⟨(join ws [32]).toArray⟩ : ByteArray).size) (pos := 0) (acc := []) (by simp) (fun w hw => ⟨(h w hw).1, fun b hb => ⟨((h w hw).2 b hb).1, ((h w hw).2 b hb).2.1⟩⟩) (by simp [ByteArray.size])
 simp only [List.map_nil, List.nil_append] at this
 rw [wordsOf, goFieldsP, spansOfP, List.map_map]
 exact this
theorem no_nl {ws : List (List UInt8)} (h : ∀ w ∈ ws, WordOk w) : ∀ b ∈ join ws [32], b ≠ 10 := by
 induction ws with
 | nil => simp [join_nil]
 | cons w r ih =>
   intro b hb
   rw [join_cons] at hb
   rcases List.mem_append.1 hb with h1 | h1
   ·exact ((h w (by simp)).2 b h1).2.2
   ·simp only [joinTail, List.mem_flatten, List.mem_map] at h1
    obtain ⟨l, ⟨x, hx, rfl⟩, hl⟩ := h1
    rcases List.mem_append.1 hl with h2 | h2
    ·simp at h2; subst h2; decide
    ·exact ((h x (by simp [hx])).2 b h2).2.2
theorem index_nl : ∀ (l r : List UInt8), (∀ b ∈ l, b ≠ 10) → index (l ++ 10 :: r) [10] = l.length
 | [], r, _ => by simp [index]
 | b :: l, r, h => by
   have hb : b ≠ 10 := h b (by simp)
   have ih := index_nl l r (fun x hx => h x (by simp [hx]))
   rw [List.cons_append, index, if_neg (by simp [Ne.symm hb]), ih, if_neg (by simp)]
   simp
theorem cut_line (l r : List UInt8) (h : ∀ b ∈ l, b ≠ 10) : cut (l ++ 10 :: r) [10] = (l, r, true) := by
 rw [cut, index_nl l r h, if_pos (by omega)]
 simp
theorem dd_word (u : Nat) : ∀ b ∈ decDigits u, 48 ≤ b.toNat ∧ b.toNat ≤ 57 := by
 have := dd_all u
 simp only [allDig, List.all_eq_true, isDig, Bool.and_eq_true, decide_eq_true_eq] at this
 intro b hb
 have := this b hb
 omega
theorem ok_of {b : UInt8} (h : 33 ≤ b.toNat ∧ b.toNat < 128) : b.toNat < 128 ∧ b ≠ 32 ∧ b ≠ 10 := ⟨h.2, fun e => by subst e; simp at h, fun e => by subst e; simp at h⟩
theorem dd_ne (u : Nat) : decDigits u ≠ [] := fun h => by have := decDigits_length u; rw [h] at this; have := nDigits_pos u; simp at *; omega
theorem itoa_word (n : Int) : WordOk (itoa n) := by
 unfold itoa
 split
 ·refine ⟨by simp, fun b hb => ok_of ?_⟩
  rcases List.mem_cons.1 hb with rfl | h1
  ·decide
  ·have := dd_word _ b h1; omega
 ·exact ⟨dd_ne _, fun b hb => ok_of (by have := dd_word _ b hb; omega)⟩
theorem hexD_ok : ∀ d : Fin 16, 33 ≤ (hexD.getD d.val 0).toNat ∧ (hexD.getD d.val 0).toNat < 128 := by decide +kernel
theorem txtOf_word (l : List UInt8) : WordOk (txtOf l) := by
 unfold txtOf
 split
 ·exact ⟨by simp, fun b hb => by simp at hb; subst hb; decide⟩
 ·rename_i hne
  refine ⟨fun h => ?_, fun b hb => ok_of ?_⟩
  ·have := flatHex_len l
   rw [h] at this
   cases l with
   | nil => exact hne rfl
   | cons _ _ => simp at this
  ·rw [List.mem_flatMap] at hb
   obtain ⟨c, _, hc⟩ := hb
   have hlt := c.toNat_lt
   simp only [hexOf, List.mem_cons, List.not_mem_nil, or_false] at hc
   rcases hc with rfl | rfl
   ·exact hexD_ok ⟨c.toNat / 16, by omega⟩
   ·exact hexD_ok ⟨c.toNat % 16, by omega⟩
theorem tab_word : ∀ x ∈ lineTab, x.word ≠ [] ∧ x.word.headD 0 ≠ 35 ∧ ∀ b ∈ x.word, 33 ≤ b.toNat ∧ b.toNat < 128 := by decide +kernel
theorem fld_word (a : ActD) (c : UInt8) : WordOk (fldWord a c) := by
 unfold fldWord
 split
 ·exact itoa_word _
 ·exact txtOf_word _
theorem words_ok {a : ActD} {x : LineK} (hx : x ∈ lineTab) : ∀ w ∈ wordsFor a x, WordOk w := by
 intro w hw
 rcases List.mem_cons.1 hw with rfl | h1
 ·exact ⟨(tab_word x hx).1, fun b hb => ok_of ((tab_word x hx).2.2 b hb)⟩
 ·obtain ⟨c, _, rfl⟩ := List.mem_map.1 h1
  exact fld_word a c
theorem parse_line {a : ActD} (ha : (writeRes a).2 = true) (f n : Nat) (r : List UInt8) (acts : List ActD) : parseL (f + 1) (lineText a ++ r) n acts = if acts.length = 400 then ([], n, 2) else parseL f r (n + 1) (acts ++ [a]) := by
 unfold writeRes at ha
 cases hx : lineTab.find? (lineOf a) with
 | none => rw [hx] at ha; cases ha
 | some x =>
   rw [hx] at ha
   simp only at ha
   have hm := List.mem_of_find?_eq_some hx
   have hr : readAct (wordsFor a x) = some a := by
    cases h : readAct (wordsFor a x) with
    | none => rw [h] at ha; cases ha
    | some b =>
      rw [h] at ha
      have := (zcp a b).1 (by simpa using ha)
      rw [this]
   have hw := words_ok (a := a) hm
   have hl : lineText a ++ r = join (wordsFor a x) [32] ++ 10 :: r := by
    have : (writeRes a).1 = wordsFor a x := by unfold writeRes; rw [hx]
    rw [lineText, this]
    simp
   rw [hl, parseL, if_neg (by simp), cut_line _ _ (no_nl hw)]
   simp only [words_join hw, hr]
   rw [if_pos ⟨by simp [wordsFor], by simpa [wordsFor] using (tab_word x hm).2.1⟩]
theorem line_pos (a : ActD) : 1 ≤ (lineText a).length := by simp [lineText]
theorem parse_lines : ∀ (l : List ActD) (f n : Nat) (acts : List ActD), (∀ a ∈ l, (writeRes a).2 = true) → acts.length + l.length ≤ 400 → (l.flatMap lineText).length ≤ f → parseL f (l.flatMap lineText) n acts = (acts ++ l, n + l.length, 0)
 | [], f, n, acts, _, _, _ => by cases f <;> simp [parseL]
 | a :: l, f, n, acts, h, hl, hf => by
   have hp := line_pos a
   rw [List.flatMap_cons, List.length_append] at hf
   obtain ⟨g, rfl⟩ : ∃ g, f = g + 1 := ⟨f - 1, by omega⟩
   simp at hl
   rw [List.flatMap_cons, parse_line (h a (by simp)), if_neg (by omega), parse_lines l g (n + 1) (acts ++ [a]) (fun b hb => h b (by simp [hb])) (by simp; omega) (by omega)]
   simp
   omega
theorem format_zero {l : List ActD} (h : (formatRes l).2 = 0) : formatRes l = (l.flatMap lineText, 0) ∧ l.length ≤ 400 ∧ (∀ a ∈ l, (writeRes a).2 = true) ∧ (l.flatMap lineText).length ≤ 16384 := by
 unfold formatRes at h ⊢
 split at h
 ·cases h
 ·split at h
  ·split at h
   ·cases h
   ·rename_i h1 h2 h3
    rw [if_neg h1, if_pos h2, if_neg h3]
    exact ⟨rfl, by omega, by simpa using h2, by omega⟩
  ·cases h
theorem parse_format {l : List ActD} (h : (formatRes l).2 = 0) : parseRes (formatRes l).1 = (l, l.length, 0) := by
 obtain ⟨h1, h2, h3, h4⟩ := format_zero h
 rw [h1]
 show parseRes (l.flatMap lineText) = _
 rw [parseRes, if_neg (by omega), parse_lines l _ 0 [] h3 (by simpa using h2) (Nat.le_refl _)]
 simp
theorem numRes_bd {l : List UInt8} {n : Int} (h : numRes l = some n) : -999999999 ≤ n ∧ n ≤ 999999999 := by
 unfold numRes at h
 split at h
 ·cases h; omega
 ·split at h
  ·cases h
  ·rename_i h1
   split at h
   ·rename_i h2
    have hb := decVal_bd _ (trimPrefix l [45]) rfl h2
    have hp : (10 : Int) ^ (trimPrefix l [45]).length ≤ 10 ^ 9 := by
     have : (10 : Nat) ^ (trimPrefix l [45]).length ≤ 10 ^ 9 := Nat.pow_le_pow_right (by omega) (by omega)
     exact_mod_cast this
    have h9 : (10 : Int) ^ 9 = 1000000000 := by decide
    have h' := Option.some.inj h
    subst h'
    split <;> omega
   ·cases h
theorem setNum_num {x : ActD} {k : Nat} {n : Int} (hk : k = 1 ∨ k = 2 ∨ k = 3 ∨ k = 4 ∨ k = 5 ∨ k = 6 ∨ k = 8) : (x.setNum k n).num k = n := by
 rcases hk with rfl | rfl | rfl | rfl | rfl | rfl | rfl <;> rfl
theorem setTxt_txt {x : ActD} {k : Nat} {l : List UInt8} (hk : k = 9 ∨ k = 10) : (x.setTxt k l).txt k = l := by
 rcases hk with rfl | rfl <;> rfl
def cellOf (c : UInt8) : Nat := match numCell c.toNat with | some k => k | none => txtCell c.toNat
theorem step_other {x y : ActD} {c : UInt8} {wd : List UInt8} (h : readStep x c wd = some y) : y.kind = x.kind ∧ y.op = x.op ∧ (∀ k, k = 1 ∨ k = 2 ∨ k = 3 ∨ k = 4 ∨ k = 5 ∨ k = 6 ∨ k = 8 → k ≠ cellOf c → y.num k = x.num k) ∧ ∀ k, k = 9 ∨ k = 10 → k ≠ cellOf c → y.txt k = x.txt k := by
 unfold readStep at h
 unfold cellOf
 cases hn : numCell c.toNat with
 | some j =>
   rw [hn] at h
   simp only [Option.map_eq_some_iff] at h
   obtain ⟨n, _, rfl⟩ := h
   have hj := numCell_in hn
   refine ⟨?_, ?_, fun k hk hkj => ?_, fun k hk hkj => ?_⟩
   ·rcases hj with rfl | rfl | rfl | rfl | rfl | rfl | rfl <;> rfl
   ·rcases hj with rfl | rfl | rfl | rfl | rfl | rfl | rfl <;> rfl
   ·rcases hj with rfl | rfl | rfl | rfl | rfl | rfl | rfl <;> rcases hk with rfl | rfl | rfl | rfl | rfl | rfl | rfl <;> first | rfl | exact absurd rfl hkj
   ·rcases hj with rfl | rfl | rfl | rfl | rfl | rfl | rfl <;> rcases hk with rfl | rfl <;> rfl
 | none =>
   rw [hn] at h
   simp only [Option.map_eq_some_iff] at h
   obtain ⟨n, _, rfl⟩ := h
   have hj := txtCell_in (c.toNat : Int)
   refine ⟨?_, ?_, fun k hk hkj => ?_, fun k hk hkj => ?_⟩
   ·unfold ActD.setTxt; split <;> rfl
   ·unfold ActD.setTxt; split <;> rfl
   ·unfold ActD.setTxt; split <;> rfl
   ·rcases hj with hj | hj <;> rw [hj] at hkj ⊢ <;> rcases hk with rfl | rfl <;> first | rfl | exact absurd rfl hkj
theorem fields_other : ∀ {cs : List UInt8} {ws : List (List UInt8)} {x y : ActD}, readFields cs ws x = some y → y.kind = x.kind ∧ y.op = x.op ∧ (∀ k, k = 1 ∨ k = 2 ∨ k = 3 ∨ k = 4 ∨ k = 5 ∨ k = 6 ∨ k = 8 → (∀ c ∈ cs, k ≠ cellOf c) → y.num k = x.num k) ∧ ∀ k, k = 9 ∨ k = 10 → (∀ c ∈ cs, k ≠ cellOf c) → y.txt k = x.txt k
 | [], _, x, y, h => by simp only [readFields, Option.some.injEq] at h; subst h; exact ⟨rfl, rfl, fun _ _ _ => rfl, fun _ _ _ => rfl⟩
 | _ :: _, [], _, _, h => by simp [readFields] at h
 | c :: cs, wd :: ws, x, y, h => by
   rw [readFields, Option.bind_eq_some_iff] at h
   obtain ⟨z, hz, hy⟩ := h
   obtain ⟨a1, a2, a3, a4⟩ := step_other hz
   obtain ⟨b1, b2, b3, b4⟩ := fields_other hy
   exact ⟨b1.trans a1, b2.trans a2, fun k hk hc => (b3 k hk fun d hd => hc d (by simp [hd])).trans (a3 k hk (hc c (by simp))), fun k hk hc => (b4 k hk fun d hd => hc d (by simp [hd])).trans (a4 k hk (hc c (by simp)))⟩
theorem fields_fill : ∀ {cs : List UInt8} {ws : List (List UInt8)} {x y : ActD}, (cs.map cellOf).Nodup → readFields cs ws x = some y → rangesOk y cs = true ∧ fillOf y cs x = y
 | [], _, x, y, _, h => by simp only [readFields, Option.some.injEq] at h; subst h; exact ⟨rfl, rfl⟩
 | _ :: _, [], _, _, _, h => by simp [readFields] at h
 | c :: cs, wd :: ws, x, y, hnd, h => by
   rw [readFields, Option.bind_eq_some_iff] at h
   obtain ⟨z, hz, hy⟩ := h
   rw [List.map_cons, List.nodup_cons] at hnd
   obtain ⟨i1, i2⟩ := fields_fill hnd.2 hy
   obtain ⟨_, _, b3, b4⟩ := fields_other hy
   have hcs : ∀ d ∈ cs, cellOf c ≠ cellOf d := fun d hd e => hnd.1 (by rw [e]; exact List.mem_map.2 ⟨d, hd, rfl⟩)
   unfold readStep at hz
   cases hn : numCell c.toNat with
   | some k =>
     have hk := numCell_in hn
     have hc : cellOf c = k := by unfold cellOf; rw [hn]
     rw [hn] at hz
     simp only [Option.map_eq_some_iff] at hz
     obtain ⟨n, hnum, rfl⟩ := hz
     have hv : y.num k = n := (b3 k hk fun d hd => by rw [← hc]; exact hcs d hd).trans (setNum_num hk)
     have hbd := numRes_bd hnum
     refine ⟨?_, ?_⟩
     ·have : rangesOk y (c :: cs) = ((decide (-999999999 ≤ y.num k) && decide (y.num k ≤ 999999999)) && rangesOk y cs) := by simp [rangesOk, hn]
      rw [this, i1, hv]
      simp [hbd.1, hbd.2]
     ·rw [fillOf]
      simp only [hn, hv]
      exact i2
   | none =>
     have hk := txtCell_in (c.toNat : Int)
     have hc : cellOf c = txtCell c.toNat := by unfold cellOf; rw [hn]
     rw [hn] at hz
     simp only [Option.map_eq_some_iff] at hz
     obtain ⟨n, hnum, rfl⟩ := hz
     have hv : y.txt (txtCell c.toNat) = n := (b4 _ hk fun d hd => by rw [← hc]; exact hcs d hd).trans (setTxt_txt hk)
     refine ⟨?_, ?_⟩
     ·have : rangesOk y (c :: cs) = rangesOk y cs := by simp [rangesOk, hn]
      rw [this, i1]
     ·rw [fillOf]
      simp only [hn, hv]
      exact i2
theorem letters_nodup : ∀ x ∈ lineTab, (x.letters.map cellOf).Nodup := by decide +kernel
theorem kinds_uniq : ∀ x ∈ lineTab, (lineTab.find? fun y => decide (y.kind = x.kind) && decide (y.op = x.op)).map (fun y => (y.word, y.letters)) = some (x.word, x.letters) := by decide +kernel
theorem read_writes {ws : List (List UInt8)} {a : ActD} (h : readAct ws = some a) : (writeRes a).2 = true := by
 unfold readAct at h
 cases hx : lineTab.find? (lineFits ws) with
 | none => rw [hx] at h; cases h
 | some x =>
   rw [hx] at h
   have hm := List.mem_of_find?_eq_some hx
   obtain ⟨h1, h2, _, _⟩ := fields_other h
   obtain ⟨h3, h4⟩ := fields_fill (letters_nodup x hm) h
   have e : lineOf a = fun y => decide (y.kind = x.kind) && decide (y.op = x.op) := by
    funext y
    unfold lineOf
    rw [h1, h2]
   have hu := kinds_uniq x hm
   rw [writeRes_eq, e]
   cases hf : lineTab.find? (fun y => decide (y.kind = x.kind) && decide (y.op = x.op)) with
   | none => rw [hf] at hu; cases hu
   | some y =>
     rw [hf] at hu
     have hq := List.find?_some hf
     simp only [Bool.and_eq_true, decide_eq_true_eq] at hq
     have hl : y.letters = x.letters := by
      have := Option.some.inj hu
      exact congrArg Prod.snd this
     simp only [hl, hq.1, hq.2, h3, h4, Bool.true_and]
     exact (zcp a a).2 rfl
theorem parseL_reads : ∀ (f : Nat) (t : List UInt8) (n : Nat) (acts : List ActD), (∀ a ∈ acts, (writeRes a).2 = true) → acts.length ≤ 400 → (∀ a ∈ (parseL f t n acts).1, (writeRes a).2 = true) ∧ (parseL f t n acts).1.length ≤ 400
 | 0, t, n, acts, h, hl => ⟨h, hl⟩
 | f + 1, t, n, acts, h, hl => by
   rw [parseL]
   split
   ·exact ⟨h, hl⟩
   ·split
    ·split
     ·exact ⟨by simp, by simp⟩
     ·rename_i a ha
      split
      ·exact ⟨by simp, by simp⟩
      ·refine parseL_reads f _ _ _ (fun b hb => ?_) (by simp; omega)
       rcases List.mem_append.1 hb with h1 | h1
       ·exact h b h1
       ·obtain rfl : b = a := by simpa using h1
        exact read_writes ha
    ·exact parseL_reads f _ _ _ h hl
theorem format_parse (t : List UInt8) : (formatRes (parseRes t).1).2 = 0 ∨ (formatRes (parseRes t).1).2 = 2 := by
 have h : (∀ a ∈ (parseRes t).1, (writeRes a).2 = true) ∧ (parseRes t).1.length ≤ 400 := by
  unfold parseRes
  split
  ·exact ⟨by simp, by simp⟩
  ·exact parseL_reads _ _ _ _ (by simp) (by simp)
 unfold formatRes
 rw [if_neg (by omega), if_pos (by simpa using h.1)]
 split
 ·exact .inr rfl
 ·exact .inl rfl
theorem pairsTo_len (l : List UInt8) (n : Nat) : (pairsTo l n).length = n := by simp [pairsTo]
theorem txtRes_len {l r : List UInt8} (h : txtRes l = some r) : r.length ≤ l.length := by
 unfold txtRes at h
 repeat' split at h
 all_goals first
  | (cases h; done)
  | (cases h; exact Nat.zero_le _)
  | (cases h; rw [pairsTo_len]; omega)
structure ActIn (M : Nat) (a : ActD) : Prop where
 num : ∀ x ∈ [a.a, a.b, a.n, a.tenant, a.client, a.number, a.item], -999999999 ≤ x ∧ x ≤ 999999999
 key : a.key.length ≤ M
 value : a.value.length ≤ M
theorem ActIn.nums {M : Nat} {a : ActD} (h : ActIn M a) (k : Nat) : -999999999 ≤ a.num k ∧ a.num k ≤ 999999999 := by
 have h1 := h.num
 unfold ActD.num
 repeat' split
 all_goals exact h1 _ (by simp)
theorem ActIn.set {M : Nat} {a : ActD} (h : ActIn M a) {k : Nat} {n : Int} (hn : -999999999 ≤ n ∧ n ≤ 999999999) : ActIn M (a.setNum k n) := by
 obtain ⟨h1, h2, h3⟩ := h
 unfold ActD.setNum
 repeat' split
 all_goals
  refine ⟨fun x hx => ?_, h2, h3⟩
  simp only [List.mem_cons, List.not_mem_nil, or_false] at hx
  rcases hx with rfl | rfl | rfl | rfl | rfl | rfl | rfl <;> first | exact hn | exact h1 _ (by simp)
theorem ActIn.setT {M : Nat} {a : ActD} (h : ActIn M a) {k : Nat} {l : List UInt8} (hl : l.length ≤ M) : ActIn M (a.setTxt k l) := by
 obtain ⟨h1, h2, h3⟩ := h
 unfold ActD.setTxt
 split
 ·exact ⟨h1, hl, h3⟩
 ·exact ⟨h1, h2, hl⟩
theorem fields_ok {M : Nat} : ∀ {cs : List UInt8} {ws : List (List UInt8)} {x y : ActD}, readFields cs ws x = some y → ActIn M x → (∀ w ∈ ws, w.length ≤ M) → ActIn M y
 | [], _, x, y, h, hx, _ => by simp only [readFields, Option.some.injEq] at h; subst h; exact hx
 | _ :: _, [], _, _, h, _, _ => by simp [readFields] at h
 | c :: cs, wd :: ws, x, y, h, hx, hw => by
   rw [readFields, Option.bind_eq_some_iff] at h
   obtain ⟨z, hz, hy⟩ := h
   refine fields_ok hy ?_ fun w h => hw w (by simp [h])
   unfold readStep at hz
   cases hn : numCell c.toNat with
   | some k =>
     rw [hn] at hz
     simp only [Option.map_eq_some_iff] at hz
     obtain ⟨n, hnum, rfl⟩ := hz
     exact hx.set (numRes_bd hnum)
   | none =>
     rw [hn] at hz
     simp only [Option.map_eq_some_iff] at hz
     obtain ⟨n, hnum, rfl⟩ := hz
     exact hx.setT (Nat.le_trans (txtRes_len hnum) (hw wd (by simp)))
theorem readAct_ok {M : Nat} {ws : List (List UInt8)} {a : ActD} (h : readAct ws = some a) (hw : ∀ w ∈ ws, w.length ≤ M) : ActIn M a := by
 unfold readAct at h
 split at h
 ·refine fields_ok h ⟨fun k hk => ?_, Nat.zero_le _, Nat.zero_le _⟩ fun w hh => hw w (List.mem_of_mem_tail hh)
  simp [ActD.zero] at hk
  omega
 ·cases h
theorem wordsOf_len (l : List UInt8) : ∀ w ∈ wordsOf l, w.length ≤ l.length := fun w hw => by
 unfold wordsOf at hw
 obtain ⟨s, hs, rfl⟩ := List.mem_map.1 hw
 have h1 := (fields_in _ _ s hs).2
 have e1 : (⟨l.toArray⟩ : ByteArray).size = l.length := by show l.toArray.size = _; simp
 have e2 : s.data.toList.length = s.size := by show _ = s.data.size; simp
 omega
theorem parseL_ok {M : Nat} : ∀ (f : Nat) (t : List UInt8) (n : Nat) (acts : List ActD), (∀ a ∈ acts, ActIn M a) → t.length ≤ M → ∀ a ∈ (parseL f t n acts).1, ActIn M a
 | 0, t, n, acts, h, _ => h
 | f + 1, t, n, acts, h, ht => by
   rw [parseL]
   split
   ·exact h
   ·rename_i hne
    have hc := cut_shorter t hne
    split
    ·split
     ·simp
     ·rename_i a ha
      split
      ·simp
      ·refine parseL_ok f _ _ _ (fun b hb => ?_) (by omega)
       rcases List.mem_append.1 hb with h1 | h1
       ·exact h b h1
       ·obtain rfl : b = a := by simpa using h1
        exact readAct_ok ha fun w hw => by have := wordsOf_len _ w hw; omega
    ·exact parseL_ok f _ _ _ h (by omega)
theorem parse_ok (t : List UInt8) : ∀ a ∈ (parseRes t).1, ActOk a := fun a ha => by
 unfold parseRes at ha
 split at ha
 ·simp at ha
 ·have h := parseL_ok (M := 16384) t.length t 0 [] (by simp) (by omega) a ha
  exact ⟨fun k => by have := h.nums k; omega, by have := h.key; omega, by have := h.value; omega⟩
theorem parse_len (t : List UInt8) : (parseRes t).1.length ≤ 400 := by
 unfold parseRes
 split
 ·simp
 ·exact (parseL_reads _ _ _ _ (by simp) (by simp)).2
end Go.Proofs.YtcgcfeablbjnaaaGreatDoor
namespace Go.Proofs.YtcgcfeablbjnaaaGreatDoor
open Go.RowKit Eng
theorem goes_acts44 : Goes Tryz.prog 7 := zam Tryz.func7 (by kernel_rfl) (by kernel_rfl)
theorem zb5 : Goes Tryz.prog 9 := zam Tryz.func9 (by kernel_rfl) (by kernel_rfl)
theorem goes_awake44 : Goes Tryz.prog 5 := zam Tryz.func5 (by kernel_rfl) (by kernel_rfl)
def ActsAt (w : World) (A : Option Addr) (l : List ActD) : Prop := Rd w w.heap.size A (actsCells l)
theorem sz_of {c : CfgD} (ok : CfgOk c) : CfgSz c := by
 have h1 := ok.tens
 have h2 := ok.cells
 have h3 := ok.regions
 have h4 := ok.vers
 have h5 := ok.reps
 exact ⟨by omega, h2.1, by omega, h3.1, by omega, h4.1, by omega, h5.1, by omega⟩
section
variable {T : List (TypeId × TI)} {D : Ords} {fn : Func} {w0 : World} {p0 : Nat × Nat} {L : Nat → Act → World → Prop} {R : Ending → World → Prop} {dst : Option Tmp} {k : List It} {tm : PT} {m0 : MB}
end
section
variable {T : List (TypeId × TI)} {D : Ords} {fn : Func} {w0 : World} {ρ0 : List (Nat × Nat)} {L : Nat → Act → World → Prop} {R : Ending → World → Prop} {dst : Option Tmp} {k : List It} {tm : PT} {mem : List MB}
theorem good_configs {Ad : Option Addr} {cp ln : Nat} {l : List Int} {pk : Bool} (hln : ln = l.length) (hl : l.length ≤ 1000) (hrd : Rd w0 w0.heap.size Ad (l.map iv)) (hk : headW [] k = true)
 (h : ∀ (c : CfgD) (hh : CfgH) czl ccl ctl cvl crl col, CfgOk c → czl = c.zones.length → ccl = c.cells.length → ctl = c.tens.length → cvl = c.vers.length → crl = c.reps.length → col = c.obs.length → Eng.Good (⟨Tryz.prog, T, D, fn, w0, [], ρ0, L⟩ : Eng.Env) R ⟨k, putE tm dst (.agg [.val (iv c.regions), .val (.slice hh.az czl hh.kz), .val (.slice hh.ac ccl hh.kc), .val (.slice hh.at_ ctl hh.kt), .val (.slice hh.av cvl hh.kv), .val (.slice hh.ar crl hh.kr), .val (.slice hh.ao col hh.ko), .val (iv c.blast), .val (iv c.lease), .val (iv c.bake)]), mem⟩) : Eng.Good (⟨Tryz.prog, T, D, fn, w0, [], ρ0, L⟩ : Eng.Env) R ⟨.call 8 [.one (.val (.slice Ad ln cp)), .one (.val (.bool pk))] dst :: k, tm, mem⟩ := by
 refine za3 (α := { q : CfgD × CfgH // CfgOk q.1 }) [] (fun x => .agg [.val (iv x.1.1.regions), .val (.slice x.1.2.az x.1.1.zones.length x.1.2.kz), .val (.slice x.1.2.ac x.1.1.cells.length x.1.2.kc), .val (.slice x.1.2.at_ x.1.1.tens.length x.1.2.kt), .val (.slice x.1.2.av x.1.1.vers.length x.1.2.kv), .val (.slice x.1.2.ar x.1.1.reps.length x.1.2.kr), .val (.slice x.1.2.ao x.1.1.obs.length x.1.2.ko), .val (iv x.1.1.blast), .val (iv x.1.1.lease), .val (iv x.1.1.bake)]) (fun x => mem) (fun x => Nat.le_refl _) (fun x h hh _ => rfl) (fun x => by simp [SV.ok, TV.ok, S1.ok]) hk goes_configs (fun ρ w hρ H => ?_) (fun x => h _ _ _ _ _ _ _ _ x.2 rfl rfl rfl rfl rfl rfl)
 have hb0 : Below w0.heap.size w0 w := zah H.gr
 simp only [List.map, concV, conc1, hln]
 refine (configs_any Ad cp l pk w hl ((hrd.below hb0).more hb0.size)).mono ?_
 rintro e w' ⟨c, hh, hM, rfl, hb⟩
 exact ⟨⟨(c, hh), hM⟩, ρ, rfl, fun _ _ => rfl, H.below hb⟩
end
theorem actsCells_len (l : List ActD) : (actsCells l).length = l.length * 11 := zbm (fun a : ActD => a.cells.toList) 11 (fun _ => rfl) l
theorem below_all {w w' : World} (h : Below w.heap.size w w') : Below w.heap.size w w' := h
theorem goes_parse44 : Goes Tryz.prog 11 := zam Tryz.func11 (by kernel_rfl) (by kernel_rfl)
section
variable {T : List (TypeId × TI)} {D : Ords} {fn : Func} {w0 : World} {ρ0 : List (Nat × Nat)} {L : Nat → Act → World → Prop} {R : Ending → World → Prop} {dst : Option Tmp} {k : List It} {tm : PT} {mem : List MB}
theorem good_row {f : FuncId} {args : List SV} {α : Type} (wr : α → Value → Value) (ws : α → Value → SV) (hws : ∀ ρ x v, concV ρ (ws x v) = wr x v) (hvok : ∀ x v n, (ws x v).ok n) (acts : α → List ActD) (hk : headW [] k = true) (hgo : Goes Tryz.prog f)
 (hc : ∀ ρ w, (∀ (h : Nat) p, ρ0[h]? = some p → ρ h = p) → Sat w0 [] ρ mem w → Calls Tryz.prog f (args.map (concV ρ)).toArray w fun e w' => ∃ x v, e = .returned (wr x v) ∧ w'.ownsRow w.heap.size 29 11 v (acts x).length (actsCells (acts x)) ∧ Below w.heap.size w w')
 (h : ∀ x (Aa : Option Addr) (ca na : Nat) (mb : MB) (q : Nat × Nat) (ρ1 : List (Nat × Nat)), (mb = .dead ∨ ∃ l, mb = .rsym l) → na = (acts x).length → (∀ (h : Nat) p, ρ0[h]? = some p → ρ1[h]? = some p) → ρ1[mem.length]? = some q → (∀ ρ w (r : List MB), ρ mem.length = q → Sat w0 [] ρ (mem ++ mb :: r) w → ActsAt w Aa (acts x)) → Eng.Good ⟨Tryz.prog, T, D, fn, w0, [], ρ1, L⟩ R ⟨k, putE tm dst (ws x (.slice Aa na ca)), mem ++ [mb]⟩) :
 Eng.Good ⟨Tryz.prog, T, D, fn, w0, [], ρ0, L⟩ R ⟨.call f args dst :: k, tm, mem⟩ := by
 intro ρ w a hρ hlen H htm ha hit
 refine ⟨hgo, (hc ρ w hρ H).mono ?_⟩
 rintro e w' ⟨x, v, rfl, ho, hb⟩
 refine ⟨_, rfl, ?_⟩
 obtain ⟨Aa, ca, rfl⟩ := zas ho
 have key : ∃ (mb : MB) (q : Nat × Nat), (mb = .dead ∨ ∃ l, mb = .rsym l) ∧ Sat w0 [] (ext2 ρ mem.length q) (mem ++ [mb]) w' ∧ ∀ ρ w (r : List MB), ρ mem.length = q → Sat w0 [] ρ (mem ++ mb :: r) w → ActsAt w Aa (acts x) := by
  by_cases h0 : (acts x).length = 0
  ·refine ⟨.dead, (0, 0), .inl rfl, (H.below hb).addB (b := .dead) (p := (0, 0)) (fun h hh => za4 hh) (zau _ _) trivial trivial (fun h => by cases h) (fun h => by cases h) (fun h c _ hk => by rcases hk with ⟨h1, _⟩ | ⟨h1, _⟩ <;> cases h1), fun ρ w r _ _ => ?_⟩
   rw [List.eq_nil_of_length_eq_zero h0]
   exact Rd.nil
  ·rcases ho.2 with ⟨_, h1⟩ | ⟨g, cap, cur, e1, hge, hcur, hle, _, hsz, htk⟩
   ·exact absurd h1 h0
   ·simp only [Value.slice.injEq] at e1
    obtain ⟨rfl, _, rfl⟩ := e1
    have hgl : g < w'.heap.size := (Array.getElem?_eq_some_iff.1 hcur).1
    refine ⟨.rsym (actsCells (acts x)), (g, 0), .inr ⟨_, rfl⟩, (H.below hb).addB (b := .rsym (actsCells (acts x))) (p := (g, 0)) (fun h hh => za4 hh) (zau _ _) (fun j u hu => ?_) trivial (fun h => by cases h) (fun _ => hgl) (fun h c hc hk => ?_), fun ρ w r hq H' => ?_⟩
    ·rw [← htk, List.getElem?_take] at hu
     split at hu
     ·rw [Nat.zero_add]
      simp only [World.cell?, hcur]
      simpa using hu
     ·cases hu
    ·rcases hk with ⟨h1, _⟩ | ⟨_, h1⟩
     ·cases h1
     ·have := H.lt hc (by rw [h1]; rfl)
      show (ρ h).1 ≠ g
      omega
    ·have hb1 : (mem ++ MB.rsym (actsCells (acts x)) :: r)[mem.length]? = some (.rsym (actsCells (acts x))) := by simp
     have := rd_sat H' (Gr.refl (fun _ => False) w) (fun i hi => hi.elim) hb1
     rw [hq] at this
     exact this
 obtain ⟨mb, q, hmbok, HS, hAt⟩ := key
 have hex : ∀ j, j < mem.length → ρ j = ext2 ρ mem.length q j := fun j hj => za4 hj
 have hr : ∀ j, j < mem.length → ((List.range mem.length).map ρ ++ [q])[j]? = some (ρ j) := fun j hj => by rw [List.getElem?_append_left (by simpa using hj)]; simp [hj]
 have := h x Aa ca (acts x).length mb q ((List.range mem.length).map ρ ++ [q]) hmbok rfl (fun j p hj => by
  have h1 := (List.getElem?_eq_some_iff.1 hj).1
  rw [hr j (Nat.lt_of_lt_of_le h1 hlen), hρ j p hj]) (by rw [List.getElem?_append_right (by simp)]; simp) hAt (ext2 ρ mem.length q) w' (a.put dst (wr x (.slice Aa (acts x).length ca))) (fun j p hj => by
  rcases Nat.lt_or_ge j mem.length with h1 | h1
  ·rw [hr j h1] at hj; rw [← hex j h1]; exact Option.some.inj hj
  ·have h2 := (List.getElem?_eq_some_iff.1 hj).1
   obtain rfl : j = mem.length := by simp at h2; omega
   rw [List.getElem?_append_right (by simp)] at hj
   simp at hj
   rw [← hj]; exact zau _ _) (by simp) HS (zcc (htm.mono (by simp)) (hvok _ _ _)) (by rw [← hws (ext2 ρ mem.length q)]; exact zbu (ha.ext htm hex) dst _) (zci (tl hit) (by simp) fun it hi all n0 W m0' ls ord mm he h hh hw => by
   have hok := tl hit it hi
   rw [he] at hok
   exact List.getElem?_append_left (Nat.lt_of_lt_of_le hh hok.2.1))
 rw [← zbt hex fun it hi => tl hit it hi] at this
 exact this
theorem good_actsN {Am : Option Addr} {cm ln : Nat} {m : List Int} {c : CfgD} {hh : CfgH} {czl ccl ctl cvl crl col : Nat} (hln : ln = m.length) (hl : m.length ≤ 1000) (hrd : Rd w0 w0.heap.size Am (m.map iv)) (ok : CfgOk c) (hczl : czl = c.zones.length) (hccl : ccl = c.cells.length) (hctl : ctl = c.tens.length) (hcvl : cvl = c.vers.length) (hcrl : crl = c.reps.length) (hcol : col = c.obs.length) (hk : headW [] k = true) {mo : Int} (hmo : 0 ≤ mo ∧ mo ≤ 40)
 (h : ∀ (acts : List ActD) (Aa : Option Addr) (ca na : Nat) (mb : MB) (q : Nat × Nat) (ρ1 : List (Nat × Nat)), (∀ a ∈ acts, MillAct 3000 a) → acts.length ≤ 70 → (mb = .dead ∨ ∃ l, mb = .rsym l) → na = acts.length → (∀ (h : Nat) p, ρ0[h]? = some p → ρ1[h]? = some p) → ρ1[mem.length]? = some q → (∀ ρ w (r : List MB), ρ mem.length = q → Sat w0 [] ρ (mem ++ mb :: r) w → ActsAt w Aa acts) → Eng.Good ⟨Tryz.prog, T, D, fn, w0, [], ρ1, L⟩ R ⟨k, putE tm dst (.one (.val (.slice Aa na ca))), mem ++ [mb]⟩) :
 Eng.Good ⟨Tryz.prog, T, D, fn, w0, [], ρ0, L⟩ R ⟨.call 7 [.one (.val (.slice Am ln cm)), .agg [.val (iv c.regions), .val (.slice hh.az czl hh.kz), .val (.slice hh.ac ccl hh.kc), .val (.slice hh.at_ ctl hh.kt), .val (.slice hh.av cvl hh.kv), .val (.slice hh.ar crl hh.kr), .val (.slice hh.ao col hh.ko), .val (iv c.blast), .val (iv c.lease), .val (iv c.bake)], .one (.val (.int .i64 mo))] dst :: k, tm, mem⟩ := by
 subst hczl hccl hctl hcvl hcrl hcol
 refine good_row (α := { acts : List ActD // (∀ a ∈ acts, MillAct 3000 a) ∧ acts.length ≤ 70 }) (fun _ v => v) (fun _ v => .one (.val v)) (fun _ _ _ => rfl) (fun _ _ _ => trivial) (fun x => x.1) hk goes_acts44 (fun ρ w hρ H => ?_) (fun x Aa ca na mb q ρ1 h1 h2 h3 h4 h5 => h x.1 Aa ca na mb q ρ1 x.2.1 x.2.2 h1 h2 h3 h4 h5)
 have hb0 : Below w0.heap.size w0 w := zah H.gr
 simp only [List.map, concV, conc1, hln]
 refine (acts_any Am cm m c hh mo w hl ((hrd.below hb0).more hb0.size) (sz_of ok) (by omega) (by omega)).mono ?_
 rintro e w' ⟨acts, v, hA, hL, rfl, ho, hb⟩
 have hten := ok.tens
 exact ⟨⟨acts, hA, by omega⟩, v, rfl, ho, hb⟩
theorem zcd {S : ByteArray} {acts : List ActD} {n e : Int} (he : Env w0) (h1 : (parseRes S.data.toList).1 = acts) (h2 : ((parseRes S.data.toList).2.1 : Int) = n) (h3 : (parseRes S.data.toList).2.2 = e) (hk : headW [] k = true)
 (h : ∀ (Aa : Option Addr) (ca na : Nat) (mb : MB) (q : Nat × Nat) (ρ1 : List (Nat × Nat)), (mb = .dead ∨ ∃ l, mb = .rsym l) → na = acts.length → (∀ (h : Nat) p, ρ0[h]? = some p → ρ1[h]? = some p) → ρ1[mem.length]? = some q → (∀ ρ w (r : List MB), ρ mem.length = q → Sat w0 [] ρ (mem ++ mb :: r) w → ActsAt w Aa acts) → Eng.Good ⟨Tryz.prog, T, D, fn, w0, [], ρ1, L⟩ R ⟨k, putE tm dst (.tup [.one (.val (.slice Aa na ca)), .one (.val (.int .i64 n)), .one (.val (.int .i64 e))]), mem ++ [mb]⟩) :
 Eng.Good ⟨Tryz.prog, T, D, fn, w0, [], ρ0, L⟩ R ⟨.call 11 [.one (.val (.string S))] dst :: k, tm, mem⟩ := by
 refine good_row (α := Unit) (fun _ v => .tuple #[v, .int .i64 n, .int .i64 e]) (fun _ v => .tup [.one (.val v), .one (.val (.int .i64 n)), .one (.val (.int .i64 e))]) (fun _ _ _ => rfl) (fun _ _ _ => by simp [SV.ok, TV.ok, S1.ok]) (fun _ => acts) hk goes_parse44 (fun ρ w hρ H => ?_) (fun _ => h)
 refine (parse_any S w (he.max.below (zah H.gr))).mono ?_
 rintro e' w' ⟨v, rfl, ho, hb⟩
 rw [h1] at ho
 exact ⟨(), v, by rw [← h2, ← h3], ho, hb⟩
end
end Go.Proofs.YtcgcfeablbjnaaaGreatDoor
namespace Go.Proofs.YtcgcfeablbjnaaaGreatDoor
open Go.RowKit
namespace Eng
section
variable {E : Env} {R : Ending → World → Prop}
theorem good_opW {α : Type} {all r : List Oper} {o : Oper} {k : List It} {tm : PT} {mem : List MB} (v : α → SV) (mem' : α → List MB) {x : Bool × Bool} (hw : wantE all tm o = some x) (hwx : wantB x = true) (hpk : plainK k = true) (hlen : ∀ x, mem.length ≤ (mem' x).length) (hv : ∀ x, (v x).ok (mem' x).length)
 (hq : ∀ ρ (a : Act) w, (∀ (h : Nat) p, E.ρ0[h]? = some p → ρ h = p) → Sat E.w0 E.own ρ mem w → TmOk mem.length tm → Rel ρ tm a → ∃ (x : α) (ρ' : Nat → Nat × Nat) (w' : World) (u : Next), (execOp a.eval o).run E.P w = .ok u w' ∧ (u = .value (concV ρ' (v x)) ∨ u = .skip ∧ concV ρ' (v x) = undef) ∧ (∀ h, h < mem.length → ρ h = ρ' h) ∧ Sat E.w0 E.own ρ' (mem' x) w')
 (h : ∀ x, Good E R ⟨.ops all r :: k, putE tm o.dst (v x), mem' x⟩) : Good E R ⟨.ops all (o :: r) :: k, tm, mem⟩ := by
 intro ρ w a hρ hl H htm ha hit
 obtain ⟨x, ρ', w', u, hrun, hx, hρ', H'⟩ := hq ρ a w hρ H htm ha
 have htm' : TmOk (mem' x).length tm := htm.mono (hlen x)
 have := h x ρ' w' _ (fun h p hp => by rw [← hρ' h (Nat.lt_of_lt_of_le (List.getElem?_eq_some_iff.1 hp).1 hl)]; exact hρ h p hp) (Nat.le_trans hl (hlen x)) H' (zcc htm' (hv x)) (zbu (ha.ext htm hρ') _ _)
  (zbv trivial (zci (tl hit) (hlen x) fun it hi all n0 W m0 ls ord m he => absurd he (zbz hpk it hi all n0 W m0 ls ord m)))
 simp only [cont, Exit.then] at this ⊢
 rw [← zbt hρ' fun it hi => tl hit it hi] at this
 simp only [wpList]
 rw [if_pos ((want_ok ha hw).trans hwx)]
 refine .inl ?_
 unfold Oper.wp
 rw [hrun]
 rcases hx with rfl | ⟨rfl, hu⟩
 ·exact this
 ·rw [hu] at this; exact this
theorem good_kill {k : List It} {tm : PT} {mem : List MB} (j : Nat) (hpk : plainK k = true) (h : Good E R ⟨k, tm, setAt mem j .dead⟩) : Good E R ⟨k, tm, mem⟩ := fun ρ w a hρ hl H htm ha hit =>
 h ρ w a hρ (by simpa [zaj] using hl) (by rw [zaj]; exact H.kill j) (by simpa [zaj] using htm) ha (fun it hi => zcu hpk it hi _)
theorem good_mrk {k : List It} {tm : PT} {mem : List MB} (j : Nat) {t : TypeId} {l : List Value} (hpk : plainK k = true) (hb : nth mem j = some (.sym t l)) (h : Good E R ⟨k, tm, setAt mem j (.mrk t l)⟩) : Good E R ⟨k, tm, mem⟩ := fun ρ w a hρ hl H htm ha hit => by
 rw [za2] at hb
 have hk := H.blk j _ hb
 have hlt := (List.getElem?_eq_some_iff.1 hb).1
 refine h ρ w a hρ (by simpa [zaj] using hl) ?_ (by simpa [zaj] using htm) ha (fun it hi => zcu hpk it hi _)
 rw [zaj]
 exact H.upd (Gr.refl (fun i => i = (ρ j).1) w) (fun h => h = j) (by simp) (fun i hi => ⟨j, _, rfl, hb, rfl, hi.symm⟩) (fun h hh => List.getElem?_set_ne (Ne.symm hh)) (fun h b b' hh hb0 hb' => by
  subst hh
  rw [List.getElem?_set_self hlt] at hb'
  obtain rfl := Option.some.inj hb'
  obtain rfl := Option.some.inj (hb.symm.trans hb0)
  exact ⟨rfl, rfl, trivial, hk.1, (0, 0), .inl rfl, hk.2⟩)
def rowBytes (s : ByteArray) (m : Nat) : List Value := s.data.toList.map (fun b => Value.int .u8 b.toNat) ++ List.replicate m (.int .u8 0)
theorem rowBytes_u8 (s : ByteArray) (m : Nat) : ∀ u ∈ rowBytes s m, ∃ n : Int, u = .int .u8 n := fun u hu => by
 rcases List.mem_append.1 hu with h | h
 ·obtain ⟨b, _, rfl⟩ := List.mem_map.1 h; exact ⟨_, rfl⟩
 ·exact ⟨0, (List.mem_replicate.1 h).2⟩
theorem rowBytes_len (s : ByteArray) (m : Nat) : (rowBytes s m).length = s.size + m := by simp [rowBytes]
theorem bytesCells_eq (w : World) (e : TypeId) (s : ByteArray) : (Lib.bytesCells w e s).toList = rowBytes s (grownCap w s.size 0 e - s.size) := by
 simp [Lib.bytesCells, rowBytes]
theorem bytes_below (w : World) (e : TypeId) (s : ByteArray) : Below w.heap.size w (Lib.bytesWorld w e s) :=
 ⟨rfl, rfl, rfl, by rw [Lib.bytesWorld_size]; omega, fun i hi => Lib.bytesWorld_at_old w e s i hi⟩
theorem good_tobytes {all r : List Oper} {d : Option Tmp} {ty : TypeId} {ps : String} {af : Array Edge} {s t e : TypeId} {x : Operand} {k : List It} {tm : PT} {mem : List MB} {b : ByteArray} {n : Nat} (hpk : plainK k = true) (hs : E.P.underlying s = some .string) (ht : E.P.underlying t = some (.slice e)) (he : E.P.underlying e = some (.int .u8))
 (hx : ev tm x = some (.one (.val (.string b)))) (hn : n = b.size)
 (h : ∀ m, Good E R ⟨.ops all r :: k, putE tm d (.one (.slc (len mem) 0 n (n + m))), mem ++ [.mrk e (rowBytes b m)]⟩) : Good E R ⟨.ops all (⟨d, .convert s t x, ty, ps, af, none⟩ :: r) :: k, tm, mem⟩ := by
 refine good_opW (α := Nat) (fun m => .one (.slc (len mem) 0 n (n + m))) (fun m => mem ++ [.mrk e (rowBytes b m)]) (x := (true, true)) rfl rfl hpk (fun m => by simp) (fun m => by show len mem < _; simp [za0]) (fun ρ a w hρ H htm ha => ?_) h
 have e1 := (zbd ha htm hx).1
 have hc := Lib.run_convert_string_bytes (P := E.P) w s t e b hs ht he
 have hge : b.size ≤ grownCap w b.size 0 e := grownCap_ge w b.size 0 e
 refine ⟨grownCap w b.size 0 e - b.size, ext2 ρ mem.length (w.heap.size, 0), Lib.bytesWorld w e b, .value (.slice (some ⟨w.heap.size, 0, none⟩) b.size (grownCap w b.size 0 e)), ?_, .inl ?_, fun h hh => za4 hh, ?_⟩
 ·unfold execOp
  simp [e1, concV, conc1, hc]
 ·simp only [concV, conc1, za0, zau, hn]
  rw [show b.size + (grownCap w b.size 0 e - b.size) = grownCap w b.size 0 e by omega]
 ·refine (H.below (bytes_below w e b)).addB (p := (w.heap.size, 0)) (fun h hh => za4 hh) (zau _ _) ⟨rfl, _, .inr ?_, (by rw [Lib.bytesWorld_at_new, ← bytesCells_eq])⟩ trivial (fun _ => H.gr.size) (fun h => by cases h) (fun h c hc hk => ?_)
  ·rw [← bytesCells_eq]; simp
  ·have : (c.wr (ρ h) || c.rd) = true := by
    rcases hk with ⟨_, h1⟩ | ⟨h1, _⟩
    ·exact h1
    ·cases h1
   exact Nat.ne_of_lt (H.lt hc this)
theorem good_tostr {all r : List Oper} {d : Option Tmp} {ty : TypeId} {ps : String} {af : Array Edge} {s t e : TypeId} {x : Operand} {k : List It} {tm : PT} {mem : List MB} {h n c : Nat} {l : List Value} (hs : E.P.underlying s = some .string) (ht : E.P.underlying t = some (.slice e)) (he : E.P.underlying e = some (.int .u8))
 (hx : ev tm x = some (.one (.slc h 0 n c))) (hb : nth mem h = some (.mrk e l)) (hl : ∀ u ∈ l.take n, ∃ n : Int, u = .int .u8 n) (hn : n ≤ l.length)
 (hg : ∀ b : ByteArray, b.size = n → Good E R ⟨.ops all r :: k, putE tm d (.one (.val (.string b))), mem⟩) : Good E R ⟨.ops all (⟨d, .convert t s x, ty, ps, af, none⟩ :: r) :: k, tm, mem⟩ := by
 have key : ∀ l : List Value, (∀ u ∈ l, ∃ n : Int, u = .int .u8 n) → ∃ xs : List Int, l = xs.map (Value.int .u8) := fun l => by
  induction l with
  | nil => exact fun _ => ⟨[], rfl⟩
  | cons u l ih =>
    intro hl
    obtain ⟨xs, rfl⟩ := ih (fun v hv => hl v (by simp [hv]))
    obtain ⟨n, rfl⟩ := hl u (by simp)
    exact ⟨n :: xs, rfl⟩
 obtain ⟨xs, hxs⟩ := key _ hl
 have hlen : xs.length = n := by
  have := congrArg List.length hxs
  simp at this
  omega
 have hsz : (strOfNums xs).size = n := by simp [strOfNums, ByteArray.size, hlen]
 intro ρ w a hρ hl' H htm ha hit
 rw [za2] at hb
 have e1 := (zbd ha htm hx).1
 have hk := H.blk h _ hb
 have hc := run_convert_bytes_arg (P := E.P) w t e ht he (ρ h).1 ((ρ h).2 + 0) n c xs hlen (fun i hi => by
  rw [Nat.add_zero]
  refine mrk_cells hk i _ ?_
  have h1 : (l.take n)[i]? = l[i]? := by rw [List.getElem?_take, if_pos hi]
  rw [← h1, hxs, List.getElem?_map, List.getD_eq_getElem?_getD, List.getElem?_eq_getElem (by omega)]
  rfl) s hs
 have := hg _ hsz ρ w _ hρ hl' H (zcc htm trivial) (zbu ha _ _) (zbv trivial (tl hit))
 simp only [cont, Exit.then, wpList]
 rw [if_pos (by rfl)]
 refine .inl ?_
 unfold Oper.wp execOp
 simp only [e1, concV, conc1] at hc ⊢
 rw [Sem.run_bind, hc]
 exact this
theorem good_store1 {all r : List Oper} {ty : TypeId} {ps : String} {af : Array Edge} {t e : TypeId} {x y : Operand} {k : List It} {tm : PT} {mem : List MB} {h b off : Nat} {l : List Value} {v : Value} (hpk : plainK k = true) (hi : (E.P.info? t).map (·.size) = some 1)
 (hx : ev tm x = some (.one (.ptr h b off))) (hy : ev tm y = some (.one (.val v))) (hv : v.oneCell' = true) (hb : nth mem h = some (.mrk e l)) (hlt : b + off < l.length)
 (hg : Good E R ⟨.ops all r :: k, tm, setAt mem h (.mrk e (l.set (b + off) v))⟩) : Good E R ⟨.ops all (⟨none, .store t x y, ty, ps, af, none⟩ :: r) :: k, tm, mem⟩ := by
 rw [za2] at hb
 refine good_opW (α := Unit) (fun _ => .one (.val undef)) (fun _ => setAt mem h (.mrk e (l.set (b + off) v))) (x := (true, true)) rfl rfl hpk (fun m => by simp [zaj]) (fun m => trivial) (fun ρ a w hρ H htm ha => ?_) (fun _ => hg)
 have e1 := (zbd ha htm hx).1
 have e2 := (zbd ha htm hy).1
 obtain ⟨h0, fz, hfz, hcur⟩ := H.blk h _ hb
 have hcell : (w.cell? ⟨(ρ h).1, b + off, none⟩).isSome = true := by simp [World.cell?, hcur, hlt]
 have hfr : w.frozen? ⟨(ρ h).1, b + off, none⟩ = false := by
  simp only [World.frozen?, hcur]
  rcases hfz with rfl | hf
  ·simp
  ·have : ¬ fz.1 ≤ b + off := by omega
   simp [this]
 have hst := run_storeCells_cells (P := E.P) (ρ h).1 (b + off) [v] 0 w (fun j hj => by have h0 : j = 0 := (by simpa using hj); subst h0; simpa using hcell) (fun j hj => by have h0 : j = 0 := (by simpa using hj); subst h0; simpa using hfr) (fun u hu => by have h0 : u = v := (by simpa using hu); subst h0; exact hv)
 refine ⟨(), ρ, w.setCells (ρ h).1 (b + off + 0) [v], .skip, ?_, .inr ⟨rfl, rfl⟩, fun _ _ => rfl, ?_⟩
 ·unfold execOp
  cases hq : E.P.info? t with
  | none => rw [hq] at hi; cases hi
  | some i =>
    have hs : i.size = 1 := by rw [hq] at hi; simpa using hi
    have hvc : v.cells = #[v] := by cases v <;> first | rfl | cases hv
    simp [e1, e2, concV, conc1, h0, Instr.storeAt, Instr.sureAddr, storeVar, sizeOf, typeInfo, hq, hs, hvc, hst]
 ·have hlt' := (List.getElem?_eq_some_iff.1 hb).1
  rw [zaj]
  have hset : (w.setCells (ρ h).1 (b + off + 0) [v]) = w.setCell ⟨(ρ h).1, b + off, none⟩ v := rfl
  rw [hset]
  refine H.upd (S := fun i => i = (ρ h).1) ((Gr.refl (fun i => i = (ρ h).1) w).set (p := ⟨(ρ h).1, b + off, none⟩) (.inl rfl) v) (fun j => j = h) (by simp) (fun i hi => ⟨h, _, rfl, hb, rfl, hi.symm⟩) (fun j hh => List.getElem?_set_ne (Ne.symm hh)) (fun j c c' hh hc hc' => ?_)
  subst hh
  rw [List.getElem?_set_self hlt'] at hc'
  obtain rfl := Option.some.inj hc'
  obtain rfl := Option.some.inj (hb.symm.trans hc)
  refine ⟨rfl, rfl, trivial, h0, fz, by simpa using hfz, ?_⟩
  simp [World.setCell, Array.getElem?_modify, hcur]
end
end Eng
end Go.Proofs.YtcgcfeablbjnaaaGreatDoor
namespace Go.Proofs.YtcgcfeablbjnaaaGreatDoor
open Go.RowKit Eng
theorem info_u8c : (Tryz.prog.info? 5).map (·.size) = some 1 := by kernel_rfl
theorem goes_rformat44t : Goes Tryz.prog 10 := zam Tryz.func10 (by kernel_rfl) (by kernel_rfl)
structure TSt where
 i : Nat
 pt : Int
 n : Nat
 c : Nat
 l : List Value
structure TSt.Ok (sp : List Int) (x : TSt) : Prop where
 i : x.i ≤ 3
 pt : PtOk sp x.pt
 n : 12 ≤ x.n + x.i ∧ x.n ≤ 16400 + x.i
 c : x.n ≤ x.c ∧ x.l.length = x.c
 u : ∀ v ∈ x.l.take x.n, ∃ m : Int, v = .int .u8 m
theorem TSt.Ok.new {sp : List Int} {x : TSt} (h : x.Ok sp) {i : Nat} {pt : Int} {n c : Nat} {l : List Value} (hi : i = x.i + 1) (hi3 : i ≤ 3) (hp : PtOk sp pt) (hn : x.n ≤ n + 1 ∧ n ≤ x.n + 1) (hc : n ≤ c) (hl : l.length = c) (hu : ∀ v ∈ l.take n, ∃ m : Int, v = .int .u8 m) : (⟨i, pt, n, c, l⟩ : TSt).Ok sp :=
 ⟨hi3, hp, by have := h.n; dsimp only; omega, ⟨hc, hl⟩, hu⟩
theorem u8_one {l : List Value} (h : ∀ v ∈ l, ∃ m : Int, v = .int .u8 m) : l.all (fun u => u.oneCell') = true := List.all_eq_true.2 fun v hv => by obtain ⟨m, rfl⟩ := h v hv; rfl
theorem rows_u8 {l r : List Value} {n b k : Nat} (h : ∀ v ∈ l.take n, ∃ m : Int, v = .int .u8 m) (hb : b + k ≤ n) (hn : n ≤ l.length) (hr : r = (l.drop b).take k) : std.rows l b k 1 = some r ∧ r.length = k ∧ ∀ v ∈ r, ∃ m : Int, v = .int .u8 m := by
 have hu : ∀ v ∈ r, ∃ m : Int, v = .int .u8 m := fun v hv => by
  refine h v ?_
  rw [hr] at hv
  have e : (l.drop b).take k = ((l.take n).drop b).take k := by
   rw [List.drop_take, List.take_take, Nat.min_eq_left (by omega)]
  rw [e] at hv
  exact List.mem_of_mem_drop (List.mem_of_mem_take hv)
 refine ⟨?_, by rw [hr]; simp; omega, hu⟩
 simp only [std, Nat.mul_one]
 rw [if_pos ⟨by omega, by rw [← hr]; exact u8_one hu⟩, hr]
theorem formatRes_len (l : List ActD) : (formatRes l).1.length ≤ 16384 := by
 unfold formatRes
 repeat' split
 all_goals first | (dsimp only; omega) | simp
namespace Eng
theorem good_hforkA {E : Env} {R : Ending → World → Prop} {A : Ar} (hE : E.Ok) (hA : A = std) (i j : Nat) {q : Nat} {all : List Oper} {n0 : Nat} {W : List Nat} {m0 : List MB} {ls : List Nat} {r : List (Nat × Bool)} {m : Nat} {o oj : Oper} {k : List It} {tm : PT} {mem mem' : List MB} {mi : List MB} {vi v : SV} (hsz : Nat.ble (len all) 1000 = true) (hqi : q % 1000 = i) (hqj' : q / 1000 - 1 = j) (hq1 : Nat.ble 1000 q = true)
 (ho : nth all i = some o) {x : Bool × Bool} (hw : wantE all tm o = some x) (hwx : wantB x = true) (hq : effE A E.T n0 W o.op tm mem = some (vi, mi)) (hoj : nth all j = some oj) {xj : Bool × Bool} (hwj : wantE all tm oj = some xj) (hwxj : wantB xj = true) (hqj : effE A E.T n0 W oj.op tm mem = some (v, mem')) (hk : plainK k = true)
 (h1 : Good E R ⟨.head all n0 W m0 (i :: ls) r m :: k, putE tm o.dst vi, mi⟩) (h2 : Good E R ⟨.head all n0 W m0 (j :: ls) ((i, true) :: unfork j r) m :: k, putE tm oj.dst v, mem'⟩) : Good E R ⟨.head all n0 W m0 ls ((q, true) :: r) m :: k, tm, mem⟩ := by
 subst hA
 exact good_hforkE hE i j hsz hqi hqj' hq1 ho hw hwx hq hoj hwj hwxj hqj hk h1 h2
theorem good_unpin {P : Program} {T : List (TypeId × TI)} {D : Ords} {fn : Func} {w0 : World} {own : List Nat} {ρ0 : List (Nat × Nat)} {L : Nat → Act → World → Prop} {R : Ending → World → Prop} {st : St} (h : Good ⟨P, T, D, fn, w0, own, [], L⟩ R st) : Good ⟨P, T, D, fn, w0, own, ρ0, L⟩ R st := fun ρ w a _ _ H htm ha hit =>
 h ρ w a (fun _ _ hp => by cases hp) (Nat.zero_le _) H htm ha hit
end Eng
theorem lawText_any (Am : Option Addr) (cm : Nat) (m : List Int) (c : CfgD) (h : CfgH) (As : Option Addr) (cs : Nat) (sp : List Int) (w : World) (ok : CfgOk c) (hm1000 : m.length ≤ 1000) (hs1000 : sp.length ≤ 1000) (hrdM : Rd w w.heap.size Am (m.map iv)) (hrdS : Rd w w.heap.size As (sp.map iv)) :
 Calls Tryz.prog 13 #[.slice Am m.length cm, .agg (cfgV c h), .slice As sp.length cs] w fun e w' => (∃ s : ByteArray, s.size ≤ 20000 ∧ e = .returned (.string s)) ∧ Below w.heap.size w w' := by
 obtain ⟨ml, hml⟩ := nm (m.length)
 obtain ⟨sl, hsl⟩ := nm (sp.length)
 obtain ⟨A, hA⟩ : ∃ A, A = std := ⟨_, rfl⟩
 obtain ⟨czl, hczl⟩ := nm (c.zones.length)
 obtain ⟨ccl, hccl⟩ := nm (c.cells.length)
 obtain ⟨ctl, hctl⟩ := nm (c.tens.length)
 obtain ⟨cvl, hcvl⟩ := nm (c.vers.length)
 obtain ⟨crl, hcrl⟩ := nm (c.reps.length)
 obtain ⟨col, hcol⟩ := nm (c.obs.length)
 have f0 : A.not true = false ∧ A.not false = true := by rw [hA]; exact ⟨rfl, rfl⟩
 refine zae (E := ⟨Tryz.prog, tabaT, ords13, Tryz.f13, w, [], [], fun _ _ _ => False⟩) zab (c := bodyOf Tryz.f13) (n := 0) Tryz.func13 rfl (show codeChk ords13 (bodyOf Tryz.f13) = true by decide +kernel) (rho []) (fun h p hp => zaq _ h p hp)
  (tm := [.one (.val (.slice Am ml cm)), .agg [.val (iv c.regions), .val (.slice h.az czl h.kz), .val (.slice h.ac ccl h.kc), .val (.slice h.at_ ctl h.kt), .val (.slice h.av cvl h.kv), .val (.slice h.ar crl h.kr), .val (.slice h.ao col h.ko), .val (iv c.blast), .val (iv c.lease), .val (iv c.bake)], .one (.val (.slice As sl cs))] ++ List.replicate 85 (.one (.val undef))) (mem := []) (Nat.le_refl _) ?_ ?_ (by rw [hml, hsl, hczl, hccl, hctl, hcvl, hcrl, hcol]; rfl) ?_
 ·exact zan w [] _
 ·simp [SV.ok, S1.ok]
 ·refine zaa zab hA rfl rfl 400 ?_
  conv => arg 3; cbv
  refine good_actsN hml hm1000 hrdM ok hczl hccl hctl hcvl hcrl hcol rfl (by omega) (fun acts Aa ca na mb q ρ1 hmill h70 hmbok hna hmono hq1 hAt => ?_)
  refine zaa zab hA rfl rfl 400 ?_
  conv => arg 3; cbv
  obtain ⟨S, hS⟩ := nm ((⟨(formatRes acts).1.toArray⟩ : ByteArray))
  obtain ⟨e, he'⟩ := nm ((formatRes acts).2)
  refine zac (.tup [.one (.val (.string S)), .one (.val (.int .i64 e))]) (by simp [SV.ok, TV.ok, S1.ok]) goes_rformat44t (fun ρ w' hρ hSat => ?_) ?_
  ·simp only [List.map, concV, conc1, hna, hS, he']
   exact rformat_any Aa ca acts w' (fun a ha => (mill_small (hmill a ha)).ok) (by omega) (hAt ρ w' [] (hρ 1 q hq1) hSat)
  have hSz : S.size ≤ 16384 := by rw [hS]; simpa [ByteArray.size] using formatRes_len acts
  obtain ⟨P0, hP0⟩ := nm ((⟨#[35, 32, 97, 32, 115, 99, 114, 105, 112, 116, 10, 10]⟩ : ByteArray))
  obtain ⟨B, hB⟩ := nm (P0 ++ S)
  have hBz : B.size = 12 + S.size := by rw [hB, hP0, ByteArray.size_append]; rfl
  have f1 : A.catok { data := #[35, 32, 97, 32, 115, 99, 114, 105, 112, 116, 10, 10] } S = true ∧ A.cat { data := #[35, 32, 97, 32, 115, 99, 114, 105, 112, 116, 10, 10] } S = B := by
   rw [hA, hB, hP0]
   refine ⟨?_, rfl⟩
   simp [std]
   have : (⟨#[35, 32, 97, 32, 115, 99, 114, 105, 112, 116, 10, 10]⟩ : ByteArray).size = 12 := rfl
   omega
  obtain ⟨n0, hn0⟩ := nm (B.size)
  refine zaa zab hA rfl rfl 400 ?_
  conv => arg 3; cbv
  repeat (simp only [f0, f1]; try (conv => arg 3; cbv))
  refine good_tobytes rfl Tryz.underlying9 Tryz.underlying66 Tryz.underlying5 rfl hn0 (fun mm => ?_)
  obtain ⟨LL, hLL⟩ := nm (rowBytes B mm)
  rw [← hLL]
  refine zaa zab hA rfl rfl 400 ?_
  conv => arg 3; cbv
  refine good_mnew hsl hs1000 hrdS rfl (fun pt0 hp0 => ?_)
  refine zaa zab hA rfl rfl 400 ?_
  conv => arg 3; cbv
  refine good_unpin ?_
  refine good_kill 0 rfl ?_
  refine good_kill 1 rfl ?_
  conv => arg 3; cbv
  refine zbh 1 (α := { x : TSt // x.Ok sp }) [12, 13, 23, 26, 27, 28, 29, 30, 31, 32, 33, 34, 35, 36, 37, 38, 39, 40, 41, 42, 43, 44, 45, 46, 47, 48, 49, 50, 51, 52, 53, 54, 55, 56, 57, 58, 59, 60, 61, 62, 63, 64, 65, 66, 67, 68, 69, 70, 71, 72, 73, 74, 75, 76, 77, 78, 79, 80, 81, 82, 83, 84, 85] (fun x => [(11, .one (.val (.int .i64 (Int.ofNat x.1.i)))), (9, .one (.slc 2 0 x.1.n x.1.c))]) (fun x => [.dead, .dead, .mrk 5 x.1.l, .own 90 [.val (.slice As sl cs), .val (.int .i64 x.1.pt)]]) (fun x => 3 - x.1.i) ⟨⟨0, pt0, n0, n0 + mm, LL⟩, ⟨by dsimp only; omega, hp0, by dsimp only; omega, ⟨by dsimp only; omega, by rw [hLL, rowBytes_len, hn0]⟩, fun v hv => rowBytes_u8 B mm v (by rw [← hLL]; exact List.mem_of_mem_take hv)⟩⟩ ?_ ?_ (fun x => rfl) (fun x y hy => by simp at hy; rcases hy with rfl | rfl <;> simp [SV.ok, S1.ok]) rfl (fun x L' hL1 hL2 => ?_)
  ·cbv
   simp
  ·rfl
  ·obtain ⟨⟨i, pt, n, c, l⟩, hok⟩ := x
   have hi3 := hok.i
   have hn3 := hok.n
   have hc3 := hok.c
   have hu3 : ∀ v ∈ l.take n, ∃ m : Int, v = .int .u8 m := hok.u
   dsimp only at hi3 hn3 hc3 ⊢
   obtain ⟨i1, hi1⟩ := nm (i + 1)
   by_cases hi : i < 3
   ·have q1 : A.lt (Int.ofNat i) 3 = true := by rw [hA]; simp [std]; omega
    refine zaa zab hA rfl rfl 400 ?_
    conv => arg 3; cbv
    repeat (simp only [f0, q1]; try (conv => arg 3; cbv))
    refine good_mmore 3 rfl hsl hok.pt hs1000 hrdS rfl (fun b pt1 hp1 => ?_)
    cases b
    ·refine zaa zab hA rfl rfl 400 ?_
     conv => arg 3; cbv
     repeat (simp only [f0]; try (conv => arg 3; cbv))
     refine good_tostr Tryz.underlying9 Tryz.underlying66 Tryz.underlying5 rfl rfl hok.u (by omega) (fun s hs => ?_)
     refine zaa zab hA rfl rfl 400 ?_
     conv => arg 3; cbv
     refine zak zab (by rfl) (by rfl) (fun ρ w' hρ hSat => ⟨⟨s, by omega, rfl⟩, zah hSat.gr⟩)
    ·obtain ⟨ni, hni⟩ := nm ((n : Int))
     have g1 : A.len n = ni := by rw [hA, hni]; rfl
     refine zaa zab hA rfl rfl 400 ?_
     conv => arg 3; cbv
     repeat (simp only [f0, g1]; try (conv => arg 3; cbv))
     refine za1 3 rfl hsl hp1 hs1000 hrdS (by omega) (by omega) rfl (fun r pt2 h20 h21 hp2 => ?_)
     obtain ⟨kk, rfl⟩ : ∃ k : Nat, r = Int.ofNat k := ⟨r.toNat, (Int.toNat_of_nonneg h20).symm⟩
     have hkk : kk < n := by have e : (kk : Int) < ni := h21; omega
     refine zaa zab hA rfl rfl 400 ?_
     conv => arg 3; cbv
     repeat (simp only [f0]; try (conv => arg 3; cbv))
     refine za1 3 rfl hsl hp2 hs1000 hrdS (by omega) (by omega) rfl (fun r3 pt3 h30 h31 hp3 => ?_)
     obtain ⟨ch, hch⟩ := nm (A.sat { data := #[32, 48, 45, 46, 35, 10, 97, 120, 57] } r3)
     have g2 : A.sinb r3 { data := #[32, 48, 45, 46, 35, 10, 97, 120, 57] } = true := by rw [hA]; exact decide_eq_true ⟨h30, h31⟩
     refine zaa zab hA rfl rfl 400 ?_
     conv => arg 3; cbv
     repeat (simp only [f0, g2, ← hch]; try (conv => arg 3; cbv))
     refine za1 3 rfl hsl hp3 hs1000 hrdS (by omega) (by omega) rfl (fun r4 pt4 h40 h41 hp4 => ?_)
     rcases (show r4 = 0 ∨ r4 = 1 ∨ r4 = 2 ∨ r4 = 3 by omega) with rfl | rfl | rfl | rfl
     ·have kf : ∀ j, A.eq 0 j = decide (0 = j) := fun j => by rw [hA]; rfl
      have c1 : A.add .i64 (Int.ofNat i) 1 = Int.ofNat i1 := by rw [hA, hi1]; exact (wrap64 (by simp; omega) (by simp; omega)).trans (by simp)
      have g3 : A.inb (Int.ofNat kk) n = true := by rw [hA]; simp [std]; omega
      have g4 : A.idx 0 (Int.ofNat kk) 1 = kk := by rw [hA]; simp [std]
      refine zaa zab hA rfl rfl 400 ?_
      conv => arg 3; cbv
      repeat (simp only [kf, g3, g4]; try (conv => arg 3; cbv))
      refine good_store1 rfl info_u8c rfl rfl rfl rfl (by omega) ?_
      obtain ⟨l2, hl2⟩ := nm (l.set (kk + 0) (.int .u8 ch))
      rw [← hl2]
      refine zaa zab hA rfl rfl 400 ?_
      conv => arg 3; cbv
      repeat (simp only [c1]; try (conv => arg 3; cbv))
      refine zai (l := [0, 1, 2, 3]) ⟨rfl, rfl, rfl⟩ hL2 (⟨⟨i1, pt4, n, c, l2⟩, hok.new hi1 (by omega) hp4 (by dsimp only; omega) hc3.1 (by rw [hl2]; simp; exact hc3.2) (fun v hv => by rw [hl2, List.take_set] at hv; exact (List.mem_or_eq_of_mem_set hv).elim (fun h1 => hok.u v h1) (fun h1 => ⟨_, h1⟩))⟩ : { x : TSt // x.Ok sp }) ?_ rfl rfl rfl ?_ ?_ ?_ ?_
      ·dsimp only
       omega
      ·intro b hb
       simp only [List.mem_cons, List.not_mem_nil, or_false] at hb
       rcases hb with rfl | rfl | rfl | rfl <;> simp [MB.ok, S1.ok]
      ·exact zao (by cbv <;> trivial)
      ·exact ⟨.inl rfl, .inl rfl, .inr rfl, .inr rfl, trivial⟩
      ·cbv
       simp
     ·have kf : ∀ j, A.eq 1 j = decide (1 = j) := fun j => by rw [hA]; rfl
      have c1 : A.add .i64 (Int.ofNat i) 1 = Int.ofNat i1 := by rw [hA, hi1]; exact (wrap64 (by simp; omega) (by simp; omega)).trans (by simp)
      obtain ⟨R1, hR1⟩ := nm ((l.drop 0).take kk)
      obtain ⟨y1, z1, v1⟩ := rows_u8 (b := 0) (k := kk) hu3 (by omega) (by omega) hR1
      obtain ⟨c2, hc2⟩ := nm (c - kk)
      obtain ⟨kb, hkb⟩ := nm ((if c = kk then 0 else 0 + kk * 1))
      obtain ⟨n2, hn2⟩ := nm (n - kk)
      obtain ⟨R2, hR2⟩ := nm ((l.drop kb).take n2)
      obtain ⟨y2, z2, v2⟩ := rows_u8 (b := kb) (k := n2) hu3 (by rw [hkb]; split <;> omega) (by omega) hR2
      have g3 : A.cutok 0 (Int.ofNat kk) c = true ∧ A.cutb 0 0 c 1 = 0 ∧ A.cutn 0 (Int.ofNat kk) = kk ∧ A.cutc c 0 = c ∧ A.rows l 0 kk 1 = some R1 ∧ A.fits 0 kk = true ∧ A.addn 0 kk = kk ∧ A.app [] R1 = R1 ∧ A.eqn kk kk = true := by
       rw [hA]
       refine ⟨?_, ?_, ?_, ?_, y1, ?_, ?_, rfl, ?_⟩ <;> simp [std] <;> omega
      have g4 : A.cutok (Int.ofNat kk) ni c = true ∧ A.cutb 0 (Int.ofNat kk) c 1 = kb ∧ A.cutn (Int.ofNat kk) ni = n2 ∧ A.cutc c (Int.ofNat kk) = c2 ∧ A.rows l kb n2 1 = some R2 := by
       rw [hA]
       refine ⟨?_, ?_, ?_, ?_, y2⟩
       ·simp [std]; omega
       ·rw [hkb]; rfl
       ·rw [hn2]; simp [std]; omega
       ·rw [hc2]; rfl
      obtain ⟨k1, hk1⟩ := nm (kk + 1)
      obtain ⟨n3, hn3'⟩ := nm (k1 + n2)
      obtain ⟨R3, hR3⟩ := nm (R1 ++ [.int .u8 ch])
      obtain ⟨R4, hR4⟩ := nm (R3 ++ R2)
      have g5 : ∀ n, A.eqn n n = true := fun n => by rw [hA]; simp [std]
      have g6 : A.fits kk 1 = true ∧ A.addn kk 1 = k1 ∧ A.app R1 [.int .u8 ch] = R3 ∧ A.fits k1 n2 = true ∧ A.addn k1 n2 = n3 ∧ A.app R3 R2 = R4 := by
       rw [hA, hn3', hR4, hR3, hk1]
       refine ⟨?_, rfl, rfl, ?_, rfl, rfl⟩ <;> simp [std] <;> omega
      refine zaa zab hA rfl rfl 400 ?_
      conv => arg 3; cbv
      repeat (simp only [kf, g1, g3, g4, g5, g6, c1]; try (conv => arg 3; cbv))
      refine good_hforkE zab 0 6 rfl rfl rfl rfl rfl rfl rfl (by rfl) rfl rfl rfl (by rfl) rfl ?_ ?_
      ·refine zaa zab hA rfl rfl 400 ?_
       conv => arg 3; cbv
       repeat (simp only [kf, g1, g3, g4, g5, g6, c1]; try (conv => arg 3; cbv))
       refine good_hforkA zab hA 4 6 (vi := ?vi1) (mi := ?mi1) (v := ?v1) (mem' := ?mm1) rfl rfl rfl rfl rfl rfl rfl ?hq1 rfl rfl rfl ?hqj1 rfl ?h11 ?h21
       case hq1 =>
        conv => lhs; cbv
        try simp only [kf, g1, g3, g4, g5, g6, c1]
        try (conv => lhs; cbv)
        try simp only [kf, g1, g3, g4, g5, g6, c1]
        try rfl
       case hqj1 =>
        conv => lhs; cbv
        try rfl
       case h11 =>
        refine zaa zab hA rfl rfl 400 ?_
        conv => arg 3; cbv
        repeat (simp only [kf, g1, g3, g4, g5, g6, c1]; try (conv => arg 3; cbv))
        refine zdg 8 rfl rfl (by omega) (fun c' r' hcc hlr => ?_)
        obtain ⟨l4, hl4⟩ := nm (R4 ++ r')
        rw [← hl4]
        conv => arg 3; cbv
        refine good_mrk 9 rfl rfl ?_
        conv => arg 3; cbv
        refine zai (l := [0, 1, 9, 3]) ⟨rfl, rfl, rfl⟩ hL2 (⟨⟨i1, pt4, n3, c', l4⟩, hok.new hi1 (by omega) hp4 (by dsimp only; omega) hcc (by rw [hl4, hlr]; omega) (fun v hv => by rw [hl4, List.take_append_of_le_length (by rw [hR4, hR3]; simp; omega)] at hv; have h1 := List.mem_of_mem_take hv; rw [hR4, hR3] at h1; exact (List.mem_append.1 h1).elim (fun h1 => (List.mem_append.1 h1).elim (v1 v) (fun h1 => ⟨_, List.mem_singleton.1 h1⟩)) (v2 v))⟩ : { x : TSt // x.Ok sp }) ?_ rfl rfl rfl ?_ ?_ ?_ ?_
        ·dsimp only
         omega
        ·intro b hb
         simp only [List.mem_cons, List.not_mem_nil, or_false] at hb
         rcases hb with rfl | rfl | rfl | rfl <;> simp [MB.ok, S1.ok]
        ·exact zao (by cbv <;> trivial)
        ·exact ⟨.inl rfl, .inl rfl, .inr rfl, .inr rfl, trivial⟩
        ·cbv
         simp
       case h21 =>
        refine zaa zab hA rfl rfl 400 ?_
        conv => arg 3; cbv
        repeat (simp only [kf, g1, g3, g4, g5, g6, c1]; try (conv => arg 3; cbv))
        refine zdg 8 rfl rfl (by omega) (fun c' r' hcc hlr => ?_)
        obtain ⟨l4, hl4⟩ := nm (R4 ++ r')
        rw [← hl4]
        conv => arg 3; cbv
        refine good_mrk 9 rfl rfl ?_
        conv => arg 3; cbv
        refine zai (l := [0, 1, 9, 3]) ⟨rfl, rfl, rfl⟩ hL2 (⟨⟨i1, pt4, n3, c', l4⟩, hok.new hi1 (by omega) hp4 (by dsimp only; omega) hcc (by rw [hl4, hlr]; omega) (fun v hv => by rw [hl4, List.take_append_of_le_length (by rw [hR4, hR3]; simp; omega)] at hv; have h1 := List.mem_of_mem_take hv; rw [hR4, hR3] at h1; exact (List.mem_append.1 h1).elim (fun h1 => (List.mem_append.1 h1).elim (v1 v) (fun h1 => ⟨_, List.mem_singleton.1 h1⟩)) (v2 v))⟩ : { x : TSt // x.Ok sp }) ?_ rfl rfl rfl ?_ ?_ ?_ ?_
        ·dsimp only
         omega
        ·intro b hb
         simp only [List.mem_cons, List.not_mem_nil, or_false] at hb
         rcases hb with rfl | rfl | rfl | rfl <;> simp [MB.ok, S1.ok]
        ·exact zao (by cbv <;> trivial)
        ·exact ⟨.inl rfl, .inl rfl, .inr rfl, .inr rfl, trivial⟩
        ·cbv
         simp
      ·refine zaa zab hA rfl rfl 400 ?_
       conv => arg 3; cbv
       repeat (simp only [kf, g1, g3, g4, g5, g6, c1]; try (conv => arg 3; cbv))
       refine zdg 8 rfl rfl (by omega) (fun c' r' hcc hlr => ?_)
       obtain ⟨l4, hl4⟩ := nm (R4 ++ r')
       rw [← hl4]
       conv => arg 3; cbv
       refine good_mrk 9 rfl rfl ?_
       conv => arg 3; cbv
       refine zai (l := [0, 1, 9, 3]) ⟨rfl, rfl, rfl⟩ hL2 (⟨⟨i1, pt4, n3, c', l4⟩, hok.new hi1 (by omega) hp4 (by dsimp only; omega) hcc (by rw [hl4, hlr]; omega) (fun v hv => by rw [hl4, List.take_append_of_le_length (by rw [hR4, hR3]; simp; omega)] at hv; have h1 := List.mem_of_mem_take hv; rw [hR4, hR3] at h1; exact (List.mem_append.1 h1).elim (fun h1 => (List.mem_append.1 h1).elim (v1 v) (fun h1 => ⟨_, List.mem_singleton.1 h1⟩)) (v2 v))⟩ : { x : TSt // x.Ok sp }) ?_ rfl rfl rfl ?_ ?_ ?_ ?_
       ·dsimp only
        omega
       ·intro b hb
        simp only [List.mem_cons, List.not_mem_nil, or_false] at hb
        rcases hb with rfl | rfl | rfl | rfl <;> simp [MB.ok, S1.ok]
       ·exact zao (by cbv <;> trivial)
       ·exact ⟨.inl rfl, .inl rfl, .inr rfl, .inr rfl, trivial⟩
       ·cbv
        simp
     ·have kf : ∀ j, A.eq 2 j = decide (2 = j) := fun j => by rw [hA]; rfl
      have c1 : A.add .i64 (Int.ofNat i) 1 = Int.ofNat i1 := by rw [hA, hi1]; exact (wrap64 (by simp; omega) (by simp; omega)).trans (by simp)
      obtain ⟨k1, hk1⟩ := nm (kk + 1)
      have g5 : A.add .i64 (Int.ofNat kk) 1 = Int.ofNat k1 := by rw [hA, hk1]; exact (wrap64 (by simp; omega) (by simp; omega)).trans (by simp)
      obtain ⟨R1, hR1⟩ := nm ((l.drop 0).take kk)
      obtain ⟨y1, z1, v1⟩ := rows_u8 (b := 0) (k := kk) hu3 (by omega) (by omega) hR1
      obtain ⟨c2, hc2⟩ := nm (c - k1)
      obtain ⟨kb, hkb⟩ := nm ((if c = k1 then 0 else 0 + k1 * 1))
      obtain ⟨n2, hn2⟩ := nm (n - k1)
      obtain ⟨R2, hR2⟩ := nm ((l.drop kb).take n2)
      obtain ⟨y2, z2, v2⟩ := rows_u8 (b := kb) (k := n2) hu3 (by rw [hkb]; split <;> omega) (by omega) hR2
      have g3 : A.cutok 0 (Int.ofNat kk) c = true ∧ A.cutb 0 0 c 1 = 0 ∧ A.cutn 0 (Int.ofNat kk) = kk ∧ A.cutc c 0 = c ∧ A.rows l 0 kk 1 = some R1 ∧ A.fits 0 kk = true ∧ A.addn 0 kk = kk ∧ A.app [] R1 = R1 ∧ A.eqn kk kk = true := by
       rw [hA]
       refine ⟨?_, ?_, ?_, ?_, y1, ?_, ?_, rfl, ?_⟩ <;> simp [std] <;> omega
      have g4 : A.cutok (Int.ofNat k1) ni c = true ∧ A.cutb 0 (Int.ofNat k1) c 1 = kb ∧ A.cutn (Int.ofNat k1) ni = n2 ∧ A.cutc c (Int.ofNat k1) = c2 ∧ A.rows l kb n2 1 = some R2 := by
       rw [hA]
       refine ⟨?_, ?_, ?_, ?_, y2⟩
       ·simp [std]; omega
       ·rw [hkb]; rfl
       ·rw [hn2]; simp [std]; omega
       ·rw [hc2]; rfl
      obtain ⟨n3, hn3'⟩ := nm (kk + n2)
      obtain ⟨R3, hR3⟩ := nm (R1 ++ R2)
      have g6 : A.fits kk n2 = true ∧ A.addn kk n2 = n3 ∧ A.app R1 R2 = R3 := by
       rw [hA, hn3', hR3]
       refine ⟨?_, rfl, rfl⟩
       simp [std]; omega
      refine zaa zab hA rfl rfl 400 ?_
      conv => arg 3; cbv
      repeat (simp only [kf, g1, g3, g4, g5, g6, c1]; try (conv => arg 3; cbv))
      refine zdg 6 rfl rfl (by omega) (fun c' r' hcc hlr => ?_)
      obtain ⟨l4, hl4⟩ := nm (R3 ++ r')
      rw [← hl4]
      conv => arg 3; cbv
      refine good_mrk 7 rfl rfl ?_
      conv => arg 3; cbv
      refine zai (l := [0, 1, 7, 3]) ⟨rfl, rfl, rfl⟩ hL2 (⟨⟨i1, pt4, n3, c', l4⟩, hok.new hi1 (by omega) hp4 (by dsimp only; omega) hcc (by rw [hl4, hlr]; omega) (fun v hv => by rw [hl4, List.take_append_of_le_length (by rw [hR3]; simp; omega)] at hv; have h1 := List.mem_of_mem_take hv; rw [hR3] at h1; exact (List.mem_append.1 h1).elim (v1 v) (v2 v))⟩ : { x : TSt // x.Ok sp }) ?_ rfl rfl rfl ?_ ?_ ?_ ?_
      ·dsimp only
       omega
      ·intro b hb
       simp only [List.mem_cons, List.not_mem_nil, or_false] at hb
       rcases hb with rfl | rfl | rfl | rfl <;> simp [MB.ok, S1.ok]
      ·exact zao (by cbv <;> trivial)
      ·exact ⟨.inl rfl, .inl rfl, .inr rfl, .inr rfl, trivial⟩
      ·cbv
       simp
     ·have kf : ∀ j, A.eq 3 j = decide (3 = j) := fun j => by rw [hA]; rfl
      have c1 : A.add .i64 (Int.ofNat i) 1 = Int.ofNat i1 := by rw [hA, hi1]; exact (wrap64 (by simp; omega) (by simp; omega)).trans (by simp)
      obtain ⟨R1, hR1⟩ := nm ((l.drop 0).take kk)
      obtain ⟨y1, z1, v1⟩ := rows_u8 (b := 0) (k := kk) hu3 (by omega) (by omega) hR1
      obtain ⟨c2, hc2⟩ := nm (c - kk)
      obtain ⟨kb, hkb⟩ := nm ((if c = kk then 0 else 0 + kk * 1))
      obtain ⟨n2, hn2⟩ := nm (n - kk)
      obtain ⟨R2, hR2⟩ := nm ((l.drop kb).take n2)
      obtain ⟨y2, z2, v2⟩ := rows_u8 (b := kb) (k := n2) hu3 (by rw [hkb]; split <;> omega) (by omega) hR2
      have g3 : A.cutok 0 (Int.ofNat kk) c = true ∧ A.cutb 0 0 c 1 = 0 ∧ A.cutn 0 (Int.ofNat kk) = kk ∧ A.cutc c 0 = c ∧ A.rows l 0 kk 1 = some R1 ∧ A.fits 0 kk = true ∧ A.addn 0 kk = kk ∧ A.app [] R1 = R1 ∧ A.eqn kk kk = true := by
       rw [hA]
       refine ⟨?_, ?_, ?_, ?_, y1, ?_, ?_, rfl, ?_⟩ <;> simp [std] <;> omega
      have g4 : A.cutok (Int.ofNat kk) ni c = true ∧ A.cutb 0 (Int.ofNat kk) c 1 = kb ∧ A.cutn (Int.ofNat kk) ni = n2 ∧ A.cutc c (Int.ofNat kk) = c2 ∧ A.rows l kb n2 1 = some R2 := by
       rw [hA]
       refine ⟨?_, ?_, ?_, ?_, y2⟩
       ·simp [std]; omega
       ·rw [hkb]; rfl
       ·rw [hn2]; simp [std]; omega
       ·rw [hc2]; rfl
      obtain ⟨k1, hk1⟩ := nm (kk + 1)
      obtain ⟨n3, hn3'⟩ := nm (k1 + n2)
      obtain ⟨R3, hR3⟩ := nm (R1 ++ [.int .u8 32])
      obtain ⟨R4, hR4⟩ := nm (R3 ++ R2)
      have g5 : ∀ n, A.eqn n n = true := fun n => by rw [hA]; simp [std]
      have g6 : A.fits kk 1 = true ∧ A.addn kk 1 = k1 ∧ A.app R1 [.int .u8 32] = R3 ∧ A.fits k1 n2 = true ∧ A.addn k1 n2 = n3 ∧ A.app R3 R2 = R4 := by
       rw [hA, hn3', hR4, hR3, hk1]
       refine ⟨?_, rfl, rfl, ?_, rfl, rfl⟩ <;> simp [std] <;> omega
      refine zaa zab hA rfl rfl 400 ?_
      conv => arg 3; cbv
      repeat (simp only [kf, g1, g3, g4, g5, g6, c1]; try (conv => arg 3; cbv))
      refine good_hforkE zab 0 5 rfl rfl rfl rfl rfl rfl rfl (by rfl) rfl rfl rfl (by rfl) rfl ?_ ?_
      ·refine zaa zab hA rfl rfl 400 ?_
       conv => arg 3; cbv
       repeat (simp only [kf, g1, g3, g4, g5, g6, c1]; try (conv => arg 3; cbv))
       refine good_hforkA zab hA 4 5 (vi := ?vi3) (mi := ?mi3) (v := ?v3) (mem' := ?mm3) rfl rfl rfl rfl rfl rfl rfl ?hq3 rfl rfl rfl ?hqj3 rfl ?h13 ?h23
       case hq3 =>
        conv => lhs; cbv
        try simp only [kf, g1, g3, g4, g5, g6, c1]
        try (conv => lhs; cbv)
        try simp only [kf, g1, g3, g4, g5, g6, c1]
        try rfl
       case hqj3 =>
        conv => lhs; cbv
        try rfl
       case h13 =>
        refine zaa zab hA rfl rfl 400 ?_
        conv => arg 3; cbv
        repeat (simp only [kf, g1, g3, g4, g5, g6, c1]; try (conv => arg 3; cbv))
        refine zdg 8 rfl rfl (by omega) (fun c' r' hcc hlr => ?_)
        obtain ⟨l4, hl4⟩ := nm (R4 ++ r')
        rw [← hl4]
        conv => arg 3; cbv
        refine good_mrk 9 rfl rfl ?_
        conv => arg 3; cbv
        refine zai (l := [0, 1, 9, 3]) ⟨rfl, rfl, rfl⟩ hL2 (⟨⟨i1, pt4, n3, c', l4⟩, hok.new hi1 (by omega) hp4 (by dsimp only; omega) hcc (by rw [hl4, hlr]; omega) (fun v hv => by rw [hl4, List.take_append_of_le_length (by rw [hR4, hR3]; simp; omega)] at hv; have h1 := List.mem_of_mem_take hv; rw [hR4, hR3] at h1; exact (List.mem_append.1 h1).elim (fun h1 => (List.mem_append.1 h1).elim (v1 v) (fun h1 => ⟨_, List.mem_singleton.1 h1⟩)) (v2 v))⟩ : { x : TSt // x.Ok sp }) ?_ rfl rfl rfl ?_ ?_ ?_ ?_
        ·dsimp only
         omega
        ·intro b hb
         simp only [List.mem_cons, List.not_mem_nil, or_false] at hb
         rcases hb with rfl | rfl | rfl | rfl <;> simp [MB.ok, S1.ok]
        ·exact zao (by cbv <;> trivial)
        ·exact ⟨.inl rfl, .inl rfl, .inr rfl, .inr rfl, trivial⟩
        ·cbv
         simp
       case h23 =>
        refine zaa zab hA rfl rfl 400 ?_
        conv => arg 3; cbv
        repeat (simp only [kf, g1, g3, g4, g5, g6, c1]; try (conv => arg 3; cbv))
        refine zdg 8 rfl rfl (by omega) (fun c' r' hcc hlr => ?_)
        obtain ⟨l4, hl4⟩ := nm (R4 ++ r')
        rw [← hl4]
        conv => arg 3; cbv
        refine good_mrk 9 rfl rfl ?_
        conv => arg 3; cbv
        refine zai (l := [0, 1, 9, 3]) ⟨rfl, rfl, rfl⟩ hL2 (⟨⟨i1, pt4, n3, c', l4⟩, hok.new hi1 (by omega) hp4 (by dsimp only; omega) hcc (by rw [hl4, hlr]; omega) (fun v hv => by rw [hl4, List.take_append_of_le_length (by rw [hR4, hR3]; simp; omega)] at hv; have h1 := List.mem_of_mem_take hv; rw [hR4, hR3] at h1; exact (List.mem_append.1 h1).elim (fun h1 => (List.mem_append.1 h1).elim (v1 v) (fun h1 => ⟨_, List.mem_singleton.1 h1⟩)) (v2 v))⟩ : { x : TSt // x.Ok sp }) ?_ rfl rfl rfl ?_ ?_ ?_ ?_
        ·dsimp only
         omega
        ·intro b hb
         simp only [List.mem_cons, List.not_mem_nil, or_false] at hb
         rcases hb with rfl | rfl | rfl | rfl <;> simp [MB.ok, S1.ok]
        ·exact zao (by cbv <;> trivial)
        ·exact ⟨.inl rfl, .inl rfl, .inr rfl, .inr rfl, trivial⟩
        ·cbv
         simp
      ·refine zaa zab hA rfl rfl 400 ?_
       conv => arg 3; cbv
       repeat (simp only [kf, g1, g3, g4, g5, g6, c1]; try (conv => arg 3; cbv))
       refine zdg 8 rfl rfl (by omega) (fun c' r' hcc hlr => ?_)
       obtain ⟨l4, hl4⟩ := nm (R4 ++ r')
       rw [← hl4]
       conv => arg 3; cbv
       refine good_mrk 9 rfl rfl ?_
       conv => arg 3; cbv
       refine zai (l := [0, 1, 9, 3]) ⟨rfl, rfl, rfl⟩ hL2 (⟨⟨i1, pt4, n3, c', l4⟩, hok.new hi1 (by omega) hp4 (by dsimp only; omega) hcc (by rw [hl4, hlr]; omega) (fun v hv => by rw [hl4, List.take_append_of_le_length (by rw [hR4, hR3]; simp; omega)] at hv; have h1 := List.mem_of_mem_take hv; rw [hR4, hR3] at h1; exact (List.mem_append.1 h1).elim (fun h1 => (List.mem_append.1 h1).elim (v1 v) (fun h1 => ⟨_, List.mem_singleton.1 h1⟩)) (v2 v))⟩ : { x : TSt // x.Ok sp }) ?_ rfl rfl rfl ?_ ?_ ?_ ?_
       ·dsimp only
        omega
       ·intro b hb
        simp only [List.mem_cons, List.not_mem_nil, or_false] at hb
        rcases hb with rfl | rfl | rfl | rfl <;> simp [MB.ok, S1.ok]
       ·exact zao (by cbv <;> trivial)
       ·exact ⟨.inl rfl, .inl rfl, .inr rfl, .inr rfl, trivial⟩
       ·cbv
        simp
   ·have q1 : A.lt (Int.ofNat i) 3 = false := by rw [hA]; simp [std]; omega
    refine zaa zab hA rfl rfl 400 ?_
    conv => arg 3; cbv
    repeat (simp only [f0, q1]; try (conv => arg 3; cbv))
    refine good_tostr Tryz.underlying9 Tryz.underlying66 Tryz.underlying5 rfl rfl hok.u (by omega) (fun s hs => ?_)
    refine zaa zab hA rfl rfl 400 ?_
    conv => arg 3; cbv
    refine zak zab (by rfl) (by rfl) (fun ρ w' hρ hSat => ⟨⟨s, by omega, rfl⟩, zah hSat.gr⟩)
theorem run_neqAct (a b : ActD) (W : World) : (Go.binOp .neq 29 (.agg a.cells) (.agg b.cells)).run Tryz.prog W = .ok (.bool (!sameAct a b)) W := by
 have h := run_eqAct a b W
 rw [run_eql_struct] at h
 rw [run_neq_struct]
 generalize (Op.equalIn 10000 29 (.agg a.cells) (.agg b.cells)).run Tryz.prog W = r at h ⊢
 cases r with
 | halt _ _ => simp [Result.andThen] at h
 | ok b w' =>
   simp only [Result.andThen, Result.ok.injEq, Value.bool.injEq] at h ⊢
   obtain ⟨rfl, rfl⟩ := h
   exact ⟨rfl, rfl⟩
namespace Eng
section
variable {E : Env} {R : Ending → World → Prop}
theorem good_hop {all : List Oper} {n0 : Nat} {W : List Nat} {m0 : List MB} {ls : List Nat} {i : Nat} {sole : Bool} {r : List (Nat × Bool)} {m : Nat} {o : Oper} {k : List It} {tm : PT} {mem : List MB} (v : SV) (ho : nth all i = some o) {x : Bool × Bool} (hw : wantE all tm o = some x) (hwx : wantB x = true) (hv : v.ok mem.length)
 (hq : ∀ o0 : Oper, o0.op = o.op → ∀ ρ (a : Act) w, TmOk mem.length tm → Rel ρ tm a → (execOp a.eval o0).run E.P w = .ok (.value (concV ρ v)) w)
 (h : Good E R ⟨.head all n0 W m0 (i :: ls) r m :: k, putE tm o.dst v, mem⟩) : Good E R ⟨.head all n0 W m0 ls ((i, sole) :: r) m :: k, tm, mem⟩ := by
 intro ρ w a hρ hl H htm ha hit l0 hl0 hO inv hc
 obtain ⟨a1, a2, a3, a4⟩ := hd hit
 subst hl0
 rw [za2] at ho
 obtain ⟨inv', hc', him, hr, hsole, hfree⟩ := head_next inv (by have := (List.getElem?_eq_some_iff.1 ho).1; simpa [zbp] using this) hc
 obtain ⟨o0, ho0, rfl⟩ := zcf ho
 have hrun := fun w => hq o0 rfl ρ a w htm ha
 obtain ⟨hS, hh⟩ := h ρ w _ hρ hl H (zcc htm hv) (zbu ha _ _) (zbv ⟨a1, a2, a3, a4⟩ (tl hit)) l0 rfl hO inv' hc'
 have ho' : l0.toArray[i]? = some o0 := by simpa using ho0
 refine ⟨hS, ?_⟩
 cases hb : sole with
 | true =>
   refine held_one (hsole hb) him ?_
   unfold wpOp
   simp only [ho']
   rw [if_pos ((zbe ha hw).trans hwx)]
   refine .inl ?_
   unfold Oper.wp
   rw [hrun]
   exact ⟨hS, hh⟩
 | false => exact held_first ho' hO (fun c a w hp => cont_panic k c _ _ a w hp) him _ _ _ _ inv (Region.free_spec ho' (hfree hb)) hr (.inl ⟨(zbe ha hw).trans hwx, fun w' _ => hrun w'⟩) hS hh
end
end Eng
theorem run_neqActs (l : List Value) (a : ActD) (hl : l = a.cells.toList) (x y : Operand) (t : TypeId) (A : Act) (o0 : Oper) (ho : o0.op = .binOp .neq 29 x y t) (hx : A.eval x = .agg l.toArray) (hy : A.eval y = .agg l.toArray) (w : World) : (execOp A.eval o0).run Tryz.prog w = .ok (.value (.bool false)) w := by
 subst hl
 have h := run_neqAct a a w
 rw [(zcp a a).2 rfl] at h
 have hm : Tryz.prog.eqGuardType Tryz.prog.depth 29 = false := by kernel_rfl
 have hg := run_eqGuard_agg (P := Tryz.prog) w .neq 29 x y a.cells a.cells hm
 unfold execOp
 rw [ho]
 simp only [hx, hy, Array.toArray_toList]
 simp [hg, h]
theorem sameActs_any (A1 A2 : Option Addr) (c1 c2 : Nat) (l : List ActD) (w : World) (hl : l.length ≤ 1000000) (h1 : Rd w w.heap.size A1 (actsCells l)) (h2 : Rd w w.heap.size A2 (actsCells l)) :
 Calls Tryz.prog 12 #[.slice A1 l.length c1, .slice A2 l.length c2] w fun e w' => e = .returned (.bool true) ∧ Below w.heap.size w w' := by
 obtain ⟨n, hn⟩ := nm (l.length)
 obtain ⟨A, hA⟩ : ∃ A, A = std := ⟨_, rfl⟩
 obtain ⟨ni, hni⟩ := nm (Int.ofNat n)
 have F : A.not true = false ∧ A.not false = true ∧ A.len n = ni ∧ A.eq ni ni = true := by
  rw [hA, hni]
  exact ⟨rfl, rfl, rfl, by simp [std]⟩
 by_cases hpos : n = 0
 ·refine zae (E := ⟨Tryz.prog, tabaT, ords12, Tryz.f12, w, [], [], fun _ _ _ => False⟩) zab (c := bodyOf Tryz.f12) (n := 0) Tryz.func12 rfl (show codeChk ords12 (bodyOf Tryz.f12) = true by decide +kernel) (rho []) (fun h p hp => zaq _ h p hp)
   (tm := [.one (.val (.slice A1 n c1)), .one (.val (.slice A2 n c2))] ++ List.replicate 31 (.one (.val undef))) (mem := []) (Nat.le_refl _) ?_ ?_ (by rw [hn]; rfl) ?_
  ·exact zan w [] _
  ·simp [SV.ok, S1.ok]
  ·refine zaa zab hA rfl rfl 400 ?_
   conv => arg 3; cbv
   repeat (simp only [F]; try (conv => arg 3; cbv))
   refine zbs 1 (α := { i : Nat // i ≤ n }) [4, 5, 9, 10, 11, 12, 13, 14, 15, 16, 17, 18, 19, 20, 21, 22, 23, 24, 25, 26, 27] (fun x => [(8, .one (.val (.int .i64 (Int.ofNat x.1))))]) (fun x => n - x.1) ⟨0, Nat.zero_le _⟩ ?_ (fun x y hy => zbl hy trivial) rfl (fun x L' hok hL1 hL2 => ?_)
   ·cbv
    simp
   ·obtain ⟨i, hile⟩ := x
    dsimp only
    have q1 : A.lt (Int.ofNat i) ni = false := by rw [hA, hni]; simp [std]; omega
    refine zaa zab hA rfl rfl 400 ?_
    conv => arg 3; cbv
    repeat (simp only [F, q1]; try (conv => arg 3; cbv))
    refine zak zab (by rfl) (by rfl) (fun ρ w' hρ hSat => ⟨rfl, zah hSat.gr⟩)
 ·obtain ⟨b1, o1, hA1, hbl1, hcell1⟩ := zca h1 (by rw [actsCells_len]; omega)
  obtain rfl := hA1
  obtain ⟨b2, o2, hA2, hbl2, hcell2⟩ := zca h2 (by rw [actsCells_len]; omega)
  obtain rfl := hA2
  obtain ⟨RC, hRC⟩ := nm (actsCells l)
  refine zae (E := ⟨Tryz.prog, tabaT, ords12, Tryz.f12, w, [], [(b1, o1), (b2, o2)], fun _ _ _ => False⟩) zab (c := bodyOf Tryz.f12) (n := 0) Tryz.func12 rfl (show codeChk ords12 (bodyOf Tryz.f12) = true by decide +kernel) (rho [(b1, o1), (b2, o2)]) (fun h p hp => zaq _ h p hp)
   (tm := [.one (.slc 0 0 n c1), .one (.slc 1 0 n c2)] ++ List.replicate 31 (.one (.val undef))) (mem := [.rsym RC, .rsym RC]) (Nat.le_refl _) ?_ ?_ (by rw [hn]; rfl) ?_
  ·exact ((zan w [] (rho [(b1, o1), (b2, o2)])).addR (l := RC) (p := (b1, o1)) rfl (by rw [hRC]; exact hcell1) hbl1 (by simp)).addR (l := RC) (p := (b2, o2)) rfl (by rw [hRC]; exact hcell2) hbl2 (by simp)
  ·simp [SV.ok, S1.ok]
  ·refine zaa zab hA rfl rfl 400 ?_
   conv => arg 3; cbv
   repeat (simp only [F]; try (conv => arg 3; cbv))
   refine zbs 1 (α := { i : Nat // i ≤ n }) [4, 5, 9, 10, 11, 12, 13, 14, 15, 16, 17, 18, 19, 20, 21, 22, 23, 24, 25, 26, 27] (fun x => [(8, .one (.val (.int .i64 (Int.ofNat x.1))))]) (fun x => n - x.1) ⟨0, Nat.zero_le _⟩ ?_ (fun x y hy => zbl hy trivial) rfl (fun x L' hok hL1 hL2 => ?_)
   ·cbv
    simp
   ·obtain ⟨i, hile⟩ := x
    dsimp only
    obtain ⟨n1, hn1⟩ := nm (i + 1)
    by_cases hi : i < n
    ·obtain ⟨a, ha⟩ : ∃ a, l[i]? = some a := ⟨_, List.getElem?_eq_getElem (by omega)⟩
     obtain ⟨q, hq⟩ := nm (i * 11)
     obtain ⟨K, hK⟩ := nm ((⟨a.key.toArray⟩ : ByteArray))
     obtain ⟨V, hV⟩ := nm ((⟨a.value.toArray⟩ : ByteArray))
     have q1 : A.lt (Int.ofNat i) ni = true := by rw [hA, hni]; simp [std]; omega
     have q2 : A.add .i64 (Int.ofNat i) 1 = Int.ofNat n1 := by rw [hA, hn1]; exact (wrap64 (by simp; omega) (by simp; omega)).trans (by simp)
     have q3 : A.inb (Int.ofNat i) n = true := by rw [hA]; simp [std]; omega
     have q4 : A.idx 0 (Int.ofNat i) 11 = q := by rw [hA, hq]; simp [std]
     have q5 : A.getN RC q 0 11 = some [.int .i64 a.kind, .int .i64 a.a, .int .i64 a.b, .int .i64 a.n, .int .i64 a.tenant, .int .i64 a.client, .int .i64 a.number, .int .i64 a.op, .int .i64 a.item, .string K, .string V] := by rw [hA, hq, hRC, hK, hV]; have h := zc3 (fun a : ActD => a.cells.toList) 11 (fun _ => rfl) ha []; rw [List.append_nil] at h; exact h
     refine zaa zab hA rfl rfl 400 ?_
     conv => arg 3; cbv
     repeat (simp only [F, q1, q3, q4, q5]; try (conv => arg 3; cbv))
     refine good_hop (.one (.val (.bool false))) rfl rfl rfl trivial (fun o0 h0 ρ a' w' htm ha => ?_) ?_
     ·refine run_neqActs [.int .i64 a.kind, .int .i64 a.a, .int .i64 a.b, .int .i64 a.n, .int .i64 a.tenant, .int .i64 a.client, .int .i64 a.number, .int .i64 a.op, .int .i64 a.item, .string K, .string V] a (by rw [hK, hV]; rfl) (.tmp 20) (.tmp 24) 29 _ o0 h0 ?_ ?_ w'
      ·exact (zbd (x := .tmp 20) ha htm rfl).1
      ·exact (zbd (x := .tmp 24) ha htm rfl).1
     refine zaa zab hA rfl rfl 400 ?_
     conv => arg 3; cbv
     repeat (simp only [F, q2]; try (conv => arg 3; cbv))
     intro ρ w' a' hρ hl H htm ha' hit
     refine hL2 a' w' ⟨⟨n1, by omega⟩, ⟨ρ, hρ, H.take (ex := []) hok, zaz ?_ ha'⟩, ?_⟩
     ·cbv
      simp
     ·dsimp only
      omega
    ·have q1 : A.lt (Int.ofNat i) ni = false := by rw [hA, hni]; simp [std]; omega
     refine zaa zab hA rfl rfl 400 ?_
     conv => arg 3; cbv
     repeat (simp only [F, q1]; try (conv => arg 3; cbv))
     refine zak zab (by rfl) (by rfl) (fun ρ w' hρ hSat => ⟨rfl, zah hSat.gr⟩)
theorem goes_text44 : Goes Tryz.prog 13 := zam Tryz.func13 (by kernel_rfl) (by kernel_rfl)
theorem goes_same44 : Goes Tryz.prog 12 := zam Tryz.func12 (by kernel_rfl) (by kernel_rfl)
section
variable {T : List (TypeId × TI)} {D : Ords} {fn : Func} {w0 : World} {ρ0 : List (Nat × Nat)} {L : Nat → Act → World → Prop} {R : Ending → World → Prop} {dst : Option Tmp} {k : List It} {tm : PT} {mem : List MB}
theorem good_text {Am As : Option Addr} {cm cs ml sl : Nat} {m sp : List Int} {c : CfgD} {hh : CfgH} {czl ccl ctl cvl crl col : Nat} (hml : ml = m.length) (hm : m.length ≤ 1000) (hrdM : Rd w0 w0.heap.size Am (m.map iv)) (hsl : sl = sp.length) (hs : sp.length ≤ 1000) (hrdS : Rd w0 w0.heap.size As (sp.map iv)) (ok : CfgOk c) (hczl : czl = c.zones.length) (hccl : ccl = c.cells.length) (hctl : ctl = c.tens.length) (hcvl : cvl = c.vers.length) (hcrl : crl = c.reps.length) (hcol : col = c.obs.length) (hk : headW [] k = true)
 (h : ∀ s : ByteArray, Eng.Good ⟨Tryz.prog, T, D, fn, w0, [], ρ0, L⟩ R ⟨k, putE tm dst (.one (.val (.string s))), mem⟩) :
 Eng.Good ⟨Tryz.prog, T, D, fn, w0, [], ρ0, L⟩ R ⟨.call 13 [.one (.val (.slice Am ml cm)), .agg [.val (iv c.regions), .val (.slice hh.az czl hh.kz), .val (.slice hh.ac ccl hh.kc), .val (.slice hh.at_ ctl hh.kt), .val (.slice hh.av cvl hh.kv), .val (.slice hh.ar crl hh.kr), .val (.slice hh.ao col hh.ko), .val (iv c.blast), .val (iv c.lease), .val (iv c.bake)], .one (.val (.slice As sl cs))] dst :: k, tm, mem⟩ := by
 subst hczl hccl hctl hcvl hcrl hcol
 refine za3 (α := ByteArray) [] (fun s => .one (.val (.string s))) (fun x => mem) (fun x => Nat.le_refl _) (fun x h hh _ => rfl) (fun x => trivial) hk goes_text44 (fun ρ w hρ H => ?_) h
 have hb0 : Below w0.heap.size w0 w := zah H.gr
 simp only [List.map, concV, conc1, hml, hsl]
 refine (lawText_any Am cm m c hh As cs sp w ok hm hs ((hrdM.below hb0).more hb0.size) ((hrdS.below hb0).more hb0.size)).mono ?_
 rintro e w' ⟨⟨s, _, rfl⟩, hb⟩
 exact ⟨s, ρ, rfl, fun _ _ => rfl, H.below hb⟩
end
theorem zbo (l : List UInt8) : (⟨l.toArray⟩ : ByteArray).data.toList = l := rfl
theorem lawBack_any (Ar : Option Addr) (cr : Nat) (ra : List ActD) (S0 : ByteArray) (Al : Option Addr) (cl' : Nat) (l : List Int) (pk : Bool) (Am : Option Addr) (cm : Nat) (m : List Int) (Asp : Option Addr) (cs : Nat) (sp : List Int) (w : World) (he : Env w) (hok1 : ∀ a ∈ ra, ActOk a)
 (hR : Rd w w.heap.size Ar (actsCells ra)) (hRl : Rd w w.heap.size Al (l.map iv)) (hRm : Rd w w.heap.size Am (m.map iv)) (hRs : Rd w w.heap.size Asp (sp.map iv)) :
 Calls Tryz.prog 4 #[.slice Ar ra.length cr, .string S0, .slice Al l.length cl', .bool pk, .slice Am m.length cm, .slice Asp sp.length cs] w fun e w' => e = .returned (.bool true) ∧ Below w.heap.size w w' := by
 obtain ⟨ll, hll⟩ := nm (l.length)
 obtain ⟨ml, hml⟩ := nm (m.length)
 obtain ⟨pl, hpl⟩ := nm (sp.length)
 obtain ⟨rl, hrl⟩ := nm (ra.length)
 obtain ⟨s0, hs0⟩ := nm ((S0.size : Int))
 obtain ⟨A, hA⟩ : ∃ A, A = std := ⟨_, rfl⟩
 obtain ⟨rli, hrli⟩ := nm (Int.ofNat rl)
 have F : A.not true = false ∧ A.not false = true ∧ A.len rl = rli ∧ A.slen S0 = s0 ∧ A.len 2 = 2 ∧ A.lt 0 2 = true ∧ A.lt 1 2 = true ∧ A.lt 2 2 = false ∧ A.inb 0 2 = true ∧ A.inb 1 2 = true ∧ A.idx 0 0 1 = 0 ∧ A.idx 0 1 1 = 1 ∧ A.add .i64 0 1 = 1 ∧ A.add .i64 1 1 = 2 ∧ A.eq 0 0 = true ∧ A.eq 2 0 = false ∧ A.eq 2 2 = true ∧ (∀ n, A.eq n n = true) := by
  rw [hA, hrli, hs0]
  exact ⟨rfl, rfl, rfl, rfl, rfl, by decide, by decide, by decide, by decide, by decide, by decide, by decide, by decide, by decide, by decide, by decide, by decide, fun n => by simp [std]⟩
 refine zae (E := ⟨Tryz.prog, tabaT, ords4, Tryz.f4, w, [], [], fun _ _ _ => False⟩) zab (c := bodyOf Tryz.f4) (n := 0) Tryz.func4 rfl (show codeChk ords4 (bodyOf Tryz.f4) = true by decide +kernel) (rho []) (fun h p hp => zaq _ h p hp)
  (tm := [.one (.val (.slice Ar rl cr)), .one (.val (.string S0)), .one (.val (.slice Al ll cl')), .one (.val (.bool pk)), .one (.val (.slice Am ml cm)), .one (.val (.slice Asp pl cs))] ++ List.replicate 142 (.one (.val undef))) (mem := []) (Nat.le_refl _) ?_ ?_ (by rw [hll, hml, hrl, hpl]; rfl) ?_
 ·exact zan w [] _
 ·simp [SV.ok, S1.ok]
 ·refine zaa zab hA rfl rfl 400 ?_
  conv => arg 3; cbv
  repeat (simp only [F]; try (conv => arg 3; cbv))
  refine zac (.one (.val (.bool true))) trivial goes_awake44 (fun ρ w' hρ hSat => ?_) ?_
  ·exact awake_any w' (he.below (below_all (zah hSat.gr)))
  by_cases h150 : (ll : Int) ≤ 150
  ·refine zaa zab hA rfl rfl 400 ?_
   conv => arg 3; cbv
   repeat (simp only [F]; try (conv => arg 3; cbv))
   refine zac (.one (.val (.bool true))) trivial zc7 (fun ρ w' hρ hSat => ?_) ?_
   ·simp only [List.map, concV, conc1]
    have hh := light_any Al ll cl' w'
    rw [decide_eq_true h150] at hh
    exact hh
   by_cases h151 : (ml : Int) ≤ 150
   ·refine zaa zab hA rfl rfl 400 ?_
    conv => arg 3; cbv
    repeat (simp only [F]; try (conv => arg 3; cbv))
    refine zac (.one (.val (.bool true))) trivial zc7 (fun ρ w' hρ hSat => ?_) ?_
    ·simp only [List.map, concV, conc1]
     have hh := light_any Am ml cm w'
     rw [decide_eq_true h151] at hh
     exact hh
    by_cases h152 : (pl : Int) ≤ 150
    ·refine zaa zab hA rfl rfl 400 ?_
     conv => arg 3; cbv
     repeat (simp only [F]; try (conv => arg 3; cbv))
     refine zac (.one (.val (.bool true))) trivial zc7 (fun ρ w' hρ hSat => ?_) ?_
     ·simp only [List.map, concV, conc1]
      have hh := light_any Asp pl cs w'
      rw [decide_eq_true h152] at hh
      exact hh
     by_cases h60 : 60 < rli
     ·have b0 : A.lt 60 rli = true := by rw [hA]; exact decide_eq_true h60
      refine zaa zab hA rfl rfl 400 ?_
      conv => arg 3; cbv
      repeat (simp only [F, b0]; try (conv => arg 3; cbv))
      refine zak zab (by rfl) (by rfl) (fun ρ w' hρ hSat => ⟨rfl, zah hSat.gr⟩)
     ·have b0 : A.lt 60 rli = false := by rw [hA]; exact decide_eq_false h60
      by_cases h2k : 2000 < s0
      ·have b1 : A.lt 2000 s0 = true := by rw [hA]; exact decide_eq_true h2k
       refine zaa zab hA rfl rfl 400 ?_
       conv => arg 3; cbv
       repeat (simp only [F, b0, b1]; try (conv => arg 3; cbv))
       refine zak zab (by rfl) (by rfl) (fun ρ w' hρ hSat => ⟨rfl, zah hSat.gr⟩)
      ·have b1 : A.lt 2000 s0 = false := by rw [hA]; exact decide_eq_false h2k
       have hrl60 : ra.length ≤ 1000000 := by have e : rli = (rl : Int) := hrli; omega
       have hl1000 : l.length ≤ 1000 := by omega
       have hm1000 : m.length ≤ 1000 := by omega
       have hs1000 : sp.length ≤ 1000 := by omega
       have hrlE : ra.length = rl := hrl.symm
       have hrliE : (ra.length : Int) = rli := by rw [hrli, hrl]; rfl
       have gr : A.len rl = rli := by rw [hA, hrli]; rfl
       refine zaa zab hA rfl rfl 400 ?_
       conv => arg 3; cbv
       repeat (simp only [F, b0, b1]; try (conv => arg 3; cbv))
       refine good_configs hll hl1000 hRl rfl (fun c hh czl ccl ctl cvl crl col ok hczl hccl hctl hcvl hcrl hcol => ?_)
       refine zaa zab hA rfl rfl 400 ?_
       conv => arg 3; cbv
       repeat (simp only [F]; try (conv => arg 3; cbv))
       refine good_actsN hml hm1000 hRm ok hczl hccl hctl hcvl hcrl hcol rfl (by omega) (fun acts Aa ca na mb q ρ1 hmill h70 hmbok hna hmono0 hq1 hAt => ?_)
       obtain ⟨nai, hnai⟩ := nm (Int.ofNat na)
       have hnaiE : (acts.length : Int) = nai := by rw [hnai, hna]; rfl
       have gn : A.len na = nai := by rw [hA, hnai]; rfl
       have hacok : ∀ a ∈ acts, ActOk a := fun a ha => (mill_small (hmill a ha)).ok
       have haclen : acts.length ≤ 1000000 := by omega
       refine zaa zab hA rfl rfl 400 ?_
       conv => arg 3; cbv
       repeat (simp only [F]; try (conv => arg 3; cbv))
       refine zbs 1 (α := { v : Int // v = 0 ∨ v = 1 ∨ v = 2 }) [12, 15, 16, 17, 18, 19, 20, 66, 67, 68, 69, 70, 71, 72, 73, 74, 75, 76, 77, 78, 79, 80, 81, 82, 83, 84, 85, 86, 87, 88, 89, 90, 91, 92, 93, 94, 95, 96] (fun x => [(65, .one (.val (.int .i64 x.1)))]) (fun x => (2 - x.1).toNat) ⟨0, .inl rfl⟩ ?_ (fun x y hy => zbl hy trivial) rfl (fun x L' hok hL1 hL2 => ?_)
       ·cbv
        simp
       ·obtain ⟨v, hv⟩ := x
        dsimp only
        rcases hv with rfl | rfl | rfl
        ·obtain ⟨S, hS⟩ := nm ((⟨(formatRes ra).1.toArray⟩ : ByteArray))
         obtain ⟨e, he'⟩ := nm ((formatRes ra).2)
         refine zaa zab hA rfl rfl 400 ?_
         conv => arg 3; cbv
         repeat (simp only [F]; try (conv => arg 3; cbv))
         refine zac (.tup [.one (.val (.string S)), .one (.val (.int .i64 e))]) (by simp [SV.ok, TV.ok, S1.ok]) zb5 (fun ρ w' hρ hSat => ?_) ?_
         ·simp only [List.map, concV, conc1, hrl]
          have hh := zc8 Ar cr ra w' (he.below (below_all (zah hSat.gr))) hok1 hrl60 ((hR.below (zah hSat.gr)).more (zah hSat.gr).size)
          rw [← hS, ← he'] at hh
          exact hh
         by_cases h0 : e = 0
         ·subst h0
          have hp := parse_format he'.symm
          refine zaa zab hA rfl rfl 400 ?_
          conv => arg 3; cbv
          repeat (simp only [F]; try (conv => arg 3; cbv))
          refine zcd he (acts := ra) (n := rli) (e := 0) (by rw [hS, zbo, hp]) (by rw [hS, zbo, hp]; exact hrliE) (by rw [hS, zbo, hp]) rfl (fun Ay cy ny mby q2 ρ2 hmby hny hmono hq2 hAy => ?_)
          refine zaa zab hA rfl rfl 400 ?_
          conv => arg 3; cbv
          repeat (simp only [F, gr]; try (conv => arg 3; cbv))
          refine zac (.one (.val (.bool true))) trivial goes_same44 (fun ρ w' hρ hSat => ?_) ?_
          ·simp only [List.map, concV, conc1, hrl, hny]
           exact sameActs_any Ar Ay cr cy ra w' hrl60 ((hR.below (zah hSat.gr)).more (zah hSat.gr).size) (hAy ρ w' [] (hρ 3 q2 hq2) hSat)
          refine zaa zab hA rfl rfl 400 ?_
          conv => arg 3; cbv
          repeat (simp only [F]; try (conv => arg 3; cbv))
          intro ρ w' a' hρ hl H htm ha' hit
          refine hL2 a' w' ⟨⟨1, by simp⟩, ⟨ρ, fun h p hp => hρ h p (hmono h p hp), H.take (ex := [mby]) hok, zaz ?_ ha'⟩, ?_⟩
          ·cbv
           simp
          ·simp
         ·have b0 : A.eq e 0 = false := by rw [hA]; exact decide_eq_false h0
          refine zaa zab hA rfl rfl 400 ?_
          conv => arg 3; cbv
          repeat (simp only [F, b0]; try (conv => arg 3; cbv))
          intro ρ w' a' hρ hl H htm ha' hit
          refine hL2 a' w' ⟨⟨1, by simp⟩, ⟨ρ, hρ, H.take (ex := []) hok, zaz ?_ ha'⟩, ?_⟩
          ·cbv
           simp
          ·simp
        ·obtain ⟨S, hS⟩ := nm ((⟨(formatRes acts).1.toArray⟩ : ByteArray))
         obtain ⟨e, he'⟩ := nm ((formatRes acts).2)
         refine zaa zab hA rfl rfl 400 ?_
         conv => arg 3; cbv
         repeat (simp only [F]; try (conv => arg 3; cbv))
         refine zac (.tup [.one (.val (.string S)), .one (.val (.int .i64 e))]) (by simp [SV.ok, TV.ok, S1.ok]) zb5 (fun ρ w' hρ hSat => ?_) ?_
         ·simp only [List.map, concV, conc1, hna]
          have hh := zc8 Aa ca acts w' (he.below (below_all (zah hSat.gr))) hacok haclen (hAt ρ w' _ (hρ 1 q hq1) hSat)
          rw [← hS, ← he'] at hh
          exact hh
         by_cases h0 : e = 0
         ·subst h0
          have hp := parse_format he'.symm
          refine zaa zab hA rfl rfl 400 ?_
          conv => arg 3; cbv
          repeat (simp only [F]; try (conv => arg 3; cbv))
          refine zcd he (acts := acts) (n := nai) (e := 0) (by rw [hS, zbo, hp]) (by rw [hS, zbo, hp]; exact hnaiE) (by rw [hS, zbo, hp]) rfl (fun Ay cy ny mby q2 ρ2 hmby hny hmono hq2 hAy => ?_)
          refine zaa zab hA rfl rfl 400 ?_
          conv => arg 3; cbv
          repeat (simp only [F, gn]; try (conv => arg 3; cbv))
          refine zac (.one (.val (.bool true))) trivial goes_same44 (fun ρ w' hρ hSat => ?_) ?_
          ·simp only [List.map, concV, conc1, hna, hny]
           exact sameActs_any Aa Ay ca cy acts w' haclen (hAt ρ w' _ (hρ 1 q (hmono 1 q hq1)) hSat) (hAy ρ w' [] (hρ 3 q2 hq2) hSat)
          refine zaa zab hA rfl rfl 400 ?_
          conv => arg 3; cbv
          repeat (simp only [F]; try (conv => arg 3; cbv))
          intro ρ w' a' hρ hl H htm ha' hit
          refine hL2 a' w' ⟨⟨2, by simp⟩, ⟨ρ, fun h p hp => hρ h p (hmono h p hp), H.take (ex := [mby]) hok, zaz ?_ ha'⟩, ?_⟩
          ·cbv
           simp
          ·simp
         ·have b0 : A.eq e 0 = false := by rw [hA]; exact decide_eq_false h0
          refine zaa zab hA rfl rfl 400 ?_
          conv => arg 3; cbv
          repeat (simp only [F, b0]; try (conv => arg 3; cbv))
          intro ρ w' a' hρ hl H htm ha' hit
          refine hL2 a' w' ⟨⟨2, by simp⟩, ⟨ρ, hρ, H.take (ex := []) hok, zaz ?_ ha'⟩, ?_⟩
          ·cbv
           simp
          ·simp
        ·refine zaa zab hA rfl rfl 400 ?_
         conv => arg 3; cbv
         repeat (simp only [F]; try (conv => arg 3; cbv))
         refine good_text hml hm1000 hRm hpl hs1000 hRs ok hczl hccl hctl hcvl hcrl hcol rfl (fun S1' => ?_)
         refine zaa zab hA rfl rfl 400 ?_
         conv => arg 3; cbv
         repeat (simp only [F]; try (conv => arg 3; cbv))
         refine zbs 2 (α := { v : Int // v = 0 ∨ v = 1 ∨ v = 2 }) [12, 22, 23, 24, 25, 26, 27, 28, 29, 30, 105, 106, 107, 108, 109, 110, 111, 112, 113, 114, 115, 116, 117, 118, 119, 120, 121, 122, 123, 124, 125, 126, 127, 128, 129, 130, 131, 132, 133, 134, 135, 136, 137, 138, 139, 140, 141, 142, 143, 144, 145, 146, 147] (fun x => [(104, .one (.val (.int .i64 x.1)))]) (fun x => (2 - x.1).toNat) ⟨0, .inl rfl⟩ ?_ (fun x y hy => zbl hy trivial) rfl (fun x L' hok hL1 hL2 => ?_)
         ·cbv
          simp
         ·obtain ⟨v, hv⟩ := x
          dsimp only
          rcases hv with rfl | rfl | rfl
          ·obtain ⟨X, hX⟩ := nm ((parseRes S0.data.toList).1)
           obtain ⟨n1, hn1⟩ := nm (((parseRes S0.data.toList).2.1 : Int))
           obtain ⟨e1, he1⟩ := nm ((parseRes S0.data.toList).2.2)
           have hXok : ∀ a ∈ X, ActOk a := by rw [hX]; exact parse_ok _
           have hXlen : X.length ≤ 1000000 := by rw [hX]; exact Nat.le_trans (parse_len _) (by decide)
           have hfp : (formatRes X).2 = 0 ∨ (formatRes X).2 = 2 := by rw [hX]; exact format_parse _
           refine zaa zab hA rfl rfl 400 ?_
           conv => arg 3; cbv
           repeat (simp only [F]; try (conv => arg 3; cbv))
           refine zcd he (acts := X) (n := n1) (e := e1) hX.symm hn1.symm he1.symm rfl (fun Ax cx nx mbx q1 ρ1 hmbx hnx hmono1 hq1 hAx => ?_)
           by_cases h0 : e1 = 0
           ·subst h0
            obtain ⟨S, hS⟩ := nm ((⟨(formatRes X).1.toArray⟩ : ByteArray))
            rcases hfp with hf | hf
            ·refine zaa zab hA rfl rfl 400 ?_
             conv => arg 3; cbv
             repeat (simp only [F]; try (conv => arg 3; cbv))
             refine zac (.tup [.one (.val (.string S)), .one (.val (.int .i64 0))]) (by simp [SV.ok, TV.ok, S1.ok]) zb5 (fun ρ w' hρ hSat => ?_) ?_
             ·simp only [List.map, concV, conc1, hnx]
              have hh := zc8 Ax cx X w' (he.below (below_all (zah hSat.gr))) hXok hXlen (hAx ρ w' [] (hρ 4 q1 hq1) hSat)
              rw [← hS, hf] at hh
              exact hh
             have hp := parse_format hf
             refine zaa zab hA rfl rfl 400 ?_
             conv => arg 3; cbv
             repeat (simp only [F]; try (conv => arg 3; cbv))
             refine zcd he (acts := X) (n := (X.length : Int)) (e := 0) (by rw [hS, zbo, hp]) (by rw [hS, zbo, hp]) (by rw [hS, zbo, hp]) rfl (fun Ay cy ny mby q2 ρ2 hmby hny hmono hq2 hAy => ?_)
             obtain ⟨xq, hxq⟩ := nm ((X.length : Int))
             rw [← hxq]
             refine zaa zab hA rfl rfl 400 ?_
             conv => arg 3; cbv
             repeat (simp only [F]; try (conv => arg 3; cbv))
             refine zac (.one (.val (.bool true))) trivial goes_same44 (fun ρ w' hρ hSat => ?_) ?_
             ·simp only [List.map, concV, conc1, hnx, hny]
              exact sameActs_any Ax Ay cx cy X w' hXlen (hAx ρ w' [mby] (hρ 4 q1 (hmono 4 q1 hq1)) hSat) (hAy ρ w' [] (hρ 5 q2 hq2) hSat)
             refine zaa zab hA rfl rfl 400 ?_
             conv => arg 3; cbv
             repeat (simp only [F]; try (conv => arg 3; cbv))
             intro ρ w' a' hρ hl H htm ha' hit
             refine hL2 a' w' ⟨⟨1, by simp⟩, ⟨ρ, fun h p hp => hρ h p (hmono h p (hmono1 h p hp)), H.take (ex := [mbx, mby]) hok, zaz ?_ ha'⟩, ?_⟩
             ·cbv
              simp
             ·simp
            ·refine zaa zab hA rfl rfl 400 ?_
             conv => arg 3; cbv
             repeat (simp only [F]; try (conv => arg 3; cbv))
             refine zac (.tup [.one (.val (.string S)), .one (.val (.int .i64 2))]) (by simp [SV.ok, TV.ok, S1.ok]) zb5 (fun ρ w' hρ hSat => ?_) ?_
             ·simp only [List.map, concV, conc1, hnx]
              have hh := zc8 Ax cx X w' (he.below (below_all (zah hSat.gr))) hXok hXlen (hAx ρ w' [] (hρ 4 q1 hq1) hSat)
              rw [← hS, hf] at hh
              exact hh
             obtain ⟨Y, hY⟩ := nm ((parseRes S.data.toList).1)
             obtain ⟨n2, hn2⟩ := nm (((parseRes S.data.toList).2.1 : Int))
             obtain ⟨e2, he2⟩ := nm ((parseRes S.data.toList).2.2)
             refine zaa zab hA rfl rfl 400 ?_
             conv => arg 3; cbv
             repeat (simp only [F]; try (conv => arg 3; cbv))
             refine zcd he (acts := Y) (n := n2) (e := e2) hY.symm hn2.symm he2.symm rfl (fun Ay cy ny mby q2 ρ2 hmby hny hmono hq2 hAy => ?_)
             refine zaa zab hA rfl rfl 400 ?_
             conv => arg 3; cbv
             repeat (simp only [F]; try (conv => arg 3; cbv))
             intro ρ w' a' hρ hl H htm ha' hit
             refine hL2 a' w' ⟨⟨1, by simp⟩, ⟨ρ, fun h p hp => hρ h p (hmono h p (hmono1 h p hp)), H.take (ex := [mbx, mby]) hok, zaz ?_ ha'⟩, ?_⟩
             ·cbv
              simp
             ·simp
           ·have b0 : A.eq e1 0 = false := by rw [hA]; exact decide_eq_false h0
            refine zaa zab hA rfl rfl 400 ?_
            conv => arg 3; cbv
            repeat (simp only [F, b0]; try (conv => arg 3; cbv))
            intro ρ w' a' hρ hl H htm ha' hit
            refine hL2 a' w' ⟨⟨1, by simp⟩, ⟨ρ, fun h p hp => hρ h p (hmono1 h p hp), H.take (ex := [mbx]) hok, zaz ?_ ha'⟩, ?_⟩
            ·cbv
             simp
            ·simp
          ·obtain ⟨X, hX⟩ := nm ((parseRes S1'.data.toList).1)
           obtain ⟨n1, hn1⟩ := nm (((parseRes S1'.data.toList).2.1 : Int))
           obtain ⟨e1, he1⟩ := nm ((parseRes S1'.data.toList).2.2)
           have hXok : ∀ a ∈ X, ActOk a := by rw [hX]; exact parse_ok _
           have hXlen : X.length ≤ 1000000 := by rw [hX]; exact Nat.le_trans (parse_len _) (by decide)
           have hfp : (formatRes X).2 = 0 ∨ (formatRes X).2 = 2 := by rw [hX]; exact format_parse _
           refine zaa zab hA rfl rfl 400 ?_
           conv => arg 3; cbv
           repeat (simp only [F]; try (conv => arg 3; cbv))
           refine zcd he (acts := X) (n := n1) (e := e1) hX.symm hn1.symm he1.symm rfl (fun Ax cx nx mbx q1 ρ1 hmbx hnx hmono1 hq1 hAx => ?_)
           by_cases h0 : e1 = 0
           ·subst h0
            obtain ⟨S, hS⟩ := nm ((⟨(formatRes X).1.toArray⟩ : ByteArray))
            rcases hfp with hf | hf
            ·refine zaa zab hA rfl rfl 400 ?_
             conv => arg 3; cbv
             repeat (simp only [F]; try (conv => arg 3; cbv))
             refine zac (.tup [.one (.val (.string S)), .one (.val (.int .i64 0))]) (by simp [SV.ok, TV.ok, S1.ok]) zb5 (fun ρ w' hρ hSat => ?_) ?_
             ·simp only [List.map, concV, conc1, hnx]
              have hh := zc8 Ax cx X w' (he.below (below_all (zah hSat.gr))) hXok hXlen (hAx ρ w' [] (hρ 4 q1 hq1) hSat)
              rw [← hS, hf] at hh
              exact hh
             have hp := parse_format hf
             refine zaa zab hA rfl rfl 400 ?_
             conv => arg 3; cbv
             repeat (simp only [F]; try (conv => arg 3; cbv))
             refine zcd he (acts := X) (n := (X.length : Int)) (e := 0) (by rw [hS, zbo, hp]) (by rw [hS, zbo, hp]) (by rw [hS, zbo, hp]) rfl (fun Ay cy ny mby q2 ρ2 hmby hny hmono hq2 hAy => ?_)
             obtain ⟨xq, hxq⟩ := nm ((X.length : Int))
             rw [← hxq]
             refine zaa zab hA rfl rfl 400 ?_
             conv => arg 3; cbv
             repeat (simp only [F]; try (conv => arg 3; cbv))
             refine zac (.one (.val (.bool true))) trivial goes_same44 (fun ρ w' hρ hSat => ?_) ?_
             ·simp only [List.map, concV, conc1, hnx, hny]
              exact sameActs_any Ax Ay cx cy X w' hXlen (hAx ρ w' [mby] (hρ 4 q1 (hmono 4 q1 hq1)) hSat) (hAy ρ w' [] (hρ 5 q2 hq2) hSat)
             refine zaa zab hA rfl rfl 400 ?_
             conv => arg 3; cbv
             repeat (simp only [F]; try (conv => arg 3; cbv))
             intro ρ w' a' hρ hl H htm ha' hit
             refine hL2 a' w' ⟨⟨2, by simp⟩, ⟨ρ, fun h p hp => hρ h p (hmono h p (hmono1 h p hp)), H.take (ex := [mbx, mby]) hok, zaz ?_ ha'⟩, ?_⟩
             ·cbv
              simp
             ·simp
            ·refine zaa zab hA rfl rfl 400 ?_
             conv => arg 3; cbv
             repeat (simp only [F]; try (conv => arg 3; cbv))
             refine zac (.tup [.one (.val (.string S)), .one (.val (.int .i64 2))]) (by simp [SV.ok, TV.ok, S1.ok]) zb5 (fun ρ w' hρ hSat => ?_) ?_
             ·simp only [List.map, concV, conc1, hnx]
              have hh := zc8 Ax cx X w' (he.below (below_all (zah hSat.gr))) hXok hXlen (hAx ρ w' [] (hρ 4 q1 hq1) hSat)
              rw [← hS, hf] at hh
              exact hh
             obtain ⟨Y, hY⟩ := nm ((parseRes S.data.toList).1)
             obtain ⟨n2, hn2⟩ := nm (((parseRes S.data.toList).2.1 : Int))
             obtain ⟨e2, he2⟩ := nm ((parseRes S.data.toList).2.2)
             refine zaa zab hA rfl rfl 400 ?_
             conv => arg 3; cbv
             repeat (simp only [F]; try (conv => arg 3; cbv))
             refine zcd he (acts := Y) (n := n2) (e := e2) hY.symm hn2.symm he2.symm rfl (fun Ay cy ny mby q2 ρ2 hmby hny hmono hq2 hAy => ?_)
             refine zaa zab hA rfl rfl 400 ?_
             conv => arg 3; cbv
             repeat (simp only [F]; try (conv => arg 3; cbv))
             intro ρ w' a' hρ hl H htm ha' hit
             refine hL2 a' w' ⟨⟨2, by simp⟩, ⟨ρ, fun h p hp => hρ h p (hmono h p (hmono1 h p hp)), H.take (ex := [mbx, mby]) hok, zaz ?_ ha'⟩, ?_⟩
             ·cbv
              simp
             ·simp
           ·have b0 : A.eq e1 0 = false := by rw [hA]; exact decide_eq_false h0
            refine zaa zab hA rfl rfl 400 ?_
            conv => arg 3; cbv
            repeat (simp only [F, b0]; try (conv => arg 3; cbv))
            intro ρ w' a' hρ hl H htm ha' hit
            refine hL2 a' w' ⟨⟨2, by simp⟩, ⟨ρ, fun h p hp => hρ h p (hmono1 h p hp), H.take (ex := [mbx]) hok, zaz ?_ ha'⟩, ?_⟩
            ·cbv
             simp
            ·simp
          ·refine zaa zab hA rfl rfl 400 ?_
           conv => arg 3; cbv
           repeat (simp only [F]; try (conv => arg 3; cbv))
           refine zak zab (by rfl) (by rfl) (fun ρ w' hρ hSat => ⟨rfl, zah hSat.gr⟩)
    ·refine zaa zab hA rfl rfl 400 ?_
     conv => arg 3; cbv
     repeat (simp only [F]; try (conv => arg 3; cbv))
     refine zac (.one (.val (.bool false))) trivial zc7 (fun ρ w' hρ hSat => ?_) ?_
     ·simp only [List.map, concV, conc1]
      have hh := light_any Asp pl cs w'
      rw [decide_eq_false h152] at hh
      exact hh
     refine zaa zab hA rfl rfl 400 ?_
     conv => arg 3; cbv
     repeat (simp only [F]; try (conv => arg 3; cbv))
     refine zak zab (by rfl) (by rfl) (fun ρ w' hρ hSat => ⟨rfl, zah hSat.gr⟩)
   ·refine zaa zab hA rfl rfl 400 ?_
    conv => arg 3; cbv
    repeat (simp only [F]; try (conv => arg 3; cbv))
    refine zac (.one (.val (.bool false))) trivial zc7 (fun ρ w' hρ hSat => ?_) ?_
    ·simp only [List.map, concV, conc1]
     have hh := light_any Am ml cm w'
     rw [decide_eq_false h151] at hh
     exact hh
    refine zaa zab hA rfl rfl 400 ?_
    conv => arg 3; cbv
    repeat (simp only [F]; try (conv => arg 3; cbv))
    refine zak zab (by rfl) (by rfl) (fun ρ w' hρ hSat => ⟨rfl, zah hSat.gr⟩)
  ·refine zaa zab hA rfl rfl 400 ?_
   conv => arg 3; cbv
   repeat (simp only [F]; try (conv => arg 3; cbv))
   refine zac (.one (.val (.bool false))) trivial zc7 (fun ρ w' hρ hSat => ?_) ?_
   ·simp only [List.map, concV, conc1]
    have hh := light_any Al ll cl' w'
    rw [decide_eq_false h150] at hh
    exact hh
   refine zaa zab hA rfl rfl 400 ?_
   conv => arg 3; cbv
   repeat (simp only [F]; try (conv => arg 3; cbv))
   refine zak zab (by rfl) (by rfl) (fun ρ w' hρ hSat => ⟨rfl, zah hSat.gr⟩)
end Go.Proofs.YtcgcfeablbjnaaaGreatDoor
