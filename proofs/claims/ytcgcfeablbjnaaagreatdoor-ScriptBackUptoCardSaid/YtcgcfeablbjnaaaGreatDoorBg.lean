/- Parts of the proof that ScriptBack returns true for every input of bulk at most 1048576. -/
import Derived.Test.YtcgcfeablbjnaaaGreatDoorBc
import Derived.Test.YtcgcfeablbjnaaaGreatDoorBf
import Derived.Test.YtcgcfeablbjnaaaGreatDoorBa
import Derived.Test.YtcgcfeablbjnaaaGreatDoorProg
set_option linter.unusedSimpArgs false
set_option linter.unusedVariables false
set_option maxRecDepth 100000
set_option maxHeartbeats 8000000
namespace Go.Proofs.YtcgcfeablbjnaaaGreatDoor
open Eng
def tabaT : List (TypeId × TI) := [
 (3, ⟨.int .i64, false, 1, [.int .i64 0], [], [], 0, 0, []⟩),
 (61, ⟨.other, true, 8, [.int .i64 0, .int .i64 0, .slice none 0 0, .slice none 0 0, .int .i64 0, .int .i64 0, .int .i64 0, .int .i64 0], [0, 1, 2, 3, 4, 5, 6, 7], [1, 1, 1, 1, 1, 1, 1, 1], 0, 0, []⟩),
 (96, ⟨.other, true, 9, [.int .i64 0, .int .i64 0, .int .i64 0, .int .i64 0, .int .i64 0, .int .i64 0, .int .i64 0, .int .i64 0, .int .i64 0], [0, 1, 2, 3, 4, 5, 6, 7, 8], [1, 1, 1, 1, 1, 1, 1, 1, 1], 0, 0, []⟩),
 (36, ⟨.other, true, 10, [.int .i64 0, .slice none 0 0, .slice none 0 0, .slice none 0 0, .slice none 0 0, .slice none 0 0, .slice none 0 0, .int .i64 0, .int .i64 0, .int .i64 0], [0, 1, 2, 3, 4, 5, 6, 7, 8, 9], [1, 1, 1, 1, 1, 1, 1, 1, 1, 1], 0, 0, []⟩),
 (105, ⟨.other, true, 12, [.bool false, .bool false, .int .i64 0, .int .i64 0, .int .i64 0, .int .i64 0, .int .i64 0, .int .i64 0, .int .i64 0, .int .i64 0, .int .i64 0, .int .i64 0], [0, 1, 2, 3, 4, 5, 6, 7], [1, 1, 1, 1, 1, 1, 1, 5], 0, 0, []⟩),
 (59, ⟨.slice, false, 1, [.slice none 0 0], [], [], 4, 107, [.int .i64 0, .int .i64 0, .int .i64 0, .int .i64 0]⟩),
 (107, ⟨.other, true, 4, [.int .i64 0, .int .i64 0, .int .i64 0, .int .i64 0], [0, 1, 2, 3], [1, 1, 1, 1], 0, 0, []⟩),
 (66, ⟨.slice, false, 1, [.slice none 0 0], [], [], 1, 5, [.int .u8 0]⟩),
 (58, ⟨.slice, false, 1, [.slice none 0 0], [], [], 12, 105, [.bool false, .bool false, .int .i64 0, .int .i64 0, .int .i64 0, .int .i64 0, .int .i64 0, .int .i64 0, .int .i64 0, .int .i64 0, .int .i64 0, .int .i64 0]⟩),
 (22, ⟨.slice, false, 1, [.slice none 0 0], [], [], 11, 29, [.int .i64 0, .int .i64 0, .int .i64 0, .int .i64 0, .int .i64 0, .int .i64 0, .int .i64 0, .int .i64 0, .int .i64 0, .string ByteArray.empty, .string ByteArray.empty]⟩),
 (32, ⟨.slice, false, 1, [.slice none 0 0], [], [], 2, 115, [.int .i64 0, .int .i64 0]⟩),
 (9, ⟨.string, false, 1, [.string ByteArray.empty], [], [], 0, 0, []⟩),
 (103, ⟨.other, true, 5, [.int .i64 0, .int .i64 0, .int .i64 0, .int .i64 0, .int .i64 0], [0, 1, 2, 3, 4], [1, 1, 1, 1, 1], 0, 0, []⟩),
 (39, ⟨.int .i64, false, 1, [.int .i64 0], [], [], 0, 0, []⟩),
 (38, ⟨.slice, false, 1, [.slice none 0 0], [], [], 1, 22, [.slice none 0 0]⟩),
 (34, ⟨.slice, false, 1, [.slice none 0 0], [], [], 2, 120, [.int .i64 0, .int .i64 0]⟩),
 (33, ⟨.slice, false, 1, [.slice none 0 0], [], [], 7, 118, [.int .i64 0, .int .i64 0, .int .i64 0, .int .i64 0, .int .i64 0, .int .i64 0, .bool false]⟩),
 (120, ⟨.other, true, 2, [.int .i64 0, .int .i64 0], [0, 1], [1, 1], 0, 0, []⟩),
 (57, ⟨.slice, false, 1, [.slice none 0 0], [], [], 9, 96, [.int .i64 0, .int .i64 0, .int .i64 0, .int .i64 0, .int .i64 0, .int .i64 0, .int .i64 0, .int .i64 0, .int .i64 0]⟩),
 (4, ⟨.bool, false, 1, [.bool false], [], [], 0, 0, []⟩),
 (47, ⟨.slice, false, 1, [.slice none 0 0], [], [], 1, 9, [.string ByteArray.empty]⟩),
 (23, ⟨.slice, false, 1, [.slice none 0 0], [], [], 1, 3, [.int .i64 0]⟩),
 (29, ⟨.other, true, 11, [.int .i64 0, .int .i64 0, .int .i64 0, .int .i64 0, .int .i64 0, .int .i64 0, .int .i64 0, .int .i64 0, .int .i64 0, .string ByteArray.empty, .string ByteArray.empty], [0, 1, 2, 3, 4], [1, 1, 1, 1, 7], 0, 0, []⟩),
 (116, ⟨.int .u64, false, 1, [.int .u64 0], [], [], 0, 0, []⟩),
 (5, ⟨.int .u8, false, 1, [.int .u8 0], [], [], 0, 0, []⟩),
 (27, ⟨.other, true, 7, [.int .i64 0, .int .i64 0, .int .i64 0, .int .i64 0, .int .i64 0, .string ByteArray.empty, .string ByteArray.empty], [0, 1, 2, 3, 4, 5, 6], [1, 1, 1, 1, 1, 1, 1], 0, 0, []⟩)]
theorem tabaT_ok : TabOk Tryz.prog tabaT := tabOk_of (by kernel_rfl)
def ords93 : Ords := []
def ords67 : Ords := [(2, [(0, true), (1, true), (2, true), (3, true), (4, true), (5, true), (6, true), (7, true), (8, true), (9, true), (10, true), (11, false), (12, false), (13, true), (14, true), (15, true), (16, true), (17, true), (18, true), (19, true), (20, true)], 21, []), (4, [(0, false), (1, false), (2, true), (3, true), (4, true), (5, true), (6, true), (7, true), (8, false), (9, false), (10, true), (11, true), (12, true), (13, true), (14, true), (15, true), (16, true), (17, false), (18, false), (19, true), (20, true), (21, true), (22, true), (23, true), (24, true), (25, true)], 26, [])]
def ords74 : Ords := [(9, [(0, false), (1, false), (2, false), (3, false), (4, true), (5, true), (6, true), (7, true)], 8, []), (13, [(0, false), (1, false), (2, true), (3, true), (4, true), (5, true), (6, true), (7, true), (8, false), (9, true), (10, true), (11, true), (12, true), (13, true), (14, true), (15, true), (16, true), (17, true), (18, true), (19, true)], 20, []), (15, [(0, false), (1, false), (2, true), (3, true), (4, true), (5, true), (6, true), (7, true), (8, false), (9, true), (10, true), (11, true), (12, true), (13, true), (14, true), (15, false), (16, true), (17, true), (18, true), (19, true), (20, true)], 21, [])]
def ords75 : Ords := [(2, [(0, false), (1, false), (2, true), (3, true), (4, true), (5, true), (6, true), (7, true), (8, false), (9, false), (10, false), (11, false), (12, true), (13, true), (14, true), (15, true), (16, true), (17, true), (18, true)], 19, []), (12, [(0, false), (1, false), (2, false), (3, false), (4, false), (5, false), (6, true), (7, true), (8, true), (9, true), (10, true)], 11, [1])]
def ords76 : Ords := []
def ords78 : Ords := [(9, [(0, false), (1, false), (2, false), (3, false), (4, false), (5, false), (6, false), (7, true), (8, true), (9, true), (10, true), (11, false), (12, false), (13, false), (14, false), (15, false), (16, false), (17, false), (18, true), (19, true), (20, true), (21, true)], 22, [])]
def ords95 : Ords := [(1, [(0, false), (1, false), (2, false), (3, true), (4, true), (5, true), (6, true), (7, true), (8, true), (9, true), (10, false), (11, false), (12, false), (13, true), (14, true), (15, true), (16, true), (17, true), (18, true), (19, true), (20, true)], 21, [])]
def ords65 : Ords := []
def ords38 : Ords := []
def ords40 : Ords := [(27, [(0, false), (1, false), (2, false), (3, false), (4, false), (5, false), (6, false), (7, true), (8, true), (9, true)], 10, []), (29, [(0, false), (1, false), (2, false), (3, false), (4, false), (5, false), (6, false), (7, false), (8, false), (9, false), (10, false), (11, false), (12, true), (13, true), (14, true), (15, true), (16, true)], 17, [5]), (37, [(0, false), (1, false), (2, false), (3, false), (5, false), (6, false), (7, false), (4, true), (8, true)], 9, [])]
def ords63 : Ords := []
def ords88 : Ords := []
def ords108 : Ords := []
def ords109 : Ords := [(2, [(0, false), (2, false), (3, false), (4, false), (1, true), (5, true), (6, true), (7, true), (8, true), (9, true), (10, false), (11, false), (12, true), (13, true), (14, true), (15, true), (16, true), (17, true)], 18, [])]
def ords110 : Ords := []
def ords121 : Ords := []
def ords125 : Ords := []
def ords41 : Ords := []
def ords42 : Ords := []
def ords39 : Ords := []
def ords13 : Ords := [(14, [(1, false), (2, false), (3, false), (5, false), (8, false), (9, false), (10, false), (7000, true), (7004, true), (6, true), (7, true), (11, true), (12, true)], 13, []), (16, [(1, false), (2, false), (3, false), (5, false), (6, false), (7, false), (8, false), (0, true), (4, true), (9, true), (10, true)], 11, []), (10, [(1, false), (2, false), (3, false), (7, false), (8, false), (9, false), (6000, true), (6004, true), (5, true), (6, true), (10, true), (11, true)], 12, [])]
def ords12 : Ords := [(4, [(0, false), (1, false), (2, true), (3, true), (4, true), (5, true), (6, false), (7, false), (8, false), (9, false), (10, false), (11, true), (12, true), (13, true), (14, true), (15, true)], 16, [])]
def ords4 : Ords := []
end Go.Proofs.YtcgcfeablbjnaaaGreatDoor
namespace Go.Proofs.YtcgcfeablbjnaaaGreatDoor
open Go.RowKit Eng
theorem mixed_ok : Tryz.prog.follows .mixedOrders = true := by kernel_rfl
theorem zab {D : Ords} {fn : Func} {w : World} {own : List Nat} {l : List (Nat × Nat)} {L : Nat → Act → World → Prop} : (⟨Tryz.prog, tabaT, D, fn, w, own, l, L⟩ : Eng.Env).Ok := ⟨tabaT_ok, mixed_ok⟩
theorem zbm {α : Type} (f : α → List Value) (k : Nat) (hf : ∀ x, (f x).length = k) (l : List α) : (l.flatMap f).length = l.length * k := by
 induction l with
 | nil => simp
 | cons x l ih => simp [List.flatMap_cons, ih, hf]; rw [Nat.succ_mul]; omega
theorem zc3 {α : Type} (f : α → List Value) (k : Nat) (hf : ∀ x, (f x).length = k) {l : List α} {i : Nat} {x : α} (hx : l[i]? = some x) (r : List Value) : std.getN (l.flatMap f ++ r) (i * k) 0 k = some (f x) := by
 have hi := (List.getElem?_eq_some_iff.1 hx).1
 have hle : i * k + k ≤ (l.flatMap f).length := by rw [zbm f k hf]; have := Nat.mul_le_mul_right k (show i + 1 ≤ l.length by omega); rw [Nat.succ_mul] at this; exact this
 simp only [std]
 rw [if_pos (by rw [List.length_append]; omega)]
 congr 1
 refine List.ext_getElem? fun j => ?_
 rw [List.getElem?_take]
 split
 ·rename_i hj
  rw [List.getElem?_drop, Nat.add_zero, List.getElem?_append_left (by omega), flat_at f k hf l i j x hx hj]
 ·rename_i hj
  rw [List.getElem?_eq_none (by rw [hf]; omega)]
theorem zap {α : Type} (f : α → List Value) (k : Nat) (hf : ∀ x, (f x).length = k) {l : List α} {i : Nat} {x : α} (hx : l[i]? = some x) (r : List Value) (j : Nat) (hj : j < k) : std.get (l.flatMap f ++ r) (i * k) j = (f x)[j]? := by
 have hi := (List.getElem?_eq_some_iff.1 hx).1
 have hle : i * k + k ≤ (l.flatMap f).length := by rw [zbm f k hf]; have := Nat.mul_le_mul_right k (show i + 1 ≤ l.length by omega); rw [Nat.succ_mul] at this; exact this
 simp only [std]
 rw [List.getElem?_append_left (by omega), flat_at f k hf l i j x hx hj]
theorem wrap64 {n : Int} (h0 : -9223372036854775808 ≤ n) (h1 : n ≤ 9223372036854775807) : IntKind.wrap .i64 n = n := by
 simp only [IntKind.wrap]
 have : IntKind.bits .i64 = 64 := rfl
 simp [IntKind.bits, IntKind.signed]
 omega
theorem zbl {n : Nat} {a y : Nat × SV} (hy : y ∈ [a]) (ha : a.2.ok n) : y.2.ok n := by
 cases List.mem_singleton.1 hy
 exact ha
theorem zby {α : Type} (f : α → List Value) (k : Nat) (hf : ∀ x, (f x).length = k) {l : List α} {i : Nat} {x x' : α} (hx : l[i]? = some x) (r : List Value) (j : Nat) (vs : List Value) (hj : j + vs.length ≤ k) (he : f x' = (f x).take j ++ vs ++ (f x).drop (j + vs.length)) :
 std.set (l.flatMap f ++ r) (i * k) j vs = some ((l.set i x').flatMap f ++ r) := by
 have hi := (List.getElem?_eq_some_iff.1 hx).1
 have hle : i * k + k ≤ (l.flatMap f).length := by rw [zbm f k hf]; have := Nat.mul_le_mul_right k (show i + 1 ≤ l.length by omega); rw [Nat.succ_mul] at this; exact this
 simp only [std]
 rw [if_pos (by rw [List.length_append]; omega)]
 congr 1
 have key : ∀ (l : List α) (i : Nat), l[i]? = some x → (l.flatMap f).take (i * k + j) ++ vs ++ (l.flatMap f).drop (i * k + j + vs.length) = (l.set i x').flatMap f := by
  intro l
  induction l with
  | nil => intro i h; simp at h
  | cons y l ih =>
    intro i h
    cases i with
    | zero =>
      obtain rfl : y = x := by simpa using h
      rw [Nat.zero_mul, Nat.zero_add, List.flatMap_cons, List.take_append_of_le_length (by rw [hf]; omega), List.drop_append_of_le_length (by rw [hf]; omega), List.set_cons_zero, List.flatMap_cons, he]
      simp
    | succ i =>
      have ih' := ih i (by simpa using h)
      rw [List.flatMap_cons, List.set_cons_succ, List.flatMap_cons, ← ih', show (i + 1) * k + j = (f y).length + (i * k + j) by rw [hf, Nat.succ_mul]; omega, List.take_length_add_append, show (f y).length + (i * k + j) + vs.length = (f y).length + (i * k + j + vs.length) by omega, List.drop_length_add_append]
      simp
 rw [← key l i hx, List.take_append_of_le_length (by omega), List.drop_append_of_le_length (by omega)]
 simp
theorem in_any (n lo hi : Int) (w : World) :
 Calls Tryz.prog 108 #[.int .i64 n, .int .i64 lo, .int .i64 hi] w fun e w' => e = .returned (.bool (inB n lo hi)) ∧ Below w.heap.size w w' := by
 obtain ⟨A, hA⟩ : ∃ A, A = std := ⟨_, rfl⟩
 have f6 : A.not true = false := by rw [hA]; rfl
 have f7 : A.not false = true := by rw [hA]; rfl
 obtain ⟨z1, hz1⟩ := nm (decide (lo ≤ n))
 have tz1 : A.le lo n = z1 := by rw [hA, hz1]; rfl
 obtain ⟨z2, hz2⟩ := nm (decide (n ≤ hi))
 have tz2 : A.le n hi = z2 := by rw [hA, hz2]; rfl
 refine zae (E := ⟨Tryz.prog, tabaT, ords108, Tryz.f108, w, [], [], fun _ _ _ => False⟩) zab (c := bodyOf Tryz.f108) (n := 0) Tryz.func108 rfl (show codeChk ords108 (bodyOf Tryz.f108) = true by decide +kernel) (rho []) (fun h p hp => zaq _ h p hp)
  (tm := [.one (.val (.int .i64 n)), .one (.val (.int .i64 lo)), .one (.val (.int .i64 hi))] ++ List.replicate 12 (.one (.val undef))) (mem := []) (Nat.le_refl _) ?_ ?_ (by rfl) ?_
 ·exact zan w [] _
 ·simp [SV.ok, S1.ok]
 ·refine zaa zab hA rfl rfl 400 ?_
  conv => arg 3; cbv
  repeat (simp only [f6, f7, tz1, tz2]; conv => arg 3; cbv)
  cases hcz1 : z1
  ·rw [hcz1] at hz1
   try rw [hcz1] at tz1
   conv => arg 3; cbv
   repeat (simp only [f6, f7, tz1, tz2]; conv => arg 3; cbv)
   refine zak zab (by rfl) (by rfl) (fun ρ w' hρ hSat => ⟨?_, zah hSat.gr⟩)
   simp only [concV, conc1, inB]
   simp [← hz1, ← hz2]
  ·rw [hcz1] at hz1
   try rw [hcz1] at tz1
   conv => arg 3; cbv
   repeat (simp only [f6, f7, tz1, tz2]; conv => arg 3; cbv)
   cases hcz2 : z2
   ·rw [hcz2] at hz2
    try rw [hcz2] at tz2
    conv => arg 3; cbv
    repeat (simp only [f6, f7, tz1, tz2]; conv => arg 3; cbv)
    refine zak zab (by rfl) (by rfl) (fun ρ w' hρ hSat => ⟨?_, zah hSat.gr⟩)
    simp only [concV, conc1, inB]
    simp [← hz1, ← hz2]
   ·rw [hcz2] at hz2
    try rw [hcz2] at tz2
    conv => arg 3; cbv
    repeat (simp only [f6, f7, tz1, tz2]; conv => arg 3; cbv)
    refine zak zab (by rfl) (by rfl) (fun ρ w' hρ hSat => ⟨?_, zah hSat.gr⟩)
    simp only [concV, conc1, inB]
    simp [← hz1, ← hz2]
theorem entry_any (a b c d e : Int) (w : World) :
 Calls Tryz.prog 42 #[.int .i64 a, .int .i64 b, .int .i64 c, .int .i64 d, .int .i64 e] w fun x w' => x = .returned (.agg (EnD.cells ⟨a, b, c, d, e, 0, 0, 0, 0⟩)) ∧ Below w.heap.size w w' := by
 obtain ⟨A, hA⟩ : ∃ A, A = std := ⟨_, rfl⟩
 refine zae (E := ⟨Tryz.prog, tabaT, ords42, Tryz.f42, w, [], [], fun _ _ _ => False⟩) zab (c := bodyOf Tryz.f42) (n := 0) Tryz.func42 rfl (show codeChk ords42 (bodyOf Tryz.f42) = true by decide +kernel) (rho []) (fun h p hp => zaq _ h p hp)
  (tm := [.one (.val (.int .i64 a)), .one (.val (.int .i64 b)), .one (.val (.int .i64 c)), .one (.val (.int .i64 d)), .one (.val (.int .i64 e))] ++ List.replicate 12 (.one (.val undef))) (mem := []) (Nat.le_refl _) ?_ ?_ (by rfl) ?_
 ·exact zan w [] _
 ·simp [SV.ok, S1.ok]
 ·refine zaa zab hA rfl rfl 400 ?_
  conv => arg 3; cbv
  refine zak zab (by rfl) (by rfl) (fun ρ w' hρ hSat => ⟨?_, zah hSat.gr⟩)
  rfl
end Go.Proofs.YtcgcfeablbjnaaaGreatDoor
namespace Go.Proofs.YtcgcfeablbjnaaaGreatDoor
open Eng
def ords66 : Ords := [(11, [(0, false), (1, false), (2, false), (3, false), (4, false), (5, false), (6, false), (7, true), (8, true), (9, true), (10, true), (11, true), (12, true), (13, true), (14, true)], 15, [0])]
def ords69 : Ords := [(5, [(0, false), (1, false), (2, true), (3, true), (4, true), (5, true), (6, true), (7, true), (8, false), (9, false), (10, true), (11, true), (12, true), (13, true), (14, true), (15, true), (16, true), (17, false), (18, false), (19, true), (20, true), (21, true), (22, true), (23, true), (24, true), (25, true)], 26, []), (11, [(0, false), (1, false), (2, false), (3, true), (4, true), (5, true), (6, true), (7, true), (8, false), (9, false), (10, false), (11, true), (12, true), (13, true), (14, true), (15, true), (16, true), (17, true), (18, false), (19, false), (20, false), (21, true), (22, true), (23, true), (24, true), (25, true), (26, true), (27, true)], 28, [])]
def ords71 : Ords := [(4, [(0, false), (1, false), (2, true), (3, true), (4, true), (5, true), (6, true), (7, true), (8, false), (9, false), (10, true), (11, true), (12, true), (13, true), (14, true), (15, true), (16, true), (17, false), (18, false), (19, true), (20, true), (21, true), (22, true), (23, true), (24, true), (25, true)], 26, []), (10, [(0, false), (1, false), (2, false), (3, true), (4, true), (5, true), (6, true), (7, true), (8, false), (9, false), (10, false), (11, true), (12, true), (13, true), (14, true), (15, true), (16, true), (17, true), (18, false), (19, false), (20, false), (21, true), (22, true), (23, true), (24, true), (25, true), (26, true), (27, true)], 28, [])]
def ords73 : Ords := [(5, [(0, false), (1, false), (2, false), (3, false), (4, false), (5, true), (6, true), (7, true), (8, true)], 9, []), (11, [(0, false), (1, false), (2, true), (3, true), (4, true), (5, true), (6, true), (7, true), (8, true), (9, true), (10, true)], 11, [])]
def ords70 : Ords := [(4, [(0, false), (1, false), (2, true), (3, true), (4, true), (5, true), (6, true), (7, true)], 8, [])]
def ords72 : Ords := []
end Go.Proofs.YtcgcfeablbjnaaaGreatDoor
namespace Go.Proofs.YtcgcfeablbjnaaaGreatDoor
open Go.RowKit Eng
theorem zbw (s : StD) (hs : StH) (n : Int) (t : TsD) : stV (s.setT n t) hs = stV s hs := by simp [stV, StD.setT]
theorem stV_setC (s : StD) (hs : StH) (n : Int) (x : CsD) : stV (s.setC n x) hs = stV s hs := by simp [stV, StD.setC]
theorem zbb (s : StD) (n : Int) (t : TsD) : (s.setT n t).tens.length = s.tens.length := by simp [StD.setT]
theorem zbq (x : Int) (w : World) : Calls Tryz.prog 64 #[.int .i64 x] w fun e w' => e = .returned (.tuple #[.agg #[.int .i64 0, .int .i64 0, .slice none 0 0, .slice none 0 0, .int .i64 0, .int .i64 0, .int .i64 0, .int .i64 0], .int .i64 x]) ∧ Below w.heap.size w w' := no_any x w
theorem StRet.good2 {s : StD} {hs : StH} {gt gc : Nat} {w w' : World} {a : Array Value} (hb : Gr (GC gt gc) w w') (hw : StW w' s hs gt gc) {r : Res} (hr : r = (0, s)) (ha : stV s hs = a) : StRet r hs gt gc w (.returned (.tuple #[.agg a, .int .i64 0])) w' := by
 subst ha
 exact StRet.good hb hw hr
theorem fit_bad (c : CfgD) (h : CfgH) (s : StD) (hs : StH) (w : World) (ok : CfgOk c) (hl : s.tens.length = c.tens.length) (hC : CfgAt w w.heap.size c h) (hS : StAt w w.heap.size s hs) (hov : 0 < (overD c s).length) :
 Calls Tryz.prog 92 #[.agg (cfgV c h), .agg (stV s hs)] w fun e w' => e = .returned (.tuple #[.agg #[.int .i64 0, .int .i64 0, .slice none 0 0, .slice none 0 0, .int .i64 0, .int .i64 0, .int .i64 0, .int .i64 0], .int .i64 10]) ∧ Below w.heap.size w w' :=
 (fit_any c h s hs w ok hl hC hS).mono fun e w' ⟨he, hb⟩ => by
  have hf : fitD c s = no 10 := by unfold fitD; rw [if_pos hov]
  rw [hf] at he
  exact ⟨he, hb⟩
theorem fit_good (c : CfgD) (h : CfgH) (s : StD) (hs : StH) (w : World) (ok : CfgOk c) (hl : s.tens.length = c.tens.length) (hC : CfgAt w w.heap.size c h) (hS : StAt w w.heap.size s hs) (hov : ¬ 0 < (overD c s).length) :
 Calls Tryz.prog 92 #[.agg (cfgV c h), .agg (stV s hs)] w fun e w' => e = .returned (.tuple #[.agg (stV s hs), .int .i64 0]) ∧ Below w.heap.size w w' :=
 (fit_any c h s hs w ok hl hC hS).mono fun e w' ⟨he, hb⟩ => by
  have hf : fitD c s = (0, s) := by unfold fitD; rw [if_neg hov]
  rw [hf] at he
  exact ⟨he, hb⟩
theorem st_open {w : World} {s : StD} {hs : StH} {n k : Nat} {t : TsD} {x : CsD} (ht : s.tens[n]? = some t) (hx : s.cells[k]? = some x) (hS : StAt w w.heap.size s hs) :
 ∃ b o b2 o2 kt kc, hs = ⟨some ⟨b, o, none⟩, kt, some ⟨b2, o2, none⟩, kc⟩ ∧ b < w.heap.size ∧ b2 < w.heap.size ∧ (∀ (j : Nat) v, (s.tens.flatMap TsD.cells)[j]? = some v → w.cell? ⟨b, o + j, none⟩ = some v) ∧ (∀ (j : Nat) v, (s.cells.flatMap CsD.cells)[j]? = some v → w.cell? ⟨b2, o2 + j, none⟩ = some v) := by
 have h1 := flat_at TsD.cells 12 (fun _ => rfl) s.tens n 0 t ht (by omega)
 have h2 := flat_at CsD.cells 4 (fun _ => rfl) s.cells k 0 x hx (by omega)
 obtain ⟨b, o, hat, hb, hc⟩ := zca hS.tens (by have := (List.getElem?_eq_some_iff.1 (h1.trans (show t.cells[0]? = some _ from rfl))).1; omega)
 obtain ⟨b2, o2, hac, hb2, hc2⟩ := zca hS.cells (by have := (List.getElem?_eq_some_iff.1 (h2.trans (show x.cells[0]? = some _ from rfl))).1; omega)
 obtain ⟨a1, kt, a2, kc⟩ := hs
 exact ⟨b, o, b2, o2, kt, kc, by rw [show a1 = _ from hat, show a2 = _ from hac], hb, hb2, hc, hc2⟩
theorem zba : Goes Tryz.prog 64 := zam Tryz.func64 (by kernel_rfl) (by kernel_rfl)
theorem zaw {gt gc : Nat} {w w' : World} (h : Gr (fun i => i ∈ [gt, gc]) w w') : Gr (GC gt gc) w w' := h.mono fun i _ hi => by simpa [GC] using hi
theorem zbx {w0 w : World} {own : List Nat} {ρ : Nat → Nat × Nat} {mem : List MB} {s : StD} {kt kc gt gc : Nat} {xs ys r1 r2 : List Value} (hS : Sat w0 own ρ mem w) (e0 : ρ 0 = (gt, 0)) (e1 : ρ 1 = (gc, 0)) (h0 : mem[0]? = some (.sym 105 xs)) (h1 : mem[1]? = some (.sym 107 ys)) (hx : xs = s.tens.flatMap TsD.cells ++ r1) (hy : ys = s.cells.flatMap CsD.cells ++ r2) (hne : gt ≠ gc) : StW w s ⟨some ⟨gt, 0, none⟩, kt, some ⟨gc, 0, none⟩, kc⟩ gt gc := by
 have b0 := hS.blk 0 _ h0
 have b1 := hS.blk 1 _ h1
 rw [e0] at b0
 rw [e1] at b1
 subst hx hy
 exact ⟨rfl, rfl, ⟨r1, b0.2⟩, ⟨r2, b1.2⟩, hne⟩
theorem goes_fit : Goes Tryz.prog 92 := zam Tryz.func92 (by kernel_rfl) (by kernel_rfl)
theorem goes_frozen : Goes Tryz.prog 89 := zam Tryz.func89 (by kernel_rfl) (by kernel_rfl)
theorem goes_tog : Goes Tryz.prog 91 := zam Tryz.func91 (by kernel_rfl) (by kernel_rfl)
theorem goes_may : Goes Tryz.prog 90 := zam Tryz.func90 (by kernel_rfl) (by kernel_rfl)
theorem zcb : Goes Tryz.prog 96 := zam Tryz.func96 (by kernel_rfl) (by kernel_rfl)
theorem zco {s : StD} {n : Nat} {t t' t'' : TsD} (ht : s.tens[n]? = some t) (r : List Value) (j : Nat) (vs : List Value) (hj : j + vs.length ≤ 12) (he : t''.cells = (t'.cells).take j ++ vs ++ (t'.cells).drop (j + vs.length)) :
 std.set ((s.setT n t').tens.flatMap TsD.cells ++ r) (n * 12) j vs = some ((s.setT n t'').tens.flatMap TsD.cells ++ r) := by
 have := zby TsD.cells 12 (fun _ => rfl) (zb4 (t' := t') ht) r j vs hj (x' := t'') he
 rw [show ((s.setT n t').tens.set n t'') = (s.setT n t'').tens from congrArg StD.tens (setT_setT s n _ _)] at this
 exact this
structure Cz (c : CfgD) (czl ccl ctl cvl crl col : Nat) : Prop where
 z : czl = c.zones.length
 e : ccl = c.cells.length
 t : ctl = c.tens.length
 v : cvl = c.vers.length
 r : crl = c.reps.length
 o : col = c.obs.length
structure KX (w : World) (c : CfgD) (h : CfgH) (B gt gc : Nat) : Prop where
 ok : CfgOk c
 hC : CfgAt w B c h
 hB : B ≤ gt ∧ B ≤ gc
 lt : gt < w.heap.size ∧ gc < w.heap.size
 ne : gt ≠ gc
theorem KX.at {w w' : World} {c : CfgD} {h : CfgH} {B gt gc : Nat} (K : KX w c h B gt gc) {ρ : Nat → Nat × Nat} {mem : List MB} (H : Sat w [gt, gc] ρ mem w') : CfgAt w' w'.heap.size c h := by
 have h1 := K.hB
 have h2 := K.lt
 have hgr : Gr (fun i => i ∈ [gt, gc]) w w' := H.gr
 have hbel : Below B w w' := hgr.below (by omega) (fun i hi => by simp at hi; omega)
 exact (K.hC.below hbel).more (by have := hgr.size; omega)
section
variable {T : List (TypeId × TI)} {D : Ords} {fn : Func} {w : World} {L : Nat → Act → World → Prop} {R : Ending → World → Prop} {dst : Option Tmp} {k : List It} {tm : PT} {mem : List MB} {c : CfgD} {h : CfgH} {B gt gc kt kc tl cl czl ccl ctl cvl crl col : Nat} {s : StD}
theorem g_no {own : List Nat} {ρ0 : List (Nat × Nat)} (x : Int) (hg : Eng.Good ⟨Tryz.prog, T, D, fn, w, own, ρ0, L⟩ R ⟨k, putE tm dst (.tup [.agg [.val (.int .i64 0), .val (.int .i64 0), .val (.slice none 0 0), .val (.slice none 0 0), .val (.int .i64 0), .val (.int .i64 0), .val (.int .i64 0), .val (.int .i64 0)], .one (.val (.int .i64 x))]), mem⟩) : Eng.Good ⟨Tryz.prog, T, D, fn, w, own, ρ0, L⟩ R ⟨.call 64 [.one (.val (.int .i64 x))] dst :: k, tm, mem⟩ :=
 zac (.tup [.agg [.val (.int .i64 0), .val (.int .i64 0), .val (.slice none 0 0), .val (.slice none 0 0), .val (.int .i64 0), .val (.int .i64 0), .val (.int .i64 0), .val (.int .i64 0)], .one (.val (.int .i64 x))]) (by simp [SV.ok, TV.ok, S1.ok]) zba (fun ρ w' hρ hSat => zbq x w') hg
theorem zc4 (K : KX w c h B gt gc) (hz : Cz c czl ccl ctl cvl crl col) {ki : Int} (hev : 0 ≤ s.evac ∧ s.evac < 16) (htl : tl = s.tens.length) (hcl : cl = s.cells.length) (hg : ∀ b, b = frozenB c s ki → Eng.Good ⟨Tryz.prog, T, D, fn, w, [gt, gc], [(gt, 0), (gc, 0)], L⟩ R ⟨k, putE tm dst (.one (.val (.bool b))), mem⟩) : Eng.Good ⟨Tryz.prog, T, D, fn, w, [gt, gc], [(gt, 0), (gc, 0)], L⟩ R ⟨.call 89 [.agg [.val (iv c.regions), .val (.slice h.az czl h.kz), .val (.slice h.ac ccl h.kc), .val (.slice h.at_ ctl h.kt), .val (.slice h.av cvl h.kv), .val (.slice h.ar crl h.kr), .val (.slice h.ao col h.ko), .val (iv c.blast), .val (iv c.lease), .val (iv c.bake)], .agg [.val (iv s.tick), .val (iv s.count), .slc 0 0 tl kt, .slc 1 0 cl kc, .val (iv s.proven), .val (iv s.evac), .val (iv s.low), .val (iv s.high)], .one (.val (.int .i64 ki))] dst :: k, tm, mem⟩ :=
 zac (.one (.val (.bool (frozenB c s ki)))) trivial goes_frozen (fun ρ w' hρ hSat => by
  have e0 := hρ 0 (gt, 0) rfl
  have e1 := hρ 1 (gc, 0) rfl
  simp only [List.map, concV, conc1, e0, e1]
  rw [hz.z, hz.e, hz.t, hz.v, hz.r, hz.o, htl, hcl]
  exact frozen_any c h s ⟨some ⟨gt, 0, none⟩, kt, some ⟨gc, 0, none⟩, kc⟩ ki w' K.ok hev.1 hev.2 (K.at hSat)) (hg _ rfl)
theorem g_tog (K : KX w c h B gt gc) (hz : Cz c czl ccl ctl cvl crl col) {a b : Int} (hg : ∀ r, r = togB c a b → Eng.Good ⟨Tryz.prog, T, D, fn, w, [gt, gc], [(gt, 0), (gc, 0)], L⟩ R ⟨k, putE tm dst (.one (.val (.bool r))), mem⟩) : Eng.Good ⟨Tryz.prog, T, D, fn, w, [gt, gc], [(gt, 0), (gc, 0)], L⟩ R ⟨.call 91 [.agg [.val (iv c.regions), .val (.slice h.az czl h.kz), .val (.slice h.ac ccl h.kc), .val (.slice h.at_ ctl h.kt), .val (.slice h.av cvl h.kv), .val (.slice h.ar crl h.kr), .val (.slice h.ao col h.ko), .val (iv c.blast), .val (iv c.lease), .val (iv c.bake)], .one (.val (.int .i64 a)), .one (.val (.int .i64 b))] dst :: k, tm, mem⟩ :=
 zac (.one (.val (.bool (togB c a b)))) trivial goes_tog (fun ρ w' hρ hSat => by
  have e0 := hρ 0 (gt, 0) rfl
  have e1 := hρ 1 (gc, 0) rfl
  simp only [List.map, concV, conc1]
  rw [hz.z, hz.e, hz.t, hz.v, hz.r, hz.o]
  exact together_any c h a b w' K.ok (K.at hSat)) (hg _ rfl)
theorem g_may (K : KX w c h B gt gc) (hz : Cz c czl ccl ctl cvl crl col) {n : Nat} {ni ki : Int} (hni : ni = (n : Int)) (hn : n < c.tens.length) (hg : ∀ b, b = c.mayB ni ki → Eng.Good ⟨Tryz.prog, T, D, fn, w, [gt, gc], [(gt, 0), (gc, 0)], L⟩ R ⟨k, putE tm dst (.one (.val (.bool b))), mem⟩) : Eng.Good ⟨Tryz.prog, T, D, fn, w, [gt, gc], [(gt, 0), (gc, 0)], L⟩ R ⟨.call 90 [.agg [.val (iv c.regions), .val (.slice h.az czl h.kz), .val (.slice h.ac ccl h.kc), .val (.slice h.at_ ctl h.kt), .val (.slice h.av cvl h.kv), .val (.slice h.ar crl h.kr), .val (.slice h.ao col h.ko), .val (iv c.blast), .val (iv c.lease), .val (iv c.bake)], .one (.val (.int .i64 ni)), .one (.val (.int .i64 ki))] dst :: k, tm, mem⟩ :=
 zac (.one (.val (.bool (c.mayB ni ki)))) trivial goes_may (fun ρ w' hρ hSat => by
  have e0 := hρ 0 (gt, 0) rfl
  have e1 := hρ 1 (gc, 0) rfl
  simp only [List.map, concV, conc1]
  rw [hz.z, hz.e, hz.t, hz.v, hz.r, hz.o]
  exact (by subst hni; exact may_any c h n ki w' K.ok hn (K.at hSat))) (hg _ rfl)
theorem g_fit {xs ys r1 r2 : List Value} (K : KX w c h B gt gc) (hz : Cz c czl ccl ctl cvl crl col) (hx : xs = s.tens.flatMap TsD.cells ++ r1) (hy : ys = s.cells.flatMap CsD.cells ++ r2) (hl : s.tens.length = c.tens.length) (htl : tl = s.tens.length) (hcl : cl = s.cells.length) (h0 : mem[0]? = some (.sym 105 xs)) (h1 : mem[1]? = some (.sym 107 ys)) (h2 : 2 ≤ mem.length)
 (hb : fitD c s = no 10 → Eng.Good ⟨Tryz.prog, T, D, fn, w, [gt, gc], [(gt, 0), (gc, 0)], L⟩ R ⟨k, putE tm dst (.tup [.agg [.val (.int .i64 0), .val (.int .i64 0), .val (.slice none 0 0), .val (.slice none 0 0), .val (.int .i64 0), .val (.int .i64 0), .val (.int .i64 0), .val (.int .i64 0)], .one (.val (.int .i64 10))]), mem⟩)
 (hg : fitD c s = (0, s) → Eng.Good ⟨Tryz.prog, T, D, fn, w, [gt, gc], [(gt, 0), (gc, 0)], L⟩ R ⟨k, putE tm dst (.tup [.agg [.val (iv s.tick), .val (iv s.count), .slc 0 0 tl kt, .slc 1 0 cl kc, .val (iv s.proven), .val (iv s.evac), .val (iv s.low), .val (iv s.high)], .one (.val (.int .i64 0))]), mem⟩) : Eng.Good ⟨Tryz.prog, T, D, fn, w, [gt, gc], [(gt, 0), (gc, 0)], L⟩ R ⟨.call 92 [.agg [.val (iv c.regions), .val (.slice h.az czl h.kz), .val (.slice h.ac ccl h.kc), .val (.slice h.at_ ctl h.kt), .val (.slice h.av cvl h.kv), .val (.slice h.ar crl h.kr), .val (.slice h.ao col h.ko), .val (iv c.blast), .val (iv c.lease), .val (iv c.bake)], .agg [.val (iv s.tick), .val (iv s.count), .slc 0 0 tl kt, .slc 1 0 cl kc, .val (iv s.proven), .val (iv s.evac), .val (iv s.low), .val (iv s.high)]] dst :: k, tm, mem⟩ := by
 have hst : ∀ ρ w', (∀ (h : Nat) p, [(gt, 0), (gc, 0)][h]? = some p → ρ h = p) → Sat w [gt, gc] ρ mem w' → StAt w' w'.heap.size s ⟨some ⟨gt, 0, none⟩, kt, some ⟨gc, 0, none⟩, kc⟩ := fun ρ w' hρ H => (zbx (kt := kt) (kc := kc) H (hρ 0 _ rfl) (hρ 1 _ rfl) h0 h1 hx hy K.ne).toAt
 by_cases hov : 0 < (overD c s).length
 ·refine zac (.tup [.agg [.val (.int .i64 0), .val (.int .i64 0), .val (.slice none 0 0), .val (.slice none 0 0), .val (.int .i64 0), .val (.int .i64 0), .val (.int .i64 0), .val (.int .i64 0)], .one (.val (.int .i64 10))]) (by simp [SV.ok, TV.ok, S1.ok]) goes_fit (fun ρ w' hρ hSat => ?_) (hb (by unfold fitD; rw [if_pos hov]))
  have e0 := hρ 0 (gt, 0) rfl
  have e1 := hρ 1 (gc, 0) rfl
  simp only [List.map, concV, conc1, concT, e0, e1]
  rw [hz.z, hz.e, hz.t, hz.v, hz.r, hz.o, htl, hcl]
  exact fit_bad c h s ⟨some ⟨gt, 0, none⟩, kt, some ⟨gc, 0, none⟩, kc⟩ w' K.ok hl (K.at hSat) (hst ρ w' hρ hSat) hov
 ·refine zac (.tup [.agg [.val (iv s.tick), .val (iv s.count), .slc 0 0 tl kt, .slc 1 0 cl kc, .val (iv s.proven), .val (iv s.evac), .val (iv s.low), .val (iv s.high)], .one (.val (.int .i64 0))]) (by simp [SV.ok, TV.ok, S1.ok]; omega) goes_fit (fun ρ w' hρ hSat => ?_) (hg (by unfold fitD; rw [if_neg hov]))
  have e0 := hρ 0 (gt, 0) rfl
  have e1 := hρ 1 (gc, 0) rfl
  simp only [List.map, concV, conc1, concT, e0, e1]
  rw [hz.z, hz.e, hz.t, hz.v, hz.r, hz.o, htl, hcl]
  exact fit_good c h s ⟨some ⟨gt, 0, none⟩, kt, some ⟨gc, 0, none⟩, kc⟩ w' K.ok hl (K.at hSat) (hst ρ w' hρ hSat) hov
end
end Go.Proofs.YtcgcfeablbjnaaaGreatDoor
namespace Go.Proofs.YtcgcfeablbjnaaaGreatDoor
open Go.RowKit Go.BigFrame
attribute [local go_sem ↓] Go.wp_at_zero Go.wp_at_succ
theorem cutw_any (a b c lo hi tick : Int) (w : World) (h0 : 0 ≤ tick) (h1 : tick ≤ 1073741824) :
 Calls Tryz.prog 94 #[.agg #[.int .i64 a, .int .i64 b, .int .i64 c, .int .i64 lo, .int .i64 hi], .int .i64 tick] w fun e w' => e = .returned (.agg #[.int .i64 a, .int .i64 b, .int .i64 c, .int .i64 (min lo (min hi (tick + 1))), .int .i64 (min hi (tick + 1))]) ∧ Below w.heap.size w w' := by
 go_enter Tryz.func94, Tryz.ntmps94
 go_wp2_with fail
 exact bodyPost_ret (v := .agg #[.int .i64 a, .int .i64 b, .int .i64 c, .int .i64 (min lo (min hi (tick + 1))), .int .i64 (min hi (tick + 1))]) (by simp [results, Tryz.results94, go_sem]) rfl ⟨rfl, ((Below.refl _ _).alloc (Nat.le_refl _) _).alloc (by simp) _⟩
attribute [local go_sem ↓] Go.wp_at_zero Go.wp_at_succ
theorem goCut : IsGo Tryz.prog 94 := isGo_of Tryz.func94 (by kernel_rfl) (by kernel_rfl)
theorem cut_any (s : StD) (hs : StH) (gt gc n : Nat) (t : TsD) (ek et ec eo ep el eh ev : Int) (w : World) (het : 0 ≤ et ∧ et ≤ 1073741824) (ht : s.tens[n]? = some t) (hW : StW w s hs gt gc) :
 Calls Tryz.prog 68 #[.agg (stV s hs), .agg (EnD.cells ⟨ek, et, (n : Nat), ec, eo, ep, el, eh, ev⟩)] w (StRet (cutD s ⟨ek, et, (n : Nat), ec, eo, ep, el, eh, ev⟩) hs gt gc w) := by
 have hn : n < s.tens.length := (List.getElem?_eq_some_iff.1 ht).1
 have HD := Lib.hid (show cutD s ⟨ek, et, (n : Nat), ec, eo, ep, el, eh, ev⟩ = if t.placed = false then no 4 else if ep ≠ t.epoch then no 7 else (0, s.setT n { t with win := cutW t.win et }) by unfold cutD; rw [show (EnD.tenant ⟨ek, et, (n : Nat), ec, eo, ep, el, eh, ev⟩) = (n : Int) from rfl, zbi ht])
 have i0 : (0 : Int) ≤ (n : Int) := by omega
 have i1 : (n : Int) < (s.tens.length : Int) := by omega
 obtain ⟨p0, p1⟩ := het
 have HTN := Lib.hid ht
 have HW := Lib.hid hW
 have HLT := Lib.hid hW.lt
 have HH2 := Lib.hid hW.at_
 have HH3 := Lib.hid hW.ac
 clear ht hW
 go_enter Tryz.func68, Tryz.ntmps68
 go_upto_region 1 with (fail)
 have HI0 := Lib.hid (show KI w s s hs ⟨ek, et, (n : Nat), ec, eo, ep, el, eh, ev⟩ gt gc w.heap.size (w.heap.size + 1) (w.heap.size + 1 + 1) (((w.alloc (.cells (stV s hs) 61)).alloc (.cells (EnD.cells ⟨ek, et, (n : Nat), ec, eo, ep, el, eh, ev⟩) 96)).alloc (.cells #[.int .i64 0, .int .i64 0, .slice none 0 0, .slice none 0 0, .int .i64 0, .int .i64 0, .int .i64 0, .int .i64 0] 61)) from ⟨(((Gr.refl _ w).alloc _).alloc _).alloc _, ((Blk.new w _ _).alloc _).alloc _, (Blk.newAt _ _ _ _ (by simp)).alloc _, Blk.newAt _ _ _ _ (by simp), ((HW.out.alloc _).alloc _).alloc _, HLT.out, ⟨by omega, by omega, by omega⟩⟩)
 generalize ((w.alloc (.cells (stV s hs) 61)).alloc (.cells (EnD.cells ⟨ek, et, (n : Nat), ec, eo, ep, el, eh, ev⟩) 96)).alloc _ = W at *
 generalize w.heap.size + 1 + 1 = br at *
 generalize w.heap.size + 1 = be at *
 obtain ⟨bs, hbs⟩ : ∃ bs, bs = w.heap.size := ⟨_, rfl⟩
 rw [← hbs] at HI0 ⊢
 clear hbs
 have s2 : W.cell? ⟨bs, 2, none⟩ = some (.slice (some ⟨gt, 0, none⟩) s.tens.length hs.kt) := (HI0.out.st.cell 2).trans (by show some (Value.slice hs.at_ _ _) = _; rw [HH2.out])
 have e1 : W.cell? ⟨be, 1, none⟩ = some (.int .i64 et) := HI0.out.en.cell 1
 have e2 : W.cell? ⟨be, 2, none⟩ = some (.int .i64 (n : Nat)) := HI0.out.en.cell 2
 have e5 : W.cell? ⟨be, 5, none⟩ = some (.int .i64 ep) := HI0.out.en.cell 5
 have t0 : W.cell? ⟨gt, n * 12, none⟩ = some (.bool t.placed) := HI0.out.sw.tcell HTN.out 0 rfl
 have t6 : W.cell? ⟨gt, n * 12 + 6, none⟩ = some (.int .i64 t.epoch) := HI0.out.sw.tcell HTN.out 6 rfl
 have t7 : W.cell? ⟨gt, n * 12 + 7, none⟩ = some (.int .i64 t.win.cell) := HI0.out.sw.tcell HTN.out 7 rfl
 have t8 : W.cell? ⟨gt, n * 12 + 8, none⟩ = some (.int .i64 t.win.epoch) := HI0.out.sw.tcell HTN.out 8 rfl
 have t9 : W.cell? ⟨gt, n * 12 + 9, none⟩ = some (.int .i64 t.win.version) := HI0.out.sw.tcell HTN.out 9 rfl
 have t10 : W.cell? ⟨gt, n * 12 + 10, none⟩ = some (.int .i64 t.win.lo) := HI0.out.sw.tcell HTN.out 10 rfl
 have t11 : W.cell? ⟨gt, n * 12 + 11, none⟩ = some (.int .i64 t.win.hi) := HI0.out.sw.tcell HTN.out 11 rfl
 cases hp : t.placed
 ·rw [hp] at t0
  have HF := Lib.hid (HD.out.trans (if_pos hp))
  clear hp
  go_wp2_with fail
  refine (zbq 4 _).mono ?_
  rintro e w9 ⟨rfl, hb9⟩
  have HI9 := Lib.hid (HI0.out.below hb9)
  clear hb9 s2 e1 e2 e5 t0 t6 t7 t8 t9 t10 t11
  have r0 : w9.cell? ⟨br, 0, none⟩ = some (.int .i64 0) := HI9.out.res.cell 0
  have f0 := HI9.out.res.free 0
  have r1 : w9.cell? ⟨br, 1, none⟩ = some (.int .i64 0) := HI9.out.res.cell 1
  have f1 := HI9.out.res.free 1
  have r2 : w9.cell? ⟨br, 2, none⟩ = some (.slice none 0 0) := HI9.out.res.cell 2
  have f2 := HI9.out.res.free 2
  have r3 : w9.cell? ⟨br, 3, none⟩ = some (.slice none 0 0) := HI9.out.res.cell 3
  have f3 := HI9.out.res.free 3
  have r4 : w9.cell? ⟨br, 4, none⟩ = some (.int .i64 0) := HI9.out.res.cell 4
  have f4 := HI9.out.res.free 4
  have r5 : w9.cell? ⟨br, 5, none⟩ = some (.int .i64 0) := HI9.out.res.cell 5
  have f5 := HI9.out.res.free 5
  have r6 : w9.cell? ⟨br, 6, none⟩ = some (.int .i64 0) := HI9.out.res.cell 6
  have f6 := HI9.out.res.free 6
  have r7 : w9.cell? ⟨br, 7, none⟩ = some (.int .i64 0) := HI9.out.res.cell 7
  have f7 := HI9.out.res.free 7
  go_wp2_with fail
  refine bodyPost_ret (v := .tuple #[.agg #[.int .i64 0, .int .i64 0, .slice none 0 0, .slice none 0 0, .int .i64 0, .int .i64 0, .int .i64 0, .int .i64 0], .int .i64 4]) ?_ rfl (StRet.bad (by omega) ?_ HF.out)
  ·simp [results, Tryz.results68, go_sem, *]
  ·iterate 8 refine HI9.out.grSet ?_ _ _
   exact HI9.out.gr
 ·rw [hp] at t0
  have HD1 := Lib.hid (HD.out.trans (if_neg (by rw [hp]; simp)))
  clear hp
  go_wp2_with fail
  go_quiet (fail)
  have HI1 := Lib.hid (HI0.out.drewN nq)
  by_cases hg : ep = t.epoch
  ·have b0 : (ep != t.epoch) = false := by simp [hg]
   have HF := Lib.hid (HD1.out.trans (if_neg (by simp [hg])))
   clear hg
   go_wp2_with fail
   have hgt : gt < W.heap.size := HI0.out.sw.lt.1
   have hbe : be < W.heap.size := HI0.out.en.lt
   refine zcs (S := fun w' => Below W.heap.size W w') 8 (by kernel_rfl) (tailOk (by decide +kernel)) (zay (Below.refl _ _) (nq + 1)) (fun TO hHeld => ?_)
   refine zaf (i := 0) (v := ?_) TO rfl (by decide) (by decide +kernel) (by decide +kernel) (fun _ _ _ h => h) ?_ hHeld ?_
   rotate_left
   focus (first | (refine Or.inl ⟨by rfl, ?_⟩; intro wS hSw; clear hSw; go_simp; first | done | with_reducible rfl) | exact Or.inr ⟨by rfl, rfl⟩)
   try simp only [Act.put, List.setIfInBounds_toArray, List.set_cons_zero, List.set_cons_succ]
   refine zaf (i := 1) (v := ?_) TO rfl (by decide) (by decide +kernel) (by decide +kernel) (fun _ _ _ h => h) ?_ hHeld ?_
   rotate_left
   focus (first | (refine Or.inl ⟨by rfl, ?_⟩; intro wS hSw; clear hSw; go_simp; first | done | with_reducible rfl) | exact Or.inr ⟨by rfl, rfl⟩)
   try simp only [Act.put, List.setIfInBounds_toArray, List.set_cons_zero, List.set_cons_succ]
   refine zaf (i := 2) (v := ?_) TO rfl (by decide) (by decide +kernel) (by decide +kernel) (fun _ _ _ h => h) ?_ hHeld ?_
   rotate_left
   focus (first | (refine Or.inl ⟨by rfl, ?_⟩; intro wS hSw; clear hSw; go_simp; first | done | with_reducible rfl) | exact Or.inr ⟨by rfl, rfl⟩)
   try simp only [Act.put, List.setIfInBounds_toArray, List.set_cons_zero, List.set_cons_succ]
   refine zaf (i := 3) (v := ?_) TO rfl (by decide) (by decide +kernel) (by decide +kernel) (fun _ _ _ h => h) ?_ hHeld ?_
   rotate_left
   focus (first | (refine Or.inl ⟨by rfl, ?_⟩; intro wS hSw; clear hSw; go_simp; first | done | with_reducible rfl) | exact Or.inr ⟨by rfl, rfl⟩)
   try simp only [Act.put, List.setIfInBounds_toArray, List.set_cons_zero, List.set_cons_succ]
   refine zaf (i := 4) (v := ?_) TO rfl (by decide) (by decide +kernel) (by decide +kernel) (fun _ _ _ h => h) ?_ hHeld ?_
   rotate_left
   focus (first | (refine Or.inl ⟨by rfl, ?_⟩; intro wS hSw; have u7 : wS.cell? ⟨gt, n * 12 + 7, none⟩ = some (.int .i64 t.win.cell) := (hSw.cell (p := ⟨gt, n * 12 + 7, none⟩) hgt).trans t7; have u8 : wS.cell? ⟨gt, n * 12 + 8, none⟩ = some (.int .i64 t.win.epoch) := (hSw.cell (p := ⟨gt, n * 12 + 8, none⟩) hgt).trans t8; have u9 : wS.cell? ⟨gt, n * 12 + 9, none⟩ = some (.int .i64 t.win.version) := (hSw.cell (p := ⟨gt, n * 12 + 9, none⟩) hgt).trans t9; have u10 : wS.cell? ⟨gt, n * 12 + 10, none⟩ = some (.int .i64 t.win.lo) := (hSw.cell (p := ⟨gt, n * 12 + 10, none⟩) hgt).trans t10; have u11 : wS.cell? ⟨gt, n * 12 + 11, none⟩ = some (.int .i64 t.win.hi) := (hSw.cell (p := ⟨gt, n * 12 + 11, none⟩) hgt).trans t11; clear hSw; go_simp; first | done | with_reducible rfl) | exact Or.inr ⟨by rfl, rfl⟩)
   try simp only [Act.put, List.setIfInBounds_toArray, List.set_cons_zero, List.set_cons_succ]
   refine zaf (i := 5) (v := ?_) TO rfl (by decide) (by decide +kernel) (by decide +kernel) (fun _ _ _ h => h) ?_ hHeld ?_
   rotate_left
   focus (first | (refine Or.inl ⟨by rfl, ?_⟩; intro wS hSw; have u1 : wS.cell? ⟨be, 1, none⟩ = some (.int .i64 et) := (hSw.cell (p := ⟨be, 1, none⟩) hbe).trans e1; clear hSw; go_simp; first | done | with_reducible rfl) | exact Or.inr ⟨by rfl, rfl⟩)
   try simp only [Act.put, List.setIfInBounds_toArray, List.set_cons_zero, List.set_cons_succ]
   refine zaf (i := 6) (v := ?_) TO rfl (by decide) (by decide +kernel) (by decide +kernel) (fun _ _ _ h => h) ?_ hHeld ?_
   rotate_left
   focus (first | (refine Or.inl ⟨by rfl, ?_⟩; intro wS hSw; have u1 : wS.cell? ⟨be, 1, none⟩ = some (.int .i64 et) := (hSw.cell (p := ⟨be, 1, none⟩) hbe).trans e1; clear hSw; go_simp; first | done | with_reducible rfl) | exact Or.inr ⟨by rfl, rfl⟩)
   try simp only [Act.put, List.setIfInBounds_toArray, List.set_cons_zero, List.set_cons_succ]
   refine zbg (i := 7) (by decide +kernel) rfl (by decide) (fun K hK => ?_)
   refine zb3 goCut (by rfl) _ _ (by rfl) #[.agg #[.int .i64 t.win.cell, .int .i64 t.win.epoch, .int .i64 t.win.version, .int .i64 t.win.lo, .int .i64 t.win.hi], .int .i64 et] (by rfl) ((cutw_any t.win.cell t.win.epoch t.win.version t.win.lo t.win.hi et _ p0 p1).mono ?_)
   rintro e w6 ⟨rfl, hb6⟩
   refine ⟨_, rfl, ?_⟩
   have hb7 : Below W.heap.size W w6 := hHeld.trans (hb6.mono hHeld.size)
   have HI2 := Lib.hid (HI0.out.below hb7)
   refine hK.out _ _ (hb7) (fun hHeld => ?_)
   clear hK K
   try simp only [Act.put, List.setIfInBounds_toArray, List.set_cons_zero, List.set_cons_succ]
   clear s2 e1 e2 e5 t0 t6 t7 t8 t9 t10 t11 hHeld hb6 hb7
   have t7 : w6.cell? ⟨gt, n * 12 + 7, none⟩ = some (.int .i64 t.win.cell) := HI2.out.sw.tcell HTN.out 7 rfl
   have t8 : w6.cell? ⟨gt, n * 12 + 8, none⟩ = some (.int .i64 t.win.epoch) := HI2.out.sw.tcell HTN.out 8 rfl
   have t9 : w6.cell? ⟨gt, n * 12 + 9, none⟩ = some (.int .i64 t.win.version) := HI2.out.sw.tcell HTN.out 9 rfl
   have t10 : w6.cell? ⟨gt, n * 12 + 10, none⟩ = some (.int .i64 t.win.lo) := HI2.out.sw.tcell HTN.out 10 rfl
   have t11 : w6.cell? ⟨gt, n * 12 + 11, none⟩ = some (.int .i64 t.win.hi) := HI2.out.sw.tcell HTN.out 11 rfl
   have tf7 := HI2.out.sw.tfree (n * 12 + 7)
   have tf8 := HI2.out.sw.tfree (n * 12 + 8)
   have tf9 := HI2.out.sw.tfree (n * 12 + 9)
   have tf10 := HI2.out.sw.tfree (n * 12 + 10)
   have tf11 := HI2.out.sw.tfree (n * 12 + 11)
   refine heldQ_tail (by kernel_rfl) (by kernel_rfl) rfl ?_
   simp only [List.drop_succ_cons, List.drop_zero]
   go_upto_region 7 with (fail)
   have h3 := (((((HI2.out.setT (t' := { t with win := { t.win with cell := t.win.cell } }) HTN.out 7 (by omega) (v := .int .i64 (t.win.cell)) rfl).setT (t' := { t with win := { t.win with cell := t.win.cell, epoch := t.win.epoch } }) (zb4 HTN.out) 8 (by omega) (v := .int .i64 (t.win.epoch)) rfl).setT (t' := { t with win := { t.win with cell := t.win.cell, epoch := t.win.epoch, version := t.win.version } }) (zb4 (zb4 HTN.out)) 9 (by omega) (v := .int .i64 (t.win.version)) rfl).setT (t' := { t with win := { t.win with cell := t.win.cell, epoch := t.win.epoch, version := t.win.version, lo := min t.win.lo (min t.win.hi (et + 1)) } }) (zb4 (zb4 (zb4 HTN.out))) 10 (by omega) (v := .int .i64 (min t.win.lo (min t.win.hi (et + 1)))) rfl).setT (t' := { t with win := { t.win with cell := t.win.cell, epoch := t.win.epoch, version := t.win.version, lo := min t.win.lo (min t.win.hi (et + 1)), hi := min t.win.hi (et + 1) } }) (zb4 (zb4 (zb4 (zb4 HTN.out)))) 11 (by omega) (v := .int .i64 (min t.win.hi (et + 1))) rfl)
   rw [setT_setT, setT_setT, setT_setT, setT_setT] at h3
   have HI3 := Lib.hid h3
   clear h3 t7 t8 t9 t10 t11 tf7 tf8 tf9 tf10 tf11
   generalize World.setCell _ _ _ = W8 at *
   have s0 : W8.cell? ⟨bs, 0, none⟩ = some (.int .i64 s.tick) := HI3.out.st.cell 0
   have s1 : W8.cell? ⟨bs, 1, none⟩ = some (.int .i64 s.count) := HI3.out.st.cell 1
   have s2 : W8.cell? ⟨bs, 2, none⟩ = some (.slice (some ⟨gt, 0, none⟩) s.tens.length hs.kt) := (HI3.out.st.cell 2).trans (by show some (Value.slice hs.at_ _ _) = _; rw [HH2.out])
   have s3 : W8.cell? ⟨bs, 3, none⟩ = some (.slice (some ⟨gc, 0, none⟩) s.cells.length hs.kc) := (HI3.out.st.cell 3).trans (by show some (Value.slice hs.ac _ _) = _; rw [HH3.out])
   have s4 : W8.cell? ⟨bs, 4, none⟩ = some (.int .i64 s.proven) := HI3.out.st.cell 4
   have s5 : W8.cell? ⟨bs, 5, none⟩ = some (.int .i64 s.evac) := HI3.out.st.cell 5
   have s6 : W8.cell? ⟨bs, 6, none⟩ = some (.int .i64 s.low) := HI3.out.st.cell 6
   have s7 : W8.cell? ⟨bs, 7, none⟩ = some (.int .i64 s.high) := HI3.out.st.cell 7
   have r0 : W8.cell? ⟨br, 0, none⟩ = some (.int .i64 0) := HI3.out.res.cell 0
   have f0 := HI3.out.res.free 0
   have r1 : W8.cell? ⟨br, 1, none⟩ = some (.int .i64 0) := HI3.out.res.cell 1
   have f1 := HI3.out.res.free 1
   have r2 : W8.cell? ⟨br, 2, none⟩ = some (.slice none 0 0) := HI3.out.res.cell 2
   have f2 := HI3.out.res.free 2
   have r3 : W8.cell? ⟨br, 3, none⟩ = some (.slice none 0 0) := HI3.out.res.cell 3
   have f3 := HI3.out.res.free 3
   have r4 : W8.cell? ⟨br, 4, none⟩ = some (.int .i64 0) := HI3.out.res.cell 4
   have f4 := HI3.out.res.free 4
   have r5 : W8.cell? ⟨br, 5, none⟩ = some (.int .i64 0) := HI3.out.res.cell 5
   have f5 := HI3.out.res.free 5
   have r6 : W8.cell? ⟨br, 6, none⟩ = some (.int .i64 0) := HI3.out.res.cell 6
   have f6 := HI3.out.res.free 6
   have r7 : W8.cell? ⟨br, 7, none⟩ = some (.int .i64 0) := HI3.out.res.cell 7
   have f7 := HI3.out.res.free 7
   go_wp2_with fail
   refine bodyPost_ret (v := .tuple #[.agg #[.int .i64 s.tick, .int .i64 s.count, .slice (some ⟨gt, 0, none⟩) s.tens.length hs.kt, .slice (some ⟨gc, 0, none⟩) s.cells.length hs.kc, .int .i64 s.proven, .int .i64 s.evac, .int .i64 s.low, .int .i64 s.high], .int .i64 0]) ?_ rfl (StRet.good2 ?_ ?_ HF.out (by rw [← HH2.out, ← HH3.out]; first | rfl | exact zbw _ _ _ _ | exact stV_setC _ _ _ _))
   ·simp [results, Tryz.results68, go_sem, *]
   ·iterate 8 refine HI3.out.grSet ?_ _ _
    exact HI3.out.gr
   ·iterate 8 refine HI3.out.swSet ?_ _ _
    exact HI3.out.sw
  ·have b0 : (ep != t.epoch) = true := by simp [hg]
   have HF := Lib.hid (HD1.out.trans (if_pos hg))
   clear hg
   go_wp2_with fail
   refine (zbq 7 _).mono ?_
   rintro e w9 ⟨rfl, hb9⟩
   have HI9 := Lib.hid (HI1.out.below hb9)
   clear hb9 s2 e1 e2 e5 t0 t6 t7 t8 t9 t10 t11
   have r0 : w9.cell? ⟨br, 0, none⟩ = some (.int .i64 0) := HI9.out.res.cell 0
   have f0 := HI9.out.res.free 0
   have r1 : w9.cell? ⟨br, 1, none⟩ = some (.int .i64 0) := HI9.out.res.cell 1
   have f1 := HI9.out.res.free 1
   have r2 : w9.cell? ⟨br, 2, none⟩ = some (.slice none 0 0) := HI9.out.res.cell 2
   have f2 := HI9.out.res.free 2
   have r3 : w9.cell? ⟨br, 3, none⟩ = some (.slice none 0 0) := HI9.out.res.cell 3
   have f3 := HI9.out.res.free 3
   have r4 : w9.cell? ⟨br, 4, none⟩ = some (.int .i64 0) := HI9.out.res.cell 4
   have f4 := HI9.out.res.free 4
   have r5 : w9.cell? ⟨br, 5, none⟩ = some (.int .i64 0) := HI9.out.res.cell 5
   have f5 := HI9.out.res.free 5
   have r6 : w9.cell? ⟨br, 6, none⟩ = some (.int .i64 0) := HI9.out.res.cell 6
   have f6 := HI9.out.res.free 6
   have r7 : w9.cell? ⟨br, 7, none⟩ = some (.int .i64 0) := HI9.out.res.cell 7
   have f7 := HI9.out.res.free 7
   go_wp2_with fail
   refine bodyPost_ret (v := .tuple #[.agg #[.int .i64 0, .int .i64 0, .slice none 0 0, .slice none 0 0, .int .i64 0, .int .i64 0, .int .i64 0, .int .i64 0], .int .i64 7]) ?_ rfl (StRet.bad (by omega) ?_ HF.out)
   ·simp [results, Tryz.results68, go_sem, *]
   ·iterate 8 refine HI9.out.grSet ?_ _ _
    exact HI9.out.gr
end Go.Proofs.YtcgcfeablbjnaaaGreatDoor
namespace Go.Proofs.YtcgcfeablbjnaaaGreatDoor
open Go.RowKit Eng
theorem open_any (s : StD) (hs : StH) (k : Nat) (x : CsD) (w : World) (hx : s.cells[k]? = some x) (h0 : 0 ≤ s.proven) (h1 : s.proven < 1073741824) (hS : StAt w w.heap.size s hs) :
 Calls Tryz.prog 95 #[.agg (stV s hs), .int .i64 k] w fun e w' => e = .returned (.bool (openB s x)) ∧ Below w.heap.size w w' := by
 have hk : k < s.cells.length := (List.getElem?_eq_some_iff.1 hx).1
 have hget : ∀ j, j < 4 → (s.cells.flatMap CsD.cells)[k * 4 + j]? = x.cells[j]? := fun j hj => flat_at CsD.cells 4 (fun _ => rfl) s.cells k j x hx hj
 obtain ⟨b, o, hac, hb, hcell⟩ := zca hS.cells (by have := (List.getElem?_eq_some_iff.1 ((hget 0 (by omega)).trans (show x.cells[0]? = some (iv x.mode) from rfl))).1; omega)
 obtain ⟨a1, kt, a2, kc⟩ := hs
 obtain rfl : a2 = some ⟨b, o, none⟩ := hac
 obtain ⟨A, hA⟩ : ∃ A, A = std := ⟨_, rfl⟩
 obtain ⟨xs, hxs⟩ : ∃ xs, xs = s.cells.flatMap CsD.cells := ⟨_, rfl⟩
 obtain ⟨q, hq⟩ := nm (k * 4)
 obtain ⟨tl, htl⟩ := nm (s.tens.length)
 obtain ⟨cl, hcl⟩ := nm (s.cells.length)
 obtain ⟨ki, hki⟩ := nm ((k : Int))
 obtain ⟨b1, hb1⟩ := nm (hasB s.proven x.running)
 obtain ⟨b2, hb2⟩ := nm (hasB s.proven x.wanted)
 have f0 : A.inb ki cl = true := by rw [hA, hki, hcl]; simp [std]; omega
 have f1 : A.idx 0 ki 4 = q := by rw [hA, hq, hki]; simp [std]
 have f2 : A.get xs q 1 = some (.int .i64 x.running) := by rw [hA, hq, hxs]; exact hget 1 (by omega)
 have f3 : A.get xs q 2 = some (.int .i64 x.wanted) := by rw [hA, hq, hxs]; exact hget 2 (by omega)
 have f4 : A.not true = false := by rw [hA]; rfl
 have f5 : A.not false = true := by rw [hA]; rfl
 refine zae (E := ⟨Tryz.prog, tabaT, ords95, Tryz.f95, w, [], [(b, o)], fun _ _ _ => False⟩) zab (c := bodyOf Tryz.f95) (n := 0) Tryz.func95 rfl (show codeChk ords95 (bodyOf Tryz.f95) = true by decide +kernel) (rho [(b, o)]) (fun h p hp => zaq _ h p hp)
  (tm := [.agg [.val (iv s.tick), .val (iv s.count), .val (.slice a1 tl kt), .slc 0 0 cl kc, .val (iv s.proven), .val (iv s.evac), .val (iv s.low), .val (iv s.high)], .one (.val (.int .i64 ki))] ++ List.replicate 23 (.one (.val undef))) (mem := [.rsym xs]) (Nat.le_refl _) ?_ ?_ (by rw [hki, htl, hcl]; rfl) ?_
 ·refine ⟨Gr.refl _ _, all_cons (by rw [hxs]; exact hcell) all_nil, fun b hb => (by cases List.mem_singleton.1 hb; trivial), all_cons ⟨fun h => (by cases h), fun _ => hb⟩ all_nil, fun h k b c hb hc hbw hcw hne => ?_⟩
  cases h with
  | zero => obtain rfl : MB.rsym xs = b := by simpa using hb
            cases hbw
  | succ h => simp at hb
 ·simp [SV.ok, S1.ok]
 ·refine zaa zab hA rfl rfl 100 ?_
  conv => arg 3; cbv
  simp only [f0, f1]
  conv => arg 3; cbv
  simp only [f2]
  conv => arg 3; cbv
  refine zac (.one (.val (.bool b1))) trivial zcb (fun ρ w' hρ hSat => ?_) ?_
  ·have e0 := hρ 0 (b, o) rfl
   simp only [List.map, concV, conc1, e0]
   rw [hb1, htl, hcl]
   exact zcq s ⟨a1, kt, some ⟨b, o, none⟩, kc⟩ x.running w' h0 h1
  refine zaa zab hA rfl rfl 100 ?_
  cases hc1 : b1
  ·conv => arg 3; cbv
   simp only [f5]
   conv => arg 3; cbv
   refine zak zab (by rfl) (by rfl) (fun ρ w' hρ hSat => ?_)
   exact ⟨by simp [concV, conc1, openB, ← hb1, hc1], zah hSat.gr⟩
  ·conv => arg 3; cbv
   simp only [f4]
   conv => arg 3; cbv
   simp only [f0, f1]
   conv => arg 3; cbv
   simp only [f3]
   conv => arg 3; cbv
   refine zac (.one (.val (.bool b2))) trivial zcb (fun ρ w' hρ hSat => ?_) ?_
   ·have e0 := hρ 0 (b, o) rfl
    simp only [List.map, concV, conc1, e0]
    rw [hb2, htl, hcl]
    exact zcq s ⟨a1, kt, some ⟨b, o, none⟩, kc⟩ x.wanted w' h0 h1
   refine zaa zab hA rfl rfl 100 ?_
   conv => arg 3; cbv
   refine zak zab (by rfl) (by rfl) (fun ρ w' hρ hSat => ?_)
   exact ⟨by simp [concV, conc1, openB, ← hb1, ← hb2, hc1, hA, std], zah hSat.gr⟩
theorem expand_any (c : CfgD) (h : CfgH) (B : Nat) (s : StD) (hs : StH) (gt gc : Nat) (w : World) (ok : CfgOk c) (sok : StOk c s) (hC : CfgAt w B c h) (hB : B ≤ gt ∧ B ≤ gc) (hW : StW w s hs gt gc) :
 Calls Tryz.prog 78 #[.agg (cfgV c h), .agg (stV s hs)] w (StRet (expandD c s) hs gt gc w) := by
 have HD : expandD c s = if s.low < s.high then no 4 else if 30 ≤ s.high then no 2 else if s.cells.any (fun x => decide (verHi c x.running ≤ s.high) || decide (verHi c x.wanted ≤ s.high)) then no 13 else (0, { s with high := s.high + 1 }) := rfl
 obtain ⟨a1, kt, a2, kc⟩ := hs
 obtain rfl : a1 = some ⟨gt, 0, none⟩ := hW.at_
 obtain rfl : a2 = some ⟨gc, 0, none⟩ := hW.ac
 obtain ⟨r1, hbt⟩ := hW.bt
 obtain ⟨r2, hbc⟩ := hW.bc
 have HNE := Lib.hid hW.ne
 have hlt := hW.lt
 obtain ⟨A, hA⟩ : ∃ A, A = std := ⟨_, rfl⟩
 obtain ⟨xs, hxs⟩ := nm (s.tens.flatMap TsD.cells ++ r1)
 obtain ⟨ys, hys⟩ := nm (s.cells.flatMap CsD.cells ++ r2)
 obtain ⟨tl, htl⟩ := nm (s.tens.length)
 obtain ⟨cl, hcl⟩ := nm (s.cells.length)
 have f6 : A.not true = false := by rw [hA]; rfl
 have f7 : A.not false = true := by rw [hA]; rfl
 obtain ⟨czl, hczl⟩ := nm (c.zones.length)
 obtain ⟨ccl, hccl⟩ := nm (c.cells.length)
 obtain ⟨ctl, hctl⟩ := nm (c.tens.length)
 obtain ⟨cvl, hcvl⟩ := nm (c.vers.length)
 obtain ⟨crl, hcrl⟩ := nm (c.reps.length)
 obtain ⟨col, hcol⟩ := nm (c.obs.length)
 have hvl : 1 ≤ c.vers.length := ok.vers.1
 obtain ⟨bv, ov, hav, hbv, hcv⟩ := zca hC.vers (by rw [zbm pairCells 2 (fun _ => rfl)]; omega)
 obtain ⟨az, kz, ac, kcc, at_, ktc, av, kv, ar, kr, ao, ko⟩ := h
 obtain rfl : av = some ⟨bv, ov, none⟩ := hav
 obtain ⟨vs, hvs⟩ := nm (c.vers.flatMap pairCells)
 obtain ⟨hp1, hhp1⟩ := nm (s.high + 1)
 obtain ⟨li, hli⟩ := nm (Int.ofNat s.cells.length)
 have g1 : A.add .i64 s.high 1 = hp1 := by rw [hA, hhp1]; exact wrap64 (by have := sok.low; omega) (by have := sok.high; omega)
 have g2 : A.len cl = li := by rw [hA, hli, hcl]; rfl
 obtain ⟨z1, hz1⟩ := nm (decide (s.low < s.high))
 have tz1 : A.lt s.low s.high = z1 := by rw [hA, hz1]; rfl
 obtain ⟨z2, hz2⟩ := nm (decide (30 ≤ s.high))
 have tz2 : A.le 30 s.high = z2 := by rw [hA, hz2]; rfl
 refine zae (E := ⟨Tryz.prog, tabaT, ords78, Tryz.f78, w, [gt, gc], [(gt, 0), (gc, 0), (bv, ov)], fun _ _ _ => False⟩) zab (c := bodyOf Tryz.f78) (n := 0) Tryz.func78 rfl (show codeChk ords78 (bodyOf Tryz.f78) = true by decide +kernel) (rho [(gt, 0), (gc, 0), (bv, ov)]) (fun h p hp => zaq _ h p hp)
  (tm := [.agg [.val (iv c.regions), .val (.slice az czl kz), .val (.slice ac ccl kcc), .val (.slice at_ ctl ktc), .slc 2 0 cvl kv, .val (.slice ar crl kr), .val (.slice ao col ko), .val (iv c.blast), .val (iv c.lease), .val (iv c.bake)], .agg [.val (iv s.tick), .val (iv s.count), .slc 0 0 tl kt, .slc 1 0 cl kc, .val (iv s.proven), .val (iv s.evac), .val (iv s.low), .val (iv s.high)]] ++ List.replicate 64 (.one (.val undef))) (mem := [.sym 105 xs, .sym 107 ys, .rsym vs]) (Nat.le_refl _) ?_ ?_ (by rw [hczl, hccl, hctl, hcvl, hcrl, hcol]; rw [htl, hcl]; rfl) ?_
 ·have h1 := (zan w [gt, gc] (rho [(gt, 0), (gc, 0), (bv, ov)])).addW (t := 105) (l := xs) (g := gt) rfl (by rw [hxs]; exact hbt) (by simp) (fun h hh => by cases hh)
  have h2 := h1.addW (t := 107) (l := ys) (g := gc) rfl (by rw [hys]; exact hbc) (by simp) (fun h hh => by cases (show h = 0 from Nat.lt_one_iff.1 hh); exact HNE.out)
  exact h2.addR (p := (bv, ov)) rfl (l := vs) (by rw [hvs]; exact hcv) (by show bv < w.heap.size; omega) (by simp; omega)
 ·simp [SV.ok, S1.ok]
 ·refine zaa zab hA rfl rfl 400 ?_
  conv => arg 3; cbv
  repeat (simp only [f6, f7, g1, g2, tz1, tz2]; conv => arg 3; cbv)
  cases hcz1 : z1
  ·rw [hcz1] at hz1
   conv => arg 3; cbv
   repeat (simp only [f6, f7, g1, g2, tz1, tz2]; conv => arg 3; cbv)
   cases hcz2 : z2
   ·rw [hcz2] at hz2
    conv => arg 3; cbv
    repeat (simp only [f6, f7, g1, g2, tz1, tz2]; conv => arg 3; cbv)
    refine zbs 0 (α := { i : Nat // i ≤ s.cells.length ∧ ∀ (j : Nat) x, j < i → s.cells[j]? = some x → (decide (verHi c x.running ≤ s.high) || decide (verHi c x.wanted ≤ s.high)) = false }) [5, 7, 24, 25, 26, 27, 28, 29, 30, 31, 32, 33, 34, 35, 36, 37, 38, 39, 40, 41, 42, 43, 44, 45, 46, 47, 48, 49, 50, 51, 52, 53, 54, 55, 56, 57, 58, 59, 60] (fun x => [(6, .one (.val (.int .i64 (Int.ofNat x.1))))]) (fun x => s.cells.length - x.1) ⟨0, Nat.zero_le _, fun j x hj => absurd hj (Nat.not_lt_zero j)⟩ ?_ (fun x y hy => zbl hy trivial) rfl (fun x L' hok hL1 hL2 => ?_)
    ·cbv
     simp
    ·obtain ⟨i, hile, hprev⟩ := x
     dsimp only
     by_cases hi : i < s.cells.length
     ·obtain ⟨x, hx⟩ : ∃ x, s.cells[i]? = some x := ⟨_, List.getElem?_eq_getElem hi⟩
      have xok := sok.cel x (List.mem_of_getElem? hx)
      have q1 : A.lt (Int.ofNat i) li = true := by rw [hA, hli]; simp [std]; omega
      have q2 : A.inb (Int.ofNat i) cl = true := by rw [hA, hcl]; simp [std]; omega
      obtain ⟨p, hp⟩ := nm (i * 4)
      obtain ⟨i1, hi1⟩ := nm (Int.ofNat (i + 1))
      have q3 : A.idx 0 (Int.ofNat i) 4 = p := by rw [hA, hp]; simp [std]
      have q4 : A.getN ys p 0 4 = some [.int .i64 x.mode, .int .i64 x.running, .int .i64 x.wanted, .int .i64 x.since] := by rw [hA, hp, hys]; exact zc3 CsD.cells 4 (fun _ => rfl) hx r2
      have q10 : A.add .i64 (Int.ofNat i) 1 = i1 := by
       rw [hA, hi1]
       have hcl16 := ok.cells.2
       have hcl' := sok.cl
       exact (wrap64 (by simp; omega) (by simp; omega)).trans (by simp)
      obtain ⟨pv1, hpv1⟩ := nm (x.running.toNat * 2)
      obtain ⟨vh1, hvh1⟩ := nm (verHi c x.running)
      have v1a : A.inb x.running cvl = true := by rw [hA, hcvl]; simp [std]; have := xok.running; omega
      have v1b : A.idx 0 x.running 2 = pv1 := by rw [hA, hpv1]; simp [std]
      have v1c : A.get vs pv1 1 = some (.int .i64 vh1) := by
       have hl : x.running.toNat < c.vers.length := by have := xok.running; omega
       have := zap pairCells 2 (fun _ => rfl) (List.getElem?_eq_getElem hl) [] 1 (by omega)
       rw [List.append_nil] at this
       rw [hA, hpv1, hvs, this, hvh1]
       simp [verHi, List.getD, hl, pairCells]
      obtain ⟨y1, hy1⟩ := nm (decide (vh1 ≤ s.high))
      have ty1 : A.le vh1 s.high = y1 := by rw [hA, hy1]; rfl
      obtain ⟨pv2, hpv2⟩ := nm (x.wanted.toNat * 2)
      obtain ⟨vh2, hvh2⟩ := nm (verHi c x.wanted)
      have v2a : A.inb x.wanted cvl = true := by rw [hA, hcvl]; simp [std]; have := xok.wanted; omega
      have v2b : A.idx 0 x.wanted 2 = pv2 := by rw [hA, hpv2]; simp [std]
      have v2c : A.get vs pv2 1 = some (.int .i64 vh2) := by
       have hl : x.wanted.toNat < c.vers.length := by have := xok.wanted; omega
       have := zap pairCells 2 (fun _ => rfl) (List.getElem?_eq_getElem hl) [] 1 (by omega)
       rw [List.append_nil] at this
       rw [hA, hpv2, hvs, this, hvh2]
       simp [verHi, List.getD, hl, pairCells]
      obtain ⟨y2, hy2⟩ := nm (decide (vh2 ≤ s.high))
      have ty2 : A.le vh2 s.high = y2 := by rw [hA, hy2]; rfl
      refine zaa zab hA rfl rfl 400 ?_
      conv => arg 3; cbv
      repeat (simp only [f6, f7, g1, g2, tz1, tz2, q1, q2, q3, q4, q10, v1a, v1b, v1c, v2a, v2b, v2c, ty1, ty2]; conv => arg 3; cbv)
      cases hcy1 : y1
      ·rw [hcy1] at hy1
       conv => arg 3; cbv
       repeat (simp only [f6, f7, g1, g2, tz1, tz2, q1, q2, q3, q4, q10, v1a, v1b, v1c, v2a, v2b, v2c, ty1, ty2]; conv => arg 3; cbv)
       cases hcy2 : y2
       ·rw [hcy2] at hy2
        conv => arg 3; cbv
        repeat (simp only [f6, f7, g1, g2, tz1, tz2, q1, q2, q3, q4, q10, v1a, v1b, v1c, v2a, v2b, v2c, ty1, ty2]; conv => arg 3; cbv)
        intro ρ w' a hρ hl H htm ha hit
        refine hL2 a w' ⟨⟨i + 1, hi, fun j y hj hy => by
         rcases Nat.lt_or_ge j i with h1 | h1
         ·exact hprev j y h1 hy
         ·obtain rfl : j = i := by omega
          obtain rfl : x = y := Option.some.inj (hx.symm.trans hy)
          rw [← hvh1, ← hvh2, ← hy1, ← hy2]; rfl⟩, ⟨ρ, hρ, H.take hok, zaz ?_ ha⟩, ?_⟩
        ·dsimp only
         rw [← hi1]
         cbv
         simp
        ·dsimp only
         omega
       ·rw [hcy2] at hy2
        refine zac (.tup [.agg [.val (.int .i64 0), .val (.int .i64 0), .val (.slice none 0 0), .val (.slice none 0 0), .val (.int .i64 0), .val (.int .i64 0), .val (.int .i64 0), .val (.int .i64 0)], .one (.val (.int .i64 13))]) (by simp [SV.ok, TV.ok, S1.ok]) zba (fun ρ w' hρ hSat => zbq 13 w') ?_
        refine zaa zab hA rfl rfl 400 ?_
        conv => arg 3; cbv
        repeat (simp only [f6, f7, g1, g2, tz1, tz2, q1, q2, q3, q4, q10, v1a, v1b, v1c, v2a, v2b, v2c, ty1, ty2]; conv => arg 3; cbv)
        refine zad zab (by rfl) (by rfl) (by rfl) (fun ρ w' hρ hSat => ?_)
        exact StRet.bad (x := 13) (by omega) (zaw hSat.gr) (((HD.trans (if_neg (of_decide_eq_false hz1.symm))).trans (if_neg (of_decide_eq_false hz2.symm))).trans (if_pos (List.any_eq_true.2 ⟨x, List.mem_of_getElem? hx, by rw [← hvh1, ← hvh2, ← hy1, ← hy2]; rfl⟩)))
      ·rw [hcy1] at hy1
       refine zac (.tup [.agg [.val (.int .i64 0), .val (.int .i64 0), .val (.slice none 0 0), .val (.slice none 0 0), .val (.int .i64 0), .val (.int .i64 0), .val (.int .i64 0), .val (.int .i64 0)], .one (.val (.int .i64 13))]) (by simp [SV.ok, TV.ok, S1.ok]) zba (fun ρ w' hρ hSat => zbq 13 w') ?_
       refine zaa zab hA rfl rfl 400 ?_
       conv => arg 3; cbv
       repeat (simp only [f6, f7, g1, g2, tz1, tz2, q1, q2, q3, q4, q10, v1a, v1b, v1c, v2a, v2b, v2c, ty1, ty2]; conv => arg 3; cbv)
       refine zad zab (by rfl) (by rfl) (by rfl) (fun ρ w' hρ hSat => ?_)
       exact StRet.bad (x := 13) (by omega) (zaw hSat.gr) (((HD.trans (if_neg (of_decide_eq_false hz1.symm))).trans (if_neg (of_decide_eq_false hz2.symm))).trans (if_pos (List.any_eq_true.2 ⟨x, List.mem_of_getElem? hx, by rw [← hvh1, ← hvh2, ← hy1, ← hy2]; rfl⟩)))
     ·have q1 : A.lt (Int.ofNat i) li = false := by rw [hA, hli]; simp [std]; omega
      refine zaa zab hA rfl rfl 400 ?_
      conv => arg 3; cbv
      repeat (simp only [f6, f7, g1, g2, tz1, tz2, q1]; conv => arg 3; cbv)
      refine zad zab (by rfl) (by rfl) (by rfl) (fun ρ w' hρ hSat => ?_)
      have e0 := hρ 0 (gt, 0) rfl
      have e1 := hρ 1 (gc, 0) rfl
      simp only [List.map, concV, conc1, e0, e1]
      rw [htl, hcl, hhp1]
      refine StRet.good2 (s := { s with high := s.high + 1 }) (zaw hSat.gr) (zbx hSat e0 e1 rfl rfl hxs hys HNE.out) (((HD.trans (if_neg (of_decide_eq_false hz1.symm))).trans (if_neg (of_decide_eq_false hz2.symm))).trans (if_neg (fun hany => ?_))) rfl
      obtain ⟨x, hx, hp⟩ := List.any_eq_true.1 hany
      obtain ⟨j, hj, rfl⟩ := List.getElem_of_mem hx
      rw [hprev j _ (by omega) (List.getElem?_eq_getElem hj)] at hp
      cases hp
   ·rw [hcz2] at hz2
    refine zac (.tup [.agg [.val (.int .i64 0), .val (.int .i64 0), .val (.slice none 0 0), .val (.slice none 0 0), .val (.int .i64 0), .val (.int .i64 0), .val (.int .i64 0), .val (.int .i64 0)], .one (.val (.int .i64 2))]) (by simp [SV.ok, TV.ok, S1.ok]) zba (fun ρ w' hρ hSat => zbq 2 w') ?_
    refine zaa zab hA rfl rfl 400 ?_
    conv => arg 3; cbv
    repeat (simp only [f6, f7, g1, g2, tz1, tz2]; conv => arg 3; cbv)
    refine zad zab (by rfl) (by rfl) (by rfl) (fun ρ w' hρ hSat => ?_)
    exact StRet.bad (x := 2) (by omega) (zaw hSat.gr) ((HD.trans (if_neg (of_decide_eq_false hz1.symm))).trans (if_pos (of_decide_eq_true hz2.symm)))
  ·rw [hcz1] at hz1
   refine zac (.tup [.agg [.val (.int .i64 0), .val (.int .i64 0), .val (.slice none 0 0), .val (.slice none 0 0), .val (.int .i64 0), .val (.int .i64 0), .val (.int .i64 0), .val (.int .i64 0)], .one (.val (.int .i64 4))]) (by simp [SV.ok, TV.ok, S1.ok]) zba (fun ρ w' hρ hSat => zbq 4 w') ?_
   refine zaa zab hA rfl rfl 400 ?_
   conv => arg 3; cbv
   repeat (simp only [f6, f7, g1, g2, tz1, tz2]; conv => arg 3; cbv)
   refine zad zab (by rfl) (by rfl) (by rfl) (fun ρ w' hρ hSat => ?_)
   exact StRet.bad (x := 4) (by omega) (zaw hSat.gr) (HD.trans (if_pos (of_decide_eq_true hz1.symm)))
theorem bits_or {a n : Int} (h0 : 0 ≤ a) (h1 : a < 1073741824) (h2 : 0 ≤ n) (h3 : n < 30) : std.bor .i64 a (std.shl .i64 1 n) = orBit a n := by
 obtain ⟨x, rfl⟩ := Int.eq_ofNat_of_zero_le h0
 obtain ⟨m, rfl⟩ := Int.eq_ofNat_of_zero_le h2
 have hx : x < 2 ^ 30 := by omega
 have hm : m < 30 := by omega
 have hp : (2 : Nat) ^ m < 2 ^ 30 := Nat.pow_lt_pow_right (by omega) hm
 have hs : std.shl .i64 1 (m : Int) = ((2 ^ m : Nat) : Int) := by
  show IntKind.wrap .i64 (1 * 2 ^ (min (m : Int).toNat (IntKind.bits .i64))) = _
  rw [Int.toNat_natCast, show min m (IntKind.bits .i64) = m by simp only [IntKind.bits]; omega, Int.one_mul]
  have e : ((2 : Int) ^ m) = ((2 ^ m : Nat) : Int) := by simp
  rw [e]
  generalize (2 : Nat) ^ m = y at *
  exact wrap64 (by omega) (by omega)
 rw [hs]
 show IntKind.wrap .i64 ((BitVec.ofInt 64 (x : Int) ||| BitVec.ofInt 64 ((2 ^ m : Nat) : Int)).toNat : Int) = _
 rw [BitVec.toNat_or, BitVec.toNat_ofInt, BitVec.toNat_ofInt]
 have e1 : ((x : Int) % ((2 ^ 64 : Nat) : Int)).toNat = x := by omega
 have e2 : (((2 ^ m : Nat) : Int) % ((2 ^ 64 : Nat) : Int)).toNat = 2 ^ m := by
  generalize (2 : Nat) ^ m = y at *
  omega
 rw [e1, e2]
 have hlt : x ||| 2 ^ m < 2 ^ 30 := Nat.or_lt_two_pow hx hp
 rw [wrap64 (by omega) (by omega)]
 simp [orBit, Nat.one_shiftLeft]
theorem conv64 {n : Int} (h0 : 0 ≤ n) (h1 : n < 18446744073709551616) : std.conv .u64 n = n := by
 show IntKind.wrap .u64 n = n
 simp only [IntKind.wrap, IntKind.signed, IntKind.bits]
 simp
 omega
theorem prove_any (c : CfgD) (h : CfgH) (s : StD) (hs : StH) (gt gc : Nat) (ek et en ec eo ep el eh ev : Int) (w : World) (ok : CfgOk c) (sok : StOk c s) (het : 0 ≤ et ∧ et ≤ 1073741824) (hev : 0 ≤ ev ∧ ev < 30) (hW : StW w s hs gt gc) :
 Calls Tryz.prog 76 #[.agg (cfgV c h), .agg (stV s hs), .agg (EnD.cells ⟨ek, et, en, ec, eo, ep, el, eh, ev⟩)] w (StRet (proveD c s ⟨ek, et, en, ec, eo, ep, el, eh, ev⟩) hs gt gc w) := by
 have HD : proveD c s ⟨ek, et, en, ec, eo, ep, el, eh, ev⟩ = if hasB s.proven ev = true then no 4 else if s.cells.any (bakes c ⟨ek, et, en, ec, eo, ep, el, eh, ev⟩) then (0, { s with proven := orBit s.proven ev }) else no 15 := rfl
 obtain ⟨a1, kt, a2, kc⟩ := hs
 obtain rfl : a1 = some ⟨gt, 0, none⟩ := hW.at_
 obtain rfl : a2 = some ⟨gc, 0, none⟩ := hW.ac
 obtain ⟨r1, hbt⟩ := hW.bt
 obtain ⟨r2, hbc⟩ := hW.bc
 have HNE := Lib.hid hW.ne
 have hlt := hW.lt
 obtain ⟨A, hA⟩ : ∃ A, A = std := ⟨_, rfl⟩
 obtain ⟨xs, hxs⟩ := nm (s.tens.flatMap TsD.cells ++ r1)
 obtain ⟨ys, hys⟩ := nm (s.cells.flatMap CsD.cells ++ r2)
 obtain ⟨tl, htl⟩ := nm (s.tens.length)
 obtain ⟨cl, hcl⟩ := nm (s.cells.length)
 have f6 : A.not true = false := by rw [hA]; rfl
 have f7 : A.not false = true := by rw [hA]; rfl
 obtain ⟨czl, hczl⟩ := nm (c.zones.length)
 obtain ⟨ccl, hccl⟩ := nm (c.cells.length)
 obtain ⟨ctl, hctl⟩ := nm (c.tens.length)
 obtain ⟨cvl, hcvl⟩ := nm (c.vers.length)
 obtain ⟨crl, hcrl⟩ := nm (c.reps.length)
 obtain ⟨col, hcol⟩ := nm (c.obs.length)
 obtain ⟨li, hli⟩ := nm (Int.ofNat s.cells.length)
 have g2 : A.len cl = li := by rw [hA, hli, hcl]; rfl
 obtain ⟨pb, hpb⟩ := nm (hasB s.proven ev)
 obtain ⟨cv, hcv⟩ := nm (std.conv .u64 ev)
 obtain ⟨sh, hsh⟩ := nm (std.shl .i64 1 ev)
 obtain ⟨pr, hpr⟩ := nm (orBit s.proven ev)
 have g3 : A.conv .u64 ev = cv := by rw [hA, hcv]
 have g4 : A.le 0 cv = true := by rw [hA, hcv, conv64 (by omega) (by omega)]; simp [std]; omega
 have g5 : A.shl .i64 1 cv = sh := by rw [hA, hsh, hcv, conv64 (by omega) (by omega)]
 have g6 : A.bor .i64 s.proven sh = pr := by rw [hA, hsh, hpr]; exact bits_or sok.proven.1 sok.proven.2 hev.1 hev.2
 refine zae (E := ⟨Tryz.prog, tabaT, ords76, Tryz.f76, w, [gt, gc], [(gt, 0), (gc, 0)], fun _ _ _ => False⟩) zab (c := bodyOf Tryz.f76) (n := 0) Tryz.func76 rfl (show codeChk ords76 (bodyOf Tryz.f76) = true by decide +kernel) (rho [(gt, 0), (gc, 0)]) (fun h p hp => zaq _ h p hp)
  (tm := [.agg [.val (iv c.regions), .val (.slice h.az czl h.kz), .val (.slice h.ac ccl h.kc), .val (.slice h.at_ ctl h.kt), .val (.slice h.av cvl h.kv), .val (.slice h.ar crl h.kr), .val (.slice h.ao col h.ko), .val (iv c.blast), .val (iv c.lease), .val (iv c.bake)], .agg [.val (iv s.tick), .val (iv s.count), .slc 0 0 tl kt, .slc 1 0 cl kc, .val (iv s.proven), .val (iv s.evac), .val (iv s.low), .val (iv s.high)], .agg [.val (.int .i64 ek), .val (.int .i64 et), .val (.int .i64 en), .val (.int .i64 ec), .val (.int .i64 eo), .val (.int .i64 ep), .val (.int .i64 el), .val (.int .i64 eh), .val (.int .i64 ev)]] ++ List.replicate 65 (.one (.val undef))) (mem := [.sym 105 xs, .sym 107 ys]) (Nat.le_refl _) ?_ ?_ (by rw [hczl, hccl, hctl, hcvl, hcrl, hcol]; rw [htl, hcl]; rfl) ?_
 ·have h1 := (zan w [gt, gc] (rho [(gt, 0), (gc, 0)])).addW (t := 105) (l := xs) (g := gt) rfl (by rw [hxs]; exact hbt) (by simp) (fun h hh => by cases hh)
  have h2 := h1.addW (t := 107) (l := ys) (g := gc) rfl (by rw [hys]; exact hbc) (by simp) (fun h hh => by cases (show h = 0 from Nat.lt_one_iff.1 hh); exact HNE.out)
  exact h2
 ·simp [SV.ok, S1.ok]
 ·refine zaa zab hA rfl rfl 400 ?_
  conv => arg 3; cbv
  repeat (simp only [f6, f7, g2, g3, g4, g5, g6]; conv => arg 3; cbv)
  refine zac (.one (.val (.bool pb))) trivial zcb (fun ρ w' hρ hSat => ?_) ?_
  ·have e0 := hρ 0 (gt, 0) rfl
   have e1 := hρ 1 (gc, 0) rfl
   simp only [List.map, concV, conc1, e0, e1]
   rw [hpb, htl, hcl]
   exact zcq s ⟨some ⟨gt, 0, none⟩, kt, some ⟨gc, 0, none⟩, kc⟩ ev w' sok.proven.1 sok.proven.2
  refine zaa zab hA rfl rfl 400 ?_
  cases hcpb : pb
  ·rw [hcpb] at hpb
   conv => arg 3; cbv
   repeat (simp only [f6, f7, g2, g3, g4, g5, g6]; conv => arg 3; cbv)
   refine zbs 0 (α := { i : Nat // i ≤ s.cells.length ∧ ∀ (j : Nat) x, j < i → s.cells[j]? = some x → (bakes c ⟨ek, et, en, ec, eo, ep, el, eh, ev⟩ x) = false }) [7, 9, 17, 18, 19, 20, 21, 22, 23, 24, 25, 26, 27, 28, 29, 30, 31, 32, 33, 34, 35, 36, 37, 38, 39, 40, 41, 42, 43, 44, 45, 46, 47, 48, 49, 50, 51, 52, 53, 54, 55, 56, 57, 58, 59, 60, 61, 62, 63, 64] (fun x => [(8, .one (.val (.int .i64 (Int.ofNat x.1))))]) (fun x => s.cells.length - x.1) ⟨0, Nat.zero_le _, fun j x hj => absurd hj (Nat.not_lt_zero j)⟩ ?_ (fun x y hy => zbl hy trivial) rfl (fun x L' hok hL1 hL2 => ?_)
   ·cbv
    simp
   ·obtain ⟨i, hile, hprev⟩ := x
    dsimp only
    by_cases hi : i < s.cells.length
    ·obtain ⟨x, hx⟩ : ∃ x, s.cells[i]? = some x := ⟨_, List.getElem?_eq_getElem hi⟩
     have xok := sok.cel x (List.mem_of_getElem? hx)
     have q1 : A.lt (Int.ofNat i) li = true := by rw [hA, hli]; simp [std]; omega
     have q2 : A.inb (Int.ofNat i) cl = true := by rw [hA, hcl]; simp [std]; omega
     obtain ⟨p, hp⟩ := nm (i * 4)
     obtain ⟨i1, hi1⟩ := nm (Int.ofNat (i + 1))
     have q3 : A.idx 0 (Int.ofNat i) 4 = p := by rw [hA, hp]; simp [std]
     have q4 : A.getN ys p 0 4 = some [.int .i64 x.mode, .int .i64 x.running, .int .i64 x.wanted, .int .i64 x.since] := by rw [hA, hp, hys]; exact zc3 CsD.cells 4 (fun _ => rfl) hx r2
     have q10 : A.add .i64 (Int.ofNat i) 1 = i1 := by
      rw [hA, hi1]
      have hcl16 := ok.cells.2
      have hcl' := sok.cl
      exact (wrap64 (by simp; omega) (by simp; omega)).trans (by simp)
     obtain ⟨df, hdf⟩ := nm (et - x.since)
     have q5 : A.sub .i64 et x.since = df := by rw [hA, hdf]; have := xok.since; exact wrap64 (by omega) (by omega)
     obtain ⟨y1, hy1⟩ := nm (decide (x.mode = 3))
     have ty1 : A.eq x.mode 3 = y1 := by rw [hA, hy1]; rfl
     obtain ⟨y2, hy2⟩ := nm (decide (x.running = ev))
     have ty2 : A.eq x.running ev = y2 := by rw [hA, hy2]; rfl
     obtain ⟨y3, hy3⟩ := nm (decide (x.wanted = ev))
     have ty3 : A.eq x.wanted ev = y3 := by rw [hA, hy3]; rfl
     obtain ⟨y4, hy4⟩ := nm (decide (c.bake ≤ df))
     have ty4 : A.le c.bake df = y4 := by rw [hA, hy4]; rfl
     refine zaa zab hA rfl rfl 400 ?_
     conv => arg 3; cbv
     repeat (simp only [f6, f7, g2, g3, g4, g5, g6, q1, q2, q3, q4, q10, q5, ty1, ty2, ty3, ty4]; conv => arg 3; cbv)
     cases hcy1 : y1
     ·rw [hcy1] at hy1
      conv => arg 3; cbv
      repeat (simp only [f6, f7, g2, g3, g4, g5, g6, q1, q2, q3, q4, q10, q5, ty1, ty2, ty3, ty4]; conv => arg 3; cbv)
      cases hcy2 : y2
      ·rw [hcy2] at hy2
       conv => arg 3; cbv
       repeat (simp only [f6, f7, g2, g3, g4, g5, g6, q1, q2, q3, q4, q10, q5, ty1, ty2, ty3, ty4]; conv => arg 3; cbv)
       intro ρ w' a hρ hl H htm ha hit
       refine hL2 a w' ⟨⟨i + 1, hi, fun j y hj hy => by
        rcases Nat.lt_or_ge j i with h1 | h1
        ·exact hprev j y h1 hy
        ·obtain rfl : j = i := by omega
         obtain rfl : x = y := Option.some.inj (hx.symm.trans hy)
         rw [bakes, show (x.mode != 3) = !decide (x.mode = 3) from rfl, show (x.running == ev) = decide (x.running = ev) from rfl, show (x.wanted == ev) = decide (x.wanted = ev) from rfl, ← hdf, ← hy1, ← hy2, ← hy3, ← hy4]
         first | rfl | simp⟩, ⟨ρ, hρ, H.take hok, zaz ?_ ha⟩, ?_⟩
       ·dsimp only
        rw [← hi1]
        cbv
        simp
       ·dsimp only
        omega
      ·rw [hcy2] at hy2
       conv => arg 3; cbv
       repeat (simp only [f6, f7, g2, g3, g4, g5, g6, q1, q2, q3, q4, q10, q5, ty1, ty2, ty3, ty4]; conv => arg 3; cbv)
       cases hcy3 : y3
       ·rw [hcy3] at hy3
        conv => arg 3; cbv
        repeat (simp only [f6, f7, g2, g3, g4, g5, g6, q1, q2, q3, q4, q10, q5, ty1, ty2, ty3, ty4]; conv => arg 3; cbv)
        intro ρ w' a hρ hl H htm ha hit
        refine hL2 a w' ⟨⟨i + 1, hi, fun j y hj hy => by
         rcases Nat.lt_or_ge j i with h1 | h1
         ·exact hprev j y h1 hy
         ·obtain rfl : j = i := by omega
          obtain rfl : x = y := Option.some.inj (hx.symm.trans hy)
          rw [bakes, show (x.mode != 3) = !decide (x.mode = 3) from rfl, show (x.running == ev) = decide (x.running = ev) from rfl, show (x.wanted == ev) = decide (x.wanted = ev) from rfl, ← hdf, ← hy1, ← hy2, ← hy3, ← hy4]
          first | rfl | simp⟩, ⟨ρ, hρ, H.take hok, zaz ?_ ha⟩, ?_⟩
        ·dsimp only
         rw [← hi1]
         cbv
         simp
        ·dsimp only
         omega
       ·rw [hcy3] at hy3
        conv => arg 3; cbv
        repeat (simp only [f6, f7, g2, g3, g4, g5, g6, q1, q2, q3, q4, q10, q5, ty1, ty2, ty3, ty4]; conv => arg 3; cbv)
        cases hcy4 : y4
        ·rw [hcy4] at hy4
         conv => arg 3; cbv
         repeat (simp only [f6, f7, g2, g3, g4, g5, g6, q1, q2, q3, q4, q10, q5, ty1, ty2, ty3, ty4]; conv => arg 3; cbv)
         intro ρ w' a hρ hl H htm ha hit
         refine hL2 a w' ⟨⟨i + 1, hi, fun j y hj hy => by
          rcases Nat.lt_or_ge j i with h1 | h1
          ·exact hprev j y h1 hy
          ·obtain rfl : j = i := by omega
           obtain rfl : x = y := Option.some.inj (hx.symm.trans hy)
           rw [bakes, show (x.mode != 3) = !decide (x.mode = 3) from rfl, show (x.running == ev) = decide (x.running = ev) from rfl, show (x.wanted == ev) = decide (x.wanted = ev) from rfl, ← hdf, ← hy1, ← hy2, ← hy3, ← hy4]
           first | rfl | simp⟩, ⟨ρ, hρ, H.take hok, zaz ?_ ha⟩, ?_⟩
         ·dsimp only
          rw [← hi1]
          cbv
          simp
         ·dsimp only
          omega
        ·rw [hcy4] at hy4
         conv => arg 3; cbv
         repeat (simp only [f6, f7, g2, g3, g4, g5, g6, q1, q2, q3, q4, q10, q5, ty1, ty2, ty3, ty4]; conv => arg 3; cbv)
         refine zad zab (by rfl) (by rfl) (by rfl) (fun ρ w' hρ hSat => ?_)
         have e0 := hρ 0 (gt, 0) rfl
         have e1 := hρ 1 (gc, 0) rfl
         simp only [List.map, concV, conc1, e0, e1]
         rw [htl, hcl, hpr]
         refine StRet.good2 (s := { s with proven := orBit s.proven ev }) (zaw hSat.gr) (zbx hSat e0 e1 rfl rfl hxs hys HNE.out) ((HD.trans (if_neg (by rw [← hpb]; simp))).trans (if_pos (List.any_eq_true.2 ⟨x, List.mem_of_getElem? hx, ?_⟩))) rfl
         rw [bakes, show (x.mode != 3) = !decide (x.mode = 3) from rfl, show (x.running == ev) = decide (x.running = ev) from rfl, show (x.wanted == ev) = decide (x.wanted = ev) from rfl, ← hdf, ← hy1, ← hy2, ← hy3, ← hy4]
         rfl
     ·rw [hcy1] at hy1
      conv => arg 3; cbv
      repeat (simp only [f6, f7, g2, g3, g4, g5, g6, q1, q2, q3, q4, q10, q5, ty1, ty2, ty3, ty4]; conv => arg 3; cbv)
      intro ρ w' a hρ hl H htm ha hit
      refine hL2 a w' ⟨⟨i + 1, hi, fun j y hj hy => by
       rcases Nat.lt_or_ge j i with h1 | h1
       ·exact hprev j y h1 hy
       ·obtain rfl : j = i := by omega
        obtain rfl : x = y := Option.some.inj (hx.symm.trans hy)
        rw [bakes, show (x.mode != 3) = !decide (x.mode = 3) from rfl, show (x.running == ev) = decide (x.running = ev) from rfl, show (x.wanted == ev) = decide (x.wanted = ev) from rfl, ← hdf, ← hy1, ← hy2, ← hy3, ← hy4]
        first | rfl | simp⟩, ⟨ρ, hρ, H.take hok, zaz ?_ ha⟩, ?_⟩
      ·dsimp only
       rw [← hi1]
       cbv
       simp
      ·dsimp only
       omega
    ·have q1 : A.lt (Int.ofNat i) li = false := by rw [hA, hli]; simp [std]; omega
     refine zaa zab hA rfl rfl 400 ?_
     conv => arg 3; cbv
     repeat (simp only [f6, f7, g2, g3, g4, g5, g6, q1]; conv => arg 3; cbv)
     refine zac (.tup [.agg [.val (.int .i64 0), .val (.int .i64 0), .val (.slice none 0 0), .val (.slice none 0 0), .val (.int .i64 0), .val (.int .i64 0), .val (.int .i64 0), .val (.int .i64 0)], .one (.val (.int .i64 15))]) (by simp [SV.ok, TV.ok, S1.ok]) zba (fun ρ w' hρ hSat => zbq 15 w') ?_
     refine zaa zab hA rfl rfl 400 ?_
     conv => arg 3; cbv
     repeat (simp only [f6, f7, g2, g3, g4, g5, g6, q1]; conv => arg 3; cbv)
     refine zad zab (by rfl) (by rfl) (by rfl) (fun ρ w' hρ hSat => ?_)
     exact StRet.bad (x := 15) (by omega) (zaw hSat.gr) ((HD.trans (if_neg (by rw [← hpb]; simp))).trans (if_neg (fun hany => by
      obtain ⟨x, hx, hp⟩ := List.any_eq_true.1 hany
      obtain ⟨j, hj, rfl⟩ := List.getElem_of_mem hx
      rw [hprev j _ (by omega) (List.getElem?_eq_getElem hj)] at hp
      cases hp)))
  ·rw [hcpb] at hpb
   conv => arg 3; cbv
   repeat (simp only [f6, f7, g2, g3, g4, g5, g6]; conv => arg 3; cbv)
   refine zac (.tup [.agg [.val (.int .i64 0), .val (.int .i64 0), .val (.slice none 0 0), .val (.slice none 0 0), .val (.int .i64 0), .val (.int .i64 0), .val (.int .i64 0), .val (.int .i64 0)], .one (.val (.int .i64 4))]) (by simp [SV.ok, TV.ok, S1.ok]) zba (fun ρ w' hρ hSat => zbq 4 w') ?_
   refine zaa zab hA rfl rfl 400 ?_
   conv => arg 3; cbv
   repeat (simp only [f6, f7, g2, g3, g4, g5, g6]; conv => arg 3; cbv)
   refine zad zab (by rfl) (by rfl) (by rfl) (fun ρ w' hρ hSat => ?_)
   exact StRet.bad (x := 4) (by omega) (zaw hSat.gr) (HD.trans (if_pos hpb.symm))
theorem getN_part {α : Type} (f : α → List Value) (k : Nat) (hf : ∀ x, (f x).length = k) {l : List α} {i : Nat} {x : α} (hx : l[i]? = some x) (r : List Value) (j n : Nat) (hj : j + n ≤ k) : std.getN (l.flatMap f ++ r) (i * k) j n = some (((f x).drop j).take n) := by
 have hi := (List.getElem?_eq_some_iff.1 hx).1
 have hle : i * k + k ≤ (l.flatMap f).length := by rw [zbm f k hf]; have := Nat.mul_le_mul_right k (show i + 1 ≤ l.length by omega); rw [Nat.succ_mul] at this; exact this
 simp only [std]
 rw [if_pos (by rw [List.length_append]; omega)]
 congr 1
 refine List.ext_getElem? fun m => ?_
 rw [List.getElem?_take, List.getElem?_take]
 split
 ·rename_i hm
  rw [List.getElem?_drop, List.getElem?_drop, List.getElem?_append_left (by omega), show i * k + j + m = i * k + (j + m) by omega, flat_at f k hf l i (j + m) x hx (by omega)]
 ·rfl
theorem runs_any (s : StD) (hs : StH) (gt gc k : Nat) (x : CsD) (ek et en eo ep el eh ev : Int) (w : World) (h32 : s.tens.length ≤ 32) (h0 : 0 ≤ s.proven ∧ s.proven < 1073741824) (hx : s.cells[k]? = some x) (hW : StW w s hs gt gc) :
 Calls Tryz.prog 75 #[.agg (stV s hs), .agg (EnD.cells ⟨ek, et, en, (k : Nat), eo, ep, el, eh, ev⟩)] w (StRet (runsD s ⟨ek, et, en, (k : Nat), eo, ep, el, eh, ev⟩) hs gt gc w) := by
 have hk : k < s.cells.length := (List.getElem?_eq_some_iff.1 hx).1
 have HD : runsD s ⟨ek, et, en, (k : Nat), eo, ep, el, eh, ev⟩ = if ev ≠ x.wanted ∨ x.running = x.wanted then no 4 else if hasB s.proven ev = false ∧ s.evac ≠ 0 then no 12 else if s.tens.any (fun t => (t.win.cell == (k : Int)) && decide (et < t.win.hi)) then no 9 else (0, s.setC k { x with running := ev, since := et }) := by
  unfold runsD
  rw [show (EnD.cell ⟨ek, et, en, (k : Nat), eo, ep, el, eh, ev⟩) = (k : Int) from rfl, zb8 hx]
 obtain ⟨a1, kt, a2, kc⟩ := hs
 obtain rfl : a1 = some ⟨gt, 0, none⟩ := hW.at_
 obtain rfl : a2 = some ⟨gc, 0, none⟩ := hW.ac
 obtain ⟨r1, hbt⟩ := hW.bt
 obtain ⟨r2, hbc⟩ := hW.bc
 have HNE := Lib.hid hW.ne
 have hlt := hW.lt
 obtain ⟨A, hA⟩ : ∃ A, A = std := ⟨_, rfl⟩
 obtain ⟨xs, hxs⟩ := nm (s.tens.flatMap TsD.cells ++ r1)
 obtain ⟨ys, hys⟩ := nm (s.cells.flatMap CsD.cells ++ r2)
 obtain ⟨tl, htl⟩ := nm (s.tens.length)
 obtain ⟨cl, hcl⟩ := nm (s.cells.length)
 have f6 : A.not true = false := by rw [hA]; rfl
 have f7 : A.not false = true := by rw [hA]; rfl
 obtain ⟨ki, hki⟩ := nm ((k : Int))
 obtain ⟨p, hp⟩ := nm (k * 4)
 obtain ⟨pb, hpb⟩ := nm (hasB s.proven ev)
 obtain ⟨lt, hlt'⟩ := nm (Int.ofNat s.tens.length)
 obtain ⟨ys1, hys1⟩ := nm ((s.setC k { x with running := ev }).cells.flatMap CsD.cells ++ r2)
 obtain ⟨ys2, hys2⟩ := nm ((s.setC k { x with running := ev, since := et }).cells.flatMap CsD.cells ++ r2)
 have f0 : A.inb ki cl = true := by rw [hA, hki, hcl]; simp [std]; omega
 have f1 : A.idx 0 ki 4 = p := by rw [hA, hp, hki]; simp [std]
 have f2 : A.get ys p 1 = some (.int .i64 x.running) := by rw [hA, hp, hys]; exact zap CsD.cells 4 (fun _ => rfl) hx r2 1 (by omega)
 have f3 : A.get ys p 2 = some (.int .i64 x.wanted) := by rw [hA, hp, hys]; exact zap CsD.cells 4 (fun _ => rfl) hx r2 2 (by omega)
 have g2 : A.len tl = lt := by rw [hA, hlt', htl]; rfl
 have g3 : A.set ys p 1 [.int .i64 ev] = some ys1 := by rw [hA, hp, hys, hys1]; exact zby CsD.cells 4 (fun _ => rfl) hx r2 1 _ (by simp) rfl
 have g4 : A.set ys1 p 3 [.int .i64 et] = some ys2 := by
  rw [hA, hp, hys1, hys2]
  have := zby CsD.cells 4 (fun _ => rfl) (setC_get (x' := { x with running := ev }) hx) r2 3 [.int .i64 et] (x' := { x with running := ev, since := et }) (by simp) rfl
  rw [show ((s.setC k { x with running := ev }).cells.set k { x with running := ev, since := et }) = (s.setC k { x with running := ev, since := et }).cells from congrArg StD.cells (setC_setC s k _ _)] at this
  exact this
 obtain ⟨z1, hz1⟩ := nm (decide (ev = x.wanted))
 have tz1 : A.eq ev x.wanted = z1 := by rw [hA, hz1]; rfl
 obtain ⟨z2, hz2⟩ := nm (decide (x.running = x.wanted))
 have tz2 : A.eq x.running x.wanted = z2 := by rw [hA, hz2]; rfl
 obtain ⟨z3, hz3⟩ := nm (decide (s.evac = 0))
 have tz3 : A.eq s.evac 0 = z3 := by rw [hA, hz3]; rfl
 refine zae (E := ⟨Tryz.prog, tabaT, ords75, Tryz.f75, w, [gt, gc], [(gt, 0), (gc, 0)], fun _ _ _ => False⟩) zab (c := bodyOf Tryz.f75) (n := 0) Tryz.func75 rfl (show codeChk ords75 (bodyOf Tryz.f75) = true by decide +kernel) (rho [(gt, 0), (gc, 0)]) (fun h p hp => zaq _ h p hp)
  (tm := [.agg [.val (iv s.tick), .val (iv s.count), .slc 0 0 tl kt, .slc 1 0 cl kc, .val (iv s.proven), .val (iv s.evac), .val (iv s.low), .val (iv s.high)], .agg [.val (.int .i64 ek), .val (.int .i64 et), .val (.int .i64 en), .val (.int .i64 ki), .val (.int .i64 eo), .val (.int .i64 ep), .val (.int .i64 el), .val (.int .i64 eh), .val (.int .i64 ev)]] ++ List.replicate 87 (.one (.val undef))) (mem := [.sym 105 xs, .sym 107 ys]) (Nat.le_refl _) ?_ ?_ (by rw [htl, hcl, hki]; rfl) ?_
 ·have h1 := (zan w [gt, gc] (rho [(gt, 0), (gc, 0)])).addW (t := 105) (l := xs) (g := gt) rfl (by rw [hxs]; exact hbt) (by simp) (fun h hh => by cases hh)
  have h2 := h1.addW (t := 107) (l := ys) (g := gc) rfl (by rw [hys]; exact hbc) (by simp) (fun h hh => by cases (show h = 0 from Nat.lt_one_iff.1 hh); exact HNE.out)
  exact h2
 ·simp [SV.ok, S1.ok]
 ·refine zaa zab hA rfl rfl 400 ?_
  conv => arg 3; cbv
  repeat (simp only [f0, f1, f2, f3, f6, f7, g2, g3, g4, tz1, tz2, tz3]; conv => arg 3; cbv)
  cases hcz1 : z1
  ·rw [hcz1] at hz1
   conv => arg 3; cbv
   repeat (simp only [f0, f1, f2, f3, f6, f7, g2, g3, g4, tz1, tz2, tz3]; conv => arg 3; cbv)
   refine zac (.tup [.agg [.val (.int .i64 0), .val (.int .i64 0), .val (.slice none 0 0), .val (.slice none 0 0), .val (.int .i64 0), .val (.int .i64 0), .val (.int .i64 0), .val (.int .i64 0)], .one (.val (.int .i64 4))]) (by simp [SV.ok, TV.ok, S1.ok]) zba (fun ρ w' hρ hSat => zbq 4 w') ?_
   refine zaa zab hA rfl rfl 400 ?_
   conv => arg 3; cbv
   repeat (simp only [f0, f1, f2, f3, f6, f7, g2, g3, g4, tz1, tz2, tz3]; conv => arg 3; cbv)
   refine zad zab (by rfl) (by rfl) (by rfl) (fun ρ w' hρ hSat => ?_)
   exact StRet.bad (x := 4) (by omega) (zaw hSat.gr) (HD.trans (if_pos (.inl (of_decide_eq_false hz1.symm))))
  ·rw [hcz1] at hz1
   conv => arg 3; cbv
   repeat (simp only [f0, f1, f2, f3, f6, f7, g2, g3, g4, tz1, tz2, tz3]; conv => arg 3; cbv)
   cases hcz2 : z2
   ·rw [hcz2] at hz2
    conv => arg 3; cbv
    repeat (simp only [f0, f1, f2, f3, f6, f7, g2, g3, g4, tz1, tz2, tz3]; conv => arg 3; cbv)
    refine zac (.one (.val (.bool pb))) trivial zcb (fun ρ w' hρ hSat => ?_) ?_
    ·have e0 := hρ 0 (gt, 0) rfl
     have e1 := hρ 1 (gc, 0) rfl
     simp only [List.map, concV, conc1, e0, e1]
     rw [hpb, htl, hcl]
     exact zcq s ⟨some ⟨gt, 0, none⟩, kt, some ⟨gc, 0, none⟩, kc⟩ ev w' h0.1 h0.2
    refine zaa zab hA rfl rfl 400 ?_
    cases hcpb : pb
    ·rw [hcpb] at hpb
     conv => arg 3; cbv
     repeat (simp only [f0, f1, f2, f3, f6, f7, g2, g3, g4, tz1, tz2, tz3]; conv => arg 3; cbv)
     cases hcz3 : z3
     ·rw [hcz3] at hz3
      conv => arg 3; cbv
      repeat (simp only [f0, f1, f2, f3, f6, f7, g2, g3, g4, tz1, tz2, tz3]; conv => arg 3; cbv)
      refine zac (.tup [.agg [.val (.int .i64 0), .val (.int .i64 0), .val (.slice none 0 0), .val (.slice none 0 0), .val (.int .i64 0), .val (.int .i64 0), .val (.int .i64 0), .val (.int .i64 0)], .one (.val (.int .i64 12))]) (by simp [SV.ok, TV.ok, S1.ok]) zba (fun ρ w' hρ hSat => zbq 12 w') ?_
      refine zaa zab hA rfl rfl 400 ?_
      conv => arg 3; cbv
      repeat (simp only [f0, f1, f2, f3, f6, f7, g2, g3, g4, tz1, tz2, tz3]; conv => arg 3; cbv)
      refine zad zab (by rfl) (by rfl) (by rfl) (fun ρ w' hρ hSat => ?_)
      exact StRet.bad (x := 12) (by omega) (zaw hSat.gr) ((HD.trans (if_neg (by rintro (h1 | h1); exact h1 (of_decide_eq_true hz1.symm); exact (of_decide_eq_false hz2.symm) h1))).trans (if_pos ⟨hpb.symm, of_decide_eq_false hz3.symm⟩))
     ·rw [hcz3] at hz3
      conv => arg 3; cbv
      repeat (simp only [f0, f1, f2, f3, f6, f7, g2, g3, g4, tz1, tz2, tz3]; conv => arg 3; cbv)
      refine zbs 0 (α := { i : Nat // i ≤ s.tens.length ∧ ∀ (j : Nat) t, j < i → s.tens[j]? = some t → ((t.win.cell == (k : Int)) && decide (et < t.win.hi)) = false }) [5, 8, 50, 51, 52, 53, 54, 55, 56, 57, 58, 59, 60, 61, 62, 63, 64, 65, 66, 67, 68, 69, 70, 71, 72, 73, 74, 75, 76, 77] (fun x => [(7, .one (.val (.int .i64 (Int.ofNat x.1))))]) (fun x => s.tens.length - x.1) ⟨0, Nat.zero_le _, fun j t hj => absurd hj (Nat.not_lt_zero j)⟩ ?_ (fun x y hy => zbl hy trivial) rfl (fun x L' hok hL1 hL2 => ?_)
      ·cbv
       simp
      ·obtain ⟨i, hile, hprev⟩ := x
       dsimp only
       by_cases hi : i < s.tens.length
       ·obtain ⟨t, ht⟩ : ∃ t, s.tens[i]? = some t := ⟨_, List.getElem?_eq_getElem hi⟩
        have q1 : A.lt (Int.ofNat i) lt = true := by rw [hA, hlt']; simp [std]; omega
        have q2 : A.inb (Int.ofNat i) tl = true := by rw [hA, htl]; simp [std]; omega
        obtain ⟨q, hq⟩ := nm (i * 12)
        obtain ⟨i1, hi1⟩ := nm (Int.ofNat (i + 1))
        have q3 : A.idx 0 (Int.ofNat i) 12 = q := by rw [hA, hq]; simp [std]
        have q4 : A.getN xs q 7 5 = some [.int .i64 t.win.cell, .int .i64 t.win.epoch, .int .i64 t.win.version, .int .i64 t.win.lo, .int .i64 t.win.hi] := by rw [hA, hq, hxs]; exact getN_part TsD.cells 12 (fun _ => rfl) ht r1 7 5 (by omega)
        have q10 : A.add .i64 (Int.ofNat i) 1 = i1 := by
         rw [hA, hi1]
         exact (wrap64 (by simp; omega) (by simp; omega)).trans (by simp)
        obtain ⟨y1, hy1⟩ := nm (decide (t.win.cell = ki))
        have ty1 : A.eq t.win.cell ki = y1 := by rw [hA, hy1]; rfl
        obtain ⟨y2, hy2⟩ := nm (decide (et < t.win.hi))
        have ty2 : A.lt et t.win.hi = y2 := by rw [hA, hy2]; rfl
        refine zaa zab hA rfl rfl 400 ?_
        conv => arg 3; cbv
        repeat (simp only [f0, f1, f2, f3, f6, f7, g2, g3, g4, tz1, tz2, tz3, q1, q2, q3, q4, q10, ty1, ty2]; conv => arg 3; cbv)
        cases hcy1 : y1
        ·rw [hcy1] at hy1
         conv => arg 3; cbv
         repeat (simp only [f0, f1, f2, f3, f6, f7, g2, g3, g4, tz1, tz2, tz3, q1, q2, q3, q4, q10, ty1, ty2]; conv => arg 3; cbv)
         intro ρ w' a hρ hl H htm ha hit
         refine hL2 a w' ⟨⟨i + 1, hi, fun j y hj hy => by
          rcases Nat.lt_or_ge j i with h1 | h1
          ·exact hprev j y h1 hy
          ·obtain rfl : j = i := by omega
           obtain rfl : t = y := Option.some.inj (ht.symm.trans hy)
           rw [show (t.win.cell == (k : Int)) = decide (t.win.cell = (k : Int)) from rfl, ← hki, ← hy1, ← hy2]
           first | rfl | simp⟩, ⟨ρ, hρ, H.take hok, zaz ?_ ha⟩, ?_⟩
         ·dsimp only
          rw [← hi1]
          cbv
          simp
         ·dsimp only
          omega
        ·rw [hcy1] at hy1
         conv => arg 3; cbv
         repeat (simp only [f0, f1, f2, f3, f6, f7, g2, g3, g4, tz1, tz2, tz3, q1, q2, q3, q4, q10, ty1, ty2]; conv => arg 3; cbv)
         cases hcy2 : y2
         ·rw [hcy2] at hy2
          conv => arg 3; cbv
          repeat (simp only [f0, f1, f2, f3, f6, f7, g2, g3, g4, tz1, tz2, tz3, q1, q2, q3, q4, q10, ty1, ty2]; conv => arg 3; cbv)
          intro ρ w' a hρ hl H htm ha hit
          refine hL2 a w' ⟨⟨i + 1, hi, fun j y hj hy => by
           rcases Nat.lt_or_ge j i with h1 | h1
           ·exact hprev j y h1 hy
           ·obtain rfl : j = i := by omega
            obtain rfl : t = y := Option.some.inj (ht.symm.trans hy)
            rw [show (t.win.cell == (k : Int)) = decide (t.win.cell = (k : Int)) from rfl, ← hki, ← hy1, ← hy2]
            first | rfl | simp⟩, ⟨ρ, hρ, H.take hok, zaz ?_ ha⟩, ?_⟩
          ·dsimp only
           rw [← hi1]
           cbv
           simp
          ·dsimp only
           omega
         ·rw [hcy2] at hy2
          refine zac (.tup [.agg [.val (.int .i64 0), .val (.int .i64 0), .val (.slice none 0 0), .val (.slice none 0 0), .val (.int .i64 0), .val (.int .i64 0), .val (.int .i64 0), .val (.int .i64 0)], .one (.val (.int .i64 9))]) (by simp [SV.ok, TV.ok, S1.ok]) zba (fun ρ w' hρ hSat => zbq 9 w') ?_
          refine zaa zab hA rfl rfl 400 ?_
          conv => arg 3; cbv
          repeat (simp only [f0, f1, f2, f3, f6, f7, g2, g3, g4, tz1, tz2, tz3, q1, q2, q3, q4, q10, ty1, ty2]; conv => arg 3; cbv)
          refine zad zab (by rfl) (by rfl) (by rfl) (fun ρ w' hρ hSat => ?_)
          exact StRet.bad (x := 9) (by omega) (zaw hSat.gr) (((HD.trans (if_neg (by rintro (h1 | h1); exact h1 (of_decide_eq_true hz1.symm); exact (of_decide_eq_false hz2.symm) h1))).trans (if_neg (fun h1 => h1.2 (of_decide_eq_true hz3.symm)))).trans (if_pos (List.any_eq_true.2 ⟨t, List.mem_of_getElem? ht, by rw [show (t.win.cell == (k : Int)) = decide (t.win.cell = (k : Int)) from rfl, ← hki, ← hy1, ← hy2]; rfl⟩)))
       ·have q1 : A.lt (Int.ofNat i) lt = false := by rw [hA, hlt']; simp [std]; omega
        refine zaa zab hA rfl rfl 400 ?_
        conv => arg 3; cbv
        repeat (simp only [f0, f1, f2, f3, f6, f7, g2, g3, g4, tz1, tz2, tz3, q1]; conv => arg 3; cbv)
        refine zad zab (by rfl) (by rfl) (by rfl) (fun ρ w' hρ hSat => ?_)
        have e0 := hρ 0 (gt, 0) rfl
        have e1 := hρ 1 (gc, 0) rfl
        simp only [List.map, concV, conc1, e0, e1]
        rw [htl, hcl]
        refine StRet.good2 (s := s.setC k { x with running := ev, since := et }) (zaw hSat.gr) (zbx hSat e0 e1 rfl rfl hxs hys2 HNE.out) (((HD.trans (if_neg (by rintro (h1 | h1); exact h1 (of_decide_eq_true hz1.symm); exact (of_decide_eq_false hz2.symm) h1))).trans (if_neg (fun h1 => h1.2 (of_decide_eq_true hz3.symm)))).trans (if_neg (fun hany => ?_))) (stV_setC _ _ _ _)
        obtain ⟨t, ht, hp⟩ := List.any_eq_true.1 hany
        obtain ⟨j, hj, rfl⟩ := List.getElem_of_mem ht
        rw [hprev j _ (by omega) (List.getElem?_eq_getElem hj)] at hp
        cases hp
    ·rw [hcpb] at hpb
     conv => arg 3; cbv
     repeat (simp only [f0, f1, f2, f3, f6, f7, g2, g3, g4, tz1, tz2, tz3]; conv => arg 3; cbv)
     refine zbs 0 (α := { i : Nat // i ≤ s.tens.length ∧ ∀ (j : Nat) t, j < i → s.tens[j]? = some t → ((t.win.cell == (k : Int)) && decide (et < t.win.hi)) = false }) [5, 8, 50, 51, 52, 53, 54, 55, 56, 57, 58, 59, 60, 61, 62, 63, 64, 65, 66, 67, 68, 69, 70, 71, 72, 73, 74, 75, 76, 77] (fun x => [(7, .one (.val (.int .i64 (Int.ofNat x.1))))]) (fun x => s.tens.length - x.1) ⟨0, Nat.zero_le _, fun j t hj => absurd hj (Nat.not_lt_zero j)⟩ ?_ (fun x y hy => zbl hy trivial) rfl (fun x L' hok hL1 hL2 => ?_)
     ·cbv
      simp
     ·obtain ⟨i, hile, hprev⟩ := x
      dsimp only
      by_cases hi : i < s.tens.length
      ·obtain ⟨t, ht⟩ : ∃ t, s.tens[i]? = some t := ⟨_, List.getElem?_eq_getElem hi⟩
       have q1 : A.lt (Int.ofNat i) lt = true := by rw [hA, hlt']; simp [std]; omega
       have q2 : A.inb (Int.ofNat i) tl = true := by rw [hA, htl]; simp [std]; omega
       obtain ⟨q, hq⟩ := nm (i * 12)
       obtain ⟨i1, hi1⟩ := nm (Int.ofNat (i + 1))
       have q3 : A.idx 0 (Int.ofNat i) 12 = q := by rw [hA, hq]; simp [std]
       have q4 : A.getN xs q 7 5 = some [.int .i64 t.win.cell, .int .i64 t.win.epoch, .int .i64 t.win.version, .int .i64 t.win.lo, .int .i64 t.win.hi] := by rw [hA, hq, hxs]; exact getN_part TsD.cells 12 (fun _ => rfl) ht r1 7 5 (by omega)
       have q10 : A.add .i64 (Int.ofNat i) 1 = i1 := by
        rw [hA, hi1]
        exact (wrap64 (by simp; omega) (by simp; omega)).trans (by simp)
       obtain ⟨y1, hy1⟩ := nm (decide (t.win.cell = ki))
       have ty1 : A.eq t.win.cell ki = y1 := by rw [hA, hy1]; rfl
       obtain ⟨y2, hy2⟩ := nm (decide (et < t.win.hi))
       have ty2 : A.lt et t.win.hi = y2 := by rw [hA, hy2]; rfl
       refine zaa zab hA rfl rfl 400 ?_
       conv => arg 3; cbv
       repeat (simp only [f0, f1, f2, f3, f6, f7, g2, g3, g4, tz1, tz2, tz3, q1, q2, q3, q4, q10, ty1, ty2]; conv => arg 3; cbv)
       cases hcy1 : y1
       ·rw [hcy1] at hy1
        conv => arg 3; cbv
        repeat (simp only [f0, f1, f2, f3, f6, f7, g2, g3, g4, tz1, tz2, tz3, q1, q2, q3, q4, q10, ty1, ty2]; conv => arg 3; cbv)
        intro ρ w' a hρ hl H htm ha hit
        refine hL2 a w' ⟨⟨i + 1, hi, fun j y hj hy => by
         rcases Nat.lt_or_ge j i with h1 | h1
         ·exact hprev j y h1 hy
         ·obtain rfl : j = i := by omega
          obtain rfl : t = y := Option.some.inj (ht.symm.trans hy)
          rw [show (t.win.cell == (k : Int)) = decide (t.win.cell = (k : Int)) from rfl, ← hki, ← hy1, ← hy2]
          first | rfl | simp⟩, ⟨ρ, hρ, H.take hok, zaz ?_ ha⟩, ?_⟩
        ·dsimp only
         rw [← hi1]
         cbv
         simp
        ·dsimp only
         omega
       ·rw [hcy1] at hy1
        conv => arg 3; cbv
        repeat (simp only [f0, f1, f2, f3, f6, f7, g2, g3, g4, tz1, tz2, tz3, q1, q2, q3, q4, q10, ty1, ty2]; conv => arg 3; cbv)
        cases hcy2 : y2
        ·rw [hcy2] at hy2
         conv => arg 3; cbv
         repeat (simp only [f0, f1, f2, f3, f6, f7, g2, g3, g4, tz1, tz2, tz3, q1, q2, q3, q4, q10, ty1, ty2]; conv => arg 3; cbv)
         intro ρ w' a hρ hl H htm ha hit
         refine hL2 a w' ⟨⟨i + 1, hi, fun j y hj hy => by
          rcases Nat.lt_or_ge j i with h1 | h1
          ·exact hprev j y h1 hy
          ·obtain rfl : j = i := by omega
           obtain rfl : t = y := Option.some.inj (ht.symm.trans hy)
           rw [show (t.win.cell == (k : Int)) = decide (t.win.cell = (k : Int)) from rfl, ← hki, ← hy1, ← hy2]
           first | rfl | simp⟩, ⟨ρ, hρ, H.take hok, zaz ?_ ha⟩, ?_⟩
         ·dsimp only
          rw [← hi1]
          cbv
          simp
         ·dsimp only
          omega
        ·rw [hcy2] at hy2
         refine zac (.tup [.agg [.val (.int .i64 0), .val (.int .i64 0), .val (.slice none 0 0), .val (.slice none 0 0), .val (.int .i64 0), .val (.int .i64 0), .val (.int .i64 0), .val (.int .i64 0)], .one (.val (.int .i64 9))]) (by simp [SV.ok, TV.ok, S1.ok]) zba (fun ρ w' hρ hSat => zbq 9 w') ?_
         refine zaa zab hA rfl rfl 400 ?_
         conv => arg 3; cbv
         repeat (simp only [f0, f1, f2, f3, f6, f7, g2, g3, g4, tz1, tz2, tz3, q1, q2, q3, q4, q10, ty1, ty2]; conv => arg 3; cbv)
         refine zad zab (by rfl) (by rfl) (by rfl) (fun ρ w' hρ hSat => ?_)
         exact StRet.bad (x := 9) (by omega) (zaw hSat.gr) (((HD.trans (if_neg (by rintro (h1 | h1); exact h1 (of_decide_eq_true hz1.symm); exact (of_decide_eq_false hz2.symm) h1))).trans (if_neg (fun h1 => by rw [← hpb] at h1; cases h1.1))).trans (if_pos (List.any_eq_true.2 ⟨t, List.mem_of_getElem? ht, by rw [show (t.win.cell == (k : Int)) = decide (t.win.cell = (k : Int)) from rfl, ← hki, ← hy1, ← hy2]; rfl⟩)))
      ·have q1 : A.lt (Int.ofNat i) lt = false := by rw [hA, hlt']; simp [std]; omega
       refine zaa zab hA rfl rfl 400 ?_
       conv => arg 3; cbv
       repeat (simp only [f0, f1, f2, f3, f6, f7, g2, g3, g4, tz1, tz2, tz3, q1]; conv => arg 3; cbv)
       refine zad zab (by rfl) (by rfl) (by rfl) (fun ρ w' hρ hSat => ?_)
       have e0 := hρ 0 (gt, 0) rfl
       have e1 := hρ 1 (gc, 0) rfl
       simp only [List.map, concV, conc1, e0, e1]
       rw [htl, hcl]
       refine StRet.good2 (s := s.setC k { x with running := ev, since := et }) (zaw hSat.gr) (zbx hSat e0 e1 rfl rfl hxs hys2 HNE.out) (((HD.trans (if_neg (by rintro (h1 | h1); exact h1 (of_decide_eq_true hz1.symm); exact (of_decide_eq_false hz2.symm) h1))).trans (if_neg (fun h1 => by rw [← hpb] at h1; cases h1.1))).trans (if_neg (fun hany => ?_))) (stV_setC _ _ _ _)
       obtain ⟨t, ht, hp⟩ := List.any_eq_true.1 hany
       obtain ⟨j, hj, rfl⟩ := List.getElem_of_mem ht
       rw [hprev j _ (by omega) (List.getElem?_eq_getElem hj)] at hp
       cases hp
   ·rw [hcz2] at hz2
    conv => arg 3; cbv
    repeat (simp only [f0, f1, f2, f3, f6, f7, g2, g3, g4, tz1, tz2, tz3]; conv => arg 3; cbv)
    refine zac (.tup [.agg [.val (.int .i64 0), .val (.int .i64 0), .val (.slice none 0 0), .val (.slice none 0 0), .val (.int .i64 0), .val (.int .i64 0), .val (.int .i64 0), .val (.int .i64 0)], .one (.val (.int .i64 4))]) (by simp [SV.ok, TV.ok, S1.ok]) zba (fun ρ w' hρ hSat => zbq 4 w') ?_
    refine zaa zab hA rfl rfl 400 ?_
    conv => arg 3; cbv
    repeat (simp only [f0, f1, f2, f3, f6, f7, g2, g3, g4, tz1, tz2, tz3]; conv => arg 3; cbv)
    refine zad zab (by rfl) (by rfl) (by rfl) (fun ρ w' hρ hSat => ?_)
    exact StRet.bad (x := 4) (by omega) (zaw hSat.gr) (HD.trans (if_pos (.inr (of_decide_eq_true hz2.symm))))
theorem goes_open : Goes Tryz.prog 95 := zam Tryz.func95 (by kernel_rfl) (by kernel_rfl)
def othersTo (s : StD) (k : Nat) (i : Nat) : Nat := ((List.range i).filter fun (i : Nat) => (((i : Nat) : Int) != (k : Int)) && openB s (s.cells.getD i default)).length
theorem othersTo_le (s : StD) (k i : Nat) : othersTo s k i ≤ i := by
 unfold othersTo
 exact Nat.le_trans (List.length_filter_le _ _) (by simp)
theorem othersTo_succ (s : StD) (k i : Nat) {x : CsD} (hx : s.cells[i]? = some x) : othersTo s k (i + 1) = othersTo s k i + if i ≠ k ∧ openB s x = true then 1 else 0 := by
 unfold othersTo
 rw [List.range_succ, List.filter_append, List.length_append]
 congr 1
 have e : s.cells.getD i default = x := by simp [List.getD, hx]
 by_cases h1 : i = k
 ·subst h1; simp
 ·have h2 : ((i : Int) != (k : Int)) = true := by simp; omega
  simp only [List.filter_cons, List.filter_nil, h2, e, Bool.true_and]
  cases h3 : openB s x <;> simp [h1]
theorem othersTo_same (s : StD) (k i : Nat) {x : CsD} (hx : s.cells[i]? = some x) (h : ¬ (i ≠ k ∧ openB s x = true)) : othersTo s k (i + 1) = othersTo s k i := by
 have := othersTo_succ s k i hx
 rw [if_neg h] at this
 exact this
theorem othersTo_more (s : StD) (k i : Nat) {x : CsD} (hx : s.cells[i]? = some x) (h : i ≠ k ∧ openB s x = true) : othersTo s k (i + 1) = othersTo s k i + 1 := by
 have := othersTo_succ s k i hx
 rw [if_pos h] at this
 exact this
theorem mem2_ok {n : Nat} {a b y : Nat × SV} (hy : y ∈ [a, b]) (ha : a.2.ok n) (hb : b.2.ok n) : y.2.ok n := by
 simp only [List.mem_cons, List.not_mem_nil, or_false] at hy
 rcases hy with rfl | rfl
 ·exact ha
 ·exact hb
theorem want_any (c : CfgD) (h : CfgH) (B : Nat) (s : StD) (hs : StH) (gt gc k m : Nat) (x : CsD) (v : Int × Int) (ek et en eo ep el eh : Int) (w : World) (ok : CfgOk c) (sok : StOk c s) (hx : s.cells[k]? = some x) (hv : c.vers[m]? = some v) (hC : CfgAt w B c h) (hB : B ≤ gt ∧ B ≤ gc) (hW : StW w s hs gt gc) :
 Calls Tryz.prog 74 #[.agg (cfgV c h), .agg (stV s hs), .agg (EnD.cells ⟨ek, et, en, (k : Nat), eo, ep, el, eh, (m : Nat)⟩)] w (StRet (wantD c s ⟨ek, et, en, (k : Nat), eo, ep, el, eh, (m : Nat)⟩) hs gt gc w) := by
 have hk : k < s.cells.length := (List.getElem?_eq_some_iff.1 hx).1
 have hm : m < c.vers.length := (List.getElem?_eq_some_iff.1 hv).1
 have HD : wantD c s ⟨ek, et, en, (k : Nat), eo, ep, el, eh, (m : Nat)⟩ = if x.wanted = (m : Int) then no 4 else if s.low < v.1 ∨ v.2 < s.high then no 13 else if (m : Int) ≠ x.running ∧ hasB s.proven m = false ∧ s.evac ≠ 0 then no 12 else if (m : Int) ≠ x.running ∧ hasB s.proven m = false ∧ c.blast ≤ othersD s k then no 14 else (0, s.setC k { x with wanted := (m : Int) }) := by
  unfold wantD
  rw [show (EnD.cell ⟨ek, et, en, (k : Nat), eo, ep, el, eh, (m : Nat)⟩) = (k : Int) from rfl, show (EnD.n ⟨ek, et, en, (k : Nat), eo, ep, el, eh, (m : Nat)⟩) = (m : Int) from rfl, zb8 hx, show c.vers.getD (m : Int).toNat (0, 0) = v by simp [List.getD, hv]]
 obtain ⟨a1, kt, a2, kc⟩ := hs
 obtain rfl : a1 = some ⟨gt, 0, none⟩ := hW.at_
 obtain rfl : a2 = some ⟨gc, 0, none⟩ := hW.ac
 obtain ⟨r1, hbt⟩ := hW.bt
 obtain ⟨r2, hbc⟩ := hW.bc
 have HNE := Lib.hid hW.ne
 have hlt := hW.lt
 obtain ⟨A, hA⟩ : ∃ A, A = std := ⟨_, rfl⟩
 obtain ⟨xs, hxs⟩ := nm (s.tens.flatMap TsD.cells ++ r1)
 obtain ⟨ys, hys⟩ := nm (s.cells.flatMap CsD.cells ++ r2)
 obtain ⟨tl, htl⟩ := nm (s.tens.length)
 obtain ⟨cl, hcl⟩ := nm (s.cells.length)
 have f6 : A.not true = false := by rw [hA]; rfl
 have f7 : A.not false = true := by rw [hA]; rfl
 obtain ⟨czl, hczl⟩ := nm (c.zones.length)
 obtain ⟨ccl, hccl⟩ := nm (c.cells.length)
 obtain ⟨ctl, hctl⟩ := nm (c.tens.length)
 obtain ⟨cvl, hcvl⟩ := nm (c.vers.length)
 obtain ⟨crl, hcrl⟩ := nm (c.reps.length)
 obtain ⟨col, hcol⟩ := nm (c.obs.length)
 have hvl : 1 ≤ c.vers.length := ok.vers.1
 obtain ⟨bv, ov, hav, hbv, hcv⟩ := zca hC.vers (by rw [zbm pairCells 2 (fun _ => rfl)]; omega)
 obtain ⟨az, kz, ac, kcc, at_, ktc, av, kv, ar, kr, ao, ko⟩ := h
 obtain rfl : av = some ⟨bv, ov, none⟩ := hav
 obtain ⟨vs, hvs⟩ := nm (c.vers.flatMap pairCells)
 obtain ⟨li, hli⟩ := nm (Int.ofNat s.cells.length)
 have g2 : A.len cl = li := by rw [hA, hli, hcl]; rfl
 obtain ⟨ki, hki⟩ := nm ((k : Int))
 obtain ⟨mi, hmi⟩ := nm ((m : Int))
 obtain ⟨p, hp⟩ := nm (k * 4)
 obtain ⟨pm, hpm⟩ := nm (m * 2)
 obtain ⟨pb, hpb⟩ := nm (hasB s.proven mi)
 obtain ⟨ot, hot⟩ := nm (Int.ofNat (othersTo s k s.cells.length))
 obtain ⟨ys1, hys1⟩ := nm ((s.setC k { x with wanted := (m : Int) }).cells.flatMap CsD.cells ++ r2)
 have f0 : A.inb ki cl = true := by rw [hA, hki, hcl]; simp [std]; omega
 have f1 : A.idx 0 ki 4 = p := by rw [hA, hp, hki]; simp [std]
 have f2 : A.get ys p 1 = some (.int .i64 x.running) := by rw [hA, hp, hys]; exact zap CsD.cells 4 (fun _ => rfl) hx r2 1 (by omega)
 have f3 : A.get ys p 2 = some (.int .i64 x.wanted) := by rw [hA, hp, hys]; exact zap CsD.cells 4 (fun _ => rfl) hx r2 2 (by omega)
 have f4 : A.inb mi cvl = true := by rw [hA, hmi, hcvl]; simp [std]; omega
 have f5 : A.idx 0 mi 2 = pm := by rw [hA, hpm, hmi]; simp [std]
 have f8 : A.getN vs pm 0 2 = some [.int .i64 v.1, .int .i64 v.2] := by rw [hA, hpm, hvs]; have := zc3 pairCells 2 (fun _ => rfl) hv []; rw [List.append_nil] at this; exact this
 have g3 : A.set ys p 2 [.int .i64 mi] = some ys1 := by rw [hA, hp, hys, hys1, hmi]; exact zby CsD.cells 4 (fun _ => rfl) hx r2 2 _ (by simp) rfl
 have hcl16 : s.cells.length ≤ 16 := by have := ok.cells.2; have := sok.cl; omega
 obtain ⟨z1, hz1⟩ := nm (decide (x.wanted = mi))
 have tz1 : A.eq x.wanted mi = z1 := by rw [hA, hz1]; rfl
 obtain ⟨z2, hz2⟩ := nm (decide (s.low < v.1))
 have tz2 : A.lt s.low v.1 = z2 := by rw [hA, hz2]; rfl
 obtain ⟨z3, hz3⟩ := nm (decide (v.2 < s.high))
 have tz3 : A.lt v.2 s.high = z3 := by rw [hA, hz3]; rfl
 obtain ⟨z4, hz4⟩ := nm (decide (mi = x.running))
 have tz4 : A.eq mi x.running = z4 := by rw [hA, hz4]; rfl
 obtain ⟨z5, hz5⟩ := nm (decide (s.evac = 0))
 have tz5 : A.eq s.evac 0 = z5 := by rw [hA, hz5]; rfl
 obtain ⟨z6, hz6⟩ := nm (decide (c.blast ≤ ot))
 have tz6 : A.le c.blast ot = z6 := by rw [hA, hz6]; rfl
 refine zae (E := ⟨Tryz.prog, tabaT, ords74, Tryz.f74, w, [gt, gc], [(gt, 0), (gc, 0), (bv, ov)], fun _ _ _ => False⟩) zab (c := bodyOf Tryz.f74) (n := 0) Tryz.func74 rfl (show codeChk ords74 (bodyOf Tryz.f74) = true by decide +kernel) (rho [(gt, 0), (gc, 0), (bv, ov)]) (fun h p hp => zaq _ h p hp)
  (tm := [.agg [.val (iv c.regions), .val (.slice az czl kz), .val (.slice ac ccl kcc), .val (.slice at_ ctl ktc), .slc 2 0 cvl kv, .val (.slice ar crl kr), .val (.slice ao col ko), .val (iv c.blast), .val (iv c.lease), .val (iv c.bake)], .agg [.val (iv s.tick), .val (iv s.count), .slc 0 0 tl kt, .slc 1 0 cl kc, .val (iv s.proven), .val (iv s.evac), .val (iv s.low), .val (iv s.high)], .agg [.val (.int .i64 ek), .val (.int .i64 et), .val (.int .i64 en), .val (.int .i64 ki), .val (.int .i64 eo), .val (.int .i64 ep), .val (.int .i64 el), .val (.int .i64 eh), .val (.int .i64 mi)]] ++ List.replicate 118 (.one (.val undef))) (mem := [.sym 105 xs, .sym 107 ys, .rsym vs]) (Nat.le_refl _) ?_ ?_ (by rw [hczl, hccl, hctl, hcvl, hcrl, hcol]; rw [htl, hcl, hki, hmi]; rfl) ?_
 ·have h1 := (zan w [gt, gc] (rho [(gt, 0), (gc, 0), (bv, ov)])).addW (t := 105) (l := xs) (g := gt) rfl (by rw [hxs]; exact hbt) (by simp) (fun h hh => by cases hh)
  have h2 := h1.addW (t := 107) (l := ys) (g := gc) rfl (by rw [hys]; exact hbc) (by simp) (fun h hh => by cases (show h = 0 from Nat.lt_one_iff.1 hh); exact HNE.out)
  exact h2.addR (p := (bv, ov)) rfl (l := vs) (by rw [hvs]; exact hcv) (by show bv < w.heap.size; omega) (by simp; omega)
 ·simp [SV.ok, S1.ok]
 ·refine zaa zab hA rfl rfl 400 ?_
  conv => arg 3; cbv
  repeat (simp only [f0, f1, f2, f3, f4, f5, f8, f6, f7, g2, g3, tz1, tz2, tz3, tz4, tz5, tz6]; conv => arg 3; cbv)
  refine zbs 0 (α := { i : Nat // i ≤ s.cells.length ∧ True }) [23, 24, 25, 26, 27, 28, 29, 30, 31, 32, 33, 34, 35, 36, 37, 38, 39, 40] (fun x => [(11, .one (.val (.int .i64 (Int.ofNat x.1)))), (10, .one (.val (.int .i64 (Int.ofNat (othersTo s k x.1)))))]) (fun x => s.cells.length - x.1) ⟨0, Nat.zero_le _, trivial⟩ ?_ (fun x y hy => mem2_ok hy trivial trivial) rfl (fun x L' hok hL1 hL2 => ?_)
  ·rw [show othersTo s k 0 = 0 from rfl]
   cbv
   simp
  ·obtain ⟨i, hile, hprev⟩ := x
   dsimp only
   by_cases hi : i < s.cells.length
   ·obtain ⟨xi, hxi⟩ : ∃ x, s.cells[i]? = some x := ⟨_, List.getElem?_eq_getElem hi⟩
    obtain ⟨i1, hi1⟩ := nm (Int.ofNat (i + 1))
    obtain ⟨oi, hoi⟩ := nm (Int.ofNat (othersTo s k i))
    obtain ⟨o1, ho1⟩ := nm (Int.ofNat (othersTo s k i + 1))
    obtain ⟨ob, hob⟩ := nm (openB s xi)
    have hoi' := othersTo_le s k i
    have q1 : A.lt (Int.ofNat i) li = true := by rw [hA, hli]; simp [std]; omega
    have q10 : A.add .i64 (Int.ofNat i) 1 = i1 := by
     rw [hA, hi1]
     exact (wrap64 (by simp; omega) (by simp; omega)).trans (by simp)
    have q3 : A.add .i64 oi 1 = o1 := by
     rw [hA, ho1, hoi]
     exact (wrap64 (by simp; omega) (by simp; omega)).trans (by simp)
    obtain ⟨y1, hy1⟩ := nm (decide (Int.ofNat i = ki))
    have ty1 : A.eq (Int.ofNat i) ki = y1 := by rw [hA, hy1]; rfl
    rw [← hoi]
    refine zaa zab hA rfl rfl 400 ?_
    conv => arg 3; cbv
    repeat (simp only [f0, f1, f2, f3, f4, f5, f8, f6, f7, g2, g3, tz1, tz2, tz3, tz4, tz5, tz6, q1, q3, q10, ty1]; conv => arg 3; cbv)
    cases hcy1 : y1
    ·rw [hcy1] at hy1
     try rw [hcy1] at ty1
     conv => arg 3; cbv
     repeat (simp only [f0, f1, f2, f3, f4, f5, f8, f6, f7, g2, g3, tz1, tz2, tz3, tz4, tz5, tz6, q1, q3, q10, ty1]; conv => arg 3; cbv)
     refine zac (.one (.val (.bool ob))) trivial goes_open (fun ρ w' hρ hSat => ?_) ?_
     ·have e0 := hρ 0 (gt, 0) rfl
      have e1 := hρ 1 (gc, 0) rfl
      have hat : StAt w' w'.heap.size s ⟨some ⟨gt, 0, none⟩, kt, some ⟨gc, 0, none⟩, kc⟩ := (zbx (kt := kt) (kc := kc) hSat e0 e1 rfl rfl hxs hys HNE.out).toAt
      simp only [List.map, concV, conc1, e0, e1]
      rw [hob, htl, hcl]
      exact open_any s ⟨some ⟨gt, 0, none⟩, kt, some ⟨gc, 0, none⟩, kc⟩ i xi w' hxi sok.proven.1 sok.proven.2 hat
     refine zaa zab hA rfl rfl 400 ?_
     cases hcob : ob
     ·rw [hcob] at hob
      have hsu := othersTo_same s k i hxi (fun h => by rw [← hob] at h; cases h.2)
      conv => arg 3; cbv
      repeat (simp only [f0, f1, f2, f3, f4, f5, f8, f6, f7, g2, g3, tz1, tz2, tz3, tz4, tz5, tz6, q1, q3, q10, ty1]; conv => arg 3; cbv)
      intro ρ w' a hρ hl H htm ha hit
      refine hL2 a w' ⟨⟨i + 1, hi, trivial⟩, ⟨ρ, hρ, H.take hok, zaz ?_ ha⟩, ?_⟩
      ·dsimp only
       rw [hsu, ← hi1, ← hoi]
       cbv
       simp
      ·dsimp only
       omega
     ·rw [hcob] at hob
      have hsu := othersTo_more s k i hxi ⟨fun h => (of_decide_eq_false hy1.symm) (by rw [hki, h]; rfl), hob.symm⟩
      conv => arg 3; cbv
      repeat (simp only [f0, f1, f2, f3, f4, f5, f8, f6, f7, g2, g3, tz1, tz2, tz3, tz4, tz5, tz6, q1, q3, q10, ty1]; conv => arg 3; cbv)
      intro ρ w' a hρ hl H htm ha hit
      refine hL2 a w' ⟨⟨i + 1, hi, trivial⟩, ⟨ρ, hρ, H.take hok, zaz ?_ ha⟩, ?_⟩
      ·dsimp only
       rw [hsu, ← hi1, ← ho1]
       cbv
       simp
      ·dsimp only
       omega
    ·rw [hcy1] at hy1
     try rw [hcy1] at ty1
     have hsu := othersTo_same s k i hxi (fun h => h.1 (by have := of_decide_eq_true hy1.symm; rw [hki] at this; simp at this; omega))
     conv => arg 3; cbv
     repeat (simp only [f0, f1, f2, f3, f4, f5, f8, f6, f7, g2, g3, tz1, tz2, tz3, tz4, tz5, tz6, q1, q3, q10, ty1]; conv => arg 3; cbv)
     intro ρ w' a hρ hl H htm ha hit
     refine hL2 a w' ⟨⟨i + 1, hi, trivial⟩, ⟨ρ, hρ, H.take hok, zaz ?_ ha⟩, ?_⟩
     ·dsimp only
      rw [hsu, ← hi1, ← hoi]
      cbv
      simp
     ·dsimp only
      omega
   ·have heq : i = s.cells.length := by omega
    have q1 : A.lt (Int.ofNat i) li = false := by rw [hA, hli, heq]; simp [std]
    rw [show Int.ofNat (othersTo s k i) = ot from by rw [hot, heq]]
    have hoth : othersTo s k s.cells.length = othersD s k := rfl
    refine zaa zab hA rfl rfl 400 ?_
    conv => arg 3; cbv
    repeat (simp only [f0, f1, f2, f3, f4, f5, f8, f6, f7, g2, g3, tz1, tz2, tz3, tz4, tz5, tz6, q1]; conv => arg 3; cbv)
    cases hcz1 : z1
    ·rw [hcz1] at hz1
     try rw [hcz1] at tz1
     conv => arg 3; cbv
     repeat (simp only [f0, f1, f2, f3, f4, f5, f8, f6, f7, g2, g3, tz1, tz2, tz3, tz4, tz5, tz6, q1]; conv => arg 3; cbv)
     cases hcz2 : z2
     ·rw [hcz2] at hz2
      try rw [hcz2] at tz2
      conv => arg 3; cbv
      repeat (simp only [f0, f1, f2, f3, f4, f5, f8, f6, f7, g2, g3, tz1, tz2, tz3, tz4, tz5, tz6, q1]; conv => arg 3; cbv)
      cases hcz3 : z3
      ·rw [hcz3] at hz3
       try rw [hcz3] at tz3
       conv => arg 3; cbv
       repeat (simp only [f0, f1, f2, f3, f4, f5, f8, f6, f7, g2, g3, tz1, tz2, tz3, tz4, tz5, tz6, q1]; conv => arg 3; cbv)
       cases hcz4 : z4
       ·rw [hcz4] at hz4
        try rw [hcz4] at tz4
        conv => arg 3; cbv
        repeat (simp only [f0, f1, f2, f3, f4, f5, f8, f6, f7, g2, g3, tz1, tz2, tz3, tz4, tz5, tz6, q1]; conv => arg 3; cbv)
        refine zac (.one (.val (.bool pb))) trivial zcb (fun ρ w' hρ hSat => ?_) ?_
        ·have e0 := hρ 0 (gt, 0) rfl
         have e1 := hρ 1 (gc, 0) rfl
         simp only [List.map, concV, conc1, e0, e1]
         rw [hpb, htl, hcl]
         exact zcq s ⟨some ⟨gt, 0, none⟩, kt, some ⟨gc, 0, none⟩, kc⟩ mi w' sok.proven.1 sok.proven.2
        refine zaa zab hA rfl rfl 400 ?_
        cases hcpb : pb
        ·rw [hcpb] at hpb
         conv => arg 3; cbv
         repeat (simp only [f0, f1, f2, f3, f4, f5, f8, f6, f7, g2, g3, tz1, tz2, tz3, tz4, tz5, tz6, q1]; conv => arg 3; cbv)
         cases hcz5 : z5
         ·rw [hcz5] at hz5
          try rw [hcz5] at tz5
          conv => arg 3; cbv
          repeat (simp only [f0, f1, f2, f3, f4, f5, f8, f6, f7, g2, g3, tz1, tz2, tz3, tz4, tz5, tz6, q1]; conv => arg 3; cbv)
          refine zac (.tup [.agg [.val (.int .i64 0), .val (.int .i64 0), .val (.slice none 0 0), .val (.slice none 0 0), .val (.int .i64 0), .val (.int .i64 0), .val (.int .i64 0), .val (.int .i64 0)], .one (.val (.int .i64 12))]) (by simp [SV.ok, TV.ok, S1.ok]) zba (fun ρ w' hρ hSat => zbq 12 w') ?_
          refine zaa zab hA rfl rfl 400 ?_
          conv => arg 3; cbv
          repeat (simp only [f0, f1, f2, f3, f4, f5, f8, f6, f7, g2, g3, tz1, tz2, tz3, tz4, tz5, tz6, q1]; conv => arg 3; cbv)
          refine zad zab (by rfl) (by rfl) (by rfl) (fun ρ w' hρ hSat => ?_)
          exact StRet.bad (x := 12) (by omega) (zaw hSat.gr) (((HD.trans (if_neg (by rw [← hmi]; exact of_decide_eq_false hz1.symm))).trans (if_neg (by rintro (h1 | h1); exact (of_decide_eq_false hz2.symm) h1; exact (of_decide_eq_false hz3.symm) h1))).trans (if_pos ⟨by rw [← hmi]; exact of_decide_eq_false hz4.symm, by rw [← hmi]; exact hpb.symm, of_decide_eq_false hz5.symm⟩))
         ·rw [hcz5] at hz5
          try rw [hcz5] at tz5
          conv => arg 3; cbv
          repeat (simp only [f0, f1, f2, f3, f4, f5, f8, f6, f7, g2, g3, tz1, tz2, tz3, tz4, tz5, tz6, q1]; conv => arg 3; cbv)
          refine zac (.one (.val (.bool false))) trivial zcb (fun ρ w' hρ hSat => ?_) ?_
          ·have e0 := hρ 0 (gt, 0) rfl
           have e1 := hρ 1 (gc, 0) rfl
           simp only [List.map, concV, conc1, e0, e1]
           rw [htl, hcl]
           have hpp := zcq s ⟨some ⟨gt, 0, none⟩, kt, some ⟨gc, 0, none⟩, kc⟩ mi w' sok.proven.1 sok.proven.2
           rw [← hpb] at hpp
           exact hpp
          refine zaa zab hA rfl rfl 400 ?_
          conv => arg 3; cbv
          repeat (simp only [f0, f1, f2, f3, f4, f5, f8, f6, f7, g2, g3, tz1, tz2, tz3, tz4, tz5, tz6, q1]; conv => arg 3; cbv)
          cases hcz6 : z6
          ·rw [hcz6] at hz6
           try rw [hcz6] at tz6
           conv => arg 3; cbv
           repeat (simp only [f0, f1, f2, f3, f4, f5, f8, f6, f7, g2, g3, tz1, tz2, tz3, tz4, tz5, tz6, q1]; conv => arg 3; cbv)
           refine zad zab (by rfl) (by rfl) (by rfl) (fun ρ w' hρ hSat => ?_)
           have e0 := hρ 0 (gt, 0) rfl
           have e1 := hρ 1 (gc, 0) rfl
           simp only [List.map, concV, conc1, e0, e1]
           rw [htl, hcl]
           exact StRet.good2 (s := s.setC k { x with wanted := (m : Int) }) (zaw hSat.gr) (zbx hSat e0 e1 rfl rfl hxs hys1 HNE.out) ((((HD.trans (if_neg (by rw [← hmi]; exact of_decide_eq_false hz1.symm))).trans (if_neg (by rintro (h1 | h1); exact (of_decide_eq_false hz2.symm) h1; exact (of_decide_eq_false hz3.symm) h1))).trans (if_neg (fun h1 => h1.2.2 (of_decide_eq_true hz5.symm)))).trans (if_neg (fun h1 => (of_decide_eq_false hz6.symm) (by rw [hot]; exact h1.2.2)))) (stV_setC _ _ _ _)
          ·rw [hcz6] at hz6
           try rw [hcz6] at tz6
           conv => arg 3; cbv
           repeat (simp only [f0, f1, f2, f3, f4, f5, f8, f6, f7, g2, g3, tz1, tz2, tz3, tz4, tz5, tz6, q1]; conv => arg 3; cbv)
           refine zac (.tup [.agg [.val (.int .i64 0), .val (.int .i64 0), .val (.slice none 0 0), .val (.slice none 0 0), .val (.int .i64 0), .val (.int .i64 0), .val (.int .i64 0), .val (.int .i64 0)], .one (.val (.int .i64 14))]) (by simp [SV.ok, TV.ok, S1.ok]) zba (fun ρ w' hρ hSat => zbq 14 w') ?_
           refine zaa zab hA rfl rfl 400 ?_
           conv => arg 3; cbv
           repeat (simp only [f0, f1, f2, f3, f4, f5, f8, f6, f7, g2, g3, tz1, tz2, tz3, tz4, tz5, tz6, q1]; conv => arg 3; cbv)
           refine zad zab (by rfl) (by rfl) (by rfl) (fun ρ w' hρ hSat => ?_)
           exact StRet.bad (x := 14) (by omega) (zaw hSat.gr) ((((HD.trans (if_neg (by rw [← hmi]; exact of_decide_eq_false hz1.symm))).trans (if_neg (by rintro (h1 | h1); exact (of_decide_eq_false hz2.symm) h1; exact (of_decide_eq_false hz3.symm) h1))).trans (if_neg (fun h1 => h1.2.2 (of_decide_eq_true hz5.symm)))).trans (if_pos ⟨by rw [← hmi]; exact of_decide_eq_false hz4.symm, by rw [← hmi]; exact hpb.symm, by have := of_decide_eq_true hz6.symm; rw [hot] at this; exact this⟩))
        ·rw [hcpb] at hpb
         conv => arg 3; cbv
         repeat (simp only [f0, f1, f2, f3, f4, f5, f8, f6, f7, g2, g3, tz1, tz2, tz3, tz4, tz5, tz6, q1]; conv => arg 3; cbv)
         refine zac (.one (.val (.bool true))) trivial zcb (fun ρ w' hρ hSat => ?_) ?_
         ·have e0 := hρ 0 (gt, 0) rfl
          have e1 := hρ 1 (gc, 0) rfl
          simp only [List.map, concV, conc1, e0, e1]
          rw [htl, hcl]
          have hpp := zcq s ⟨some ⟨gt, 0, none⟩, kt, some ⟨gc, 0, none⟩, kc⟩ mi w' sok.proven.1 sok.proven.2
          rw [← hpb] at hpp
          exact hpp
         refine zaa zab hA rfl rfl 400 ?_
         conv => arg 3; cbv
         repeat (simp only [f0, f1, f2, f3, f4, f5, f8, f6, f7, g2, g3, tz1, tz2, tz3, tz4, tz5, tz6, q1]; conv => arg 3; cbv)
         refine zad zab (by rfl) (by rfl) (by rfl) (fun ρ w' hρ hSat => ?_)
         have e0 := hρ 0 (gt, 0) rfl
         have e1 := hρ 1 (gc, 0) rfl
         simp only [List.map, concV, conc1, e0, e1]
         rw [htl, hcl]
         exact StRet.good2 (s := s.setC k { x with wanted := (m : Int) }) (zaw hSat.gr) (zbx hSat e0 e1 rfl rfl hxs hys1 HNE.out) ((((HD.trans (if_neg (by rw [← hmi]; exact of_decide_eq_false hz1.symm))).trans (if_neg (by rintro (h1 | h1); exact (of_decide_eq_false hz2.symm) h1; exact (of_decide_eq_false hz3.symm) h1))).trans (if_neg (fun h1 => by rw [← hmi, ← hpb] at h1; cases h1.2.1))).trans (if_neg (fun h1 => by rw [← hmi, ← hpb] at h1; cases h1.2.1))) (stV_setC _ _ _ _)
       ·rw [hcz4] at hz4
        try rw [hcz4] at tz4
        conv => arg 3; cbv
        repeat (simp only [f0, f1, f2, f3, f4, f5, f8, f6, f7, g2, g3, tz1, tz2, tz3, tz4, tz5, tz6, q1]; conv => arg 3; cbv)
        refine zad zab (by rfl) (by rfl) (by rfl) (fun ρ w' hρ hSat => ?_)
        have e0 := hρ 0 (gt, 0) rfl
        have e1 := hρ 1 (gc, 0) rfl
        simp only [List.map, concV, conc1, e0, e1]
        rw [htl, hcl]
        exact StRet.good2 (s := s.setC k { x with wanted := (m : Int) }) (zaw hSat.gr) (zbx hSat e0 e1 rfl rfl hxs hys1 HNE.out) ((((HD.trans (if_neg (by rw [← hmi]; exact of_decide_eq_false hz1.symm))).trans (if_neg (by rintro (h1 | h1); exact (of_decide_eq_false hz2.symm) h1; exact (of_decide_eq_false hz3.symm) h1))).trans (if_neg (fun h1 => h1.1 (by rw [← hmi]; exact of_decide_eq_true hz4.symm)))).trans (if_neg (fun h1 => h1.1 (by rw [← hmi]; exact of_decide_eq_true hz4.symm)))) (stV_setC _ _ _ _)
      ·rw [hcz3] at hz3
       try rw [hcz3] at tz3
       conv => arg 3; cbv
       repeat (simp only [f0, f1, f2, f3, f4, f5, f8, f6, f7, g2, g3, tz1, tz2, tz3, tz4, tz5, tz6, q1]; conv => arg 3; cbv)
       refine zac (.tup [.agg [.val (.int .i64 0), .val (.int .i64 0), .val (.slice none 0 0), .val (.slice none 0 0), .val (.int .i64 0), .val (.int .i64 0), .val (.int .i64 0), .val (.int .i64 0)], .one (.val (.int .i64 13))]) (by simp [SV.ok, TV.ok, S1.ok]) zba (fun ρ w' hρ hSat => zbq 13 w') ?_
       refine zaa zab hA rfl rfl 400 ?_
       conv => arg 3; cbv
       repeat (simp only [f0, f1, f2, f3, f4, f5, f8, f6, f7, g2, g3, tz1, tz2, tz3, tz4, tz5, tz6, q1]; conv => arg 3; cbv)
       refine zad zab (by rfl) (by rfl) (by rfl) (fun ρ w' hρ hSat => ?_)
       exact StRet.bad (x := 13) (by omega) (zaw hSat.gr) ((HD.trans (if_neg (by rw [← hmi]; exact of_decide_eq_false hz1.symm))).trans (if_pos (.inr (of_decide_eq_true hz3.symm))))
     ·rw [hcz2] at hz2
      try rw [hcz2] at tz2
      conv => arg 3; cbv
      repeat (simp only [f0, f1, f2, f3, f4, f5, f8, f6, f7, g2, g3, tz1, tz2, tz3, tz4, tz5, tz6, q1]; conv => arg 3; cbv)
      refine zac (.tup [.agg [.val (.int .i64 0), .val (.int .i64 0), .val (.slice none 0 0), .val (.slice none 0 0), .val (.int .i64 0), .val (.int .i64 0), .val (.int .i64 0), .val (.int .i64 0)], .one (.val (.int .i64 13))]) (by simp [SV.ok, TV.ok, S1.ok]) zba (fun ρ w' hρ hSat => zbq 13 w') ?_
      refine zaa zab hA rfl rfl 400 ?_
      conv => arg 3; cbv
      repeat (simp only [f0, f1, f2, f3, f4, f5, f8, f6, f7, g2, g3, tz1, tz2, tz3, tz4, tz5, tz6, q1]; conv => arg 3; cbv)
      refine zad zab (by rfl) (by rfl) (by rfl) (fun ρ w' hρ hSat => ?_)
      exact StRet.bad (x := 13) (by omega) (zaw hSat.gr) ((HD.trans (if_neg (by rw [← hmi]; exact of_decide_eq_false hz1.symm))).trans (if_pos (.inl (of_decide_eq_true hz2.symm))))
    ·rw [hcz1] at hz1
     try rw [hcz1] at tz1
     conv => arg 3; cbv
     repeat (simp only [f0, f1, f2, f3, f4, f5, f8, f6, f7, g2, g3, tz1, tz2, tz3, tz4, tz5, tz6, q1]; conv => arg 3; cbv)
     refine zac (.tup [.agg [.val (.int .i64 0), .val (.int .i64 0), .val (.slice none 0 0), .val (.slice none 0 0), .val (.int .i64 0), .val (.int .i64 0), .val (.int .i64 0), .val (.int .i64 0)], .one (.val (.int .i64 4))]) (by simp [SV.ok, TV.ok, S1.ok]) zba (fun ρ w' hρ hSat => zbq 4 w') ?_
     refine zaa zab hA rfl rfl 400 ?_
     conv => arg 3; cbv
     repeat (simp only [f0, f1, f2, f3, f4, f5, f8, f6, f7, g2, g3, tz1, tz2, tz3, tz4, tz5, tz6, q1]; conv => arg 3; cbv)
     refine zad zab (by rfl) (by rfl) (by rfl) (fun ρ w' hρ hSat => ?_)
     exact StRet.bad (x := 4) (by omega) (zaw hSat.gr) (HD.trans (if_pos (by rw [← hmi]; exact of_decide_eq_true hz1.symm)))
end Go.Proofs.YtcgcfeablbjnaaaGreatDoor
