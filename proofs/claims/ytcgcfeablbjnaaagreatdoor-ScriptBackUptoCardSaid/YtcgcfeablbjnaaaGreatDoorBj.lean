/- Parts of the proof that ScriptBack returns true for every input of bulk at most 1048576. -/
import Derived.Test.YtcgcfeablbjnaaaGreatDoorBg
set_option linter.unusedSimpArgs false
set_option linter.unusedVariables false
set_option maxRecDepth 100000
set_option maxHeartbeats 8000000
namespace Go.Proofs.YtcgcfeablbjnaaaGreatDoor
open Go.RowKit Eng
def usesL : List ByteArray := [⟨#[]⟩, ⟨#[116, 99, 111]⟩, ⟨#[116, 99, 101, 119, 118]⟩, ⟨#[116, 101]⟩, ⟨#[116, 67]⟩, ⟨#[116, 99]⟩, ⟨#[116, 99]⟩, ⟨#[116]⟩, ⟨#[116, 98]⟩, ⟨#[99, 109]⟩, ⟨#[99, 118]⟩, ⟨#[99, 118]⟩, ⟨#[118]⟩, ⟨#[114, 98]⟩, ⟨#[]⟩, ⟨#[]⟩, ⟨#[110]⟩]
def usesS (k : Nat) : ByteArray := usesL.getD k ⟨#[]⟩
def hasD (k : Nat) (x : Int) : Bool := (usesS k).data.toList.any fun b => decide ((b.toNat : Int) = x)
theorem goes_uses : Goes Tryz.prog 125 := zam Tryz.func125 (by kernel_rfl) (by kernel_rfl)
theorem goes_has6 : Goes Tryz.prog 121 := zam Tryz.func121 (by kernel_rfl) (by kernel_rfl)
theorem uses_1 (w : World) : Calls Tryz.prog 125 #[.int .i64 1] w fun e w' => e = .returned (.string (usesS 1)) ∧ Below w.heap.size w w' := by
 obtain ⟨A, hA⟩ : ∃ A, A = std := ⟨_, rfl⟩
 have f6 : A.not true = false := by rw [hA]; rfl
 have f7 : A.not false = true := by rw [hA]; rfl
 have a0 : A.lt (1) 1 = false := by rw [hA]; rfl
 have a1 : A.le (A.len 17) (1) = false := by rw [hA]; rfl
 have a2 : A.inb (1) 17 = true := by rw [hA]; rfl
 have a3 : A.idx 0 (1) 1 = 1 := by rw [hA]; rfl
 have a4 : True := trivial
 refine zae (E := ⟨Tryz.prog, tabaT, ords125, Tryz.f125, w, [], [], fun _ _ _ => False⟩) zab (c := bodyOf Tryz.f125) (n := 0) Tryz.func125 rfl (show codeChk ords125 (bodyOf Tryz.f125) = true by decide +kernel) (rho []) (fun h p hp => zaq _ h p hp)
  (tm := [.one (.val (.int .i64 (1)))] ++ List.replicate 16 (.one (.val undef))) (mem := []) (Nat.le_refl _) ?_ ?_ (by rfl) ?_
 ·exact zan w [] _
 ·simp [SV.ok, S1.ok]
 ·refine zaa zab hA rfl rfl 400 ?_
  conv => arg 3; cbv
  repeat (simp only [f6, f7, a0, a1, a2, a3]; conv => arg 3; cbv)
  refine zak zab (by rfl) (by rfl) (fun ρ w' hρ hSat => ⟨?_, zah hSat.gr⟩)
  rfl
theorem uses_2 (w : World) : Calls Tryz.prog 125 #[.int .i64 2] w fun e w' => e = .returned (.string (usesS 2)) ∧ Below w.heap.size w w' := by
 obtain ⟨A, hA⟩ : ∃ A, A = std := ⟨_, rfl⟩
 have f6 : A.not true = false := by rw [hA]; rfl
 have f7 : A.not false = true := by rw [hA]; rfl
 have a0 : A.lt (2) 1 = false := by rw [hA]; rfl
 have a1 : A.le (A.len 17) (2) = false := by rw [hA]; rfl
 have a2 : A.inb (2) 17 = true := by rw [hA]; rfl
 have a3 : A.idx 0 (2) 1 = 2 := by rw [hA]; rfl
 have a4 : True := trivial
 refine zae (E := ⟨Tryz.prog, tabaT, ords125, Tryz.f125, w, [], [], fun _ _ _ => False⟩) zab (c := bodyOf Tryz.f125) (n := 0) Tryz.func125 rfl (show codeChk ords125 (bodyOf Tryz.f125) = true by decide +kernel) (rho []) (fun h p hp => zaq _ h p hp)
  (tm := [.one (.val (.int .i64 (2)))] ++ List.replicate 16 (.one (.val undef))) (mem := []) (Nat.le_refl _) ?_ ?_ (by rfl) ?_
 ·exact zan w [] _
 ·simp [SV.ok, S1.ok]
 ·refine zaa zab hA rfl rfl 400 ?_
  conv => arg 3; cbv
  repeat (simp only [f6, f7, a0, a1, a2, a3]; conv => arg 3; cbv)
  refine zak zab (by rfl) (by rfl) (fun ρ w' hρ hSat => ⟨?_, zah hSat.gr⟩)
  rfl
theorem uses_3 (w : World) : Calls Tryz.prog 125 #[.int .i64 3] w fun e w' => e = .returned (.string (usesS 3)) ∧ Below w.heap.size w w' := by
 obtain ⟨A, hA⟩ : ∃ A, A = std := ⟨_, rfl⟩
 have f6 : A.not true = false := by rw [hA]; rfl
 have f7 : A.not false = true := by rw [hA]; rfl
 have a0 : A.lt (3) 1 = false := by rw [hA]; rfl
 have a1 : A.le (A.len 17) (3) = false := by rw [hA]; rfl
 have a2 : A.inb (3) 17 = true := by rw [hA]; rfl
 have a3 : A.idx 0 (3) 1 = 3 := by rw [hA]; rfl
 have a4 : True := trivial
 refine zae (E := ⟨Tryz.prog, tabaT, ords125, Tryz.f125, w, [], [], fun _ _ _ => False⟩) zab (c := bodyOf Tryz.f125) (n := 0) Tryz.func125 rfl (show codeChk ords125 (bodyOf Tryz.f125) = true by decide +kernel) (rho []) (fun h p hp => zaq _ h p hp)
  (tm := [.one (.val (.int .i64 (3)))] ++ List.replicate 16 (.one (.val undef))) (mem := []) (Nat.le_refl _) ?_ ?_ (by rfl) ?_
 ·exact zan w [] _
 ·simp [SV.ok, S1.ok]
 ·refine zaa zab hA rfl rfl 400 ?_
  conv => arg 3; cbv
  repeat (simp only [f6, f7, a0, a1, a2, a3]; conv => arg 3; cbv)
  refine zak zab (by rfl) (by rfl) (fun ρ w' hρ hSat => ⟨?_, zah hSat.gr⟩)
  rfl
theorem uses_4 (w : World) : Calls Tryz.prog 125 #[.int .i64 4] w fun e w' => e = .returned (.string (usesS 4)) ∧ Below w.heap.size w w' := by
 obtain ⟨A, hA⟩ : ∃ A, A = std := ⟨_, rfl⟩
 have f6 : A.not true = false := by rw [hA]; rfl
 have f7 : A.not false = true := by rw [hA]; rfl
 have a0 : A.lt (4) 1 = false := by rw [hA]; rfl
 have a1 : A.le (A.len 17) (4) = false := by rw [hA]; rfl
 have a2 : A.inb (4) 17 = true := by rw [hA]; rfl
 have a3 : A.idx 0 (4) 1 = 4 := by rw [hA]; rfl
 have a4 : True := trivial
 refine zae (E := ⟨Tryz.prog, tabaT, ords125, Tryz.f125, w, [], [], fun _ _ _ => False⟩) zab (c := bodyOf Tryz.f125) (n := 0) Tryz.func125 rfl (show codeChk ords125 (bodyOf Tryz.f125) = true by decide +kernel) (rho []) (fun h p hp => zaq _ h p hp)
  (tm := [.one (.val (.int .i64 (4)))] ++ List.replicate 16 (.one (.val undef))) (mem := []) (Nat.le_refl _) ?_ ?_ (by rfl) ?_
 ·exact zan w [] _
 ·simp [SV.ok, S1.ok]
 ·refine zaa zab hA rfl rfl 400 ?_
  conv => arg 3; cbv
  repeat (simp only [f6, f7, a0, a1, a2, a3]; conv => arg 3; cbv)
  refine zak zab (by rfl) (by rfl) (fun ρ w' hρ hSat => ⟨?_, zah hSat.gr⟩)
  rfl
theorem uses_5 (w : World) : Calls Tryz.prog 125 #[.int .i64 5] w fun e w' => e = .returned (.string (usesS 5)) ∧ Below w.heap.size w w' := by
 obtain ⟨A, hA⟩ : ∃ A, A = std := ⟨_, rfl⟩
 have f6 : A.not true = false := by rw [hA]; rfl
 have f7 : A.not false = true := by rw [hA]; rfl
 have a0 : A.lt (5) 1 = false := by rw [hA]; rfl
 have a1 : A.le (A.len 17) (5) = false := by rw [hA]; rfl
 have a2 : A.inb (5) 17 = true := by rw [hA]; rfl
 have a3 : A.idx 0 (5) 1 = 5 := by rw [hA]; rfl
 have a4 : True := trivial
 refine zae (E := ⟨Tryz.prog, tabaT, ords125, Tryz.f125, w, [], [], fun _ _ _ => False⟩) zab (c := bodyOf Tryz.f125) (n := 0) Tryz.func125 rfl (show codeChk ords125 (bodyOf Tryz.f125) = true by decide +kernel) (rho []) (fun h p hp => zaq _ h p hp)
  (tm := [.one (.val (.int .i64 (5)))] ++ List.replicate 16 (.one (.val undef))) (mem := []) (Nat.le_refl _) ?_ ?_ (by rfl) ?_
 ·exact zan w [] _
 ·simp [SV.ok, S1.ok]
 ·refine zaa zab hA rfl rfl 400 ?_
  conv => arg 3; cbv
  repeat (simp only [f6, f7, a0, a1, a2, a3]; conv => arg 3; cbv)
  refine zak zab (by rfl) (by rfl) (fun ρ w' hρ hSat => ⟨?_, zah hSat.gr⟩)
  rfl
theorem uses_6 (w : World) : Calls Tryz.prog 125 #[.int .i64 6] w fun e w' => e = .returned (.string (usesS 6)) ∧ Below w.heap.size w w' := by
 obtain ⟨A, hA⟩ : ∃ A, A = std := ⟨_, rfl⟩
 have f6 : A.not true = false := by rw [hA]; rfl
 have f7 : A.not false = true := by rw [hA]; rfl
 have a0 : A.lt (6) 1 = false := by rw [hA]; rfl
 have a1 : A.le (A.len 17) (6) = false := by rw [hA]; rfl
 have a2 : A.inb (6) 17 = true := by rw [hA]; rfl
 have a3 : A.idx 0 (6) 1 = 6 := by rw [hA]; rfl
 have a4 : True := trivial
 refine zae (E := ⟨Tryz.prog, tabaT, ords125, Tryz.f125, w, [], [], fun _ _ _ => False⟩) zab (c := bodyOf Tryz.f125) (n := 0) Tryz.func125 rfl (show codeChk ords125 (bodyOf Tryz.f125) = true by decide +kernel) (rho []) (fun h p hp => zaq _ h p hp)
  (tm := [.one (.val (.int .i64 (6)))] ++ List.replicate 16 (.one (.val undef))) (mem := []) (Nat.le_refl _) ?_ ?_ (by rfl) ?_
 ·exact zan w [] _
 ·simp [SV.ok, S1.ok]
 ·refine zaa zab hA rfl rfl 400 ?_
  conv => arg 3; cbv
  repeat (simp only [f6, f7, a0, a1, a2, a3]; conv => arg 3; cbv)
  refine zak zab (by rfl) (by rfl) (fun ρ w' hρ hSat => ⟨?_, zah hSat.gr⟩)
  rfl
theorem uses_7 (w : World) : Calls Tryz.prog 125 #[.int .i64 7] w fun e w' => e = .returned (.string (usesS 7)) ∧ Below w.heap.size w w' := by
 obtain ⟨A, hA⟩ : ∃ A, A = std := ⟨_, rfl⟩
 have f6 : A.not true = false := by rw [hA]; rfl
 have f7 : A.not false = true := by rw [hA]; rfl
 have a0 : A.lt (7) 1 = false := by rw [hA]; rfl
 have a1 : A.le (A.len 17) (7) = false := by rw [hA]; rfl
 have a2 : A.inb (7) 17 = true := by rw [hA]; rfl
 have a3 : A.idx 0 (7) 1 = 7 := by rw [hA]; rfl
 have a4 : True := trivial
 refine zae (E := ⟨Tryz.prog, tabaT, ords125, Tryz.f125, w, [], [], fun _ _ _ => False⟩) zab (c := bodyOf Tryz.f125) (n := 0) Tryz.func125 rfl (show codeChk ords125 (bodyOf Tryz.f125) = true by decide +kernel) (rho []) (fun h p hp => zaq _ h p hp)
  (tm := [.one (.val (.int .i64 (7)))] ++ List.replicate 16 (.one (.val undef))) (mem := []) (Nat.le_refl _) ?_ ?_ (by rfl) ?_
 ·exact zan w [] _
 ·simp [SV.ok, S1.ok]
 ·refine zaa zab hA rfl rfl 400 ?_
  conv => arg 3; cbv
  repeat (simp only [f6, f7, a0, a1, a2, a3]; conv => arg 3; cbv)
  refine zak zab (by rfl) (by rfl) (fun ρ w' hρ hSat => ⟨?_, zah hSat.gr⟩)
  rfl
theorem uses_8 (w : World) : Calls Tryz.prog 125 #[.int .i64 8] w fun e w' => e = .returned (.string (usesS 8)) ∧ Below w.heap.size w w' := by
 obtain ⟨A, hA⟩ : ∃ A, A = std := ⟨_, rfl⟩
 have f6 : A.not true = false := by rw [hA]; rfl
 have f7 : A.not false = true := by rw [hA]; rfl
 have a0 : A.lt (8) 1 = false := by rw [hA]; rfl
 have a1 : A.le (A.len 17) (8) = false := by rw [hA]; rfl
 have a2 : A.inb (8) 17 = true := by rw [hA]; rfl
 have a3 : A.idx 0 (8) 1 = 8 := by rw [hA]; rfl
 have a4 : True := trivial
 refine zae (E := ⟨Tryz.prog, tabaT, ords125, Tryz.f125, w, [], [], fun _ _ _ => False⟩) zab (c := bodyOf Tryz.f125) (n := 0) Tryz.func125 rfl (show codeChk ords125 (bodyOf Tryz.f125) = true by decide +kernel) (rho []) (fun h p hp => zaq _ h p hp)
  (tm := [.one (.val (.int .i64 (8)))] ++ List.replicate 16 (.one (.val undef))) (mem := []) (Nat.le_refl _) ?_ ?_ (by rfl) ?_
 ·exact zan w [] _
 ·simp [SV.ok, S1.ok]
 ·refine zaa zab hA rfl rfl 400 ?_
  conv => arg 3; cbv
  repeat (simp only [f6, f7, a0, a1, a2, a3]; conv => arg 3; cbv)
  refine zak zab (by rfl) (by rfl) (fun ρ w' hρ hSat => ⟨?_, zah hSat.gr⟩)
  rfl
theorem uses_9 (w : World) : Calls Tryz.prog 125 #[.int .i64 9] w fun e w' => e = .returned (.string (usesS 9)) ∧ Below w.heap.size w w' := by
 obtain ⟨A, hA⟩ : ∃ A, A = std := ⟨_, rfl⟩
 have f6 : A.not true = false := by rw [hA]; rfl
 have f7 : A.not false = true := by rw [hA]; rfl
 have a0 : A.lt (9) 1 = false := by rw [hA]; rfl
 have a1 : A.le (A.len 17) (9) = false := by rw [hA]; rfl
 have a2 : A.inb (9) 17 = true := by rw [hA]; rfl
 have a3 : A.idx 0 (9) 1 = 9 := by rw [hA]; rfl
 have a4 : True := trivial
 refine zae (E := ⟨Tryz.prog, tabaT, ords125, Tryz.f125, w, [], [], fun _ _ _ => False⟩) zab (c := bodyOf Tryz.f125) (n := 0) Tryz.func125 rfl (show codeChk ords125 (bodyOf Tryz.f125) = true by decide +kernel) (rho []) (fun h p hp => zaq _ h p hp)
  (tm := [.one (.val (.int .i64 (9)))] ++ List.replicate 16 (.one (.val undef))) (mem := []) (Nat.le_refl _) ?_ ?_ (by rfl) ?_
 ·exact zan w [] _
 ·simp [SV.ok, S1.ok]
 ·refine zaa zab hA rfl rfl 400 ?_
  conv => arg 3; cbv
  repeat (simp only [f6, f7, a0, a1, a2, a3]; conv => arg 3; cbv)
  refine zak zab (by rfl) (by rfl) (fun ρ w' hρ hSat => ⟨?_, zah hSat.gr⟩)
  rfl
theorem uses_10 (w : World) : Calls Tryz.prog 125 #[.int .i64 10] w fun e w' => e = .returned (.string (usesS 10)) ∧ Below w.heap.size w w' := by
 obtain ⟨A, hA⟩ : ∃ A, A = std := ⟨_, rfl⟩
 have f6 : A.not true = false := by rw [hA]; rfl
 have f7 : A.not false = true := by rw [hA]; rfl
 have a0 : A.lt (10) 1 = false := by rw [hA]; rfl
 have a1 : A.le (A.len 17) (10) = false := by rw [hA]; rfl
 have a2 : A.inb (10) 17 = true := by rw [hA]; rfl
 have a3 : A.idx 0 (10) 1 = 10 := by rw [hA]; rfl
 have a4 : True := trivial
 refine zae (E := ⟨Tryz.prog, tabaT, ords125, Tryz.f125, w, [], [], fun _ _ _ => False⟩) zab (c := bodyOf Tryz.f125) (n := 0) Tryz.func125 rfl (show codeChk ords125 (bodyOf Tryz.f125) = true by decide +kernel) (rho []) (fun h p hp => zaq _ h p hp)
  (tm := [.one (.val (.int .i64 (10)))] ++ List.replicate 16 (.one (.val undef))) (mem := []) (Nat.le_refl _) ?_ ?_ (by rfl) ?_
 ·exact zan w [] _
 ·simp [SV.ok, S1.ok]
 ·refine zaa zab hA rfl rfl 400 ?_
  conv => arg 3; cbv
  repeat (simp only [f6, f7, a0, a1, a2, a3]; conv => arg 3; cbv)
  refine zak zab (by rfl) (by rfl) (fun ρ w' hρ hSat => ⟨?_, zah hSat.gr⟩)
  rfl
theorem uses_11 (w : World) : Calls Tryz.prog 125 #[.int .i64 11] w fun e w' => e = .returned (.string (usesS 11)) ∧ Below w.heap.size w w' := by
 obtain ⟨A, hA⟩ : ∃ A, A = std := ⟨_, rfl⟩
 have f6 : A.not true = false := by rw [hA]; rfl
 have f7 : A.not false = true := by rw [hA]; rfl
 have a0 : A.lt (11) 1 = false := by rw [hA]; rfl
 have a1 : A.le (A.len 17) (11) = false := by rw [hA]; rfl
 have a2 : A.inb (11) 17 = true := by rw [hA]; rfl
 have a3 : A.idx 0 (11) 1 = 11 := by rw [hA]; rfl
 have a4 : True := trivial
 refine zae (E := ⟨Tryz.prog, tabaT, ords125, Tryz.f125, w, [], [], fun _ _ _ => False⟩) zab (c := bodyOf Tryz.f125) (n := 0) Tryz.func125 rfl (show codeChk ords125 (bodyOf Tryz.f125) = true by decide +kernel) (rho []) (fun h p hp => zaq _ h p hp)
  (tm := [.one (.val (.int .i64 (11)))] ++ List.replicate 16 (.one (.val undef))) (mem := []) (Nat.le_refl _) ?_ ?_ (by rfl) ?_
 ·exact zan w [] _
 ·simp [SV.ok, S1.ok]
 ·refine zaa zab hA rfl rfl 400 ?_
  conv => arg 3; cbv
  repeat (simp only [f6, f7, a0, a1, a2, a3]; conv => arg 3; cbv)
  refine zak zab (by rfl) (by rfl) (fun ρ w' hρ hSat => ⟨?_, zah hSat.gr⟩)
  rfl
theorem uses_12 (w : World) : Calls Tryz.prog 125 #[.int .i64 12] w fun e w' => e = .returned (.string (usesS 12)) ∧ Below w.heap.size w w' := by
 obtain ⟨A, hA⟩ : ∃ A, A = std := ⟨_, rfl⟩
 have f6 : A.not true = false := by rw [hA]; rfl
 have f7 : A.not false = true := by rw [hA]; rfl
 have a0 : A.lt (12) 1 = false := by rw [hA]; rfl
 have a1 : A.le (A.len 17) (12) = false := by rw [hA]; rfl
 have a2 : A.inb (12) 17 = true := by rw [hA]; rfl
 have a3 : A.idx 0 (12) 1 = 12 := by rw [hA]; rfl
 have a4 : True := trivial
 refine zae (E := ⟨Tryz.prog, tabaT, ords125, Tryz.f125, w, [], [], fun _ _ _ => False⟩) zab (c := bodyOf Tryz.f125) (n := 0) Tryz.func125 rfl (show codeChk ords125 (bodyOf Tryz.f125) = true by decide +kernel) (rho []) (fun h p hp => zaq _ h p hp)
  (tm := [.one (.val (.int .i64 (12)))] ++ List.replicate 16 (.one (.val undef))) (mem := []) (Nat.le_refl _) ?_ ?_ (by rfl) ?_
 ·exact zan w [] _
 ·simp [SV.ok, S1.ok]
 ·refine zaa zab hA rfl rfl 400 ?_
  conv => arg 3; cbv
  repeat (simp only [f6, f7, a0, a1, a2, a3]; conv => arg 3; cbv)
  refine zak zab (by rfl) (by rfl) (fun ρ w' hρ hSat => ⟨?_, zah hSat.gr⟩)
  rfl
theorem uses_13 (w : World) : Calls Tryz.prog 125 #[.int .i64 13] w fun e w' => e = .returned (.string (usesS 13)) ∧ Below w.heap.size w w' := by
 obtain ⟨A, hA⟩ : ∃ A, A = std := ⟨_, rfl⟩
 have f6 : A.not true = false := by rw [hA]; rfl
 have f7 : A.not false = true := by rw [hA]; rfl
 have a0 : A.lt (13) 1 = false := by rw [hA]; rfl
 have a1 : A.le (A.len 17) (13) = false := by rw [hA]; rfl
 have a2 : A.inb (13) 17 = true := by rw [hA]; rfl
 have a3 : A.idx 0 (13) 1 = 13 := by rw [hA]; rfl
 have a4 : True := trivial
 refine zae (E := ⟨Tryz.prog, tabaT, ords125, Tryz.f125, w, [], [], fun _ _ _ => False⟩) zab (c := bodyOf Tryz.f125) (n := 0) Tryz.func125 rfl (show codeChk ords125 (bodyOf Tryz.f125) = true by decide +kernel) (rho []) (fun h p hp => zaq _ h p hp)
  (tm := [.one (.val (.int .i64 (13)))] ++ List.replicate 16 (.one (.val undef))) (mem := []) (Nat.le_refl _) ?_ ?_ (by rfl) ?_
 ·exact zan w [] _
 ·simp [SV.ok, S1.ok]
 ·refine zaa zab hA rfl rfl 400 ?_
  conv => arg 3; cbv
  repeat (simp only [f6, f7, a0, a1, a2, a3]; conv => arg 3; cbv)
  refine zak zab (by rfl) (by rfl) (fun ρ w' hρ hSat => ⟨?_, zah hSat.gr⟩)
  rfl
theorem uses_14 (w : World) : Calls Tryz.prog 125 #[.int .i64 14] w fun e w' => e = .returned (.string (usesS 14)) ∧ Below w.heap.size w w' := by
 obtain ⟨A, hA⟩ : ∃ A, A = std := ⟨_, rfl⟩
 have f6 : A.not true = false := by rw [hA]; rfl
 have f7 : A.not false = true := by rw [hA]; rfl
 have a0 : A.lt (14) 1 = false := by rw [hA]; rfl
 have a1 : A.le (A.len 17) (14) = false := by rw [hA]; rfl
 have a2 : A.inb (14) 17 = true := by rw [hA]; rfl
 have a3 : A.idx 0 (14) 1 = 14 := by rw [hA]; rfl
 have a4 : True := trivial
 refine zae (E := ⟨Tryz.prog, tabaT, ords125, Tryz.f125, w, [], [], fun _ _ _ => False⟩) zab (c := bodyOf Tryz.f125) (n := 0) Tryz.func125 rfl (show codeChk ords125 (bodyOf Tryz.f125) = true by decide +kernel) (rho []) (fun h p hp => zaq _ h p hp)
  (tm := [.one (.val (.int .i64 (14)))] ++ List.replicate 16 (.one (.val undef))) (mem := []) (Nat.le_refl _) ?_ ?_ (by rfl) ?_
 ·exact zan w [] _
 ·simp [SV.ok, S1.ok]
 ·refine zaa zab hA rfl rfl 400 ?_
  conv => arg 3; cbv
  repeat (simp only [f6, f7, a0, a1, a2, a3]; conv => arg 3; cbv)
  refine zak zab (by rfl) (by rfl) (fun ρ w' hρ hSat => ⟨?_, zah hSat.gr⟩)
  rfl
theorem uses_15 (w : World) : Calls Tryz.prog 125 #[.int .i64 15] w fun e w' => e = .returned (.string (usesS 15)) ∧ Below w.heap.size w w' := by
 obtain ⟨A, hA⟩ : ∃ A, A = std := ⟨_, rfl⟩
 have f6 : A.not true = false := by rw [hA]; rfl
 have f7 : A.not false = true := by rw [hA]; rfl
 have a0 : A.lt (15) 1 = false := by rw [hA]; rfl
 have a1 : A.le (A.len 17) (15) = false := by rw [hA]; rfl
 have a2 : A.inb (15) 17 = true := by rw [hA]; rfl
 have a3 : A.idx 0 (15) 1 = 15 := by rw [hA]; rfl
 have a4 : True := trivial
 refine zae (E := ⟨Tryz.prog, tabaT, ords125, Tryz.f125, w, [], [], fun _ _ _ => False⟩) zab (c := bodyOf Tryz.f125) (n := 0) Tryz.func125 rfl (show codeChk ords125 (bodyOf Tryz.f125) = true by decide +kernel) (rho []) (fun h p hp => zaq _ h p hp)
  (tm := [.one (.val (.int .i64 (15)))] ++ List.replicate 16 (.one (.val undef))) (mem := []) (Nat.le_refl _) ?_ ?_ (by rfl) ?_
 ·exact zan w [] _
 ·simp [SV.ok, S1.ok]
 ·refine zaa zab hA rfl rfl 400 ?_
  conv => arg 3; cbv
  repeat (simp only [f6, f7, a0, a1, a2, a3]; conv => arg 3; cbv)
  refine zak zab (by rfl) (by rfl) (fun ρ w' hρ hSat => ⟨?_, zah hSat.gr⟩)
  rfl
theorem uses_16 (w : World) : Calls Tryz.prog 125 #[.int .i64 16] w fun e w' => e = .returned (.string (usesS 16)) ∧ Below w.heap.size w w' := by
 obtain ⟨A, hA⟩ : ∃ A, A = std := ⟨_, rfl⟩
 have f6 : A.not true = false := by rw [hA]; rfl
 have f7 : A.not false = true := by rw [hA]; rfl
 have a0 : A.lt (16) 1 = false := by rw [hA]; rfl
 have a1 : A.le (A.len 17) (16) = false := by rw [hA]; rfl
 have a2 : A.inb (16) 17 = true := by rw [hA]; rfl
 have a3 : A.idx 0 (16) 1 = 16 := by rw [hA]; rfl
 have a4 : True := trivial
 refine zae (E := ⟨Tryz.prog, tabaT, ords125, Tryz.f125, w, [], [], fun _ _ _ => False⟩) zab (c := bodyOf Tryz.f125) (n := 0) Tryz.func125 rfl (show codeChk ords125 (bodyOf Tryz.f125) = true by decide +kernel) (rho []) (fun h p hp => zaq _ h p hp)
  (tm := [.one (.val (.int .i64 (16)))] ++ List.replicate 16 (.one (.val undef))) (mem := []) (Nat.le_refl _) ?_ ?_ (by rfl) ?_
 ·exact zan w [] _
 ·simp [SV.ok, S1.ok]
 ·refine zaa zab hA rfl rfl 400 ?_
  conv => arg 3; cbv
  repeat (simp only [f6, f7, a0, a1, a2, a3]; conv => arg 3; cbv)
  refine zak zab (by rfl) (by rfl) (fun ρ w' hρ hSat => ⟨?_, zah hSat.gr⟩)
  rfl
theorem uses_any (k : Nat) (h1 : 1 ≤ k) (h2 : k ≤ 16) (w : World) : Calls Tryz.prog 125 #[.int .i64 (k : Int)] w fun e w' => e = .returned (.string (usesS k)) ∧ Below w.heap.size w w' := by
 match k, h1, h2 with
 | 1, _, _ => exact uses_1 w
 | 2, _, _ => exact uses_2 w
 | 3, _, _ => exact uses_3 w
 | 4, _, _ => exact uses_4 w
 | 5, _, _ => exact uses_5 w
 | 6, _, _ => exact uses_6 w
 | 7, _, _ => exact uses_7 w
 | 8, _, _ => exact uses_8 w
 | 9, _, _ => exact uses_9 w
 | 10, _, _ => exact uses_10 w
 | 11, _, _ => exact uses_11 w
 | 12, _, _ => exact uses_12 w
 | 13, _, _ => exact uses_13 w
 | 14, _, _ => exact uses_14 w
 | 15, _, _ => exact uses_15 w
 | 16, _, _ => exact uses_16 w
 | k + 17, _, h => omega
theorem has6_any (k : Nat) (h1 : 1 ≤ k) (h2 : k ≤ 16) (x : Int) (w : World) : Calls Tryz.prog 121 #[.int .i64 (k : Int), .int .u8 x] w fun e w' => e = .returned (.bool (hasD k x)) ∧ Below w.heap.size w w' := by
 obtain ⟨A, hA⟩ : ∃ A, A = std := ⟨_, rfl⟩
 have f6 : A.not true = false := by rw [hA]; rfl
 have f7 : A.not false = true := by rw [hA]; rfl
 have hsz : (usesS k).size ≤ 5 := by
  match k, h1, h2 with
  | 1, _, _ => decide
  | 2, _, _ => decide
  | 3, _, _ => decide
  | 4, _, _ => decide
  | 5, _, _ => decide
  | 6, _, _ => decide
  | 7, _, _ => decide
  | 8, _, _ => decide
  | 9, _, _ => decide
  | 10, _, _ => decide
  | 11, _, _ => decide
  | 12, _, _ => decide
  | 13, _, _ => decide
  | 14, _, _ => decide
  | 15, _, _ => decide
  | 16, _, _ => decide
  | k + 17, _, h => omega
 obtain ⟨sb, hsb⟩ := nm (usesS k)
 rw [← hsb] at hsz
 obtain ⟨ki, hki⟩ := nm ((k : Int))
 obtain ⟨sl, hsl⟩ := nm (Int.ofNat sb.size)
 have q0 : A.slen sb = sl := by rw [hA, hsl]; rfl
 refine zae (E := ⟨Tryz.prog, tabaT, ords121, Tryz.f121, w, [], [], fun _ _ _ => False⟩) zab (c := bodyOf Tryz.f121) (n := 0) Tryz.func121 rfl (show codeChk ords121 (bodyOf Tryz.f121) = true by decide +kernel) (rho []) (fun h p hp => zaq _ h p hp)
  (tm := [.one (.val (.int .i64 ki)), .one (.val (.int .u8 x))] ++ List.replicate 18 (.one (.val undef))) (mem := []) (Nat.le_refl _) ?_ ?_ (by rw [hki]; rfl) ?_
 ·exact zan w [] _
 ·simp [SV.ok, S1.ok]
 ·refine zaa zab hA rfl rfl 400 ?_
  conv => arg 3; cbv
  repeat (simp only [f6, f7]; conv => arg 3; cbv)
  refine zac (.one (.val (.string sb))) trivial goes_uses (fun ρ w' hρ hSat => ?_) ?_
  ·simp only [List.map, concV, conc1]
   rw [hki, hsb]
   exact uses_any k h1 h2 w'
  refine zaa zab hA rfl rfl 400 ?_
  conv => arg 3; cbv
  repeat (simp only [f6, f7]; conv => arg 3; cbv)
  refine zbs 0 (α := { i : Nat // i ≤ sb.size ∧ ∀ (j : Nat) b, j < i → sb.data.toList[j]? = some b → ((b.toNat : Int) ≠ x) }) [4, 6, 9, 10, 11, 12, 13, 14, 15, 16, 17, 18, 19] (fun x => [(6, .one (.val (.int .i64 (Int.ofNat x.1))))]) (fun x => sb.size - x.1) ⟨0, Nat.zero_le _, fun j b hj => by omega⟩ ?_ (fun x y hy => zbl hy trivial) rfl (fun x L' hok hL1 hL2 => ?_)
  ·cbv
   simp
  ·obtain ⟨i, hile, hprev⟩ := x
   dsimp only
   obtain ⟨i1, hi1⟩ := nm (Int.ofNat (i + 1))
   have q6 : A.add .i64 (Int.ofNat i) 1 = i1 := by rw [hA, hi1]; exact (wrap64 (by simp; omega) (by simp; omega)).trans (by simp)
   by_cases hi : i < sb.size
   ·obtain ⟨b, hb⟩ : ∃ b, sb.data.toList[i]? = some b := ⟨_, List.getElem?_eq_getElem (by simpa using hi)⟩
    have q1 : A.lt (Int.ofNat i) sl = true := by rw [hA, hsl]; simp [std]; omega
    have q2 : A.sinb (Int.ofNat i) sb = true := by rw [hA]; simp [std]; omega
    obtain ⟨z, hz⟩ := nm ((b.toNat : Int))
    have q3 : A.sat sb (Int.ofNat i) = z := by
     rw [hA, hz]
     have : sb[i]? = some b := by
      have h1 : sb.data[i]? = some b := by simpa using hb
      obtain ⟨h2, h3⟩ := Array.getElem?_eq_some_iff.1 h1
      have h4 : sb[i]? = some (sb[i]'hi) := by simp [hi]
      rw [h4]
      exact congrArg some h3
     simp [std, this]
    obtain ⟨t, ht⟩ := nm (decide (z = x))
    have q5 : A.eq z x = t := by rw [hA, ht]; simp [std, BEq.beq]
    refine zaa zab hA rfl rfl 400 ?_
    conv => arg 3; cbv
    repeat (simp only [f6, f7, q0, q1, q2, q3, q5, q6]; conv => arg 3; cbv)
    cases hct : t
    ·rw [hct] at ht
     try rw [hct] at tt
     conv => arg 3; cbv
     repeat (simp only [f6, f7, q0, q1, q2, q3, q5, q6]; conv => arg 3; cbv)
     intro ρ w' a hρ hl H htm ha hit
     refine hL2 a w' ⟨⟨i + 1, hi, fun j c hj hc => ?_⟩, ⟨ρ, hρ, H.take (ex := []) hok, zaz ?_ ha⟩, ?_⟩
     ·rcases Nat.lt_succ_iff_lt_or_eq.1 hj with h1 | rfl
      ·exact hprev j c h1 hc
      ·obtain rfl : b = c := Option.some.inj (hb.symm.trans hc)
       rw [← hz]; exact of_decide_eq_false ht.symm
     ·dsimp only
      rw [← hi1]
      cbv
      simp
     ·dsimp only
      omega
    ·rw [hct] at ht
     try rw [hct] at tt
     conv => arg 3; cbv
     repeat (simp only [f6, f7, q0, q1, q2, q3, q5, q6]; conv => arg 3; cbv)
     refine zak zab (by rfl) (by rfl) (fun ρ w' hρ hSat => ⟨?_, zah hSat.gr⟩)
     have : hasD k x = true := by
      unfold hasD
      rw [← hsb, List.any_eq_true]
      exact ⟨b, List.mem_of_getElem? hb, by rw [← hz]; exact ht.symm⟩
     rw [this]; rfl
   ·have q1 : A.lt (Int.ofNat i) sl = false := by rw [hA, hsl]; simp [std]; omega
    refine zaa zab hA rfl rfl 400 ?_
    conv => arg 3; cbv
    repeat (simp only [f6, f7, q0, q1]; conv => arg 3; cbv)
    refine zak zab (by rfl) (by rfl) (fun ρ w' hρ hSat => ⟨?_, zah hSat.gr⟩)
    have : hasD k x = false := by
     unfold hasD
     rw [← hsb, List.any_eq_false]
     intro c hc
     obtain ⟨j, hj, rfl⟩ := List.mem_iff_getElem.1 hc
     have hj' : j < i := by have : sb.data.toList.length = sb.size := rfl; omega
     have := hprev j _ hj' (List.getElem?_eq_getElem hj)
     simpa using this
    rw [this]; rfl
theorem goes_copied : Goes Tryz.prog 65 := zam Tryz.func65 (by kernel_rfl) (by kernel_rfl)
theorem goes_new : Goes Tryz.prog 38 := zam Tryz.func38 (by kernel_rfl) (by kernel_rfl)
def NewSt (s : StD) (w : World) (v : Value) (w' : World) : Prop := ∃ gt gc kt kc r1 r2, v = .agg (stV s ⟨some ⟨gt, 0, none⟩, kt, some ⟨gc, 0, none⟩, kc⟩) ∧ w'.heap[gt]? = some (.cells (s.tens.flatMap TsD.cells ++ r1).toArray 105 (0, 0)) ∧ w'.heap[gc]? = some (.cells (s.cells.flatMap CsD.cells ++ r2).toArray 107 (0, 0)) ∧ gt ≠ gc ∧ w.heap.size ≤ gt ∧ w.heap.size ≤ gc ∧ Below w.heap.size w w'
theorem ts_one : ∀ (l : List TsD), ∀ u ∈ l.flatMap TsD.cells, u.oneCell' = true := fun l u hu => by
 obtain ⟨t, _, ht⟩ := List.mem_flatMap.1 hu
 simp only [TsD.cells, List.mem_cons, List.not_mem_nil, or_false] at ht
 rcases ht with rfl | rfl | rfl | rfl | rfl | rfl | rfl | rfl | rfl | rfl | rfl | rfl <;> rfl
theorem cs_one : ∀ (l : List CsD), ∀ u ∈ l.flatMap CsD.cells, u.oneCell' = true := fun l u hu => by
 obtain ⟨t, _, ht⟩ := List.mem_flatMap.1 hu
 simp only [CsD.cells, List.mem_cons, List.not_mem_nil, or_false] at ht
 rcases ht with rfl | rfl | rfl | rfl <;> rfl
theorem rows_all {l : List Value} {n z : Nat} (hl : l.length = n * z) (h1 : ∀ u ∈ l, u.oneCell' = true) : std.rows l 0 n z = some l := by
 simp only [std, Nat.zero_add, List.drop_zero]
 rw [← hl, List.take_length, if_pos ⟨Nat.le_refl _, List.all_eq_true.2 fun u hu => h1 u hu⟩]
theorem newSt_of {w w' : World} {ρ : Nat → Nat × Nat} {mem : List MB} (hS : Sat w [] ρ mem w') {s : StD} {h1 h2 : Nat} (b1 : mem[h1]? = some (.grow 105 12 s.tens.length (s.tens.flatMap TsD.cells))) (b2 : mem[h2]? = some (.grow 107 4 s.cells.length (s.cells.flatMap CsD.cells))) (hne : h1 ≠ h2) (ht : 0 < s.tens.length) (hc : 0 < s.cells.length) {v : Value} (hv : v = .agg #[iv s.tick, iv s.count, gslV (ρ h1) s.tens.length, gslV (ρ h2) s.cells.length, iv s.proven, iv s.evac, iv s.low, iv s.high]) : NewSt s w v w' := by
 obtain ⟨c1, r1, e1, k1, w1⟩ := grow_open (hS.blk h1 _ b1) ht
 obtain ⟨c2, r2, e2, k2, w2⟩ := grow_open (hS.blk h2 _ b2) hc
 have f1 : w.heap.size ≤ (ρ h1).1 := ((hS.free h1 _ b1).1 w1).resolve_left (by simp)
 have f2 : w.heap.size ≤ (ρ h2).1 := ((hS.free h2 _ b2).1 w2).resolve_left (by simp)
 refine ⟨(ρ h1).1, (ρ h2).1, c1, c2, r1, r2, ?_, k1, k2, hS.apart h1 h2 _ _ b1 b2 w1 (by rw [w2]; rfl) hne, f1, f2, zah hS.gr⟩
 rw [hv, e1, e2]
 rfl
theorem copied_any (s : StD) (hs : StH) (w : World) (ht : 0 < s.tens.length) (ht' : s.tens.length ≤ 1000) (hc : 0 < s.cells.length) (hc' : s.cells.length ≤ 1000) (hS : StAt w w.heap.size s hs) :
 Calls Tryz.prog 65 #[.agg (stV s hs)] w fun e w' => ∃ v, e = .returned v ∧ NewSt s w v w' := by
 obtain ⟨b, o, hat, hb, hcell⟩ := zca hS.tens (by rw [zbm TsD.cells 12 (fun _ => rfl)]; omega)
 obtain ⟨b2, o2, hac, hb2, hcell2⟩ := zca hS.cells (by rw [zbm CsD.cells 4 (fun _ => rfl)]; omega)
 obtain ⟨a1, kt, a2, kc⟩ := hs
 obtain rfl : a1 = some ⟨b, o, none⟩ := hat
 obtain rfl : a2 = some ⟨b2, o2, none⟩ := hac
 obtain ⟨A, hA⟩ : ∃ A, A = std := ⟨_, rfl⟩
 obtain ⟨xs, hxs⟩ := nm (s.tens.flatMap TsD.cells)
 obtain ⟨ys, hys⟩ := nm (s.cells.flatMap CsD.cells)
 obtain ⟨tl, htl⟩ := nm (s.tens.length)
 obtain ⟨cl, hcl⟩ := nm (s.cells.length)
 have r1 : A.rows xs 0 tl 12 = some xs := by rw [hA]; exact rows_all (by rw [hxs, htl]; exact zbm TsD.cells 12 (fun _ => rfl) _) (by rw [hxs]; exact ts_one _)
 have r2 : A.rows ys 0 cl 4 = some ys := by rw [hA]; exact rows_all (by rw [hys, hcl]; exact zbm CsD.cells 4 (fun _ => rfl) _) (by rw [hys]; exact cs_one _)
 have f1 : A.fits 0 tl = true := by rw [hA, htl]; simp [std]; omega
 have f2 : A.fits 0 cl = true := by rw [hA, hcl]; simp [std]; omega
 have f3 : ∀ n, A.addn 0 n = n := fun n => by rw [hA]; simp [std]
 have f4 : ∀ l, A.app [] l = l := fun l => by rw [hA]; simp [std]
 refine zae (E := ⟨Tryz.prog, tabaT, ords65, Tryz.f65, w, [], [(b, o), (b2, o2)], fun _ _ _ => False⟩) zab (c := bodyOf Tryz.f65) (n := 0) Tryz.func65 rfl (show codeChk ords65 (bodyOf Tryz.f65) = true by decide +kernel) (rho [(b, o), (b2, o2)]) (fun h p hp => zaq _ h p hp)
  (tm := [.agg [.val (iv s.tick), .val (iv s.count), .slc 0 0 tl kt, .slc 1 0 cl kc, .val (iv s.proven), .val (iv s.evac), .val (iv s.low), .val (iv s.high)]] ++ List.replicate 13 (.one (.val undef))) (mem := [.rsym xs, .rsym ys]) (Nat.le_refl _) ?_ ?_ (by rw [htl, hcl]; rfl) ?_
 ·have h1 := (zan w [] (rho [(b, o), (b2, o2)])).addR (l := xs) (p := (b, o)) rfl (by rw [hxs]; exact hcell) hb (by simp)
  exact h1.addR (l := ys) (p := (b2, o2)) rfl (by rw [hys]; exact hcell2) hb2 (by simp)
 ·simp [SV.ok, S1.ok]
 ·refine zaa zab hA rfl rfl 400 ?_
  conv => arg 3; cbv
  repeat (simp only [r1, r2, f1, f2, f3, f4]; conv => arg 3; cbv)
  refine zak zab (by rfl) (by rfl) (fun ρ w' hρ hSat => ⟨_, rfl, ?_⟩)
  subst hxs hys htl hcl
  refine newSt_of hSat (h1 := 5) (h2 := 7) rfl rfl (by omega) ht hc rfl
theorem new_any (c : CfgD) (h : CfgH) (w : World) (ht : 0 < c.tens.length) (ht' : c.tens.length ≤ 1000) (hc : 0 < c.cells.length) (hc' : c.cells.length ≤ 1000) :
 Calls Tryz.prog 38 #[.agg (cfgV c h)] w fun e w' => ∃ v, e = .returned v ∧ NewSt (newSt c) w v w' := by
 obtain ⟨A, hA⟩ : ∃ A, A = std := ⟨_, rfl⟩
 obtain ⟨czl, hczl⟩ := nm (c.zones.length)
 obtain ⟨ccl, hccl⟩ := nm (c.cells.length)
 obtain ⟨ctl, hctl⟩ := nm (c.tens.length)
 obtain ⟨cvl, hcvl⟩ := nm (c.vers.length)
 obtain ⟨crl, hcrl⟩ := nm (c.reps.length)
 obtain ⟨col, hcol⟩ := nm (c.obs.length)
 obtain ⟨X, hX⟩ := nm (fun n => (List.replicate n newT).flatMap TsD.cells)
 obtain ⟨Y, hY⟩ := nm (fun n => (List.replicate n (⟨1, 0, 0, 0⟩ : CsD)).flatMap CsD.cells)
 obtain ⟨ti, hti⟩ := nm (Int.ofNat ctl)
 obtain ⟨ci, hci⟩ := nm (Int.ofNat ccl)
 have g1 : A.len ctl = ti := by rw [hA, hti]; rfl
 have g2 : A.len ccl = ci := by rw [hA, hci]; rfl
 have x0 : X 0 = [] := by rw [hX]; rfl
 have y0 : Y 0 = [] := by rw [hY]; rfl
 have e1 : ∀ n, A.eqn n n = true := fun n => by rw [hA]; simp [std]
 refine zae (E := ⟨Tryz.prog, tabaT, ords38, Tryz.f38, w, [], [], fun _ _ _ => False⟩) zab (c := bodyOf Tryz.f38) (n := 0) Tryz.func38 rfl (show codeChk ords38 (bodyOf Tryz.f38) = true by decide +kernel) (rho []) (fun h p hp => zaq _ h p hp)
  (tm := [.agg [.val (iv c.regions), .val (.slice h.az czl h.kz), .val (.slice h.ac ccl h.kc), .val (.slice h.at_ ctl h.kt), .val (.slice h.av cvl h.kv), .val (.slice h.ar crl h.kr), .val (.slice h.ao col h.ko), .val (iv c.blast), .val (iv c.lease), .val (iv c.bake)]] ++ List.replicate 34 (.one (.val undef))) (mem := []) (Nat.le_refl _) ?_ ?_ (by rw [hczl, hccl, hctl, hcvl, hcrl, hcol]; rfl) ?_
 ·exact zan w [] _
 ·simp [SV.ok, S1.ok]
 ·refine zaa zab hA rfl rfl 400 ?_
  conv => arg 3; cbv
  repeat (simp only [g1, g2]; conv => arg 3; cbv)
  refine zcy 2 2 105 12 rfl rfl rfl ?_
  conv => arg 3; cbv
  refine zcy 2 3 107 4 rfl rfl rfl ?_
  conv => arg 3; cbv
  refine zbh 1 (α := { i : Nat // i ≤ ctl }) [4, 7, 8, 9, 10, 11, 12, 13, 14, 15, 16, 17, 18, 19, 20] (fun x => [(4, .one (.val (.int .i64 (Int.ofNat x.1))))]) (fun x => [.own 36 [.val (iv c.regions), .val (.slice h.az czl h.kz), .val (.slice h.ac ccl h.kc), .val (.slice h.at_ ctl h.kt), .val (.slice h.av cvl h.kv), .val (.slice h.ar crl h.kr), .val (.slice h.ao col h.ko), .val (iv c.blast), .val (iv c.lease), .val (iv c.bake)], .own 61 [.val (.int .i64 0), .val (.int .i64 0), .val (.slice none 0 0), .val (.slice none 0 0), .val (.int .i64 0), .val (.int .i64 0), .val (.int .i64 0), .val (.int .i64 0)], .own 61 [.val (.int .i64 0), .val (.int .i64 0), .gsl 3 x.1, .gsl 4 0, .val (.int .i64 1), .val (.int .i64 0), .val (.int .i64 0), .val (.int .i64 0)], .grow 105 12 x.1 (X x.1), .grow 107 4 0 []]) (fun x => ctl - x.1) ⟨0, Nat.zero_le _⟩ ?_ ?_ (fun x => rfl) (fun x y hy => zbl hy trivial) rfl (fun x L' hL1 hL2 => ?_)
  ·cbv
   simp
  ·dsimp only
   rw [x0]
  ·obtain ⟨i, hile⟩ := x
   dsimp only
   obtain ⟨n1, hn1⟩ := nm (i + 1)
   by_cases hi : i < ctl
   ·have q1 : A.lt (Int.ofNat i) ti = true := by rw [hA, hti]; simp [std]; omega
    have q2 : A.add .i64 (Int.ofNat i) 1 = Int.ofNat n1 := by rw [hA, hn1]; exact (wrap64 (by simp; omega) (by simp; omega)).trans (by simp)
    have q3 : A.fits i 1 = true := by rw [hA]; simp [std]; omega
    have q4 : A.addn i 1 = n1 := by rw [hA, hn1]; rfl
    have q5 : A.app (X i) [.bool false, .bool false, .int .i64 (-1), .int .i64 (-1), .int .i64 (-1), .int .i64 (-1), .int .i64 0, .int .i64 (-1), .int .i64 0, .int .i64 0, .int .i64 0, .int .i64 0] = X n1 := by rw [hA, hn1, hX]; simp [std, List.replicate_succ', List.flatMap_append]; rfl
    refine zaa zab hA rfl rfl 400 ?_
    conv => arg 3; cbv
    repeat (simp only [g1, g2, e1, q1, q2, q3, q4, q5]; conv => arg 3; cbv)
    refine zai (l := [0, 1, 2, 6, 4]) ⟨rfl, rfl, rfl⟩ hL2 ⟨n1, by omega⟩ ?_ rfl rfl rfl ?_ ?_ ?_ ?_
    ·dsimp only
     omega
    ·intro b hb
     simp only [List.mem_cons, List.not_mem_nil, or_false] at hb
     rcases hb with rfl | rfl | rfl | rfl | rfl <;> simp [MB.ok, S1.ok]
    ·intro t v hv
     revert hv
     exact zao (by cbv <;> trivial) t v
    ·exact ⟨.inr rfl, .inr rfl, .inr rfl, .inr rfl, .inr rfl, trivial⟩
    ·cbv
     simp
   ·have q1 : A.lt (Int.ofNat i) ti = false := by rw [hA, hti]; simp [std]; omega
    obtain rfl : ctl = i := by omega
    refine zaa zab hA rfl rfl 400 ?_
    conv => arg 3; cbv
    repeat (simp only [g1, g2, e1, q1]; conv => arg 3; cbv)
    refine zbh 2 (α := { i : Nat // i ≤ ccl }) [5, 21, 22, 23, 24, 25, 26, 27, 28, 29, 30, 31, 32, 33] (fun x => [(5, .one (.val (.int .i64 (Int.ofNat x.1))))]) (fun x => [.own 36 [.val (iv c.regions), .val (.slice h.az czl h.kz), .val (.slice h.ac ccl h.kc), .val (.slice h.at_ ctl h.kt), .val (.slice h.av cvl h.kv), .val (.slice h.ar crl h.kr), .val (.slice h.ao col h.ko), .val (iv c.blast), .val (iv c.lease), .val (iv c.bake)], .own 61 [.val (.int .i64 0), .val (.int .i64 0), .val (.slice none 0 0), .val (.slice none 0 0), .val (.int .i64 0), .val (.int .i64 0), .val (.int .i64 0), .val (.int .i64 0)], .own 61 [.val (.int .i64 0), .val (.int .i64 0), .gsl 3 ctl, .gsl 4 x.1, .val (.int .i64 1), .val (.int .i64 0), .val (.int .i64 0), .val (.int .i64 0)], .grow 105 12 ctl (X ctl), .grow 107 4 x.1 (Y x.1)]) (fun x => ccl - x.1) ⟨0, Nat.zero_le _⟩ ?_ ?_ (fun x => rfl) (fun x y hy => zbl hy trivial) rfl (fun x L' hL1 hL2 => ?_)
    ·cbv
     simp
    ·dsimp only
     rw [y0]
    ·obtain ⟨i, hile⟩ := x
     dsimp only
     obtain ⟨n1, hn1⟩ := nm (i + 1)
     by_cases hi : i < ccl
     ·have q1 : A.lt (Int.ofNat i) ci = true := by rw [hA, hci]; simp [std]; omega
      have q2 : A.add .i64 (Int.ofNat i) 1 = Int.ofNat n1 := by rw [hA, hn1]; exact (wrap64 (by simp; omega) (by simp; omega)).trans (by simp)
      have q3 : A.fits i 1 = true := by rw [hA]; simp [std]; omega
      have q4 : A.addn i 1 = n1 := by rw [hA, hn1]; rfl
      have q5 : A.app (Y i) [.int .i64 1, .int .i64 0, .int .i64 0, .int .i64 0] = Y n1 := by rw [hA, hn1, hY]; simp [std, List.replicate_succ', List.flatMap_append]; rfl
      refine zaa zab hA rfl rfl 400 ?_
      conv => arg 3; cbv
      repeat (simp only [g1, g2, e1, q1, q2, q3, q4, q5]; conv => arg 3; cbv)
      refine zai (l := [0, 1, 2, 3, 6]) ⟨rfl, rfl, rfl⟩ hL2 ⟨n1, by omega⟩ ?_ rfl rfl rfl ?_ ?_ ?_ ?_
      ·dsimp only
       omega
      ·intro b hb
       simp only [List.mem_cons, List.not_mem_nil, or_false] at hb
       rcases hb with rfl | rfl | rfl | rfl | rfl <;> simp [MB.ok, S1.ok]
      ·intro t v hv
       revert hv
       exact zao (by cbv <;> trivial) t v
      ·exact ⟨.inr rfl, .inr rfl, .inr rfl, .inr rfl, .inr rfl, trivial⟩
      ·cbv
       simp
     ·have q1 : A.lt (Int.ofNat i) ci = false := by rw [hA, hci]; simp [std]; omega
      obtain rfl : ccl = i := by omega
      refine zaa zab hA rfl rfl 400 ?_
      conv => arg 3; cbv
      repeat (simp only [g1, g2, e1, q1]; conv => arg 3; cbv)
      refine zak zab (by rfl) (by rfl) (fun ρ w' hρ hSat => ⟨_, rfl, ?_⟩)
      subst hX hY
      refine newSt_of (s := newSt c) hSat (h1 := 3) (h2 := 4) ?_ ?_ (by omega) ?_ ?_ ?_
      ·simp [newSt, hctl]
      ·simp [newSt, hccl]
      ·simp [newSt]; omega
      ·simp [newSt]; omega
      ·simp [newSt, concV, conc1, hctl, hccl]
theorem goes_places : Goes Tryz.prog 109 := zam Tryz.func109 (by kernel_rfl) (by kernel_rfl)
theorem goes_numbers : Goes Tryz.prog 110 := zam Tryz.func110 (by kernel_rfl) (by kernel_rfl)
theorem goes_right : Goes Tryz.prog 88 := zam Tryz.func88 (by kernel_rfl) (by kernel_rfl)
theorem goes_in6 : Goes Tryz.prog 108 := zam Tryz.func108 (by kernel_rfl) (by kernel_rfl)
theorem goes_valid6 : Goes Tryz.prog 63 := zam Tryz.func63 (by kernel_rfl) (by kernel_rfl)
section
variable {E : Eng.Env} {R : Ending → World → Prop} {dst : Option Tmp} {k : List It} {tm : PT} {mem : List MB}
theorem g_in (hP : E.P = Tryz.prog) {n lo hi : Int} (h : ∀ b, b = inB n lo hi → Eng.Good E R ⟨k, putE tm dst (.one (.val (.bool b))), mem⟩) : Eng.Good E R ⟨.call 108 [.one (.val (.int .i64 n)), .one (.val (.int .i64 lo)), .one (.val (.int .i64 hi))] dst :: k, tm, mem⟩ :=
 zac (.one (.val (.bool (inB n lo hi)))) trivial (by rw [hP]; exact goes_in6) (fun ρ w' hρ hSat => by rw [hP]; exact in_any n lo hi w') (h _ rfl)
theorem g_has (hP : E.P = Tryz.prog) {j : Nat} (h1 : 1 ≤ j) (h2 : j ≤ 16) {ki : Int} (hki : ki = (j : Int)) {x : Int} {b : Bool} (hb : hasD j x = b) (h : Eng.Good E R ⟨k, putE tm dst (.one (.val (.bool b))), mem⟩) : Eng.Good E R ⟨.call 121 [.one (.val (.int .i64 ki)), .one (.val (.int .u8 x))] dst :: k, tm, mem⟩ :=
 zac (.one (.val (.bool b))) trivial (by rw [hP]; exact goes_has6) (fun ρ w' hρ hSat => by rw [hP]; subst hki hb; exact has6_any j h1 h2 x w') h
end
theorem places_pat (k : Nat) (h1 : 1 ≤ k) (h2 : k ≤ 16) (et en ec eo ep el eh ev tn cn rn : Int) (htn : 0 ≤ tn ∧ tn ≤ 1000) (hcn : 0 ≤ cn ∧ cn ≤ 1000) (hrn : 0 ≤ rn ∧ rn ≤ 1000) (w : World) (q116 q99 q67 q111 q114 : Bool) (hp : (q116 = true ∧ q99 = true ∧ q67 = false ∧ q111 = true ∧ q114 = false) ∨ (q116 = true ∧ q99 = true ∧ q67 = false ∧ q111 = false ∧ q114 = false) ∨ (q116 = true ∧ q99 = false ∧ q67 = false ∧ q111 = false ∧ q114 = false) ∨ (q116 = true ∧ q99 = false ∧ q67 = true ∧ q111 = false ∧ q114 = false) ∨ (q116 = false ∧ q99 = true ∧ q67 = false ∧ q111 = false ∧ q114 = false) ∨ (q116 = false ∧ q99 = false ∧ q67 = false ∧ q111 = false ∧ q114 = false) ∨ (q116 = false ∧ q99 = false ∧ q67 = false ∧ q111 = false ∧ q114 = true)) (p116 : hasD k 116 = q116) (u116 : uT (k : Int) = q116) (p99 : hasD k 99 = q99) (u99 : uC (k : Int) = q99) (p67 : hasD k 67 = q67) (u67 : uC' (k : Int) = q67) (p111 : hasD k 111 = q111) (u111 : uO (k : Int) = q111) (p114 : hasD k 114 = q114) (u114 : uR (k : Int) = q114) :
 Calls Tryz.prog 109 #[.agg (EnD.cells ⟨(k : Int), et, en, ec, eo, ep, el, eh, ev⟩), .int .i64 tn, .int .i64 cn, .int .i64 rn] w fun e w' => e = .returned (.bool (placesD ⟨(k : Int), et, en, ec, eo, ep, el, eh, ev⟩ tn cn rn)) ∧ Below w.heap.size w w' := by
 obtain ⟨A, hA⟩ : ∃ A, A = std := ⟨_, rfl⟩
 have F : A.not true = false ∧ A.not false = true ∧ A.beq true true = true ∧ A.beq true false = false ∧ A.beq false true = false ∧ A.beq false false = true := by
  rw [hA]
  exact ⟨rfl, rfl, rfl, rfl, rfl, rfl⟩
 obtain ⟨ki, hki⟩ := nm ((k : Int))
 rcases hp with ⟨rfl, rfl, rfl, rfl, rfl⟩ | ⟨rfl, rfl, rfl, rfl, rfl⟩ | ⟨rfl, rfl, rfl, rfl, rfl⟩ | ⟨rfl, rfl, rfl, rfl, rfl⟩ | ⟨rfl, rfl, rfl, rfl, rfl⟩ | ⟨rfl, rfl, rfl, rfl, rfl⟩ | ⟨rfl, rfl, rfl, rfl, rfl⟩
 all_goals
  refine zae (E := ⟨Tryz.prog, tabaT, ords109, Tryz.f109, w, [], [], fun _ _ _ => False⟩) zab (c := bodyOf Tryz.f109) (n := 0) Tryz.func109 rfl (show codeChk ords109 (bodyOf Tryz.f109) = true by decide +kernel) (rho []) (fun h p hp => zaq _ h p hp)
   (tm := [.agg [.val (.int .i64 ki), .val (.int .i64 et), .val (.int .i64 en), .val (.int .i64 ec), .val (.int .i64 eo), .val (.int .i64 ep), .val (.int .i64 el), .val (.int .i64 eh), .val (.int .i64 ev)], .one (.val (.int .i64 tn)), .one (.val (.int .i64 cn)), .one (.val (.int .i64 rn))] ++ List.replicate 101 (.one (.val undef))) (mem := []) (Nat.le_refl _) ?_ ?_ (by rw [hki]; rfl) ?_
  ·exact zan w [] _
  ·simp [SV.ok, S1.ok]
  ·refine zaa zab hA rfl rfl 400 ?_
   conv => arg 3; cbv
   repeat' first
    | (refine g_has rfl h1 h2 hki (by first | exact p116 | exact p99 | exact p67 | exact p111 | exact p114) (zaa zab hA rfl rfl 400 ?_); conv => arg 3; cbv)
    | (refine g_in rfl (fun _ _ => zaa zab hA rfl rfl 400 ?_); conv => arg 3; cbv)
    | refine zak zab (by rfl) (by rfl) (fun ρ w' hρ hSat => ⟨?_, zah hSat.gr⟩)
    | (simp only [F]; conv => arg 3; cbv)
    | (split <;> (rename_i hsp; simp only [hsp, F]; conv => arg 3; cbv))
   all_goals (have wtn : IntKind.wrap .i64 (tn - 1) = tn - 1 := wrap64 (by omega) (by omega); have wcn : IntKind.wrap .i64 (cn - 1) = cn - 1 := wrap64 (by omega) (by omega); have wrn : IntKind.wrap .i64 (rn - 1) = rn - 1 := wrap64 (by omega) (by omega); clear F hSat; subst hA; simp_all [placesD, std, concV, conc1])
theorem places_any (k : Nat) (h1 : 1 ≤ k) (h2 : k ≤ 16) (et en ec eo ep el eh ev tn cn rn : Int) (htn : 0 ≤ tn ∧ tn ≤ 1000) (hcn : 0 ≤ cn ∧ cn ≤ 1000) (hrn : 0 ≤ rn ∧ rn ≤ 1000) (w : World) :
 Calls Tryz.prog 109 #[.agg (EnD.cells ⟨(k : Int), et, en, ec, eo, ep, el, eh, ev⟩), .int .i64 tn, .int .i64 cn, .int .i64 rn] w fun e w' => e = .returned (.bool (placesD ⟨(k : Int), et, en, ec, eo, ep, el, eh, ev⟩ tn cn rn)) ∧ Below w.heap.size w w' := by
 have hu : ∀ j : Fin 17, 1 ≤ j.1 → hasD j.1 116 = uT ((j.1 : Nat) : Int) ∧ hasD j.1 99 = uC ((j.1 : Nat) : Int) ∧ hasD j.1 67 = uC' ((j.1 : Nat) : Int) ∧ hasD j.1 111 = uO ((j.1 : Nat) : Int) ∧ hasD j.1 114 = uR ((j.1 : Nat) : Int) := by decide
 have hq := hu ⟨k, by omega⟩ h1
 exact places_pat k h1 h2 et en ec eo ep el eh ev tn cn rn htn hcn hrn w (uT (k : Int)) (uC (k : Int)) (uC' (k : Int)) (uO (k : Int)) (uR (k : Int)) (by
  have hd : ∀ j : Fin 17, 1 ≤ j.1 → (uT ((j.1 : Nat) : Int) = true ∧ uC ((j.1 : Nat) : Int) = true ∧ uC' ((j.1 : Nat) : Int) = false ∧ uO ((j.1 : Nat) : Int) = true ∧ uR ((j.1 : Nat) : Int) = false) ∨ (uT ((j.1 : Nat) : Int) = true ∧ uC ((j.1 : Nat) : Int) = true ∧ uC' ((j.1 : Nat) : Int) = false ∧ uO ((j.1 : Nat) : Int) = false ∧ uR ((j.1 : Nat) : Int) = false) ∨ (uT ((j.1 : Nat) : Int) = true ∧ uC ((j.1 : Nat) : Int) = false ∧ uC' ((j.1 : Nat) : Int) = false ∧ uO ((j.1 : Nat) : Int) = false ∧ uR ((j.1 : Nat) : Int) = false) ∨ (uT ((j.1 : Nat) : Int) = true ∧ uC ((j.1 : Nat) : Int) = false ∧ uC' ((j.1 : Nat) : Int) = true ∧ uO ((j.1 : Nat) : Int) = false ∧ uR ((j.1 : Nat) : Int) = false) ∨ (uT ((j.1 : Nat) : Int) = false ∧ uC ((j.1 : Nat) : Int) = true ∧ uC' ((j.1 : Nat) : Int) = false ∧ uO ((j.1 : Nat) : Int) = false ∧ uR ((j.1 : Nat) : Int) = false) ∨ (uT ((j.1 : Nat) : Int) = false ∧ uC ((j.1 : Nat) : Int) = false ∧ uC' ((j.1 : Nat) : Int) = false ∧ uO ((j.1 : Nat) : Int) = false ∧ uR ((j.1 : Nat) : Int) = false) ∨ (uT ((j.1 : Nat) : Int) = false ∧ uC ((j.1 : Nat) : Int) = false ∧ uC' ((j.1 : Nat) : Int) = false ∧ uO ((j.1 : Nat) : Int) = false ∧ uR ((j.1 : Nat) : Int) = true) := by decide
  exact hd ⟨k, by omega⟩ h1) (hq.1) rfl (hq.2.1) rfl (hq.2.2.1) rfl (hq.2.2.2.1) rfl (hq.2.2.2.2) rfl
theorem numbers_pat (k : Nat) (h1 : 1 ≤ k) (h2 : k ≤ 16) (et en ec eo ep el eh ev vn : Int) (hvn : 0 ≤ vn ∧ vn ≤ 1000) (w : World) (q101 q119 q118 q98 q109 q110 : Bool) (hp : (q101 = true ∧ q119 = true ∧ q118 = true ∧ q98 = false ∧ q109 = false ∧ q110 = false) ∨ (q101 = true ∧ q119 = false ∧ q118 = false ∧ q98 = false ∧ q109 = false ∧ q110 = false) ∨ (q101 = false ∧ q119 = false ∧ q118 = true ∧ q98 = false ∧ q109 = false ∧ q110 = false) ∨ (q101 = false ∧ q119 = false ∧ q118 = false ∧ q98 = true ∧ q109 = false ∧ q110 = false) ∨ (q101 = false ∧ q119 = false ∧ q118 = false ∧ q98 = false ∧ q109 = true ∧ q110 = false) ∨ (q101 = false ∧ q119 = false ∧ q118 = false ∧ q98 = false ∧ q109 = false ∧ q110 = true) ∨ (q101 = false ∧ q119 = false ∧ q118 = false ∧ q98 = false ∧ q109 = false ∧ q110 = false)) (p101 : hasD k 101 = q101) (u101 : uE (k : Int) = q101) (p119 : hasD k 119 = q119) (u119 : uW (k : Int) = q119) (p118 : hasD k 118 = q118) (u118 : uV (k : Int) = q118) (p98 : hasD k 98 = q98) (u98 : uB (k : Int) = q98) (p109 : hasD k 109 = q109) (u109 : uM (k : Int) = q109) (p110 : hasD k 110 = q110) (u110 : uN (k : Int) = q110) :
 Calls Tryz.prog 110 #[.agg (EnD.cells ⟨(k : Int), et, en, ec, eo, ep, el, eh, ev⟩), .int .i64 vn] w fun e w' => e = .returned (.bool (numbersD ⟨(k : Int), et, en, ec, eo, ep, el, eh, ev⟩ vn)) ∧ Below w.heap.size w w' := by
 obtain ⟨A, hA⟩ : ∃ A, A = std := ⟨_, rfl⟩
 have F : A.not true = false ∧ A.not false = true ∧ A.beq true true = true ∧ A.beq true false = false ∧ A.beq false true = false ∧ A.beq false false = true := by
  rw [hA]
  exact ⟨rfl, rfl, rfl, rfl, rfl, rfl⟩
 obtain ⟨ki, hki⟩ := nm ((k : Int))
 rcases hp with ⟨rfl, rfl, rfl, rfl, rfl, rfl⟩ | ⟨rfl, rfl, rfl, rfl, rfl, rfl⟩ | ⟨rfl, rfl, rfl, rfl, rfl, rfl⟩ | ⟨rfl, rfl, rfl, rfl, rfl, rfl⟩ | ⟨rfl, rfl, rfl, rfl, rfl, rfl⟩ | ⟨rfl, rfl, rfl, rfl, rfl, rfl⟩ | ⟨rfl, rfl, rfl, rfl, rfl, rfl⟩
 all_goals
  refine zae (E := ⟨Tryz.prog, tabaT, ords110, Tryz.f110, w, [], [], fun _ _ _ => False⟩) zab (c := bodyOf Tryz.f110) (n := 0) Tryz.func110 rfl (show codeChk ords110 (bodyOf Tryz.f110) = true by decide +kernel) (rho []) (fun h p hp => zaq _ h p hp)
   (tm := [.agg [.val (.int .i64 ki), .val (.int .i64 et), .val (.int .i64 en), .val (.int .i64 ec), .val (.int .i64 eo), .val (.int .i64 ep), .val (.int .i64 el), .val (.int .i64 eh), .val (.int .i64 ev)], .one (.val (.int .i64 vn))] ++ List.replicate 80 (.one (.val undef))) (mem := []) (Nat.le_refl _) ?_ ?_ (by rw [hki]; rfl) ?_
  ·exact zan w [] _
  ·simp [SV.ok, S1.ok]
  ·refine zaa zab hA rfl rfl 400 ?_
   conv => arg 3; cbv
   repeat' first
    | (refine g_has rfl h1 h2 hki (by first | exact p101 | exact p119 | exact p118 | exact p98 | exact p109 | exact p110) (zaa zab hA rfl rfl 400 ?_); conv => arg 3; cbv)
    | (refine g_in rfl (fun _ _ => zaa zab hA rfl rfl 400 ?_); conv => arg 3; cbv)
    | refine zak zab (by rfl) (by rfl) (fun ρ w' hρ hSat => ⟨?_, zah hSat.gr⟩)
    | (simp only [F]; conv => arg 3; cbv)
    | (split <;> (rename_i hsp; simp only [hsp, F]; conv => arg 3; cbv))
    | (split <;> conv => arg 3; cbv)
   all_goals (have wvn : IntKind.wrap .i64 (vn - 1) = vn - 1 := wrap64 (by omega) (by omega); clear F hSat; subst hA; simp_all [numbersD, std, concV, conc1])
theorem numbers_any (k : Nat) (h1 : 1 ≤ k) (h2 : k ≤ 16) (et en ec eo ep el eh ev vn : Int) (hvn : 0 ≤ vn ∧ vn ≤ 1000) (w : World) :
 Calls Tryz.prog 110 #[.agg (EnD.cells ⟨(k : Int), et, en, ec, eo, ep, el, eh, ev⟩), .int .i64 vn] w fun e w' => e = .returned (.bool (numbersD ⟨(k : Int), et, en, ec, eo, ep, el, eh, ev⟩ vn)) ∧ Below w.heap.size w w' := by
 have hu : ∀ j : Fin 17, 1 ≤ j.1 → hasD j.1 101 = uE ((j.1 : Nat) : Int) ∧ hasD j.1 119 = uW ((j.1 : Nat) : Int) ∧ hasD j.1 118 = uV ((j.1 : Nat) : Int) ∧ hasD j.1 98 = uB ((j.1 : Nat) : Int) ∧ hasD j.1 109 = uM ((j.1 : Nat) : Int) ∧ hasD j.1 110 = uN ((j.1 : Nat) : Int) := by decide
 have hq := hu ⟨k, by omega⟩ h1
 exact numbers_pat k h1 h2 et en ec eo ep el eh ev vn hvn w (uE (k : Int)) (uW (k : Int)) (uV (k : Int)) (uB (k : Int)) (uM (k : Int)) (uN (k : Int)) (by
  have hd : ∀ j : Fin 17, 1 ≤ j.1 → (uE ((j.1 : Nat) : Int) = true ∧ uW ((j.1 : Nat) : Int) = true ∧ uV ((j.1 : Nat) : Int) = true ∧ uB ((j.1 : Nat) : Int) = false ∧ uM ((j.1 : Nat) : Int) = false ∧ uN ((j.1 : Nat) : Int) = false) ∨ (uE ((j.1 : Nat) : Int) = true ∧ uW ((j.1 : Nat) : Int) = false ∧ uV ((j.1 : Nat) : Int) = false ∧ uB ((j.1 : Nat) : Int) = false ∧ uM ((j.1 : Nat) : Int) = false ∧ uN ((j.1 : Nat) : Int) = false) ∨ (uE ((j.1 : Nat) : Int) = false ∧ uW ((j.1 : Nat) : Int) = false ∧ uV ((j.1 : Nat) : Int) = true ∧ uB ((j.1 : Nat) : Int) = false ∧ uM ((j.1 : Nat) : Int) = false ∧ uN ((j.1 : Nat) : Int) = false) ∨ (uE ((j.1 : Nat) : Int) = false ∧ uW ((j.1 : Nat) : Int) = false ∧ uV ((j.1 : Nat) : Int) = false ∧ uB ((j.1 : Nat) : Int) = true ∧ uM ((j.1 : Nat) : Int) = false ∧ uN ((j.1 : Nat) : Int) = false) ∨ (uE ((j.1 : Nat) : Int) = false ∧ uW ((j.1 : Nat) : Int) = false ∧ uV ((j.1 : Nat) : Int) = false ∧ uB ((j.1 : Nat) : Int) = false ∧ uM ((j.1 : Nat) : Int) = true ∧ uN ((j.1 : Nat) : Int) = false) ∨ (uE ((j.1 : Nat) : Int) = false ∧ uW ((j.1 : Nat) : Int) = false ∧ uV ((j.1 : Nat) : Int) = false ∧ uB ((j.1 : Nat) : Int) = false ∧ uM ((j.1 : Nat) : Int) = false ∧ uN ((j.1 : Nat) : Int) = true) ∨ (uE ((j.1 : Nat) : Int) = false ∧ uW ((j.1 : Nat) : Int) = false ∧ uV ((j.1 : Nat) : Int) = false ∧ uB ((j.1 : Nat) : Int) = false ∧ uM ((j.1 : Nat) : Int) = false ∧ uN ((j.1 : Nat) : Int) = false) := by decide
  exact hd ⟨k, by omega⟩ h1) (hq.1) rfl (hq.2.1) rfl (hq.2.2.1) rfl (hq.2.2.2.1) rfl (hq.2.2.2.2.1) rfl (hq.2.2.2.2.2) rfl
theorem g_in2 {E : Eng.Env} {R : Ending → World → Prop} {dst : Option Tmp} {k : List It} {tm : PT} {mem : List MB} (hP : E.P = Tryz.prog) {n lo hi : Int} (h : ∀ b, inB n lo hi = b → Eng.Good E R ⟨k, putE tm dst (.one (.val (.bool b))), mem⟩) : Eng.Good E R ⟨.call 108 [.one (.val (.int .i64 n)), .one (.val (.int .i64 lo)), .one (.val (.int .i64 hi))] dst :: k, tm, mem⟩ := g_in hP fun b hb => h b hb.symm
theorem g_inb {E : Eng.Env} {R : Ending → World → Prop} {dst : Option Tmp} {k : List It} {tm : PT} {mem : List MB} (hP : E.P = Tryz.prog) {n lo hi : Int} {b : Bool} (hb : inB n lo hi = b) (h : Eng.Good E R ⟨k, putE tm dst (.one (.val (.bool b))), mem⟩) : Eng.Good E R ⟨.call 108 [.one (.val (.int .i64 n)), .one (.val (.int .i64 lo)), .one (.val (.int .i64 hi))] dst :: k, tm, mem⟩ := g_in hP fun b' hb' => by rw [hb', hb]; exact h
theorem right_any (ek et en ec eo ep el eh ev tn cn rn vn : Int) (htn : 0 ≤ tn ∧ tn ≤ 1000) (hcn : 0 ≤ cn ∧ cn ≤ 1000) (hrn : 0 ≤ rn ∧ rn ≤ 1000) (hvn : 0 ≤ vn ∧ vn ≤ 1000) (w : World) :
 Calls Tryz.prog 88 #[.agg (EnD.cells ⟨ek, et, en, ec, eo, ep, el, eh, ev⟩), .int .i64 tn, .int .i64 cn, .int .i64 rn, .int .i64 vn] w fun e w' => e = .returned (.bool (rightD ⟨ek, et, en, ec, eo, ep, el, eh, ev⟩ tn cn rn vn)) ∧ Below w.heap.size w w' := by
 obtain ⟨A, hA⟩ : ∃ A, A = std := ⟨_, rfl⟩
 have F : A.not true = false ∧ A.not false = true := by
  rw [hA]
  exact ⟨rfl, rfl⟩
 refine zae (E := ⟨Tryz.prog, tabaT, ords88, Tryz.f88, w, [], [], fun _ _ _ => False⟩) zab (c := bodyOf Tryz.f88) (n := 0) Tryz.func88 rfl (show codeChk ords88 (bodyOf Tryz.f88) = true by decide +kernel) (rho []) (fun h p hp => zaq _ h p hp)
  (tm := [.agg [.val (.int .i64 ek), .val (.int .i64 et), .val (.int .i64 en), .val (.int .i64 ec), .val (.int .i64 eo), .val (.int .i64 ep), .val (.int .i64 el), .val (.int .i64 eh), .val (.int .i64 ev)], .one (.val (.int .i64 tn)), .one (.val (.int .i64 cn)), .one (.val (.int .i64 rn)), .one (.val (.int .i64 vn))] ++ List.replicate 26 (.one (.val undef))) (mem := []) (Nat.le_refl _) ?_ ?_ (by rfl) ?_
 ·exact zan w [] _
 ·simp [SV.ok, S1.ok]
 ·by_cases hk : 1 ≤ ek ∧ ek ≤ 16
  ·obtain ⟨k, hek⟩ : ∃ k : Nat, ek = (k : Int) := ⟨ek.toNat, by omega⟩
   have gpl : ∀ {E : Eng.Env} {R : Ending → World → Prop} {dst : Option Tmp} {k' : List It} {tm : PT} {mem : List MB}, (∀ b, placesD ⟨ek, et, en, ec, eo, ep, el, eh, ev⟩ tn cn rn = b → Eng.Good ⟨Tryz.prog, E.T, E.D, E.fn, E.w0, E.own, E.ρ0, E.L⟩ R ⟨k', putE tm dst (.one (.val (.bool b))), mem⟩) → Eng.Good ⟨Tryz.prog, E.T, E.D, E.fn, E.w0, E.own, E.ρ0, E.L⟩ R ⟨.call 109 [.agg [.val (.int .i64 ek), .val (.int .i64 et), .val (.int .i64 en), .val (.int .i64 ec), .val (.int .i64 eo), .val (.int .i64 ep), .val (.int .i64 el), .val (.int .i64 eh), .val (.int .i64 ev)], .one (.val (.int .i64 tn)), .one (.val (.int .i64 cn)), .one (.val (.int .i64 rn))] dst :: k', tm, mem⟩ :=
    fun h => zac (.one (.val (.bool (placesD ⟨ek, et, en, ec, eo, ep, el, eh, ev⟩ tn cn rn)))) trivial goes_places (fun ρ w' hρ hSat => by rw [hek]; exact places_any k (by omega) (by omega) et en ec eo ep el eh ev tn cn rn htn hcn hrn w') (h _ rfl)
   have gnu : ∀ {E : Eng.Env} {R : Ending → World → Prop} {dst : Option Tmp} {k' : List It} {tm : PT} {mem : List MB}, (∀ b, numbersD ⟨ek, et, en, ec, eo, ep, el, eh, ev⟩ vn = b → Eng.Good ⟨Tryz.prog, E.T, E.D, E.fn, E.w0, E.own, E.ρ0, E.L⟩ R ⟨k', putE tm dst (.one (.val (.bool b))), mem⟩) → Eng.Good ⟨Tryz.prog, E.T, E.D, E.fn, E.w0, E.own, E.ρ0, E.L⟩ R ⟨.call 110 [.agg [.val (.int .i64 ek), .val (.int .i64 et), .val (.int .i64 en), .val (.int .i64 ec), .val (.int .i64 eo), .val (.int .i64 ep), .val (.int .i64 el), .val (.int .i64 eh), .val (.int .i64 ev)], .one (.val (.int .i64 vn))] dst :: k', tm, mem⟩ :=
    fun h => zac (.one (.val (.bool (numbersD ⟨ek, et, en, ec, eo, ep, el, eh, ev⟩ vn)))) trivial goes_numbers (fun ρ w' hρ hSat => by rw [hek]; exact numbers_any k (by omega) (by omega) et en ec eo ep el eh ev vn hvn w') (h _ rfl)
   refine zaa zab hA rfl rfl 400 ?_
   conv => arg 3; cbv
   repeat' first
    | (refine g_in2 rfl (fun _ _ => zaa zab hA rfl rfl 400 ?_); conv => arg 3; cbv)
    | (refine gpl (E := ⟨Tryz.prog, tabaT, _, _, _, _, _, _⟩) (fun _ _ => zaa zab hA rfl rfl 400 ?_); conv => arg 3; cbv)
    | (refine gnu (E := ⟨Tryz.prog, tabaT, _, _, _, _, _, _⟩) (fun _ _ => zaa zab hA rfl rfl 400 ?_); conv => arg 3; cbv)
    | refine zak zab (by rfl) (by rfl) (fun ρ w' hρ hSat => ⟨?_, zah hSat.gr⟩)
    | (simp only [F]; conv => arg 3; cbv)
    | (split <;> (rename_i hsp; simp only [hsp, F]; conv => arg 3; cbv))
    | (split <;> conv => arg 3; cbv)
   all_goals (clear F hSat gpl gnu; subst hA; simp_all [rightD, std, concV, conc1])
  ·have hf : inB ek 1 16 = false := by
    simp only [inB, Bool.and_eq_false_iff, decide_eq_false_iff_not]
    omega
   refine zaa zab hA rfl rfl 400 ?_
   conv => arg 3; cbv
   repeat' first
    | (refine g_inb rfl hf (zaa zab hA rfl rfl 400 ?_); conv => arg 3; cbv)
    | refine zak zab (by rfl) (by rfl) (fun ρ w' hρ hSat => ⟨?_, zah hSat.gr⟩)
    | (simp only [F]; conv => arg 3; cbv)
    | (split <;> (rename_i hsp; simp only [hsp, F]; conv => arg 3; cbv))
    | (split <;> conv => arg 3; cbv)
   all_goals (clear F hSat; subst hA; simp_all [rightD, std, concV, conc1])
theorem valid6_any (c : CfgD) (h : CfgH) (ek et en ec eo ep el eh ev : Int) (hr : 0 ≤ c.regions) (w : World) :
 Calls Tryz.prog 63 #[.agg (cfgV c h), .agg (EnD.cells ⟨ek, et, en, ec, eo, ep, el, eh, ev⟩)] w fun e w' => e = .returned (.bool (validE c ⟨ek, et, en, ec, eo, ep, el, eh, ev⟩)) ∧ Below w.heap.size w w' := by
 obtain ⟨A, hA⟩ : ∃ A, A = std := ⟨_, rfl⟩
 obtain ⟨czl, hczl⟩ := nm (c.zones.length)
 obtain ⟨ccl, hccl⟩ := nm (c.cells.length)
 obtain ⟨ctl, hctl⟩ := nm (c.tens.length)
 obtain ⟨cvl, hcvl⟩ := nm (c.vers.length)
 obtain ⟨crl, hcrl⟩ := nm (c.reps.length)
 obtain ⟨col, hcol⟩ := nm (c.obs.length)
 obtain ⟨ti, hti⟩ := nm ((ctl : Int))
 obtain ⟨ci, hci⟩ := nm ((ccl : Int))
 obtain ⟨vi, hvi⟩ := nm ((cvl : Int))
 have g1 : A.len ctl = ti := by rw [hA, hti]; rfl
 have g2 : A.len ccl = ci := by rw [hA, hci]; rfl
 have g3 : A.len cvl = vi := by rw [hA, hvi]; rfl
 obtain ⟨tn, htn⟩ := nm (min (c.tens.length : Int) 32)
 obtain ⟨cn, hcn⟩ := nm (min (c.cells.length : Int) 16)
 obtain ⟨rn, hrn⟩ := nm (min c.regions 4)
 obtain ⟨vn, hvn⟩ := nm (min (c.vers.length : Int) 30)
 have m1 : A.mn ti 32 = tn := by rw [hA, htn, hti, hctl]; simp only [std]; split <;> omega
 have m2 : A.mn ci 16 = cn := by rw [hA, hcn, hci, hccl]; simp only [std]; split <;> omega
 have m3 : A.mn c.regions 4 = rn := by rw [hA, hrn]; simp only [std]; split <;> omega
 have m4 : A.mn vi 30 = vn := by rw [hA, hvn, hvi, hcvl]; simp only [std]; split <;> omega
 obtain ⟨cr, hcr⟩ := nm (c.regions)
 rw [← hcr] at m3
 refine zae (E := ⟨Tryz.prog, tabaT, ords63, Tryz.f63, w, [], [], fun _ _ _ => False⟩) zab (c := bodyOf Tryz.f63) (n := 0) Tryz.func63 rfl (show codeChk ords63 (bodyOf Tryz.f63) = true by decide +kernel) (rho []) (fun h p hp => zaq _ h p hp)
  (tm := [.agg [.val (iv cr), .val (.slice h.az czl h.kz), .val (.slice h.ac ccl h.kc), .val (.slice h.at_ ctl h.kt), .val (.slice h.av cvl h.kv), .val (.slice h.ar crl h.kr), .val (.slice h.ao col h.ko), .val (iv c.blast), .val (iv c.lease), .val (iv c.bake)], .agg [.val (.int .i64 ek), .val (.int .i64 et), .val (.int .i64 en), .val (.int .i64 ec), .val (.int .i64 eo), .val (.int .i64 ep), .val (.int .i64 el), .val (.int .i64 eh), .val (.int .i64 ev)]] ++ List.replicate 20 (.one (.val undef))) (mem := []) (Nat.le_refl _) ?_ ?_ (by rw [hczl, hccl, hctl, hcvl, hcrl, hcol]; rw [hcr]; rfl) ?_
 ·exact zan w [] _
 ·simp [SV.ok, S1.ok]
 ·refine zaa zab hA rfl rfl 400 ?_
  conv => arg 3; cbv
  repeat (simp only [g1, g2, g3, m1, m2, m3, m4]; conv => arg 3; cbv)
  obtain ⟨z, hz⟩ := nm (validE c ⟨ek, et, en, ec, eo, ep, el, eh, ev⟩)
  refine zac (.one (.val (.bool z))) trivial goes_right (fun ρ w' hρ hSat => ?_) ?_
  ·simp only [List.map, concV, conc1]
   rw [hz]
   have hh := right_any ek et en ec eo ep el eh ev tn cn rn vn (by omega) (by omega) (by omega) (by omega) w'
   rw [htn, hcn, hrn, hvn] at hh ⊢
   exact hh
  refine zaa zab hA rfl rfl 400 ?_
  conv => arg 3; cbv
  refine zak zab (by rfl) (by rfl) (fun ρ w' hρ hSat => ⟨?_, zah hSat.gr⟩)
  rw [← hz]; rfl
end Go.Proofs.YtcgcfeablbjnaaaGreatDoor
