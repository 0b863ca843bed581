/- What Parse and Format answer at many stops and at many blanks: plain. -/
import Derived.Test.YtcgcfeablbjnaaaDoorScrO
namespace Go.Proofs.YtcgcfeablbjnaaaDoor
open Go.RowKit Go.BigFrame

def stopB : List UInt8 := [115, 116, 111, 112, 10]
def actStop : ActD := ⟨16, 0, 0, 0, 0, 0, 0, 0, 0, [], []⟩
/-- So many lines with stop. -/
def stops : Nat → List UInt8
  | 0 => []
  | n + 1 => stopB ++ stops n
theorem stops_len (n : Nat) : (stops n).length = 5 * n := by
  induction n with
  | zero => rfl
  | succ n ih => simp [stops, stopB, ih]; omega
theorem stops_snoc (n : Nat) : stops n ++ stopB = stops (n + 1) := by
  induction n with
  | zero => rfl
  | succ n ih =>
    show (stopB ++ stops n) ++ stopB = stopB ++ stops (n + 1)
    rw [List.append_assoc, ih]
theorem cut_stop (t : List UInt8) : Lib.cut (stopB ++ t) [10] = ([115, 116, 111, 112], t, true) := by
  have : Lib.index (stopB ++ t) [10] = 4 := by simp [stopB, Lib.index]
  rw [Lib.cut, this]
  simp [stopB]
theorem words_stop : wordsOf [115, 116, 111, 112] = [[115, 116, 111, 112]] := by kernel_rfl
theorem read_stop : readAct [[115, 116, 111, 112]] = some actStop := by kernel_rfl
theorem write_stop : writeRes actStop = ([[115, 116, 111, 112]], true) := by kernel_rfl

theorem parseL_stop (f m n : Nat) (acts : List ActD) : parseL (f + 1) (stops (m + 1)) n acts = if acts.length = 400 then ([], n, 2) else parseL f (stops m) (n + 1) (acts ++ [actStop]) := by
  rw [show stops (m + 1) = stopB ++ stops m from rfl, parseL, if_neg (by simp [stopB]), cut_stop]
  simp only [words_stop, read_stop]
  rw [if_pos (by simp)]
theorem parseL_stops : ∀ (m f n : Nat) (acts : List ActD), m ≤ f → parseL f (stops m) n acts = if acts.length ≤ 400 ∧ 400 < acts.length + m then ([], n + (400 - acts.length), 2) else if 400 < acts.length ∧ False then ([], n, 2) else if acts.length ≤ 400 then (acts ++ List.replicate m actStop, n + m, 0) else parseL f (stops m) n acts
  | 0, f, n, acts, _ => by
    cases f <;> simp [stops, parseL]
    all_goals
      intro h
      omega
  | m + 1, 0, n, acts, h => by omega
  | m + 1, f + 1, n, acts, h => by
    by_cases h4 : acts.length ≤ 400
    · rw [parseL_stop]
      by_cases he : acts.length = 400
      · rw [if_pos he, if_pos (by omega)]
        simp [he]
      · rw [if_neg he, parseL_stops m f (n + 1) (acts ++ [actStop]) (by omega)]
        have hl : (acts ++ [actStop]).length = acts.length + 1 := by simp
        rw [hl]
        by_cases hb : 400 < acts.length + (m + 1)
        · rw [if_pos (by omega), if_pos (by omega)]
          rw [show n + 1 + (400 - (acts.length + 1)) = n + (400 - acts.length) by omega]
        · rw [if_neg (by omega), if_neg (by simp), if_pos (by omega), if_neg (by omega), if_neg (by simp), if_pos h4]
          rw [show n + 1 + m = n + (m + 1) by omega, List.append_assoc]
          rfl
    · rw [if_neg (by omega), if_neg (by simp), if_neg h4]

theorem parse_stops (n : Nat) (h : n ≤ 3000) : parseRes (stops n) = if n ≤ 400 then (List.replicate n actStop, n, 0) else ([], 400, 2) := by
  rw [parseRes, if_neg (by rw [stops_len]; omega), parseL_stops n _ 0 [] (by rw [stops_len]; omega)]
  by_cases h4 : n ≤ 400
  · rw [if_neg (by simp; omega), if_neg (by simp), if_pos (by simp), if_pos h4]
    simp
  · rw [if_pos (by simp; omega), if_neg h4]
    simp

theorem line_stop : lineText actStop = stopB := by
  rw [lineText, write_stop]
  rfl
theorem flat_stops (n : Nat) : (List.replicate n actStop).flatMap lineText = stops n := by
  induction n with
  | zero => rfl
  | succ n ih => rw [List.replicate_succ, List.flatMap_cons, ih, line_stop]; rfl
theorem format_stops (n : Nat) (h : n ≤ 400) : formatRes (List.replicate n actStop) = (stops n, 0) := by
  rw [formatRes, if_neg (by simp; omega), if_pos (by simp [write_stop]), flat_stops, if_neg (by rw [stops_len]; omega)]
theorem format_many (n : Nat) (a : ActD) (h : 400 < n) : formatRes (List.replicate n a) = ([], 2) := by
  rw [formatRes, if_pos (by simpa using h)]

theorem index_blanks (m : Nat) : Lib.index (List.replicate m 32) [10] = -1 := by
  induction m with
  | zero => simp [Lib.index]
  | succ m ih => rw [List.replicate_succ, Lib.index, ih]; simp
theorem cut_blanks (m : Nat) : Lib.cut (List.replicate m 32) [10] = (List.replicate m 32, [], false) := by
  rw [Lib.cut, index_blanks]
  simp

theorem spans_blanks (s : ByteArray) (hs : ∀ i (h : i < s.size), s[i] = 32) : ∀ (f pos : Nat), Lib.spansFromP isBlank s f pos none [] = ([], none)
  | 0, _ => rfl
  | f + 1, pos => by
    unfold Lib.spansFromP
    by_cases hp : pos < s.size
    · rw [if_pos hp, decode_ascii s pos hp (by rw [hs pos hp]; decide), hs pos hp]
      rw [if_pos (by rfl)]
      exact spans_blanks s hs f _
    · rw [if_neg hp]
theorem words_blanks (m : Nat) : wordsOf (List.replicate m 32) = [] := by
  unfold wordsOf Lib.goFieldsP Lib.spansOfP
  rw [spans_blanks]
  · rfl
  · intro i h
    show (List.replicate m (32 : UInt8)).toArray[i]'_ = 32
    simp
theorem parse_blanks (m : Nat) (h0 : 1 ≤ m) : parseRes (List.replicate m 32) = if 16384 < m then ([], 0, 2) else ([], 1, 0) := by
  rw [parseRes, List.length_replicate]
  split
  · rfl
  · obtain ⟨k, rfl⟩ : ∃ k, m = k + 1 := ⟨m - 1, by omega⟩
    rw [parseL, if_neg (by simp [List.replicate_succ]), cut_blanks]
    simp only [words_blanks]
    rw [if_neg (by simp)]
    cases k <;> simp [parseL]

theorem stop_ok : ActOk actStop := ⟨fun k => by unfold ActD.num actStop; simp, by simp [actStop], by simp [actStop]⟩

end Go.Proofs.YtcgcfeablbjnaaaDoor
