/- Acts as plain data; the contract of script.read. -/
import Derived.Test.YtcgcfeablbjnaaaDoorScrE
import Derived.Lib.OthersKept
namespace Go.Proofs.YtcgcfeablbjnaaaDoor
open Go.RowKit Go.BigFrame

/-- An act of a world; its request. -/
structure ActD where
  kind : Int
  a : Int
  b : Int
  n : Int
  tenant : Int
  client : Int
  number : Int
  op : Int
  item : Int
  key : List UInt8
  value : List UInt8

def ActD.zero : ActD := ⟨0, 0, 0, 0, 0, 0, 0, 0, 0, [], []⟩
def ActD.cells (x : ActD) : Array Value := #[.int .i64 x.kind, .int .i64 x.a, .int .i64 x.b, .int .i64 x.n, .int .i64 x.tenant, .int .i64 x.client, .int .i64 x.number, .int .i64 x.op, .int .i64 x.item, .string ⟨x.key.toArray⟩, .string ⟨x.value.toArray⟩]

/-- A number, and a text, put into one of an act's fields. -/
def ActD.setNum (x : ActD) (k : Nat) (n : Int) : ActD :=
  if k = 1 then { x with a := n } else if k = 2 then { x with b := n } else if k = 3 then { x with n := n } else if k = 4 then { x with tenant := n } else if k = 5 then { x with client := n } else if k = 6 then { x with number := n } else { x with item := n }
def ActD.setTxt (x : ActD) (k : Nat) (l : List UInt8) : ActD := if k = 9 then { x with key := l } else { x with value := l }

theorem numCell_in {c : Int} {k : Nat} (h : numCell c = some k) : k = 1 ∨ k = 2 ∨ k = 3 ∨ k = 4 ∨ k = 5 ∨ k = 6 ∨ k = 8 := by
  unfold numCell at h
  repeat' split at h
  all_goals simp at h
  all_goals omega
theorem txtCell_in (c : Int) : txtCell c = 9 ∨ txtCell c = 10 := by
  unfold txtCell
  split <;> simp

theorem setNum_cells (x : ActD) (k : Nat) (n : Int) (h : k = 1 ∨ k = 2 ∨ k = 3 ∨ k = 4 ∨ k = 5 ∨ k = 6 ∨ k = 8) : (x.setNum k n).cells = x.cells.setIfInBounds k (.int .i64 n) := by
  rcases h with rfl | rfl | rfl | rfl | rfl | rfl | rfl <;> rfl
theorem setTxt_cells (x : ActD) (k : Nat) (l : List UInt8) (h : k = 9 ∨ k = 10) : (x.setTxt k l).cells = x.cells.setIfInBounds k (.string ⟨l.toArray⟩) := by
  rcases h with rfl | rfl <;> rfl

/-- One letter and its word. -/
def readStep (x : ActD) (c : UInt8) (wd : List UInt8) : Option ActD :=
  match numCell c.toNat with
  | some k => (numRes wd).map fun n => x.setNum k n
  | none => (txtRes wd).map fun l => x.setTxt (txtCell c.toNat) l
/-- The letters and the words behind the first. -/
def readFields : List UInt8 → List (List UInt8) → ActD → Option ActD
  | [], _, x => some x
  | _ :: _, [], _ => none
  | c :: cs, wd :: ws, x => (readStep x c wd).bind (readFields cs ws)
/-- Does a line begin with this word, and has it so many? -/
def lineFits (ws : List (List UInt8)) (x : LineK) : Bool := decide (x.word = ws.headD []) && decide ((x.letters.length : Int) = (ws.length : Int) - 1)
/-- The act that the words of a line describe. -/
def readAct (ws : List (List UInt8)) : Option ActD :=
  match lineTab.find? (lineFits ws) with
  | some x => readFields x.letters ws.tail { ActD.zero with kind := x.kind, op := x.op }
  | none => none

/-- What read hands back. -/
def actVal (o : Option ActD) : Value := .tuple #[.agg (o.getD ActD.zero).cells, .bool o.isSome]

theorem letters_ascii : ∀ x ∈ lineTab, ∀ c ∈ x.letters, c.toNat < 128 := by decide +kernel

theorem readFields_drop (cs : List UInt8) (ws : List (List UInt8)) (x : ActD) (i : Nat) (hi : i < cs.length) (hw : i < ws.length) : readFields (cs.drop i) (ws.drop i) x = (readStep x cs[i] ws[i]).bind (readFields (cs.drop (i + 1)) (ws.drop (i + 1))) := by
  rw [List.drop_eq_getElem_cons hi, List.drop_eq_getElem_cons hw]
  rfl

end Go.Proofs.YtcgcfeablbjnaaaDoor
