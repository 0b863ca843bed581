/- Contracts of script.lines and script.Name; of cellplaneref44.Name. -/
import Derived.Test.YtcgcfeablbjnaaaDoorScrC
namespace Go.Proofs.YtcgcfeablbjnaaaDoor
open Go.RowKit Go.BigFrame

/-- A kind of lines: its word, the kind of the act, the operation, its letters. -/
structure LineK where
  word : List UInt8
  kind : Int
  op : Int
  letters : List UInt8

def lineTab : List LineK := [
  ⟨[116, 105, 99, 107], 1, 0, [78]⟩,
  ⟨[103, 101, 116], 2, 1, [65, 116, 99, 107]⟩,
  ⟨[112, 117, 116], 2, 2, [65, 116, 99, 110, 107, 118]⟩,
  ⟨[100, 101, 108, 101, 116, 101], 2, 3, [65, 116, 99, 110, 107]⟩,
  ⟨[112, 117, 115, 104], 2, 4, [65, 116, 99, 110, 118]⟩,
  ⟨[116, 97, 107, 101], 2, 5, [65, 116, 99]⟩,
  ⟨[100, 111, 110, 101], 2, 6, [65, 116, 99, 110, 105]⟩,
  ⟨[102, 97, 105, 108], 3, 0, [65]⟩,
  ⟨[114, 101, 115, 116, 97, 114, 116], 4, 0, [65]⟩,
  ⟨[105, 115, 111, 108, 97, 116, 101], 5, 0, [65]⟩,
  ⟨[106, 111, 105, 110], 6, 0, [65]⟩,
  ⟨[114, 101, 112, 108, 105, 99, 97], 7, 0, [65, 78]⟩,
  ⟨[108, 111, 115, 101], 8, 0, [65]⟩,
  ⟨[112, 117, 98, 108, 105, 115, 104], 9, 0, [65]⟩,
  ⟨[112, 108, 97, 99, 101], 10, 0, [65, 66, 78]⟩,
  ⟨[115, 116, 97, 110, 100, 98, 121], 11, 0, [65, 66]⟩,
  ⟨[109, 105, 103, 114, 97, 116, 101], 12, 0, [65, 66]⟩,
  ⟨[97, 98, 97, 110, 100, 111, 110], 13, 0, [65]⟩,
  ⟨[101, 118, 97, 99, 117, 97, 116, 101], 14, 0, [65, 78]⟩,
  ⟨[114, 111, 108, 108, 111, 117, 116], 15, 0, [65, 66]⟩,
  ⟨[115, 116, 111, 112], 16, 0, []⟩,
  ⟨[115, 99, 104, 101, 109, 97], 17, 0, [78]⟩]

def LineK.cells (x : LineK) : List Value := [.string ⟨x.word.toArray⟩, .int .i64 x.kind, .int .i64 x.op, .string ⟨x.letters.toArray⟩]
def lineCells : Array Value := (lineTab.flatMap LineK.cells).toArray

set_option maxRecDepth 100000 in
set_option maxHeartbeats 2000000 in
theorem lines_any (w : World) :
    Calls Tryd.prog 19 #[] w fun e w' => e = .returned (.slice (some ⟨w.heap.size, 0, none⟩) 22 22) ∧ w.alloc (.cells lineCells 48) = w' := by
  go_enter Tryd.func19, Tryd.ntmps19
  go_wp2
  go_ret
  exact ⟨rfl, rfl⟩

end Go.Proofs.YtcgcfeablbjnaaaDoor
