/- What the rows' lists give: the table of powers of ten, and the variable MaxLen; a world for the witness. -/
import Derived.Test.YtcgcfeablbjnaaaDoorScrL
import Derived.Test.YtcgcfeablbjnaaaDoorCards
import Derived.Test.YtcgcfeablbjnaaaDoorTie
import Derived.WalkKit
import Derived.ProofKit
import Derived.OpenShut
import Derived.Deep.DeepHandedRow
import Derived.Lib.LaidTab
import Derived.Lay
namespace Go.Proofs.YtcgcfeablbjnaaaDoor
open Go.ChangeShapes Go.WideShapes Go.ChangeAt Go.RowKit

theorem laid_out : laidOutB Tryd.prog = true := by kernel_rfl
theorem own_knob : ownKnob Tryd.prog.godebug = none := by kernel_rfl

/-- The list that every row of this seat has. -/
def laidList : List (String × DataW Unit) := [("math/bits.deBruijn32tab", Rows.laid_math_bits_deBruijn32tab), ("math/bits.deBruijn64tab", Rows.laid_math_bits_deBruijn64tab), ("internal/strconv.uint64pow10", Rows.laid_internal_strconv_uint64pow10)]

theorem gPow : Tryd.prog.globalNamed "internal/strconv.uint64pow10" = some 1 := by kernel_rfl
theorem gPowType : (Tryd.prog.globals[1]?).map (·.type) = some 97 := by kernel_rfl

theorem pow_of_laid {W : World} (h : laidMet Tryd.prog laidList W) : Lib.TabIs Tryd.prog W "internal/strconv.uint64pow10" .u64 Lib.pow10Tab := by
  obtain ⟨ps, ⟨_, _, _, _, _, _, _, _, _, _, ⟨_, _, _, _, _, _, _, _, _, _, ⟨g', t', cs, fuel, p, q, hg', ht', hvar, hd, _, _⟩, _⟩, _⟩, _⟩ := h
  obtain rfl := Option.some.inj (gPow.symm.trans hg')
  obtain rfl := Option.some.inj (gPowType.symm.trans ht')
  unfold Lib.TabIs
  rw [hvar, ← Lib.cells_of_tab (zs := Lib.pow10Tab) Tryd.underlying97 Tryd.underlying89 (by kernel_rfl) (by kernel_rfl) hd]

theorem env_of {W : World} (h : laidMetH Tryd.prog laidList W) (hs : W.ShapedOpen Tryd.prog) : Env W :=
  ⟨Go.Proofs.cell_of_shapedOpen_int (zero := #[.int .i64 0]) (t := 3) hs (of_decide_eq_true (by kernel_rfl)) (by kernel_rfl) rfl (by kernel_rfl) (by kernel_rfl) Tryd.underlying3, pow_of_laid h⟩

noncomputable def laidWorld (os : Os) : World := World.laidAll Tryd.prog os laidList
theorem laid_met (os : Os) (args : Array Value) : laidMet Tryd.prog laidList ((laidWorld os).forCall (fun _ _ => 0) ⟨#[], args, []⟩).memory :=
  laidMet_laidAll args (by kernel_rfl) (by kernel_rfl)

end Go.Proofs.YtcgcfeablbjnaaaDoor
