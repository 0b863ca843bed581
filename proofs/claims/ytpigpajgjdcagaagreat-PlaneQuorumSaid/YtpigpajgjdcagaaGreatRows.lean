/-
  No cell of these rows narrows 'for every input' (looked for: loops, veiled, ifaces, maps, wideKeys, modest, calm, conditions, laid).
  DERIVED. THE GIVEN ROWS OF THIS SEAT. 12 by the template 'for every input the law returns true; each argument reads behind the call as it read before'; 0 by the template 'total and deterministic' (their statements: YtpigpajgjdcagaaGreatTotals.lean).
  GIVEN WITH THE SEED: the statements are not yours to turn. If you find one false, say at which input.
  Laid BY PROGRAM, IN A SANDBOX (cutbox-rows.mjs): the forced cells as the released guide's own fill.sh prints them over the translation 669637af2f92f2a8… (all of the seat's roots in one cut). By AI agents, Wed Nov 11 2026. No macro, syntax, notation, axiom, sorry.
-/
import Derived.Test.YtpigpajgjdcagaaGreatChecked
import GoSem.Claim
import GoSem.ClaimJoined
import GoSem.ClaimMapViews
import Derived.JoinedTies
import Derived.KernelRfl
namespace Go.Proofs.YtpigpajgjdcagaaGreat
/- THE CELL 'sum', in the pinned program and in every row, IS THE sha256 OF THE DUMP (.gsa) THAT YtpigpajgjdcagaaGreatProg.lean LOADS. Nothing in Lean hashes anything: it is a label: what it is worth is what the hold of that sum in a sandbox is worth. -/
noncomputable def Tryz.pinned : Pinned := { name := "ytpigpajgjdcagaagreat", sum := "669637af2f92f2a80490359c2a9fc689523eabf0bec7e5a5e237a08fcb637db0", checked := Tryz.checked }
namespace Rows
def none {H : Type} : Left H := { results := [], args := [] }

/-- 'cellplanelaw36.EvacuateNexts': WHATEVER THE INPUT: true; the input reads as it did. -/
def evacuateNextsSpec : ChangeSpec := { name := "evacuateNexts", fn := fun _ => fun
  | [d1, d2, d3, d4, d5, d6, d7] => { results := [.lit (.bool true)], args := [d1, d2, d3, d4, d5, d6, d7] }
  | _ => none }
def evacuateNextsRow : OpenClaim := { program := "ytpigpajgjdcagaagreat", sum := "669637af2f92f2a80490359c2a9fc689523eabf0bec7e5a5e237a08fcb637db0", func := "cellplane/cellplanelaw36.EvacuateNexts", spec := "evacuateNexts", unfollowed := true, recurses := true, apart := false }
def EvacuateNextsSaid : Prop := evacuateNextsRow.holds Tryz.pinned (OpenSpec.ofChange evacuateNextsSpec)

/-- ITS FALSE NEIGHBOUR: 'it returns false'. Refute it at one input. -/
def evacuateNextsWrong : ChangeSpec := { name := "evacuateNexts", fn := fun _ => fun
  | [d1, d2, d3, d4, d5, d6, d7] => { results := [.lit (.bool false)], args := [d1, d2, d3, d4, d5, d6, d7] }
  | _ => none }
def EvacuateNextsWrongFalsely : Prop := evacuateNextsRow.holds Tryz.pinned (OpenSpec.ofChange evacuateNextsWrong)

/-- 'cellplanelaw36.EvacuateSteps': WHATEVER THE INPUT: true; the input reads as it did. -/
def evacuateStepsSpec : ChangeSpec := { name := "evacuateSteps", fn := fun _ => fun
  | [d1, d2, d3, d4, d5] => { results := [.lit (.bool true)], args := [d1, d2, d3, d4, d5] }
  | _ => none }
def evacuateStepsRow : OpenClaim := { program := "ytpigpajgjdcagaagreat", sum := "669637af2f92f2a80490359c2a9fc689523eabf0bec7e5a5e237a08fcb637db0", func := "cellplane/cellplanelaw36.EvacuateSteps", spec := "evacuateSteps", unfollowed := true, recurses := true, apart := false }
def EvacuateStepsSaid : Prop := evacuateStepsRow.holds Tryz.pinned (OpenSpec.ofChange evacuateStepsSpec)

/-- ITS FALSE NEIGHBOUR: 'it returns false'. Refute it at one input. -/
def evacuateStepsWrong : ChangeSpec := { name := "evacuateSteps", fn := fun _ => fun
  | [d1, d2, d3, d4, d5] => { results := [.lit (.bool false)], args := [d1, d2, d3, d4, d5] }
  | _ => none }
def EvacuateStepsWrongFalsely : Prop := evacuateStepsRow.holds Tryz.pinned (OpenSpec.ofChange evacuateStepsWrong)

/-- 'cellplanelaw14.PlaneNew': WHATEVER THE INPUT: true; the input reads as it did. -/
def planeNewSpec : ChangeSpec := { name := "planeNew", fn := fun _ => fun
  | [d1, d2, d3, d4] => { results := [.lit (.bool true)], args := [d1, d2, d3, d4] }
  | _ => none }
def planeNewRow : OpenClaim := { program := "ytpigpajgjdcagaagreat", sum := "669637af2f92f2a80490359c2a9fc689523eabf0bec7e5a5e237a08fcb637db0", func := "cellplane/cellplanelaw14.PlaneNew", spec := "planeNew", unfollowed := true, recurses := true, apart := false }
def PlaneNewSaid : Prop := planeNewRow.holds Tryz.pinned (OpenSpec.ofChange planeNewSpec)

/-- ITS FALSE NEIGHBOUR: 'it returns false'. Refute it at one input. -/
def planeNewWrong : ChangeSpec := { name := "planeNew", fn := fun _ => fun
  | [d1, d2, d3, d4] => { results := [.lit (.bool false)], args := [d1, d2, d3, d4] }
  | _ => none }
def PlaneNewWrongFalsely : Prop := planeNewRow.holds Tryz.pinned (OpenSpec.ofChange planeNewWrong)

/-- 'cellplanelaw14.PlaneLoses': WHATEVER THE INPUT: true; the input reads as it did. -/
def planeLosesSpec : ChangeSpec := { name := "planeLoses", fn := fun _ => fun
  | [d1, d2] => { results := [.lit (.bool true)], args := [d1, d2] }
  | _ => none }
def planeLosesRow : OpenClaim := { program := "ytpigpajgjdcagaagreat", sum := "669637af2f92f2a80490359c2a9fc689523eabf0bec7e5a5e237a08fcb637db0", func := "cellplane/cellplanelaw14.PlaneLoses", spec := "planeLoses", unfollowed := true, recurses := true, apart := false }
def PlaneLosesSaid : Prop := planeLosesRow.holds Tryz.pinned (OpenSpec.ofChange planeLosesSpec)

/-- ITS FALSE NEIGHBOUR: 'it returns false'. Refute it at one input. -/
def planeLosesWrong : ChangeSpec := { name := "planeLoses", fn := fun _ => fun
  | [d1, d2] => { results := [.lit (.bool false)], args := [d1, d2] }
  | _ => none }
def PlaneLosesWrongFalsely : Prop := planeLosesRow.holds Tryz.pinned (OpenSpec.ofChange planeLosesWrong)

/-- 'cellplanelaw14.PlaneGrows': WHATEVER THE INPUT: true; the input reads as it did. -/
def planeGrowsSpec : ChangeSpec := { name := "planeGrows", fn := fun _ => fun
  | [d1, d2, d3] => { results := [.lit (.bool true)], args := [d1, d2, d3] }
  | _ => none }
def planeGrowsRow : OpenClaim := { program := "ytpigpajgjdcagaagreat", sum := "669637af2f92f2a80490359c2a9fc689523eabf0bec7e5a5e237a08fcb637db0", func := "cellplane/cellplanelaw14.PlaneGrows", spec := "planeGrows", unfollowed := true, recurses := true, apart := false }
def PlaneGrowsSaid : Prop := planeGrowsRow.holds Tryz.pinned (OpenSpec.ofChange planeGrowsSpec)

/-- ITS FALSE NEIGHBOUR: 'it returns false'. Refute it at one input. -/
def planeGrowsWrong : ChangeSpec := { name := "planeGrows", fn := fun _ => fun
  | [d1, d2, d3] => { results := [.lit (.bool false)], args := [d1, d2, d3] }
  | _ => none }
def PlaneGrowsWrongFalsely : Prop := planeGrowsRow.holds Tryz.pinned (OpenSpec.ofChange planeGrowsWrong)

/-- 'cellplanelaw14.PlaneQuorum': WHATEVER THE INPUT: true; the input reads as it did. -/
def planeQuorumSpec : ChangeSpec := { name := "planeQuorum", fn := fun _ => fun
  | [d1, d2] => { results := [.lit (.bool true)], args := [d1, d2] }
  | _ => none }
def planeQuorumRow : OpenClaim := { program := "ytpigpajgjdcagaagreat", sum := "669637af2f92f2a80490359c2a9fc689523eabf0bec7e5a5e237a08fcb637db0", func := "cellplane/cellplanelaw14.PlaneQuorum", spec := "planeQuorum", unfollowed := true, recurses := true, apart := false }
def PlaneQuorumSaid : Prop := planeQuorumRow.holds Tryz.pinned (OpenSpec.ofChange planeQuorumSpec)

/-- ITS FALSE NEIGHBOUR: 'it returns false'. Refute it at one input. -/
def planeQuorumWrong : ChangeSpec := { name := "planeQuorum", fn := fun _ => fun
  | [d1, d2] => { results := [.lit (.bool false)], args := [d1, d2] }
  | _ => none }
def PlaneQuorumWrongFalsely : Prop := planeQuorumRow.holds Tryz.pinned (OpenSpec.ofChange planeQuorumWrong)

/-- 'cellplanelaw14.PlanePlays': WHATEVER THE INPUT: true; the input reads as it did. -/
def planePlaysSpec : ChangeSpec := { name := "planePlays", fn := fun _ => fun
  | [d1, d2, d3] => { results := [.lit (.bool true)], args := [d1, d2, d3] }
  | _ => none }
def planePlaysRow : OpenClaim := { program := "ytpigpajgjdcagaagreat", sum := "669637af2f92f2a80490359c2a9fc689523eabf0bec7e5a5e237a08fcb637db0", func := "cellplane/cellplanelaw14.PlanePlays", spec := "planePlays", unfollowed := true, recurses := true, apart := false }
def PlanePlaysSaid : Prop := planePlaysRow.holds Tryz.pinned (OpenSpec.ofChange planePlaysSpec)

/-- ITS FALSE NEIGHBOUR: 'it returns false'. Refute it at one input. -/
def planePlaysWrong : ChangeSpec := { name := "planePlays", fn := fun _ => fun
  | [d1, d2, d3] => { results := [.lit (.bool false)], args := [d1, d2, d3] }
  | _ => none }
def PlanePlaysWrongFalsely : Prop := planePlaysRow.holds Tryz.pinned (OpenSpec.ofChange planePlaysWrong)

/-- 'cellplanelaw14.PlaneFolds': WHATEVER THE INPUT: true; the input reads as it did. -/
def planeFoldsSpec : ChangeSpec := { name := "planeFolds", fn := fun _ => fun
  | [d1, d2, d3] => { results := [.lit (.bool true)], args := [d1, d2, d3] }
  | _ => none }
def planeFoldsRow : OpenClaim := { program := "ytpigpajgjdcagaagreat", sum := "669637af2f92f2a80490359c2a9fc689523eabf0bec7e5a5e237a08fcb637db0", func := "cellplane/cellplanelaw14.PlaneFolds", spec := "planeFolds", unfollowed := true, recurses := true, apart := false }
def PlaneFoldsSaid : Prop := planeFoldsRow.holds Tryz.pinned (OpenSpec.ofChange planeFoldsSpec)

/-- ITS FALSE NEIGHBOUR: 'it returns false'. Refute it at one input. -/
def planeFoldsWrong : ChangeSpec := { name := "planeFolds", fn := fun _ => fun
  | [d1, d2, d3] => { results := [.lit (.bool false)], args := [d1, d2, d3] }
  | _ => none }
def PlaneFoldsWrongFalsely : Prop := planeFoldsRow.holds Tryz.pinned (OpenSpec.ofChange planeFoldsWrong)

/-- 'cellplanelaw14.PlaneCopies': WHATEVER THE INPUT: true; the input reads as it did. -/
def planeCopiesSpec : ChangeSpec := { name := "planeCopies", fn := fun _ => fun
  | [d1, d2, d3, d4] => { results := [.lit (.bool true)], args := [d1, d2, d3, d4] }
  | _ => none }
def planeCopiesRow : OpenClaim := { program := "ytpigpajgjdcagaagreat", sum := "669637af2f92f2a80490359c2a9fc689523eabf0bec7e5a5e237a08fcb637db0", func := "cellplane/cellplanelaw14.PlaneCopies", spec := "planeCopies", unfollowed := true, recurses := true, apart := false }
def PlaneCopiesSaid : Prop := planeCopiesRow.holds Tryz.pinned (OpenSpec.ofChange planeCopiesSpec)

/-- ITS FALSE NEIGHBOUR: 'it returns false'. Refute it at one input. -/
def planeCopiesWrong : ChangeSpec := { name := "planeCopies", fn := fun _ => fun
  | [d1, d2, d3, d4] => { results := [.lit (.bool false)], args := [d1, d2, d3, d4] }
  | _ => none }
def PlaneCopiesWrongFalsely : Prop := planeCopiesRow.holds Tryz.pinned (OpenSpec.ofChange planeCopiesWrong)

/-- 'cellplanelaw36.EvacuateRuns': WHATEVER THE INPUT: true; the input reads as it did. -/
def evacuateRunsSpec : ChangeSpec := { name := "evacuateRuns", fn := fun _ => fun
  | [d1, d2, d3, d4] => { results := [.lit (.bool true)], args := [d1, d2, d3, d4] }
  | _ => none }
def evacuateRunsRow : OpenClaim := { program := "ytpigpajgjdcagaagreat", sum := "669637af2f92f2a80490359c2a9fc689523eabf0bec7e5a5e237a08fcb637db0", func := "cellplane/cellplanelaw36.EvacuateRuns", spec := "evacuateRuns", unfollowed := true, recurses := true, apart := false }
def EvacuateRunsSaid : Prop := evacuateRunsRow.holds Tryz.pinned (OpenSpec.ofChange evacuateRunsSpec)

/-- ITS FALSE NEIGHBOUR: 'it returns false'. Refute it at one input. -/
def evacuateRunsWrong : ChangeSpec := { name := "evacuateRuns", fn := fun _ => fun
  | [d1, d2, d3, d4] => { results := [.lit (.bool false)], args := [d1, d2, d3, d4] }
  | _ => none }
def EvacuateRunsWrongFalsely : Prop := evacuateRunsRow.holds Tryz.pinned (OpenSpec.ofChange evacuateRunsWrong)

/-- 'cellplanelaw36.EvacuateParts': WHATEVER THE INPUT: true; the input reads as it did. -/
def evacuatePartsSpec : ChangeSpec := { name := "evacuateParts", fn := fun _ => fun
  | [d1, d2, d3] => { results := [.lit (.bool true)], args := [d1, d2, d3] }
  | _ => none }
def evacuatePartsRow : OpenClaim := { program := "ytpigpajgjdcagaagreat", sum := "669637af2f92f2a80490359c2a9fc689523eabf0bec7e5a5e237a08fcb637db0", func := "cellplane/cellplanelaw36.EvacuateParts", spec := "evacuateParts", unfollowed := true, recurses := true, apart := false }
def EvacuatePartsSaid : Prop := evacuatePartsRow.holds Tryz.pinned (OpenSpec.ofChange evacuatePartsSpec)

/-- ITS FALSE NEIGHBOUR: 'it returns false'. Refute it at one input. -/
def evacuatePartsWrong : ChangeSpec := { name := "evacuateParts", fn := fun _ => fun
  | [d1, d2, d3] => { results := [.lit (.bool false)], args := [d1, d2, d3] }
  | _ => none }
def EvacuatePartsWrongFalsely : Prop := evacuatePartsRow.holds Tryz.pinned (OpenSpec.ofChange evacuatePartsWrong)

/-- 'cellplanelaw36.EvacuateQuorum': WHATEVER THE INPUT: true; the input reads as it did. -/
def evacuateQuorumSpec : ChangeSpec := { name := "evacuateQuorum", fn := fun _ => fun
  | [d1, d2, d3] => { results := [.lit (.bool true)], args := [d1, d2, d3] }
  | _ => none }
def evacuateQuorumRow : OpenClaim := { program := "ytpigpajgjdcagaagreat", sum := "669637af2f92f2a80490359c2a9fc689523eabf0bec7e5a5e237a08fcb637db0", func := "cellplane/cellplanelaw36.EvacuateQuorum", spec := "evacuateQuorum", unfollowed := true, recurses := true, apart := false }
def EvacuateQuorumSaid : Prop := evacuateQuorumRow.holds Tryz.pinned (OpenSpec.ofChange evacuateQuorumSpec)

/-- ITS FALSE NEIGHBOUR: 'it returns false'. Refute it at one input. -/
def evacuateQuorumWrong : ChangeSpec := { name := "evacuateQuorum", fn := fun _ => fun
  | [d1, d2, d3] => { results := [.lit (.bool false)], args := [d1, d2, d3] }
  | _ => none }
def EvacuateQuorumWrongFalsely : Prop := evacuateQuorumRow.holds Tryz.pinned (OpenSpec.ofChange evacuateQuorumWrong)

/- THE SECOND FORM. 'bulk': how many values and letters a reading holds, each counted each time it is reached (what is shared counts as often as it is met; a slice's spare places count too). A statement '..UptoSaid' is the law's where the arguments, and the package variables that the reading takes, are together of bulk at most 1048576: NARROWER than '..Said'. Prove '..Said' where nothing that the law and all that it calls make is longer than what came in: it says more and counts as full. Else prove '..UptoSaid'. A law counts once. -/
mutual
def uptoBulk {H : Type} : DataW H → Nat
  | .lit (.string bytes) => bytes.length + 1
  | .lit _ => 1
  | .nil => 1
  | .ptr d => uptoBulk d + 1
  | .slice elems spare => uptoBulkAll elems + uptoBulkAll spare + 1
  | .agg parts => uptoBulkAll parts + 1
  | .iface _ d => uptoBulk d + 1
  | .map entries => uptoBulkEntries entries + 1
  | .held _ => 1
def uptoBulkAll {H : Type} : List (DataW H) → Nat
  | [] => 0
  | d :: r => uptoBulk d + uptoBulkAll r
def uptoBulkEntries {H : Type} : List (Lit × DataW H) → Nat
  | [] => 0
  | x :: r => uptoBulkEntry x + uptoBulkEntries r
def uptoBulkEntry {H : Type} : Lit × DataW H → Nat
  | (.string bytes, d) => bytes.length + uptoBulk d + 1
  | (_, d) => uptoBulk d + 1
 end
def uptoSmall : (H : Type) → List (DataW H) → Bool := fun _ ds => decide (uptoBulkAll ds ≤ 1048576)
def OpenSpec.upto (s : _root_.Go.ChangeSpec) : _root_.Go.OpenSpec := { _root_.Go.OpenSpec.ofChange s with cond := some uptoSmall }

/-- 'cellplanelaw36.EvacuateNexts', WHERE WHAT IT READS IS OF BULK AT MOST 1048576: true; the input reads as it did. -/
def evacuateNextsUptoRow : OpenClaim := { program := "ytpigpajgjdcagaagreat", sum := "669637af2f92f2a80490359c2a9fc689523eabf0bec7e5a5e237a08fcb637db0", func := "cellplane/cellplanelaw36.EvacuateNexts", spec := "evacuateNexts", unfollowed := true, recurses := true, apart := false, narrowed := true }
def EvacuateNextsUptoSaid : Prop := evacuateNextsUptoRow.holds Tryz.pinned (OpenSpec.upto evacuateNextsSpec)

/-- 'cellplanelaw36.EvacuateSteps', WHERE WHAT IT READS IS OF BULK AT MOST 1048576: true; the input reads as it did. -/
def evacuateStepsUptoRow : OpenClaim := { program := "ytpigpajgjdcagaagreat", sum := "669637af2f92f2a80490359c2a9fc689523eabf0bec7e5a5e237a08fcb637db0", func := "cellplane/cellplanelaw36.EvacuateSteps", spec := "evacuateSteps", unfollowed := true, recurses := true, apart := false, narrowed := true }
def EvacuateStepsUptoSaid : Prop := evacuateStepsUptoRow.holds Tryz.pinned (OpenSpec.upto evacuateStepsSpec)

/-- 'cellplanelaw14.PlaneNew', WHERE WHAT IT READS IS OF BULK AT MOST 1048576: true; the input reads as it did. -/
def planeNewUptoRow : OpenClaim := { program := "ytpigpajgjdcagaagreat", sum := "669637af2f92f2a80490359c2a9fc689523eabf0bec7e5a5e237a08fcb637db0", func := "cellplane/cellplanelaw14.PlaneNew", spec := "planeNew", unfollowed := true, recurses := true, apart := false, narrowed := true }
def PlaneNewUptoSaid : Prop := planeNewUptoRow.holds Tryz.pinned (OpenSpec.upto planeNewSpec)

/-- 'cellplanelaw14.PlaneLoses', WHERE WHAT IT READS IS OF BULK AT MOST 1048576: true; the input reads as it did. -/
def planeLosesUptoRow : OpenClaim := { program := "ytpigpajgjdcagaagreat", sum := "669637af2f92f2a80490359c2a9fc689523eabf0bec7e5a5e237a08fcb637db0", func := "cellplane/cellplanelaw14.PlaneLoses", spec := "planeLoses", unfollowed := true, recurses := true, apart := false, narrowed := true }
def PlaneLosesUptoSaid : Prop := planeLosesUptoRow.holds Tryz.pinned (OpenSpec.upto planeLosesSpec)

/-- 'cellplanelaw14.PlaneGrows', WHERE WHAT IT READS IS OF BULK AT MOST 1048576: true; the input reads as it did. -/
def planeGrowsUptoRow : OpenClaim := { program := "ytpigpajgjdcagaagreat", sum := "669637af2f92f2a80490359c2a9fc689523eabf0bec7e5a5e237a08fcb637db0", func := "cellplane/cellplanelaw14.PlaneGrows", spec := "planeGrows", unfollowed := true, recurses := true, apart := false, narrowed := true }
def PlaneGrowsUptoSaid : Prop := planeGrowsUptoRow.holds Tryz.pinned (OpenSpec.upto planeGrowsSpec)

/-- 'cellplanelaw14.PlaneQuorum', WHERE WHAT IT READS IS OF BULK AT MOST 1048576: true; the input reads as it did. -/
def planeQuorumUptoRow : OpenClaim := { program := "ytpigpajgjdcagaagreat", sum := "669637af2f92f2a80490359c2a9fc689523eabf0bec7e5a5e237a08fcb637db0", func := "cellplane/cellplanelaw14.PlaneQuorum", spec := "planeQuorum", unfollowed := true, recurses := true, apart := false, narrowed := true }
def PlaneQuorumUptoSaid : Prop := planeQuorumUptoRow.holds Tryz.pinned (OpenSpec.upto planeQuorumSpec)

/-- 'cellplanelaw14.PlanePlays', WHERE WHAT IT READS IS OF BULK AT MOST 1048576: true; the input reads as it did. -/
def planePlaysUptoRow : OpenClaim := { program := "ytpigpajgjdcagaagreat", sum := "669637af2f92f2a80490359c2a9fc689523eabf0bec7e5a5e237a08fcb637db0", func := "cellplane/cellplanelaw14.PlanePlays", spec := "planePlays", unfollowed := true, recurses := true, apart := false, narrowed := true }
def PlanePlaysUptoSaid : Prop := planePlaysUptoRow.holds Tryz.pinned (OpenSpec.upto planePlaysSpec)

/-- 'cellplanelaw14.PlaneFolds', WHERE WHAT IT READS IS OF BULK AT MOST 1048576: true; the input reads as it did. -/
def planeFoldsUptoRow : OpenClaim := { program := "ytpigpajgjdcagaagreat", sum := "669637af2f92f2a80490359c2a9fc689523eabf0bec7e5a5e237a08fcb637db0", func := "cellplane/cellplanelaw14.PlaneFolds", spec := "planeFolds", unfollowed := true, recurses := true, apart := false, narrowed := true }
def PlaneFoldsUptoSaid : Prop := planeFoldsUptoRow.holds Tryz.pinned (OpenSpec.upto planeFoldsSpec)

/-- 'cellplanelaw14.PlaneCopies', WHERE WHAT IT READS IS OF BULK AT MOST 1048576: true; the input reads as it did. -/
def planeCopiesUptoRow : OpenClaim := { program := "ytpigpajgjdcagaagreat", sum := "669637af2f92f2a80490359c2a9fc689523eabf0bec7e5a5e237a08fcb637db0", func := "cellplane/cellplanelaw14.PlaneCopies", spec := "planeCopies", unfollowed := true, recurses := true, apart := false, narrowed := true }
def PlaneCopiesUptoSaid : Prop := planeCopiesUptoRow.holds Tryz.pinned (OpenSpec.upto planeCopiesSpec)

/-- 'cellplanelaw36.EvacuateRuns', WHERE WHAT IT READS IS OF BULK AT MOST 1048576: true; the input reads as it did. -/
def evacuateRunsUptoRow : OpenClaim := { program := "ytpigpajgjdcagaagreat", sum := "669637af2f92f2a80490359c2a9fc689523eabf0bec7e5a5e237a08fcb637db0", func := "cellplane/cellplanelaw36.EvacuateRuns", spec := "evacuateRuns", unfollowed := true, recurses := true, apart := false, narrowed := true }
def EvacuateRunsUptoSaid : Prop := evacuateRunsUptoRow.holds Tryz.pinned (OpenSpec.upto evacuateRunsSpec)

/-- 'cellplanelaw36.EvacuateParts', WHERE WHAT IT READS IS OF BULK AT MOST 1048576: true; the input reads as it did. -/
def evacuatePartsUptoRow : OpenClaim := { program := "ytpigpajgjdcagaagreat", sum := "669637af2f92f2a80490359c2a9fc689523eabf0bec7e5a5e237a08fcb637db0", func := "cellplane/cellplanelaw36.EvacuateParts", spec := "evacuateParts", unfollowed := true, recurses := true, apart := false, narrowed := true }
def EvacuatePartsUptoSaid : Prop := evacuatePartsUptoRow.holds Tryz.pinned (OpenSpec.upto evacuatePartsSpec)

/-- 'cellplanelaw36.EvacuateQuorum', WHERE WHAT IT READS IS OF BULK AT MOST 1048576: true; the input reads as it did. -/
def evacuateQuorumUptoRow : OpenClaim := { program := "ytpigpajgjdcagaagreat", sum := "669637af2f92f2a80490359c2a9fc689523eabf0bec7e5a5e237a08fcb637db0", func := "cellplane/cellplanelaw36.EvacuateQuorum", spec := "evacuateQuorum", unfollowed := true, recurses := true, apart := false, narrowed := true }
def EvacuateQuorumUptoSaid : Prop := evacuateQuorumUptoRow.holds Tryz.pinned (OpenSpec.upto evacuateQuorumSpec)

end Rows
end Go.Proofs.YtpigpajgjdcagaaGreat
