/-
  No cell of these rows narrows 'for every input' (looked for: loops, veiled, ifaces, maps, wideKeys, modest, calm, conditions, laid).
  DERIVED. THE GIVEN ROWS OF THIS SEAT. 14 by the template 'for every input the law returns true; each argument reads behind the call as it read before'; 0 by the template 'total and deterministic' (their statements: YtjpnpaboahbncaaTotals.lean).
  GIVEN WITH THE SEED: the statements are not yours to turn. If you find one false, say at which input.
  Laid BY PROGRAM, IN A SANDBOX (cutbox-rows.mjs): the forced cells as the released guide's own fill.sh prints them over the translation af880ca7a3929d7b… (all of the seat's roots in one cut). By AI agents, Wed Nov 11 2026. No macro, syntax, notation, axiom, sorry.
-/
import Derived.Test.YtjpnpaboahbncaaChecked
import GoSem.Claim
import GoSem.ClaimJoined
import GoSem.ClaimMapViews
import Derived.JoinedTies
import Derived.KernelRfl
namespace Go.Proofs.Ytjpnpaboahbncaa
/- THE CELL 'sum', in the pinned program and in every row, IS THE sha256 OF THE DUMP (.gsa) THAT YtjpnpaboahbncaaProg.lean LOADS. Nothing in Lean hashes anything: it is a label: what it is worth is what the hold of that sum in a sandbox is worth. -/
noncomputable def Try.pinned : Pinned := { name := "ytjpnpaboahbncaa", sum := "af880ca7a3929d7bcb45cc1a4d442a1336c01c8c3696f8e4f2f82f9d1f8861f6", checked := Try.checked }
namespace Rows
def none {H : Type} : Left H := { results := [], args := [] }

/-- 'worksteallaw08.MachineRuns': WHATEVER THE INPUT: true; the input reads as it did. -/
def machineRunsSpec : ChangeSpec := { name := "machineRuns", fn := fun _ => fun
  | [d1, d2, d3] => { results := [.lit (.bool true)], args := [d1, d2, d3] }
  | _ => none }
def machineRunsRow : OpenClaim := { program := "ytjpnpaboahbncaa", sum := "af880ca7a3929d7bcb45cc1a4d442a1336c01c8c3696f8e4f2f82f9d1f8861f6", func := "worksteal/worksteallaw08.MachineRuns", spec := "machineRuns", unfollowed := true, recurses := true, apart := false }
def MachineRunsSaid : Prop := machineRunsRow.holds Try.pinned (OpenSpec.ofChange machineRunsSpec)

/-- ITS FALSE NEIGHBOUR: 'it returns false'. Refute it at one input. -/
def machineRunsWrong : ChangeSpec := { name := "machineRuns", fn := fun _ => fun
  | [d1, d2, d3] => { results := [.lit (.bool false)], args := [d1, d2, d3] }
  | _ => none }
def MachineRunsWrongFalsely : Prop := machineRunsRow.holds Try.pinned (OpenSpec.ofChange machineRunsWrong)

/-- 'worksteallaw22.ProbeChooses': WHATEVER THE INPUT: true; the input reads as it did. -/
def probeChoosesSpec : ChangeSpec := { name := "probeChooses", fn := fun _ => fun
  | [d1, d2, d3, d4] => { results := [.lit (.bool true)], args := [d1, d2, d3, d4] }
  | _ => none }
def probeChoosesRow : OpenClaim := { program := "ytjpnpaboahbncaa", sum := "af880ca7a3929d7bcb45cc1a4d442a1336c01c8c3696f8e4f2f82f9d1f8861f6", func := "worksteal/worksteallaw22.ProbeChooses", spec := "probeChooses", apart := false }
def ProbeChoosesSaid : Prop := probeChoosesRow.holds Try.pinned (OpenSpec.ofChange probeChoosesSpec)

/-- ITS FALSE NEIGHBOUR: 'it returns false'. Refute it at one input. -/
def probeChoosesWrong : ChangeSpec := { name := "probeChooses", fn := fun _ => fun
  | [d1, d2, d3, d4] => { results := [.lit (.bool false)], args := [d1, d2, d3, d4] }
  | _ => none }
def ProbeChoosesWrongFalsely : Prop := probeChoosesRow.holds Try.pinned (OpenSpec.ofChange probeChoosesWrong)

/-- 'worksteallaw22.ProbeBest': WHATEVER THE INPUT: true; the input reads as it did. -/
def probeBestSpec : ChangeSpec := { name := "probeBest", fn := fun _ => fun
  | [d1, d2, d3] => { results := [.lit (.bool true)], args := [d1, d2, d3] }
  | _ => none }
def probeBestRow : OpenClaim := { program := "ytjpnpaboahbncaa", sum := "af880ca7a3929d7bcb45cc1a4d442a1336c01c8c3696f8e4f2f82f9d1f8861f6", func := "worksteal/worksteallaw22.ProbeBest", spec := "probeBest", apart := false }
def ProbeBestSaid : Prop := probeBestRow.holds Try.pinned (OpenSpec.ofChange probeBestSpec)

/-- ITS FALSE NEIGHBOUR: 'it returns false'. Refute it at one input. -/
def probeBestWrong : ChangeSpec := { name := "probeBest", fn := fun _ => fun
  | [d1, d2, d3] => { results := [.lit (.bool false)], args := [d1, d2, d3] }
  | _ => none }
def ProbeBestWrongFalsely : Prop := probeBestRow.holds Try.pinned (OpenSpec.ofChange probeBestWrong)

/-- 'worksteallaw08.MachineInterleaves': WHATEVER THE INPUT: true; the input reads as it did. -/
def machineInterleavesSpec : ChangeSpec := { name := "machineInterleaves", fn := fun _ => fun
  | [d1, d2] => { results := [.lit (.bool true)], args := [d1, d2] }
  | _ => none }
def machineInterleavesRow : OpenClaim := { program := "ytjpnpaboahbncaa", sum := "af880ca7a3929d7bcb45cc1a4d442a1336c01c8c3696f8e4f2f82f9d1f8861f6", func := "worksteal/worksteallaw08.MachineInterleaves", spec := "machineInterleaves", unfollowed := true, recurses := true, apart := false }
def MachineInterleavesSaid : Prop := machineInterleavesRow.holds Try.pinned (OpenSpec.ofChange machineInterleavesSpec)

/-- ITS FALSE NEIGHBOUR: 'it returns false'. Refute it at one input. -/
def machineInterleavesWrong : ChangeSpec := { name := "machineInterleaves", fn := fun _ => fun
  | [d1, d2] => { results := [.lit (.bool false)], args := [d1, d2] }
  | _ => none }
def MachineInterleavesWrongFalsely : Prop := machineInterleavesRow.holds Try.pinned (OpenSpec.ofChange machineInterleavesWrong)

/-- 'worksteallaw08.MachineEmits': WHATEVER THE INPUT: true; the input reads as it did. -/
def machineEmitsSpec : ChangeSpec := { name := "machineEmits", fn := fun _ => fun
  | [d] => { results := [.lit (.bool true)], args := [d] }
  | _ => none }
def machineEmitsRow : OpenClaim := { program := "ytjpnpaboahbncaa", sum := "af880ca7a3929d7bcb45cc1a4d442a1336c01c8c3696f8e4f2f82f9d1f8861f6", func := "worksteal/worksteallaw08.MachineEmits", spec := "machineEmits", unfollowed := true, recurses := true, apart := false }
def MachineEmitsSaid : Prop := machineEmitsRow.holds Try.pinned (OpenSpec.ofChange machineEmitsSpec)

/-- ITS FALSE NEIGHBOUR: 'it returns false'. Refute it at one input. -/
def machineEmitsWrong : ChangeSpec := { name := "machineEmits", fn := fun _ => fun
  | [d] => { results := [.lit (.bool false)], args := [d] }
  | _ => none }
def MachineEmitsWrongFalsely : Prop := machineEmitsRow.holds Try.pinned (OpenSpec.ofChange machineEmitsWrong)

/-- 'worksteallaw06.LayoutOutside': WHATEVER THE INPUT: true; the input reads as it did. -/
def layoutOutsideSpec : ChangeSpec := { name := "layoutOutside", fn := fun _ => fun
  | [d1, d2] => { results := [.lit (.bool true)], args := [d1, d2] }
  | _ => none }
def layoutOutsideRow : OpenClaim := { program := "ytjpnpaboahbncaa", sum := "af880ca7a3929d7bcb45cc1a4d442a1336c01c8c3696f8e4f2f82f9d1f8861f6", func := "worksteal/worksteallaw06.LayoutOutside", spec := "layoutOutside", apart := false }
def LayoutOutsideSaid : Prop := layoutOutsideRow.holds Try.pinned (OpenSpec.ofChange layoutOutsideSpec)

/-- ITS FALSE NEIGHBOUR: 'it returns false'. Refute it at one input. -/
def layoutOutsideWrong : ChangeSpec := { name := "layoutOutside", fn := fun _ => fun
  | [d1, d2] => { results := [.lit (.bool false)], args := [d1, d2] }
  | _ => none }
def LayoutOutsideWrongFalsely : Prop := layoutOutsideRow.holds Try.pinned (OpenSpec.ofChange layoutOutsideWrong)

/-- 'worksteallaw06.LayoutCells': WHATEVER THE INPUT: true; the input reads as it did. -/
def layoutCellsSpec : ChangeSpec := { name := "layoutCells", fn := fun _ => fun
  | [d1, d2, d3, d4] => { results := [.lit (.bool true)], args := [d1, d2, d3, d4] }
  | _ => none }
def layoutCellsRow : OpenClaim := { program := "ytjpnpaboahbncaa", sum := "af880ca7a3929d7bcb45cc1a4d442a1336c01c8c3696f8e4f2f82f9d1f8861f6", func := "worksteal/worksteallaw06.LayoutCells", spec := "layoutCells", apart := false }
def LayoutCellsSaid : Prop := layoutCellsRow.holds Try.pinned (OpenSpec.ofChange layoutCellsSpec)

/-- ITS FALSE NEIGHBOUR: 'it returns false'. Refute it at one input. -/
def layoutCellsWrong : ChangeSpec := { name := "layoutCells", fn := fun _ => fun
  | [d1, d2, d3, d4] => { results := [.lit (.bool false)], args := [d1, d2, d3, d4] }
  | _ => none }
def LayoutCellsWrongFalsely : Prop := layoutCellsRow.holds Try.pinned (OpenSpec.ofChange layoutCellsWrong)

/-- 'worksteallaw06.LayoutWhole': WHATEVER THE INPUT: true; the input reads as it did. -/
def layoutWholeSpec : ChangeSpec := { name := "layoutWhole", fn := fun _ => fun
  | [d] => { results := [.lit (.bool true)], args := [d] }
  | _ => none }
def layoutWholeRow : OpenClaim := { program := "ytjpnpaboahbncaa", sum := "af880ca7a3929d7bcb45cc1a4d442a1336c01c8c3696f8e4f2f82f9d1f8861f6", func := "worksteal/worksteallaw06.LayoutWhole", spec := "layoutWhole", apart := false }
def LayoutWholeSaid : Prop := layoutWholeRow.holds Try.pinned (OpenSpec.ofChange layoutWholeSpec)

/-- ITS FALSE NEIGHBOUR: 'it returns false'. Refute it at one input. -/
def layoutWholeWrong : ChangeSpec := { name := "layoutWhole", fn := fun _ => fun
  | [d] => { results := [.lit (.bool false)], args := [d] }
  | _ => none }
def LayoutWholeWrongFalsely : Prop := layoutWholeRow.holds Try.pinned (OpenSpec.ofChange layoutWholeWrong)

/-- 'worksteallaw05.ConfigChecks': WHATEVER THE INPUT: true; the input reads as it did. -/
def configChecksSpec : ChangeSpec := { name := "configChecks", fn := fun _ => fun
  | [d1, d2, d3, d4, d5] => { results := [.lit (.bool true)], args := [d1, d2, d3, d4, d5] }
  | _ => none }
def configChecksRow : OpenClaim := { program := "ytjpnpaboahbncaa", sum := "af880ca7a3929d7bcb45cc1a4d442a1336c01c8c3696f8e4f2f82f9d1f8861f6", func := "worksteal/worksteallaw05.ConfigChecks", spec := "configChecks", apart := false }
def ConfigChecksSaid : Prop := configChecksRow.holds Try.pinned (OpenSpec.ofChange configChecksSpec)

/-- ITS FALSE NEIGHBOUR: 'it returns false'. Refute it at one input. -/
def configChecksWrong : ChangeSpec := { name := "configChecks", fn := fun _ => fun
  | [d1, d2, d3, d4, d5] => { results := [.lit (.bool false)], args := [d1, d2, d3, d4, d5] }
  | _ => none }
def ConfigChecksWrongFalsely : Prop := configChecksRow.holds Try.pinned (OpenSpec.ofChange configChecksWrong)

/-- 'worksteallaw05.ConfigDecodes': WHATEVER THE INPUT: true; the input reads as it did. -/
def configDecodesSpec : ChangeSpec := { name := "configDecodes", fn := fun _ => fun
  | [d] => { results := [.lit (.bool true)], args := [d] }
  | _ => none }
def configDecodesRow : OpenClaim := { program := "ytjpnpaboahbncaa", sum := "af880ca7a3929d7bcb45cc1a4d442a1336c01c8c3696f8e4f2f82f9d1f8861f6", func := "worksteal/worksteallaw05.ConfigDecodes", spec := "configDecodes", apart := false }
def ConfigDecodesSaid : Prop := configDecodesRow.holds Try.pinned (OpenSpec.ofChange configDecodesSpec)

/-- ITS FALSE NEIGHBOUR: 'it returns false'. Refute it at one input. -/
def configDecodesWrong : ChangeSpec := { name := "configDecodes", fn := fun _ => fun
  | [d] => { results := [.lit (.bool false)], args := [d] }
  | _ => none }
def ConfigDecodesWrongFalsely : Prop := configDecodesRow.holds Try.pinned (OpenSpec.ofChange configDecodesWrong)

/-- 'worksteallaw08.MachineEnvs': WHATEVER THE INPUT: true; the input reads as it did. -/
def machineEnvsSpec : ChangeSpec := { name := "machineEnvs", fn := fun _ => fun
  | [d1, d2, d3] => { results := [.lit (.bool true)], args := [d1, d2, d3] }
  | _ => none }
def machineEnvsRow : OpenClaim := { program := "ytjpnpaboahbncaa", sum := "af880ca7a3929d7bcb45cc1a4d442a1336c01c8c3696f8e4f2f82f9d1f8861f6", func := "worksteal/worksteallaw08.MachineEnvs", spec := "machineEnvs", unfollowed := true, recurses := true, apart := false }
def MachineEnvsSaid : Prop := machineEnvsRow.holds Try.pinned (OpenSpec.ofChange machineEnvsSpec)

/-- ITS FALSE NEIGHBOUR: 'it returns false'. Refute it at one input. -/
def machineEnvsWrong : ChangeSpec := { name := "machineEnvs", fn := fun _ => fun
  | [d1, d2, d3] => { results := [.lit (.bool false)], args := [d1, d2, d3] }
  | _ => none }
def MachineEnvsWrongFalsely : Prop := machineEnvsRow.holds Try.pinned (OpenSpec.ofChange machineEnvsWrong)

/-- 'worksteallaw05.ConfigCopies': WHATEVER THE INPUT: true; the input reads as it did. -/
def configCopiesSpec : ChangeSpec := { name := "configCopies", fn := fun _ => fun
  | [d1, d2, d3, d4, d5] => { results := [.lit (.bool true)], args := [d1, d2, d3, d4, d5] }
  | _ => none }
def configCopiesRow : OpenClaim := { program := "ytjpnpaboahbncaa", sum := "af880ca7a3929d7bcb45cc1a4d442a1336c01c8c3696f8e4f2f82f9d1f8861f6", func := "worksteal/worksteallaw05.ConfigCopies", spec := "configCopies", unfollowed := true, recurses := true, apart := false }
def ConfigCopiesSaid : Prop := configCopiesRow.holds Try.pinned (OpenSpec.ofChange configCopiesSpec)

/-- ITS FALSE NEIGHBOUR: 'it returns false'. Refute it at one input. -/
def configCopiesWrong : ChangeSpec := { name := "configCopies", fn := fun _ => fun
  | [d1, d2, d3, d4, d5] => { results := [.lit (.bool false)], args := [d1, d2, d3, d4, d5] }
  | _ => none }
def ConfigCopiesWrongFalsely : Prop := configCopiesRow.holds Try.pinned (OpenSpec.ofChange configCopiesWrong)

/-- 'worksteallaw05.ConfigEncodes': WHATEVER THE INPUT: true; the input reads as it did. -/
def configEncodesSpec : ChangeSpec := { name := "configEncodes", fn := fun _ => fun
  | [d1, d2, d3, d4] => { results := [.lit (.bool true)], args := [d1, d2, d3, d4] }
  | _ => none }
def configEncodesRow : OpenClaim := { program := "ytjpnpaboahbncaa", sum := "af880ca7a3929d7bcb45cc1a4d442a1336c01c8c3696f8e4f2f82f9d1f8861f6", func := "worksteal/worksteallaw05.ConfigEncodes", spec := "configEncodes", apart := false }
def ConfigEncodesSaid : Prop := configEncodesRow.holds Try.pinned (OpenSpec.ofChange configEncodesSpec)

/-- ITS FALSE NEIGHBOUR: 'it returns false'. Refute it at one input. -/
def configEncodesWrong : ChangeSpec := { name := "configEncodes", fn := fun _ => fun
  | [d1, d2, d3, d4] => { results := [.lit (.bool false)], args := [d1, d2, d3, d4] }
  | _ => none }
def ConfigEncodesWrongFalsely : Prop := configEncodesRow.holds Try.pinned (OpenSpec.ofChange configEncodesWrong)

/-- 'worksteallaw05.ConfigRound': WHATEVER THE INPUT: true; the input reads as it did. -/
def configRoundSpec : ChangeSpec := { name := "configRound", fn := fun _ => fun
  | [d1, d2] => { results := [.lit (.bool true)], args := [d1, d2] }
  | _ => none }
def configRoundRow : OpenClaim := { program := "ytjpnpaboahbncaa", sum := "af880ca7a3929d7bcb45cc1a4d442a1336c01c8c3696f8e4f2f82f9d1f8861f6", func := "worksteal/worksteallaw05.ConfigRound", spec := "configRound", apart := false }
def ConfigRoundSaid : Prop := configRoundRow.holds Try.pinned (OpenSpec.ofChange configRoundSpec)

/-- ITS FALSE NEIGHBOUR: 'it returns false'. Refute it at one input. -/
def configRoundWrong : ChangeSpec := { name := "configRound", fn := fun _ => fun
  | [d1, d2] => { results := [.lit (.bool false)], args := [d1, d2] }
  | _ => none }
def ConfigRoundWrongFalsely : Prop := configRoundRow.holds Try.pinned (OpenSpec.ofChange configRoundWrong)

/- THE SECOND FORM. 'bulk': how many values and letters a reading holds, each counted each time it is reached (what is shared counts as often as it is met; a slice's spare places count too). A statement '..UptoSaid' is the law's where the arguments, and the package variables that the reading takes, are together of bulk at most 1048576: NARROWER than '..Said'. Prove '..Said' where nothing that the law and all that it calls make is longer than what came in: it says more and counts as full. Else prove '..UptoSaid'. A law counts once. -/
mutual
def uptoBulk {H : Type} : DataW H → Nat
  | .lit (.string bytes) => bytes.length + 1
  | .lit _ => 1
  | .nil => 1
  | .ptr d => uptoBulk d + 1
  | .slice elems spare => uptoBulkAll elems + uptoBulkAll spare + 1
  | .agg parts => uptoBulkAll parts + 1
  | .iface _ d => uptoBulk d + 1
  | .map entries => uptoBulkEntries entries + 1
  | .held _ => 1
def uptoBulkAll {H : Type} : List (DataW H) → Nat
  | [] => 0
  | d :: r => uptoBulk d + uptoBulkAll r
def uptoBulkEntries {H : Type} : List (Lit × DataW H) → Nat
  | [] => 0
  | x :: r => uptoBulkEntry x + uptoBulkEntries r
def uptoBulkEntry {H : Type} : Lit × DataW H → Nat
  | (.string bytes, d) => bytes.length + uptoBulk d + 1
  | (_, d) => uptoBulk d + 1
 end
def uptoSmall : (H : Type) → List (DataW H) → Bool := fun _ ds => decide (uptoBulkAll ds ≤ 1048576)
def OpenSpec.upto (s : _root_.Go.ChangeSpec) : _root_.Go.OpenSpec := { _root_.Go.OpenSpec.ofChange s with cond := some uptoSmall }

/-- 'worksteallaw08.MachineRuns', WHERE WHAT IT READS IS OF BULK AT MOST 1048576: true; the input reads as it did. -/
def machineRunsUptoRow : OpenClaim := { program := "ytjpnpaboahbncaa", sum := "af880ca7a3929d7bcb45cc1a4d442a1336c01c8c3696f8e4f2f82f9d1f8861f6", func := "worksteal/worksteallaw08.MachineRuns", spec := "machineRuns", unfollowed := true, recurses := true, apart := false, narrowed := true }
def MachineRunsUptoSaid : Prop := machineRunsUptoRow.holds Try.pinned (OpenSpec.upto machineRunsSpec)

/-- 'worksteallaw22.ProbeChooses', WHERE WHAT IT READS IS OF BULK AT MOST 1048576: true; the input reads as it did. -/
def probeChoosesUptoRow : OpenClaim := { program := "ytjpnpaboahbncaa", sum := "af880ca7a3929d7bcb45cc1a4d442a1336c01c8c3696f8e4f2f82f9d1f8861f6", func := "worksteal/worksteallaw22.ProbeChooses", spec := "probeChooses", apart := false, narrowed := true }
def ProbeChoosesUptoSaid : Prop := probeChoosesUptoRow.holds Try.pinned (OpenSpec.upto probeChoosesSpec)

/-- 'worksteallaw22.ProbeBest', WHERE WHAT IT READS IS OF BULK AT MOST 1048576: true; the input reads as it did. -/
def probeBestUptoRow : OpenClaim := { program := "ytjpnpaboahbncaa", sum := "af880ca7a3929d7bcb45cc1a4d442a1336c01c8c3696f8e4f2f82f9d1f8861f6", func := "worksteal/worksteallaw22.ProbeBest", spec := "probeBest", apart := false, narrowed := true }
def ProbeBestUptoSaid : Prop := probeBestUptoRow.holds Try.pinned (OpenSpec.upto probeBestSpec)

/-- 'worksteallaw08.MachineInterleaves', WHERE WHAT IT READS IS OF BULK AT MOST 1048576: true; the input reads as it did. -/
def machineInterleavesUptoRow : OpenClaim := { program := "ytjpnpaboahbncaa", sum := "af880ca7a3929d7bcb45cc1a4d442a1336c01c8c3696f8e4f2f82f9d1f8861f6", func := "worksteal/worksteallaw08.MachineInterleaves", spec := "machineInterleaves", unfollowed := true, recurses := true, apart := false, narrowed := true }
def MachineInterleavesUptoSaid : Prop := machineInterleavesUptoRow.holds Try.pinned (OpenSpec.upto machineInterleavesSpec)

/-- 'worksteallaw08.MachineEmits', WHERE WHAT IT READS IS OF BULK AT MOST 1048576: true; the input reads as it did. -/
def machineEmitsUptoRow : OpenClaim := { program := "ytjpnpaboahbncaa", sum := "af880ca7a3929d7bcb45cc1a4d442a1336c01c8c3696f8e4f2f82f9d1f8861f6", func := "worksteal/worksteallaw08.MachineEmits", spec := "machineEmits", unfollowed := true, recurses := true, apart := false, narrowed := true }
def MachineEmitsUptoSaid : Prop := machineEmitsUptoRow.holds Try.pinned (OpenSpec.upto machineEmitsSpec)

/-- 'worksteallaw06.LayoutOutside', WHERE WHAT IT READS IS OF BULK AT MOST 1048576: true; the input reads as it did. -/
def layoutOutsideUptoRow : OpenClaim := { program := "ytjpnpaboahbncaa", sum := "af880ca7a3929d7bcb45cc1a4d442a1336c01c8c3696f8e4f2f82f9d1f8861f6", func := "worksteal/worksteallaw06.LayoutOutside", spec := "layoutOutside", apart := false, narrowed := true }
def LayoutOutsideUptoSaid : Prop := layoutOutsideUptoRow.holds Try.pinned (OpenSpec.upto layoutOutsideSpec)

/-- 'worksteallaw06.LayoutCells', WHERE WHAT IT READS IS OF BULK AT MOST 1048576: true; the input reads as it did. -/
def layoutCellsUptoRow : OpenClaim := { program := "ytjpnpaboahbncaa", sum := "af880ca7a3929d7bcb45cc1a4d442a1336c01c8c3696f8e4f2f82f9d1f8861f6", func := "worksteal/worksteallaw06.LayoutCells", spec := "layoutCells", apart := false, narrowed := true }
def LayoutCellsUptoSaid : Prop := layoutCellsUptoRow.holds Try.pinned (OpenSpec.upto layoutCellsSpec)

/-- 'worksteallaw06.LayoutWhole', WHERE WHAT IT READS IS OF BULK AT MOST 1048576: true; the input reads as it did. -/
def layoutWholeUptoRow : OpenClaim := { program := "ytjpnpaboahbncaa", sum := "af880ca7a3929d7bcb45cc1a4d442a1336c01c8c3696f8e4f2f82f9d1f8861f6", func := "worksteal/worksteallaw06.LayoutWhole", spec := "layoutWhole", apart := false, narrowed := true }
def LayoutWholeUptoSaid : Prop := layoutWholeUptoRow.holds Try.pinned (OpenSpec.upto layoutWholeSpec)

/-- 'worksteallaw05.ConfigChecks', WHERE WHAT IT READS IS OF BULK AT MOST 1048576: true; the input reads as it did. -/
def configChecksUptoRow : OpenClaim := { program := "ytjpnpaboahbncaa", sum := "af880ca7a3929d7bcb45cc1a4d442a1336c01c8c3696f8e4f2f82f9d1f8861f6", func := "worksteal/worksteallaw05.ConfigChecks", spec := "configChecks", apart := false, narrowed := true }
def ConfigChecksUptoSaid : Prop := configChecksUptoRow.holds Try.pinned (OpenSpec.upto configChecksSpec)

/-- 'worksteallaw05.ConfigDecodes', WHERE WHAT IT READS IS OF BULK AT MOST 1048576: true; the input reads as it did. -/
def configDecodesUptoRow : OpenClaim := { program := "ytjpnpaboahbncaa", sum := "af880ca7a3929d7bcb45cc1a4d442a1336c01c8c3696f8e4f2f82f9d1f8861f6", func := "worksteal/worksteallaw05.ConfigDecodes", spec := "configDecodes", apart := false, narrowed := true }
def ConfigDecodesUptoSaid : Prop := configDecodesUptoRow.holds Try.pinned (OpenSpec.upto configDecodesSpec)

/-- 'worksteallaw08.MachineEnvs', WHERE WHAT IT READS IS OF BULK AT MOST 1048576: true; the input reads as it did. -/
def machineEnvsUptoRow : OpenClaim := { program := "ytjpnpaboahbncaa", sum := "af880ca7a3929d7bcb45cc1a4d442a1336c01c8c3696f8e4f2f82f9d1f8861f6", func := "worksteal/worksteallaw08.MachineEnvs", spec := "machineEnvs", unfollowed := true, recurses := true, apart := false, narrowed := true }
def MachineEnvsUptoSaid : Prop := machineEnvsUptoRow.holds Try.pinned (OpenSpec.upto machineEnvsSpec)

/-- 'worksteallaw05.ConfigCopies', WHERE WHAT IT READS IS OF BULK AT MOST 1048576: true; the input reads as it did. -/
def configCopiesUptoRow : OpenClaim := { program := "ytjpnpaboahbncaa", sum := "af880ca7a3929d7bcb45cc1a4d442a1336c01c8c3696f8e4f2f82f9d1f8861f6", func := "worksteal/worksteallaw05.ConfigCopies", spec := "configCopies", unfollowed := true, recurses := true, apart := false, narrowed := true }
def ConfigCopiesUptoSaid : Prop := configCopiesUptoRow.holds Try.pinned (OpenSpec.upto configCopiesSpec)

/-- 'worksteallaw05.ConfigEncodes', WHERE WHAT IT READS IS OF BULK AT MOST 1048576: true; the input reads as it did. -/
def configEncodesUptoRow : OpenClaim := { program := "ytjpnpaboahbncaa", sum := "af880ca7a3929d7bcb45cc1a4d442a1336c01c8c3696f8e4f2f82f9d1f8861f6", func := "worksteal/worksteallaw05.ConfigEncodes", spec := "configEncodes", apart := false, narrowed := true }
def ConfigEncodesUptoSaid : Prop := configEncodesUptoRow.holds Try.pinned (OpenSpec.upto configEncodesSpec)

/-- 'worksteallaw05.ConfigRound', WHERE WHAT IT READS IS OF BULK AT MOST 1048576: true; the input reads as it did. -/
def configRoundUptoRow : OpenClaim := { program := "ytjpnpaboahbncaa", sum := "af880ca7a3929d7bcb45cc1a4d442a1336c01c8c3696f8e4f2f82f9d1f8861f6", func := "worksteal/worksteallaw05.ConfigRound", spec := "configRound", apart := false, narrowed := true }
def ConfigRoundUptoSaid : Prop := configRoundUptoRow.holds Try.pinned (OpenSpec.upto configRoundSpec)

end Rows
end Go.Proofs.Ytjpnpaboahbncaa
