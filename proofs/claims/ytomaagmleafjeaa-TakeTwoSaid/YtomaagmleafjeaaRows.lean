/-
  No cell of these rows narrows 'for every input' (looked for: loops, veiled, ifaces, maps, wideKeys, modest, calm, conditions, laid).
  DERIVED. THE GIVEN ROWS OF THIS SEAT. 22 by the template 'for every input the law returns true; each argument reads behind the call as it read before'; 0 by the template 'total and deterministic' (their statements: YtomaagmleafjeaaTotals.lean).
  GIVEN WITH THE SEED: the statements are not yours to turn. If you find one false, say at which input.
  Laid BY PROGRAM, IN A SANDBOX (cutbox-rows.mjs): the forced cells as the released guide's own fill.sh prints them over the translation 6c6b9cd94ffa906e… (all of the seat's roots in one cut). By AI agents, Wed Nov 11 2026. No macro, syntax, notation, axiom, sorry.
-/
import Derived.Test.YtomaagmleafjeaaChecked
import GoSem.Claim
import GoSem.ClaimJoined
import GoSem.ClaimMapViews
import Derived.JoinedTies
import Derived.KernelRfl
namespace Go.Proofs.Ytomaagmleafjeaa
/- THE CELL 'sum', in the pinned program and in every row, IS THE sha256 OF THE DUMP (.gsa) THAT YtomaagmleafjeaaProg.lean LOADS. Nothing in Lean hashes anything: it is a label: what it is worth is what the hold of that sum in a sandbox is worth. -/
noncomputable def Try.pinned : Pinned := { name := "ytomaagmleafjeaa", sum := "6c6b9cd94ffa906e957585468c1fa71fa3a6da3adbe03d448bb374e61aa22236", checked := Try.checked }
namespace Rows
def none {H : Type} : Left H := { results := [], args := [] }

/-- 'worksteallaw17.OrderChecks': WHATEVER THE INPUT: true; the input reads as it did. -/
def orderChecksSpec : ChangeSpec := { name := "orderChecks", fn := fun _ => fun
  | [d1, d2, d3, d4] => { results := [.lit (.bool true)], args := [d1, d2, d3, d4] }
  | _ => none }
def orderChecksRow : OpenClaim := { program := "ytomaagmleafjeaa", sum := "6c6b9cd94ffa906e957585468c1fa71fa3a6da3adbe03d448bb374e61aa22236", func := "worksteal/worksteallaw17.OrderChecks", spec := "orderChecks", inPlace := ["slices.overlaps[worksteal/queue.Key]"], unfollowed := true, recurses := true, apart := false }
def OrderChecksSaid : Prop := orderChecksRow.holds Try.pinned (OpenSpec.ofChange orderChecksSpec)

/-- ITS FALSE NEIGHBOUR: 'it returns false'. Refute it at one input. -/
def orderChecksWrong : ChangeSpec := { name := "orderChecks", fn := fun _ => fun
  | [d1, d2, d3, d4] => { results := [.lit (.bool false)], args := [d1, d2, d3, d4] }
  | _ => none }
def OrderChecksWrongFalsely : Prop := orderChecksRow.holds Try.pinned (OpenSpec.ofChange orderChecksWrong)

/-- 'worksteallaw13.LevelsStacks': WHATEVER THE INPUT: true; the input reads as it did. -/
def levelsStacksSpec : ChangeSpec := { name := "levelsStacks", fn := fun _ => fun
  | [d1, d2, d3] => { results := [.lit (.bool true)], args := [d1, d2, d3] }
  | _ => none }
def levelsStacksRow : OpenClaim := { program := "ytomaagmleafjeaa", sum := "6c6b9cd94ffa906e957585468c1fa71fa3a6da3adbe03d448bb374e61aa22236", func := "worksteal/worksteallaw13.LevelsStacks", spec := "levelsStacks", unfollowed := true, recurses := true, apart := false }
def LevelsStacksSaid : Prop := levelsStacksRow.holds Try.pinned (OpenSpec.ofChange levelsStacksSpec)

/-- ITS FALSE NEIGHBOUR: 'it returns false'. Refute it at one input. -/
def levelsStacksWrong : ChangeSpec := { name := "levelsStacks", fn := fun _ => fun
  | [d1, d2, d3] => { results := [.lit (.bool false)], args := [d1, d2, d3] }
  | _ => none }
def LevelsStacksWrongFalsely : Prop := levelsStacksRow.holds Try.pinned (OpenSpec.ofChange levelsStacksWrong)

/-- 'worksteallaw13.LevelsApart': WHATEVER THE INPUT: true; the input reads as it did. -/
def levelsApartSpec : ChangeSpec := { name := "levelsApart", fn := fun _ => fun
  | [d1, d2, d3, d4] => { results := [.lit (.bool true)], args := [d1, d2, d3, d4] }
  | _ => none }
def levelsApartRow : OpenClaim := { program := "ytomaagmleafjeaa", sum := "6c6b9cd94ffa906e957585468c1fa71fa3a6da3adbe03d448bb374e61aa22236", func := "worksteal/worksteallaw13.LevelsApart", spec := "levelsApart", unfollowed := true, recurses := true, apart := false }
def LevelsApartSaid : Prop := levelsApartRow.holds Try.pinned (OpenSpec.ofChange levelsApartSpec)

/-- ITS FALSE NEIGHBOUR: 'it returns false'. Refute it at one input. -/
def levelsApartWrong : ChangeSpec := { name := "levelsApart", fn := fun _ => fun
  | [d1, d2, d3, d4] => { results := [.lit (.bool false)], args := [d1, d2, d3, d4] }
  | _ => none }
def LevelsApartWrongFalsely : Prop := levelsApartRow.holds Try.pinned (OpenSpec.ofChange levelsApartWrong)

/-- 'worksteallaw13.LevelsBits': WHATEVER THE INPUT: true; the input reads as it did. -/
def levelsBitsSpec : ChangeSpec := { name := "levelsBits", fn := fun _ => fun
  | [d1, d2] => { results := [.lit (.bool true)], args := [d1, d2] }
  | _ => none }
def levelsBitsRow : OpenClaim := { program := "ytomaagmleafjeaa", sum := "6c6b9cd94ffa906e957585468c1fa71fa3a6da3adbe03d448bb374e61aa22236", func := "worksteal/worksteallaw13.LevelsBits", spec := "levelsBits", unfollowed := true, recurses := true, apart := false }
def LevelsBitsSaid : Prop := levelsBitsRow.holds Try.pinned (OpenSpec.ofChange levelsBitsSpec)

/-- ITS FALSE NEIGHBOUR: 'it returns false'. Refute it at one input. -/
def levelsBitsWrong : ChangeSpec := { name := "levelsBits", fn := fun _ => fun
  | [d1, d2] => { results := [.lit (.bool false)], args := [d1, d2] }
  | _ => none }
def LevelsBitsWrongFalsely : Prop := levelsBitsRow.holds Try.pinned (OpenSpec.ofChange levelsBitsWrong)

/-- 'worksteallaw15.LockExclusive': WHATEVER THE INPUT: true; the input reads as it did. -/
def lockExclusiveSpec : ChangeSpec := { name := "lockExclusive", fn := fun _ => fun
  | [d1, d2] => { results := [.lit (.bool true)], args := [d1, d2] }
  | _ => none }
def lockExclusiveRow : OpenClaim := { program := "ytomaagmleafjeaa", sum := "6c6b9cd94ffa906e957585468c1fa71fa3a6da3adbe03d448bb374e61aa22236", func := "worksteal/worksteallaw15.LockExclusive", spec := "lockExclusive", unfollowed := true, recurses := true, apart := false }
def LockExclusiveSaid : Prop := lockExclusiveRow.holds Try.pinned (OpenSpec.ofChange lockExclusiveSpec)

/-- ITS FALSE NEIGHBOUR: 'it returns false'. Refute it at one input. -/
def lockExclusiveWrong : ChangeSpec := { name := "lockExclusive", fn := fun _ => fun
  | [d1, d2] => { results := [.lit (.bool false)], args := [d1, d2] }
  | _ => none }
def LockExclusiveWrongFalsely : Prop := lockExclusiveRow.holds Try.pinned (OpenSpec.ofChange lockExclusiveWrong)

/-- 'worksteallaw15.LockFree': WHATEVER THE INPUT: true; the input reads as it did. -/
def lockFreeSpec : ChangeSpec := { name := "lockFree", fn := fun _ => fun
  | [d1, d2] => { results := [.lit (.bool true)], args := [d1, d2] }
  | _ => none }
def lockFreeRow : OpenClaim := { program := "ytomaagmleafjeaa", sum := "6c6b9cd94ffa906e957585468c1fa71fa3a6da3adbe03d448bb374e61aa22236", func := "worksteal/worksteallaw15.LockFree", spec := "lockFree", unfollowed := true, recurses := true, apart := false }
def LockFreeSaid : Prop := lockFreeRow.holds Try.pinned (OpenSpec.ofChange lockFreeSpec)

/-- ITS FALSE NEIGHBOUR: 'it returns false'. Refute it at one input. -/
def lockFreeWrong : ChangeSpec := { name := "lockFree", fn := fun _ => fun
  | [d1, d2] => { results := [.lit (.bool false)], args := [d1, d2] }
  | _ => none }
def LockFreeWrongFalsely : Prop := lockFreeRow.holds Try.pinned (OpenSpec.ofChange lockFreeWrong)

/-- 'worksteallaw16.InjectorOrder': WHATEVER THE INPUT: true; the input reads as it did. -/
def injectorOrderSpec : ChangeSpec := { name := "injectorOrder", fn := fun _ => fun
  | [d] => { results := [.lit (.bool true)], args := [d] }
  | _ => none }
def injectorOrderRow : OpenClaim := { program := "ytomaagmleafjeaa", sum := "6c6b9cd94ffa906e957585468c1fa71fa3a6da3adbe03d448bb374e61aa22236", func := "worksteal/worksteallaw16.InjectorOrder", spec := "injectorOrder", unfollowed := true, recurses := true, apart := false }
def InjectorOrderSaid : Prop := injectorOrderRow.holds Try.pinned (OpenSpec.ofChange injectorOrderSpec)

/-- ITS FALSE NEIGHBOUR: 'it returns false'. Refute it at one input. -/
def injectorOrderWrong : ChangeSpec := { name := "injectorOrder", fn := fun _ => fun
  | [d] => { results := [.lit (.bool false)], args := [d] }
  | _ => none }
def InjectorOrderWrongFalsely : Prop := injectorOrderRow.holds Try.pinned (OpenSpec.ofChange injectorOrderWrong)

/-- 'worksteallaw16.InjectorHeaps': WHATEVER THE INPUT: true; the input reads as it did. -/
def injectorHeapsSpec : ChangeSpec := { name := "injectorHeaps", fn := fun _ => fun
  | [d1, d2] => { results := [.lit (.bool true)], args := [d1, d2] }
  | _ => none }
def injectorHeapsRow : OpenClaim := { program := "ytomaagmleafjeaa", sum := "6c6b9cd94ffa906e957585468c1fa71fa3a6da3adbe03d448bb374e61aa22236", func := "worksteal/worksteallaw16.InjectorHeaps", spec := "injectorHeaps", unfollowed := true, recurses := true, apart := false }
def InjectorHeapsSaid : Prop := injectorHeapsRow.holds Try.pinned (OpenSpec.ofChange injectorHeapsSpec)

/-- ITS FALSE NEIGHBOUR: 'it returns false'. Refute it at one input. -/
def injectorHeapsWrong : ChangeSpec := { name := "injectorHeaps", fn := fun _ => fun
  | [d1, d2] => { results := [.lit (.bool false)], args := [d1, d2] }
  | _ => none }
def InjectorHeapsWrongFalsely : Prop := injectorHeapsRow.holds Try.pinned (OpenSpec.ofChange injectorHeapsWrong)

/-- 'worksteallaw18.TableNumbers': WHATEVER THE INPUT: true; the input reads as it did. -/
def tableNumbersSpec : ChangeSpec := { name := "tableNumbers", fn := fun _ => fun
  | [d1, d2] => { results := [.lit (.bool true)], args := [d1, d2] }
  | _ => none }
def tableNumbersRow : OpenClaim := { program := "ytomaagmleafjeaa", sum := "6c6b9cd94ffa906e957585468c1fa71fa3a6da3adbe03d448bb374e61aa22236", func := "worksteal/worksteallaw18.TableNumbers", spec := "tableNumbers", unfollowed := true, recurses := true, apart := false }
def TableNumbersSaid : Prop := tableNumbersRow.holds Try.pinned (OpenSpec.ofChange tableNumbersSpec)

/-- ITS FALSE NEIGHBOUR: 'it returns false'. Refute it at one input. -/
def tableNumbersWrong : ChangeSpec := { name := "tableNumbers", fn := fun _ => fun
  | [d1, d2] => { results := [.lit (.bool false)], args := [d1, d2] }
  | _ => none }
def TableNumbersWrongFalsely : Prop := tableNumbersRow.holds Try.pinned (OpenSpec.ofChange tableNumbersWrong)

/-- 'worksteallaw18.TableOnce': WHATEVER THE INPUT: true; the input reads as it did. -/
def tableOnceSpec : ChangeSpec := { name := "tableOnce", fn := fun _ => fun
  | [d] => { results := [.lit (.bool true)], args := [d] }
  | _ => none }
def tableOnceRow : OpenClaim := { program := "ytomaagmleafjeaa", sum := "6c6b9cd94ffa906e957585468c1fa71fa3a6da3adbe03d448bb374e61aa22236", func := "worksteal/worksteallaw18.TableOnce", spec := "tableOnce", unfollowed := true, recurses := true, apart := false }
def TableOnceSaid : Prop := tableOnceRow.holds Try.pinned (OpenSpec.ofChange tableOnceSpec)

/-- ITS FALSE NEIGHBOUR: 'it returns false'. Refute it at one input. -/
def tableOnceWrong : ChangeSpec := { name := "tableOnce", fn := fun _ => fun
  | [d] => { results := [.lit (.bool false)], args := [d] }
  | _ => none }
def TableOnceWrongFalsely : Prop := tableOnceRow.holds Try.pinned (OpenSpec.ofChange tableOnceWrong)

/-- 'worksteallaw19.BoostChains': WHATEVER THE INPUT: true; the input reads as it did. -/
def boostChainsSpec : ChangeSpec := { name := "boostChains", fn := fun _ => fun
  | [d1, d2, d3] => { results := [.lit (.bool true)], args := [d1, d2, d3] }
  | _ => none }
def boostChainsRow : OpenClaim := { program := "ytomaagmleafjeaa", sum := "6c6b9cd94ffa906e957585468c1fa71fa3a6da3adbe03d448bb374e61aa22236", func := "worksteal/worksteallaw19.BoostChains", spec := "boostChains", unfollowed := true, recurses := true, apart := false }
def BoostChainsSaid : Prop := boostChainsRow.holds Try.pinned (OpenSpec.ofChange boostChainsSpec)

/-- ITS FALSE NEIGHBOUR: 'it returns false'. Refute it at one input. -/
def boostChainsWrong : ChangeSpec := { name := "boostChains", fn := fun _ => fun
  | [d1, d2, d3] => { results := [.lit (.bool false)], args := [d1, d2, d3] }
  | _ => none }
def BoostChainsWrongFalsely : Prop := boostChainsRow.holds Try.pinned (OpenSpec.ofChange boostChainsWrong)

/-- 'worksteallaw20.AgingOnly': WHATEVER THE INPUT: true; the input reads as it did. -/
def agingOnlySpec : ChangeSpec := { name := "agingOnly", fn := fun _ => fun
  | [d1, d2, d3] => { results := [.lit (.bool true)], args := [d1, d2, d3] }
  | _ => none }
def agingOnlyRow : OpenClaim := { program := "ytomaagmleafjeaa", sum := "6c6b9cd94ffa906e957585468c1fa71fa3a6da3adbe03d448bb374e61aa22236", func := "worksteal/worksteallaw20.AgingOnly", spec := "agingOnly", unfollowed := true, recurses := true, apart := false }
def AgingOnlySaid : Prop := agingOnlyRow.holds Try.pinned (OpenSpec.ofChange agingOnlySpec)

/-- ITS FALSE NEIGHBOUR: 'it returns false'. Refute it at one input. -/
def agingOnlyWrong : ChangeSpec := { name := "agingOnly", fn := fun _ => fun
  | [d1, d2, d3] => { results := [.lit (.bool false)], args := [d1, d2, d3] }
  | _ => none }
def AgingOnlyWrongFalsely : Prop := agingOnlyRow.holds Try.pinned (OpenSpec.ofChange agingOnlyWrong)

/-- 'worksteallaw20.AgingClimbs': WHATEVER THE INPUT: true; the input reads as it did. -/
def agingClimbsSpec : ChangeSpec := { name := "agingClimbs", fn := fun _ => fun
  | [d1, d2] => { results := [.lit (.bool true)], args := [d1, d2] }
  | _ => none }
def agingClimbsRow : OpenClaim := { program := "ytomaagmleafjeaa", sum := "6c6b9cd94ffa906e957585468c1fa71fa3a6da3adbe03d448bb374e61aa22236", func := "worksteal/worksteallaw20.AgingClimbs", spec := "agingClimbs", unfollowed := true, recurses := true, apart := false }
def AgingClimbsSaid : Prop := agingClimbsRow.holds Try.pinned (OpenSpec.ofChange agingClimbsSpec)

/-- ITS FALSE NEIGHBOUR: 'it returns false'. Refute it at one input. -/
def agingClimbsWrong : ChangeSpec := { name := "agingClimbs", fn := fun _ => fun
  | [d1, d2] => { results := [.lit (.bool false)], args := [d1, d2] }
  | _ => none }
def AgingClimbsWrongFalsely : Prop := agingClimbsRow.holds Try.pinned (OpenSpec.ofChange agingClimbsWrong)

/-- 'worksteallaw20.AgingWhen': WHATEVER THE INPUT: true; the input reads as it did. -/
def agingWhenSpec : ChangeSpec := { name := "agingWhen", fn := fun _ => fun
  | [d1, d2, d3, d4, d5] => { results := [.lit (.bool true)], args := [d1, d2, d3, d4, d5] }
  | _ => none }
def agingWhenRow : OpenClaim := { program := "ytomaagmleafjeaa", sum := "6c6b9cd94ffa906e957585468c1fa71fa3a6da3adbe03d448bb374e61aa22236", func := "worksteal/worksteallaw20.AgingWhen", spec := "agingWhen", unfollowed := true, recurses := true, apart := false }
def AgingWhenSaid : Prop := agingWhenRow.holds Try.pinned (OpenSpec.ofChange agingWhenSpec)

/-- ITS FALSE NEIGHBOUR: 'it returns false'. Refute it at one input. -/
def agingWhenWrong : ChangeSpec := { name := "agingWhen", fn := fun _ => fun
  | [d1, d2, d3, d4, d5] => { results := [.lit (.bool false)], args := [d1, d2, d3, d4, d5] }
  | _ => none }
def AgingWhenWrongFalsely : Prop := agingWhenRow.holds Try.pinned (OpenSpec.ofChange agingWhenWrong)

/-- 'worksteallaw21.ParkMeets': WHATEVER THE INPUT: true; the input reads as it did. -/
def parkMeetsSpec : ChangeSpec := { name := "parkMeets", fn := fun _ => fun
  | [d1, d2, d3] => { results := [.lit (.bool true)], args := [d1, d2, d3] }
  | _ => none }
def parkMeetsRow : OpenClaim := { program := "ytomaagmleafjeaa", sum := "6c6b9cd94ffa906e957585468c1fa71fa3a6da3adbe03d448bb374e61aa22236", func := "worksteal/worksteallaw21.ParkMeets", spec := "parkMeets", unfollowed := true, recurses := true, apart := false }
def ParkMeetsSaid : Prop := parkMeetsRow.holds Try.pinned (OpenSpec.ofChange parkMeetsSpec)

/-- ITS FALSE NEIGHBOUR: 'it returns false'. Refute it at one input. -/
def parkMeetsWrong : ChangeSpec := { name := "parkMeets", fn := fun _ => fun
  | [d1, d2, d3] => { results := [.lit (.bool false)], args := [d1, d2, d3] }
  | _ => none }
def ParkMeetsWrongFalsely : Prop := parkMeetsRow.holds Try.pinned (OpenSpec.ofChange parkMeetsWrong)

/-- 'worksteallaw21.ParkAsleep': WHATEVER THE INPUT: true; the input reads as it did. -/
def parkAsleepSpec : ChangeSpec := { name := "parkAsleep", fn := fun _ => fun
  | [d1, d2] => { results := [.lit (.bool true)], args := [d1, d2] }
  | _ => none }
def parkAsleepRow : OpenClaim := { program := "ytomaagmleafjeaa", sum := "6c6b9cd94ffa906e957585468c1fa71fa3a6da3adbe03d448bb374e61aa22236", func := "worksteal/worksteallaw21.ParkAsleep", spec := "parkAsleep", unfollowed := true, recurses := true, apart := false }
def ParkAsleepSaid : Prop := parkAsleepRow.holds Try.pinned (OpenSpec.ofChange parkAsleepSpec)

/-- ITS FALSE NEIGHBOUR: 'it returns false'. Refute it at one input. -/
def parkAsleepWrong : ChangeSpec := { name := "parkAsleep", fn := fun _ => fun
  | [d1, d2] => { results := [.lit (.bool false)], args := [d1, d2] }
  | _ => none }
def ParkAsleepWrongFalsely : Prop := parkAsleepRow.holds Try.pinned (OpenSpec.ofChange parkAsleepWrong)

/-- 'worksteallaw21.ParkWhich': WHATEVER THE INPUT: true; the input reads as it did. -/
def parkWhichSpec : ChangeSpec := { name := "parkWhich", fn := fun _ => fun
  | [d1, d2, d3] => { results := [.lit (.bool true)], args := [d1, d2, d3] }
  | _ => none }
def parkWhichRow : OpenClaim := { program := "ytomaagmleafjeaa", sum := "6c6b9cd94ffa906e957585468c1fa71fa3a6da3adbe03d448bb374e61aa22236", func := "worksteal/worksteallaw21.ParkWhich", spec := "parkWhich", unfollowed := true, recurses := true, apart := false }
def ParkWhichSaid : Prop := parkWhichRow.holds Try.pinned (OpenSpec.ofChange parkWhichSpec)

/-- ITS FALSE NEIGHBOUR: 'it returns false'. Refute it at one input. -/
def parkWhichWrong : ChangeSpec := { name := "parkWhich", fn := fun _ => fun
  | [d1, d2, d3] => { results := [.lit (.bool false)], args := [d1, d2, d3] }
  | _ => none }
def ParkWhichWrongFalsely : Prop := parkWhichRow.holds Try.pinned (OpenSpec.ofChange parkWhichWrong)

/-- 'worksteallaw21.ParkPatience': WHATEVER THE INPUT: true; the input reads as it did. -/
def parkPatienceSpec : ChangeSpec := { name := "parkPatience", fn := fun _ => fun
  | [d1, d2, d3] => { results := [.lit (.bool true)], args := [d1, d2, d3] }
  | _ => none }
def parkPatienceRow : OpenClaim := { program := "ytomaagmleafjeaa", sum := "6c6b9cd94ffa906e957585468c1fa71fa3a6da3adbe03d448bb374e61aa22236", func := "worksteal/worksteallaw21.ParkPatience", spec := "parkPatience", unfollowed := true, recurses := true, apart := false }
def ParkPatienceSaid : Prop := parkPatienceRow.holds Try.pinned (OpenSpec.ofChange parkPatienceSpec)

/-- ITS FALSE NEIGHBOUR: 'it returns false'. Refute it at one input. -/
def parkPatienceWrong : ChangeSpec := { name := "parkPatience", fn := fun _ => fun
  | [d1, d2, d3] => { results := [.lit (.bool false)], args := [d1, d2, d3] }
  | _ => none }
def ParkPatienceWrongFalsely : Prop := parkPatienceRow.holds Try.pinned (OpenSpec.ofChange parkPatienceWrong)

/-- 'worksteallaw22.ProbeFinds': WHATEVER THE INPUT: true; the input reads as it did. -/
def probeFindsSpec : ChangeSpec := { name := "probeFinds", fn := fun _ => fun
  | [d1, d2, d3] => { results := [.lit (.bool true)], args := [d1, d2, d3] }
  | _ => none }
def probeFindsRow : OpenClaim := { program := "ytomaagmleafjeaa", sum := "6c6b9cd94ffa906e957585468c1fa71fa3a6da3adbe03d448bb374e61aa22236", func := "worksteal/worksteallaw22.ProbeFinds", spec := "probeFinds", unfollowed := true, recurses := true, apart := false }
def ProbeFindsSaid : Prop := probeFindsRow.holds Try.pinned (OpenSpec.ofChange probeFindsSpec)

/-- ITS FALSE NEIGHBOUR: 'it returns false'. Refute it at one input. -/
def probeFindsWrong : ChangeSpec := { name := "probeFinds", fn := fun _ => fun
  | [d1, d2, d3] => { results := [.lit (.bool false)], args := [d1, d2, d3] }
  | _ => none }
def ProbeFindsWrongFalsely : Prop := probeFindsRow.holds Try.pinned (OpenSpec.ofChange probeFindsWrong)

/-- 'worksteallaw24.TakeTwo': WHATEVER THE INPUT: true; the input reads as it did. -/
def takeTwoSpec : ChangeSpec := { name := "takeTwo", fn := fun _ => fun
  | [d1, d2] => { results := [.lit (.bool true)], args := [d1, d2] }
  | _ => none }
def takeTwoRow : OpenClaim := { program := "ytomaagmleafjeaa", sum := "6c6b9cd94ffa906e957585468c1fa71fa3a6da3adbe03d448bb374e61aa22236", func := "worksteal/worksteallaw24.TakeTwo", spec := "takeTwo", unfollowed := true, recurses := true, apart := false }
def TakeTwoSaid : Prop := takeTwoRow.holds Try.pinned (OpenSpec.ofChange takeTwoSpec)

/-- ITS FALSE NEIGHBOUR: 'it returns false'. Refute it at one input. -/
def takeTwoWrong : ChangeSpec := { name := "takeTwo", fn := fun _ => fun
  | [d1, d2] => { results := [.lit (.bool false)], args := [d1, d2] }
  | _ => none }
def TakeTwoWrongFalsely : Prop := takeTwoRow.holds Try.pinned (OpenSpec.ofChange takeTwoWrong)

/-- 'worksteallaw24.TakeFinds': WHATEVER THE INPUT: true; the input reads as it did. -/
def takeFindsSpec : ChangeSpec := { name := "takeFinds", fn := fun _ => fun
  | [d1, d2] => { results := [.lit (.bool true)], args := [d1, d2] }
  | _ => none }
def takeFindsRow : OpenClaim := { program := "ytomaagmleafjeaa", sum := "6c6b9cd94ffa906e957585468c1fa71fa3a6da3adbe03d448bb374e61aa22236", func := "worksteal/worksteallaw24.TakeFinds", spec := "takeFinds", unfollowed := true, recurses := true, apart := false }
def TakeFindsSaid : Prop := takeFindsRow.holds Try.pinned (OpenSpec.ofChange takeFindsSpec)

/-- ITS FALSE NEIGHBOUR: 'it returns false'. Refute it at one input. -/
def takeFindsWrong : ChangeSpec := { name := "takeFinds", fn := fun _ => fun
  | [d1, d2] => { results := [.lit (.bool false)], args := [d1, d2] }
  | _ => none }
def TakeFindsWrongFalsely : Prop := takeFindsRow.holds Try.pinned (OpenSpec.ofChange takeFindsWrong)

/-- 'worksteallaw24.TakeAll': WHATEVER THE INPUT: true; the input reads as it did. -/
def takeAllSpec : ChangeSpec := { name := "takeAll", fn := fun _ => fun
  | [d1, d2] => { results := [.lit (.bool true)], args := [d1, d2] }
  | _ => none }
def takeAllRow : OpenClaim := { program := "ytomaagmleafjeaa", sum := "6c6b9cd94ffa906e957585468c1fa71fa3a6da3adbe03d448bb374e61aa22236", func := "worksteal/worksteallaw24.TakeAll", spec := "takeAll", unfollowed := true, recurses := true, apart := false }
def TakeAllSaid : Prop := takeAllRow.holds Try.pinned (OpenSpec.ofChange takeAllSpec)

/-- ITS FALSE NEIGHBOUR: 'it returns false'. Refute it at one input. -/
def takeAllWrong : ChangeSpec := { name := "takeAll", fn := fun _ => fun
  | [d1, d2] => { results := [.lit (.bool false)], args := [d1, d2] }
  | _ => none }
def TakeAllWrongFalsely : Prop := takeAllRow.holds Try.pinned (OpenSpec.ofChange takeAllWrong)

/- THE SECOND FORM. 'bulk': how many values and letters a reading holds, each counted each time it is reached (what is shared counts as often as it is met; a slice's spare places count too). A statement '..UptoSaid' is the law's where the arguments, and the package variables that the reading takes, are together of bulk at most 1048576: NARROWER than '..Said'. Prove '..Said' where nothing that the law and all that it calls make is longer than what came in: it says more and counts as full. Else prove '..UptoSaid'. A law counts once. -/
mutual
def uptoBulk {H : Type} : DataW H → Nat
  | .lit (.string bytes) => bytes.length + 1
  | .lit _ => 1
  | .nil => 1
  | .ptr d => uptoBulk d + 1
  | .slice elems spare => uptoBulkAll elems + uptoBulkAll spare + 1
  | .agg parts => uptoBulkAll parts + 1
  | .iface _ d => uptoBulk d + 1
  | .map entries => uptoBulkEntries entries + 1
  | .held _ => 1
def uptoBulkAll {H : Type} : List (DataW H) → Nat
  | [] => 0
  | d :: r => uptoBulk d + uptoBulkAll r
def uptoBulkEntries {H : Type} : List (Lit × DataW H) → Nat
  | [] => 0
  | x :: r => uptoBulkEntry x + uptoBulkEntries r
def uptoBulkEntry {H : Type} : Lit × DataW H → Nat
  | (.string bytes, d) => bytes.length + uptoBulk d + 1
  | (_, d) => uptoBulk d + 1
 end
def uptoSmall : (H : Type) → List (DataW H) → Bool := fun _ ds => decide (uptoBulkAll ds ≤ 1048576)
def OpenSpec.upto (s : _root_.Go.ChangeSpec) : _root_.Go.OpenSpec := { _root_.Go.OpenSpec.ofChange s with cond := some uptoSmall }

/-- 'worksteallaw17.OrderChecks', WHERE WHAT IT READS IS OF BULK AT MOST 1048576: true; the input reads as it did. -/
def orderChecksUptoRow : OpenClaim := { program := "ytomaagmleafjeaa", sum := "6c6b9cd94ffa906e957585468c1fa71fa3a6da3adbe03d448bb374e61aa22236", func := "worksteal/worksteallaw17.OrderChecks", spec := "orderChecks", inPlace := ["slices.overlaps[worksteal/queue.Key]"], unfollowed := true, recurses := true, apart := false, narrowed := true }
def OrderChecksUptoSaid : Prop := orderChecksUptoRow.holds Try.pinned (OpenSpec.upto orderChecksSpec)

/-- 'worksteallaw13.LevelsStacks', WHERE WHAT IT READS IS OF BULK AT MOST 1048576: true; the input reads as it did. -/
def levelsStacksUptoRow : OpenClaim := { program := "ytomaagmleafjeaa", sum := "6c6b9cd94ffa906e957585468c1fa71fa3a6da3adbe03d448bb374e61aa22236", func := "worksteal/worksteallaw13.LevelsStacks", spec := "levelsStacks", unfollowed := true, recurses := true, apart := false, narrowed := true }
def LevelsStacksUptoSaid : Prop := levelsStacksUptoRow.holds Try.pinned (OpenSpec.upto levelsStacksSpec)

/-- 'worksteallaw13.LevelsApart', WHERE WHAT IT READS IS OF BULK AT MOST 1048576: true; the input reads as it did. -/
def levelsApartUptoRow : OpenClaim := { program := "ytomaagmleafjeaa", sum := "6c6b9cd94ffa906e957585468c1fa71fa3a6da3adbe03d448bb374e61aa22236", func := "worksteal/worksteallaw13.LevelsApart", spec := "levelsApart", unfollowed := true, recurses := true, apart := false, narrowed := true }
def LevelsApartUptoSaid : Prop := levelsApartUptoRow.holds Try.pinned (OpenSpec.upto levelsApartSpec)

/-- 'worksteallaw13.LevelsBits', WHERE WHAT IT READS IS OF BULK AT MOST 1048576: true; the input reads as it did. -/
def levelsBitsUptoRow : OpenClaim := { program := "ytomaagmleafjeaa", sum := "6c6b9cd94ffa906e957585468c1fa71fa3a6da3adbe03d448bb374e61aa22236", func := "worksteal/worksteallaw13.LevelsBits", spec := "levelsBits", unfollowed := true, recurses := true, apart := false, narrowed := true }
def LevelsBitsUptoSaid : Prop := levelsBitsUptoRow.holds Try.pinned (OpenSpec.upto levelsBitsSpec)

/-- 'worksteallaw15.LockExclusive', WHERE WHAT IT READS IS OF BULK AT MOST 1048576: true; the input reads as it did. -/
def lockExclusiveUptoRow : OpenClaim := { program := "ytomaagmleafjeaa", sum := "6c6b9cd94ffa906e957585468c1fa71fa3a6da3adbe03d448bb374e61aa22236", func := "worksteal/worksteallaw15.LockExclusive", spec := "lockExclusive", unfollowed := true, recurses := true, apart := false, narrowed := true }
def LockExclusiveUptoSaid : Prop := lockExclusiveUptoRow.holds Try.pinned (OpenSpec.upto lockExclusiveSpec)

/-- 'worksteallaw15.LockFree', WHERE WHAT IT READS IS OF BULK AT MOST 1048576: true; the input reads as it did. -/
def lockFreeUptoRow : OpenClaim := { program := "ytomaagmleafjeaa", sum := "6c6b9cd94ffa906e957585468c1fa71fa3a6da3adbe03d448bb374e61aa22236", func := "worksteal/worksteallaw15.LockFree", spec := "lockFree", unfollowed := true, recurses := true, apart := false, narrowed := true }
def LockFreeUptoSaid : Prop := lockFreeUptoRow.holds Try.pinned (OpenSpec.upto lockFreeSpec)

/-- 'worksteallaw16.InjectorOrder', WHERE WHAT IT READS IS OF BULK AT MOST 1048576: true; the input reads as it did. -/
def injectorOrderUptoRow : OpenClaim := { program := "ytomaagmleafjeaa", sum := "6c6b9cd94ffa906e957585468c1fa71fa3a6da3adbe03d448bb374e61aa22236", func := "worksteal/worksteallaw16.InjectorOrder", spec := "injectorOrder", unfollowed := true, recurses := true, apart := false, narrowed := true }
def InjectorOrderUptoSaid : Prop := injectorOrderUptoRow.holds Try.pinned (OpenSpec.upto injectorOrderSpec)

/-- 'worksteallaw16.InjectorHeaps', WHERE WHAT IT READS IS OF BULK AT MOST 1048576: true; the input reads as it did. -/
def injectorHeapsUptoRow : OpenClaim := { program := "ytomaagmleafjeaa", sum := "6c6b9cd94ffa906e957585468c1fa71fa3a6da3adbe03d448bb374e61aa22236", func := "worksteal/worksteallaw16.InjectorHeaps", spec := "injectorHeaps", unfollowed := true, recurses := true, apart := false, narrowed := true }
def InjectorHeapsUptoSaid : Prop := injectorHeapsUptoRow.holds Try.pinned (OpenSpec.upto injectorHeapsSpec)

/-- 'worksteallaw18.TableNumbers', WHERE WHAT IT READS IS OF BULK AT MOST 1048576: true; the input reads as it did. -/
def tableNumbersUptoRow : OpenClaim := { program := "ytomaagmleafjeaa", sum := "6c6b9cd94ffa906e957585468c1fa71fa3a6da3adbe03d448bb374e61aa22236", func := "worksteal/worksteallaw18.TableNumbers", spec := "tableNumbers", unfollowed := true, recurses := true, apart := false, narrowed := true }
def TableNumbersUptoSaid : Prop := tableNumbersUptoRow.holds Try.pinned (OpenSpec.upto tableNumbersSpec)

/-- 'worksteallaw18.TableOnce', WHERE WHAT IT READS IS OF BULK AT MOST 1048576: true; the input reads as it did. -/
def tableOnceUptoRow : OpenClaim := { program := "ytomaagmleafjeaa", sum := "6c6b9cd94ffa906e957585468c1fa71fa3a6da3adbe03d448bb374e61aa22236", func := "worksteal/worksteallaw18.TableOnce", spec := "tableOnce", unfollowed := true, recurses := true, apart := false, narrowed := true }
def TableOnceUptoSaid : Prop := tableOnceUptoRow.holds Try.pinned (OpenSpec.upto tableOnceSpec)

/-- 'worksteallaw19.BoostChains', WHERE WHAT IT READS IS OF BULK AT MOST 1048576: true; the input reads as it did. -/
def boostChainsUptoRow : OpenClaim := { program := "ytomaagmleafjeaa", sum := "6c6b9cd94ffa906e957585468c1fa71fa3a6da3adbe03d448bb374e61aa22236", func := "worksteal/worksteallaw19.BoostChains", spec := "boostChains", unfollowed := true, recurses := true, apart := false, narrowed := true }
def BoostChainsUptoSaid : Prop := boostChainsUptoRow.holds Try.pinned (OpenSpec.upto boostChainsSpec)

/-- 'worksteallaw20.AgingOnly', WHERE WHAT IT READS IS OF BULK AT MOST 1048576: true; the input reads as it did. -/
def agingOnlyUptoRow : OpenClaim := { program := "ytomaagmleafjeaa", sum := "6c6b9cd94ffa906e957585468c1fa71fa3a6da3adbe03d448bb374e61aa22236", func := "worksteal/worksteallaw20.AgingOnly", spec := "agingOnly", unfollowed := true, recurses := true, apart := false, narrowed := true }
def AgingOnlyUptoSaid : Prop := agingOnlyUptoRow.holds Try.pinned (OpenSpec.upto agingOnlySpec)

/-- 'worksteallaw20.AgingClimbs', WHERE WHAT IT READS IS OF BULK AT MOST 1048576: true; the input reads as it did. -/
def agingClimbsUptoRow : OpenClaim := { program := "ytomaagmleafjeaa", sum := "6c6b9cd94ffa906e957585468c1fa71fa3a6da3adbe03d448bb374e61aa22236", func := "worksteal/worksteallaw20.AgingClimbs", spec := "agingClimbs", unfollowed := true, recurses := true, apart := false, narrowed := true }
def AgingClimbsUptoSaid : Prop := agingClimbsUptoRow.holds Try.pinned (OpenSpec.upto agingClimbsSpec)

/-- 'worksteallaw20.AgingWhen', WHERE WHAT IT READS IS OF BULK AT MOST 1048576: true; the input reads as it did. -/
def agingWhenUptoRow : OpenClaim := { program := "ytomaagmleafjeaa", sum := "6c6b9cd94ffa906e957585468c1fa71fa3a6da3adbe03d448bb374e61aa22236", func := "worksteal/worksteallaw20.AgingWhen", spec := "agingWhen", unfollowed := true, recurses := true, apart := false, narrowed := true }
def AgingWhenUptoSaid : Prop := agingWhenUptoRow.holds Try.pinned (OpenSpec.upto agingWhenSpec)

/-- 'worksteallaw21.ParkMeets', WHERE WHAT IT READS IS OF BULK AT MOST 1048576: true; the input reads as it did. -/
def parkMeetsUptoRow : OpenClaim := { program := "ytomaagmleafjeaa", sum := "6c6b9cd94ffa906e957585468c1fa71fa3a6da3adbe03d448bb374e61aa22236", func := "worksteal/worksteallaw21.ParkMeets", spec := "parkMeets", unfollowed := true, recurses := true, apart := false, narrowed := true }
def ParkMeetsUptoSaid : Prop := parkMeetsUptoRow.holds Try.pinned (OpenSpec.upto parkMeetsSpec)

/-- 'worksteallaw21.ParkAsleep', WHERE WHAT IT READS IS OF BULK AT MOST 1048576: true; the input reads as it did. -/
def parkAsleepUptoRow : OpenClaim := { program := "ytomaagmleafjeaa", sum := "6c6b9cd94ffa906e957585468c1fa71fa3a6da3adbe03d448bb374e61aa22236", func := "worksteal/worksteallaw21.ParkAsleep", spec := "parkAsleep", unfollowed := true, recurses := true, apart := false, narrowed := true }
def ParkAsleepUptoSaid : Prop := parkAsleepUptoRow.holds Try.pinned (OpenSpec.upto parkAsleepSpec)

/-- 'worksteallaw21.ParkWhich', WHERE WHAT IT READS IS OF BULK AT MOST 1048576: true; the input reads as it did. -/
def parkWhichUptoRow : OpenClaim := { program := "ytomaagmleafjeaa", sum := "6c6b9cd94ffa906e957585468c1fa71fa3a6da3adbe03d448bb374e61aa22236", func := "worksteal/worksteallaw21.ParkWhich", spec := "parkWhich", unfollowed := true, recurses := true, apart := false, narrowed := true }
def ParkWhichUptoSaid : Prop := parkWhichUptoRow.holds Try.pinned (OpenSpec.upto parkWhichSpec)

/-- 'worksteallaw21.ParkPatience', WHERE WHAT IT READS IS OF BULK AT MOST 1048576: true; the input reads as it did. -/
def parkPatienceUptoRow : OpenClaim := { program := "ytomaagmleafjeaa", sum := "6c6b9cd94ffa906e957585468c1fa71fa3a6da3adbe03d448bb374e61aa22236", func := "worksteal/worksteallaw21.ParkPatience", spec := "parkPatience", unfollowed := true, recurses := true, apart := false, narrowed := true }
def ParkPatienceUptoSaid : Prop := parkPatienceUptoRow.holds Try.pinned (OpenSpec.upto parkPatienceSpec)

/-- 'worksteallaw22.ProbeFinds', WHERE WHAT IT READS IS OF BULK AT MOST 1048576: true; the input reads as it did. -/
def probeFindsUptoRow : OpenClaim := { program := "ytomaagmleafjeaa", sum := "6c6b9cd94ffa906e957585468c1fa71fa3a6da3adbe03d448bb374e61aa22236", func := "worksteal/worksteallaw22.ProbeFinds", spec := "probeFinds", unfollowed := true, recurses := true, apart := false, narrowed := true }
def ProbeFindsUptoSaid : Prop := probeFindsUptoRow.holds Try.pinned (OpenSpec.upto probeFindsSpec)

/-- 'worksteallaw24.TakeTwo', WHERE WHAT IT READS IS OF BULK AT MOST 1048576: true; the input reads as it did. -/
def takeTwoUptoRow : OpenClaim := { program := "ytomaagmleafjeaa", sum := "6c6b9cd94ffa906e957585468c1fa71fa3a6da3adbe03d448bb374e61aa22236", func := "worksteal/worksteallaw24.TakeTwo", spec := "takeTwo", unfollowed := true, recurses := true, apart := false, narrowed := true }
def TakeTwoUptoSaid : Prop := takeTwoUptoRow.holds Try.pinned (OpenSpec.upto takeTwoSpec)

/-- 'worksteallaw24.TakeFinds', WHERE WHAT IT READS IS OF BULK AT MOST 1048576: true; the input reads as it did. -/
def takeFindsUptoRow : OpenClaim := { program := "ytomaagmleafjeaa", sum := "6c6b9cd94ffa906e957585468c1fa71fa3a6da3adbe03d448bb374e61aa22236", func := "worksteal/worksteallaw24.TakeFinds", spec := "takeFinds", unfollowed := true, recurses := true, apart := false, narrowed := true }
def TakeFindsUptoSaid : Prop := takeFindsUptoRow.holds Try.pinned (OpenSpec.upto takeFindsSpec)

/-- 'worksteallaw24.TakeAll', WHERE WHAT IT READS IS OF BULK AT MOST 1048576: true; the input reads as it did. -/
def takeAllUptoRow : OpenClaim := { program := "ytomaagmleafjeaa", sum := "6c6b9cd94ffa906e957585468c1fa71fa3a6da3adbe03d448bb374e61aa22236", func := "worksteal/worksteallaw24.TakeAll", spec := "takeAll", unfollowed := true, recurses := true, apart := false, narrowed := true }
def TakeAllUptoSaid : Prop := takeAllUptoRow.holds Try.pinned (OpenSpec.upto takeAllSpec)

end Rows
end Go.Proofs.Ytomaagmleafjeaa
