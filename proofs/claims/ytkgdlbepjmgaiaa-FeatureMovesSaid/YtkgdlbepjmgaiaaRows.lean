/-
  No cell of these rows narrows 'for every input' (looked for: loops, veiled, ifaces, maps, wideKeys, modest, calm, conditions, laid).
  DERIVED. THE GIVEN ROWS OF THIS SEAT. 14 by the template 'for every input the law returns true; each argument reads behind the call as it read before'; 0 by the template 'total and deterministic' (their statements: YtkgdlbepjmgaiaaTotals.lean).
  GIVEN WITH THE SEED: the statements are not yours to turn. If you find one false, say at which input.
  Laid BY PROGRAM, IN A SANDBOX (cutbox-rows.mjs): the forced cells as the released guide's own fill.sh prints them over the translation 76c4e1a72a30bfa5… (all of the seat's roots in one cut). By AI agents, Wed Nov 11 2026. No macro, syntax, notation, axiom, sorry.
-/
import Derived.Test.YtkgdlbepjmgaiaaChecked
import GoSem.Claim
import GoSem.ClaimJoined
import GoSem.ClaimMapViews
import Derived.JoinedTies
import Derived.KernelRfl
namespace Go.Proofs.Ytkgdlbepjmgaiaa
/- THE CELL 'sum', in the pinned program and in every row, IS THE sha256 OF THE DUMP (.gsa) THAT YtkgdlbepjmgaiaaProg.lean LOADS. Nothing in Lean hashes anything: it is a label: what it is worth is what the hold of that sum in a sandbox is worth. -/
noncomputable def Try.pinned : Pinned := { name := "ytkgdlbepjmgaiaa", sum := "76c4e1a72a30bfa5426db301f69f5f3b088323b62e7b6a2e38b51f6ea8ca00e3", checked := Try.checked }
namespace Rows
def none {H : Type} : Left H := { results := [], args := [] }

/-- 'metrolablaw18.FeatureReaches': WHATEVER THE INPUT: true; the input reads as it did. -/
def featureReachesSpec : ChangeSpec := { name := "featureReaches", fn := fun _ => fun
  | [d1, d2, d3] => { results := [.lit (.bool true)], args := [d1, d2, d3] }
  | _ => none }
def featureReachesRow : OpenClaim := { program := "ytkgdlbepjmgaiaa", sum := "76c4e1a72a30bfa5426db301f69f5f3b088323b62e7b6a2e38b51f6ea8ca00e3", func := "metrolab/metrolablaw18.FeatureReaches", spec := "featureReaches", unfollowed := true, recurses := true, apart := false }
def FeatureReachesSaid : Prop := featureReachesRow.holds Try.pinned (OpenSpec.ofChange featureReachesSpec)

/-- ITS FALSE NEIGHBOUR: 'it returns false'. Refute it at one input. -/
def featureReachesWrong : ChangeSpec := { name := "featureReaches", fn := fun _ => fun
  | [d1, d2, d3] => { results := [.lit (.bool false)], args := [d1, d2, d3] }
  | _ => none }
def FeatureReachesWrongFalsely : Prop := featureReachesRow.holds Try.pinned (OpenSpec.ofChange featureReachesWrong)

/-- 'metrolablaw18.FeatureChecks': WHATEVER THE INPUT: true; the input reads as it did. -/
def featureChecksSpec : ChangeSpec := { name := "featureChecks", fn := fun _ => fun
  | [d] => { results := [.lit (.bool true)], args := [d] }
  | _ => none }
def featureChecksRow : OpenClaim := { program := "ytkgdlbepjmgaiaa", sum := "76c4e1a72a30bfa5426db301f69f5f3b088323b62e7b6a2e38b51f6ea8ca00e3", func := "metrolab/metrolablaw18.FeatureChecks", spec := "featureChecks", unfollowed := true, recurses := true, apart := false }
def FeatureChecksSaid : Prop := featureChecksRow.holds Try.pinned (OpenSpec.ofChange featureChecksSpec)

/-- ITS FALSE NEIGHBOUR: 'it returns false'. Refute it at one input. -/
def featureChecksWrong : ChangeSpec := { name := "featureChecks", fn := fun _ => fun
  | [d] => { results := [.lit (.bool false)], args := [d] }
  | _ => none }
def FeatureChecksWrongFalsely : Prop := featureChecksRow.holds Try.pinned (OpenSpec.ofChange featureChecksWrong)

/-- 'metrolablaw18.FeatureEnds': WHATEVER THE INPUT: true; the input reads as it did. -/
def featureEndsSpec : ChangeSpec := { name := "featureEnds", fn := fun _ => fun
  | [d] => { results := [.lit (.bool true)], args := [d] }
  | _ => none }
def featureEndsRow : OpenClaim := { program := "ytkgdlbepjmgaiaa", sum := "76c4e1a72a30bfa5426db301f69f5f3b088323b62e7b6a2e38b51f6ea8ca00e3", func := "metrolab/metrolablaw18.FeatureEnds", spec := "featureEnds", unfollowed := true, recurses := true, apart := false }
def FeatureEndsSaid : Prop := featureEndsRow.holds Try.pinned (OpenSpec.ofChange featureEndsSpec)

/-- ITS FALSE NEIGHBOUR: 'it returns false'. Refute it at one input. -/
def featureEndsWrong : ChangeSpec := { name := "featureEnds", fn := fun _ => fun
  | [d] => { results := [.lit (.bool false)], args := [d] }
  | _ => none }
def FeatureEndsWrongFalsely : Prop := featureEndsRow.holds Try.pinned (OpenSpec.ofChange featureEndsWrong)

/-- 'metrolablaw52.CalibrateWidens': WHATEVER THE INPUT: true; the input reads as it did. -/
def calibrateWidensSpec : ChangeSpec := { name := "calibrateWidens", fn := fun _ => fun
  | [d1, d2, d3] => { results := [.lit (.bool true)], args := [d1, d2, d3] }
  | _ => none }
def calibrateWidensRow : OpenClaim := { program := "ytkgdlbepjmgaiaa", sum := "76c4e1a72a30bfa5426db301f69f5f3b088323b62e7b6a2e38b51f6ea8ca00e3", func := "metrolab/metrolablaw52.CalibrateWidens", spec := "calibrateWidens", unfollowed := true, recurses := true, apart := false }
def CalibrateWidensSaid : Prop := calibrateWidensRow.holds Try.pinned (OpenSpec.ofChange calibrateWidensSpec)

/-- ITS FALSE NEIGHBOUR: 'it returns false'. Refute it at one input. -/
def calibrateWidensWrong : ChangeSpec := { name := "calibrateWidens", fn := fun _ => fun
  | [d1, d2, d3] => { results := [.lit (.bool false)], args := [d1, d2, d3] }
  | _ => none }
def CalibrateWidensWrongFalsely : Prop := calibrateWidensRow.holds Try.pinned (OpenSpec.ofChange calibrateWidensWrong)

/-- 'metrolablaw52.CalibrateParts': WHATEVER THE INPUT: true; the input reads as it did. -/
def calibratePartsSpec : ChangeSpec := { name := "calibrateParts", fn := fun _ => fun
  | [d1, d2] => { results := [.lit (.bool true)], args := [d1, d2] }
  | _ => none }
def calibratePartsRow : OpenClaim := { program := "ytkgdlbepjmgaiaa", sum := "76c4e1a72a30bfa5426db301f69f5f3b088323b62e7b6a2e38b51f6ea8ca00e3", func := "metrolab/metrolablaw52.CalibrateParts", spec := "calibrateParts", unfollowed := true, recurses := true, apart := false }
def CalibratePartsSaid : Prop := calibratePartsRow.holds Try.pinned (OpenSpec.ofChange calibratePartsSpec)

/-- ITS FALSE NEIGHBOUR: 'it returns false'. Refute it at one input. -/
def calibratePartsWrong : ChangeSpec := { name := "calibrateParts", fn := fun _ => fun
  | [d1, d2] => { results := [.lit (.bool false)], args := [d1, d2] }
  | _ => none }
def CalibratePartsWrongFalsely : Prop := calibratePartsRow.holds Try.pinned (OpenSpec.ofChange calibratePartsWrong)

/-- 'metrolablaw18.FeatureKeeps': WHATEVER THE INPUT: true; the input reads as it did. -/
def featureKeepsSpec : ChangeSpec := { name := "featureKeeps", fn := fun _ => fun
  | [d1, d2, d3] => { results := [.lit (.bool true)], args := [d1, d2, d3] }
  | _ => none }
def featureKeepsRow : OpenClaim := { program := "ytkgdlbepjmgaiaa", sum := "76c4e1a72a30bfa5426db301f69f5f3b088323b62e7b6a2e38b51f6ea8ca00e3", func := "metrolab/metrolablaw18.FeatureKeeps", spec := "featureKeeps", unfollowed := true, recurses := true, apart := false }
def FeatureKeepsSaid : Prop := featureKeepsRow.holds Try.pinned (OpenSpec.ofChange featureKeepsSpec)

/-- ITS FALSE NEIGHBOUR: 'it returns false'. Refute it at one input. -/
def featureKeepsWrong : ChangeSpec := { name := "featureKeeps", fn := fun _ => fun
  | [d1, d2, d3] => { results := [.lit (.bool false)], args := [d1, d2, d3] }
  | _ => none }
def FeatureKeepsWrongFalsely : Prop := featureKeepsRow.holds Try.pinned (OpenSpec.ofChange featureKeepsWrong)

/-- 'metrolablaw18.FeatureCompares': WHATEVER THE INPUT: true; the input reads as it did. -/
def featureComparesSpec : ChangeSpec := { name := "featureCompares", fn := fun _ => fun
  | [d1, d2] => { results := [.lit (.bool true)], args := [d1, d2] }
  | _ => none }
def featureComparesRow : OpenClaim := { program := "ytkgdlbepjmgaiaa", sum := "76c4e1a72a30bfa5426db301f69f5f3b088323b62e7b6a2e38b51f6ea8ca00e3", func := "metrolab/metrolablaw18.FeatureCompares", spec := "featureCompares", unfollowed := true, recurses := true, apart := false }
def FeatureComparesSaid : Prop := featureComparesRow.holds Try.pinned (OpenSpec.ofChange featureComparesSpec)

/-- ITS FALSE NEIGHBOUR: 'it returns false'. Refute it at one input. -/
def featureComparesWrong : ChangeSpec := { name := "featureCompares", fn := fun _ => fun
  | [d1, d2] => { results := [.lit (.bool false)], args := [d1, d2] }
  | _ => none }
def FeatureComparesWrongFalsely : Prop := featureComparesRow.holds Try.pinned (OpenSpec.ofChange featureComparesWrong)

/-- 'metrolablaw18.FeatureMoves': WHATEVER THE INPUT: true; the input reads as it did. -/
def featureMovesSpec : ChangeSpec := { name := "featureMoves", fn := fun _ => fun
  | [d1, d2, d3] => { results := [.lit (.bool true)], args := [d1, d2, d3] }
  | _ => none }
def featureMovesRow : OpenClaim := { program := "ytkgdlbepjmgaiaa", sum := "76c4e1a72a30bfa5426db301f69f5f3b088323b62e7b6a2e38b51f6ea8ca00e3", func := "metrolab/metrolablaw18.FeatureMoves", spec := "featureMoves", unfollowed := true, recurses := true, apart := false }
def FeatureMovesSaid : Prop := featureMovesRow.holds Try.pinned (OpenSpec.ofChange featureMovesSpec)

/-- ITS FALSE NEIGHBOUR: 'it returns false'. Refute it at one input. -/
def featureMovesWrong : ChangeSpec := { name := "featureMoves", fn := fun _ => fun
  | [d1, d2, d3] => { results := [.lit (.bool false)], args := [d1, d2, d3] }
  | _ => none }
def FeatureMovesWrongFalsely : Prop := featureMovesRow.holds Try.pinned (OpenSpec.ofChange featureMovesWrong)

/-- 'metrolablaw18.FeatureReturns': WHATEVER THE INPUT: true; the input reads as it did. -/
def featureReturnsSpec : ChangeSpec := { name := "featureReturns", fn := fun _ => fun
  | [d1, d2, d3] => { results := [.lit (.bool true)], args := [d1, d2, d3] }
  | _ => none }
def featureReturnsRow : OpenClaim := { program := "ytkgdlbepjmgaiaa", sum := "76c4e1a72a30bfa5426db301f69f5f3b088323b62e7b6a2e38b51f6ea8ca00e3", func := "metrolab/metrolablaw18.FeatureReturns", spec := "featureReturns", unfollowed := true, recurses := true, apart := false }
def FeatureReturnsSaid : Prop := featureReturnsRow.holds Try.pinned (OpenSpec.ofChange featureReturnsSpec)

/-- ITS FALSE NEIGHBOUR: 'it returns false'. Refute it at one input. -/
def featureReturnsWrong : ChangeSpec := { name := "featureReturns", fn := fun _ => fun
  | [d1, d2, d3] => { results := [.lit (.bool false)], args := [d1, d2, d3] }
  | _ => none }
def FeatureReturnsWrongFalsely : Prop := featureReturnsRow.holds Try.pinned (OpenSpec.ofChange featureReturnsWrong)

/-- 'metrolablaw52.CalibrateChains': WHATEVER THE INPUT: true; the input reads as it did. -/
def calibrateChainsSpec : ChangeSpec := { name := "calibrateChains", fn := fun _ => fun
  | [d1, d2, d3] => { results := [.lit (.bool true)], args := [d1, d2, d3] }
  | _ => none }
def calibrateChainsRow : OpenClaim := { program := "ytkgdlbepjmgaiaa", sum := "76c4e1a72a30bfa5426db301f69f5f3b088323b62e7b6a2e38b51f6ea8ca00e3", func := "metrolab/metrolablaw52.CalibrateChains", spec := "calibrateChains", unfollowed := true, recurses := true, apart := false }
def CalibrateChainsSaid : Prop := calibrateChainsRow.holds Try.pinned (OpenSpec.ofChange calibrateChainsSpec)

/-- ITS FALSE NEIGHBOUR: 'it returns false'. Refute it at one input. -/
def calibrateChainsWrong : ChangeSpec := { name := "calibrateChains", fn := fun _ => fun
  | [d1, d2, d3] => { results := [.lit (.bool false)], args := [d1, d2, d3] }
  | _ => none }
def CalibrateChainsWrongFalsely : Prop := calibrateChainsRow.holds Try.pinned (OpenSpec.ofChange calibrateChainsWrong)

/-- 'metrolablaw52.CalibrateLists': WHATEVER THE INPUT: true; the input reads as it did. -/
def calibrateListsSpec : ChangeSpec := { name := "calibrateLists", fn := fun _ => fun
  | [d1, d2] => { results := [.lit (.bool true)], args := [d1, d2] }
  | _ => none }
def calibrateListsRow : OpenClaim := { program := "ytkgdlbepjmgaiaa", sum := "76c4e1a72a30bfa5426db301f69f5f3b088323b62e7b6a2e38b51f6ea8ca00e3", func := "metrolab/metrolablaw52.CalibrateLists", spec := "calibrateLists", unfollowed := true, recurses := true, apart := false }
def CalibrateListsSaid : Prop := calibrateListsRow.holds Try.pinned (OpenSpec.ofChange calibrateListsSpec)

/-- ITS FALSE NEIGHBOUR: 'it returns false'. Refute it at one input. -/
def calibrateListsWrong : ChangeSpec := { name := "calibrateLists", fn := fun _ => fun
  | [d1, d2] => { results := [.lit (.bool false)], args := [d1, d2] }
  | _ => none }
def CalibrateListsWrongFalsely : Prop := calibrateListsRow.holds Try.pinned (OpenSpec.ofChange calibrateListsWrong)

/-- 'metrolablaw52.CalibrateJudges': WHATEVER THE INPUT: true; the input reads as it did. -/
def calibrateJudgesSpec : ChangeSpec := { name := "calibrateJudges", fn := fun _ => fun
  | [d1, d2, d3] => { results := [.lit (.bool true)], args := [d1, d2, d3] }
  | _ => none }
def calibrateJudgesRow : OpenClaim := { program := "ytkgdlbepjmgaiaa", sum := "76c4e1a72a30bfa5426db301f69f5f3b088323b62e7b6a2e38b51f6ea8ca00e3", func := "metrolab/metrolablaw52.CalibrateJudges", spec := "calibrateJudges", unfollowed := true, recurses := true, apart := false }
def CalibrateJudgesSaid : Prop := calibrateJudgesRow.holds Try.pinned (OpenSpec.ofChange calibrateJudgesSpec)

/-- ITS FALSE NEIGHBOUR: 'it returns false'. Refute it at one input. -/
def calibrateJudgesWrong : ChangeSpec := { name := "calibrateJudges", fn := fun _ => fun
  | [d1, d2, d3] => { results := [.lit (.bool false)], args := [d1, d2, d3] }
  | _ => none }
def CalibrateJudgesWrongFalsely : Prop := calibrateJudgesRow.holds Try.pinned (OpenSpec.ofChange calibrateJudgesWrong)

/-- 'metrolablaw52.CalibrateBacks': WHATEVER THE INPUT: true; the input reads as it did. -/
def calibrateBacksSpec : ChangeSpec := { name := "calibrateBacks", fn := fun _ => fun
  | [d1, d2, d3] => { results := [.lit (.bool true)], args := [d1, d2, d3] }
  | _ => none }
def calibrateBacksRow : OpenClaim := { program := "ytkgdlbepjmgaiaa", sum := "76c4e1a72a30bfa5426db301f69f5f3b088323b62e7b6a2e38b51f6ea8ca00e3", func := "metrolab/metrolablaw52.CalibrateBacks", spec := "calibrateBacks", unfollowed := true, recurses := true, apart := false }
def CalibrateBacksSaid : Prop := calibrateBacksRow.holds Try.pinned (OpenSpec.ofChange calibrateBacksSpec)

/-- ITS FALSE NEIGHBOUR: 'it returns false'. Refute it at one input. -/
def calibrateBacksWrong : ChangeSpec := { name := "calibrateBacks", fn := fun _ => fun
  | [d1, d2, d3] => { results := [.lit (.bool false)], args := [d1, d2, d3] }
  | _ => none }
def CalibrateBacksWrongFalsely : Prop := calibrateBacksRow.holds Try.pinned (OpenSpec.ofChange calibrateBacksWrong)

/-- 'metrolablaw52.CalibrateAdds': WHATEVER THE INPUT: true; the input reads as it did. -/
def calibrateAddsSpec : ChangeSpec := { name := "calibrateAdds", fn := fun _ => fun
  | [d1, d2] => { results := [.lit (.bool true)], args := [d1, d2] }
  | _ => none }
def calibrateAddsRow : OpenClaim := { program := "ytkgdlbepjmgaiaa", sum := "76c4e1a72a30bfa5426db301f69f5f3b088323b62e7b6a2e38b51f6ea8ca00e3", func := "metrolab/metrolablaw52.CalibrateAdds", spec := "calibrateAdds", unfollowed := true, recurses := true, apart := false }
def CalibrateAddsSaid : Prop := calibrateAddsRow.holds Try.pinned (OpenSpec.ofChange calibrateAddsSpec)

/-- ITS FALSE NEIGHBOUR: 'it returns false'. Refute it at one input. -/
def calibrateAddsWrong : ChangeSpec := { name := "calibrateAdds", fn := fun _ => fun
  | [d1, d2] => { results := [.lit (.bool false)], args := [d1, d2] }
  | _ => none }
def CalibrateAddsWrongFalsely : Prop := calibrateAddsRow.holds Try.pinned (OpenSpec.ofChange calibrateAddsWrong)

/- THE SECOND FORM. 'bulk': how many values and letters a reading holds, each counted each time it is reached (what is shared counts as often as it is met; a slice's spare places count too). A statement '..UptoSaid' is the law's where the arguments, and the package variables that the reading takes, are together of bulk at most 1048576: NARROWER than '..Said'. Prove '..Said' where nothing that the law and all that it calls make is longer than what came in: it says more and counts as full. Else prove '..UptoSaid'. A law counts once. -/
mutual
def uptoBulk {H : Type} : DataW H → Nat
  | .lit (.string bytes) => bytes.length + 1
  | .lit _ => 1
  | .nil => 1
  | .ptr d => uptoBulk d + 1
  | .slice elems spare => uptoBulkAll elems + uptoBulkAll spare + 1
  | .agg parts => uptoBulkAll parts + 1
  | .iface _ d => uptoBulk d + 1
  | .map entries => uptoBulkEntries entries + 1
  | .held _ => 1
def uptoBulkAll {H : Type} : List (DataW H) → Nat
  | [] => 0
  | d :: r => uptoBulk d + uptoBulkAll r
def uptoBulkEntries {H : Type} : List (Lit × DataW H) → Nat
  | [] => 0
  | x :: r => uptoBulkEntry x + uptoBulkEntries r
def uptoBulkEntry {H : Type} : Lit × DataW H → Nat
  | (.string bytes, d) => bytes.length + uptoBulk d + 1
  | (_, d) => uptoBulk d + 1
 end
def uptoSmall : (H : Type) → List (DataW H) → Bool := fun _ ds => decide (uptoBulkAll ds ≤ 1048576)
def OpenSpec.upto (s : _root_.Go.ChangeSpec) : _root_.Go.OpenSpec := { _root_.Go.OpenSpec.ofChange s with cond := some uptoSmall }

/-- 'metrolablaw18.FeatureReaches', WHERE WHAT IT READS IS OF BULK AT MOST 1048576: true; the input reads as it did. -/
def featureReachesUptoRow : OpenClaim := { program := "ytkgdlbepjmgaiaa", sum := "76c4e1a72a30bfa5426db301f69f5f3b088323b62e7b6a2e38b51f6ea8ca00e3", func := "metrolab/metrolablaw18.FeatureReaches", spec := "featureReaches", unfollowed := true, recurses := true, apart := false, narrowed := true }
def FeatureReachesUptoSaid : Prop := featureReachesUptoRow.holds Try.pinned (OpenSpec.upto featureReachesSpec)

/-- 'metrolablaw18.FeatureChecks', WHERE WHAT IT READS IS OF BULK AT MOST 1048576: true; the input reads as it did. -/
def featureChecksUptoRow : OpenClaim := { program := "ytkgdlbepjmgaiaa", sum := "76c4e1a72a30bfa5426db301f69f5f3b088323b62e7b6a2e38b51f6ea8ca00e3", func := "metrolab/metrolablaw18.FeatureChecks", spec := "featureChecks", unfollowed := true, recurses := true, apart := false, narrowed := true }
def FeatureChecksUptoSaid : Prop := featureChecksUptoRow.holds Try.pinned (OpenSpec.upto featureChecksSpec)

/-- 'metrolablaw18.FeatureEnds', WHERE WHAT IT READS IS OF BULK AT MOST 1048576: true; the input reads as it did. -/
def featureEndsUptoRow : OpenClaim := { program := "ytkgdlbepjmgaiaa", sum := "76c4e1a72a30bfa5426db301f69f5f3b088323b62e7b6a2e38b51f6ea8ca00e3", func := "metrolab/metrolablaw18.FeatureEnds", spec := "featureEnds", unfollowed := true, recurses := true, apart := false, narrowed := true }
def FeatureEndsUptoSaid : Prop := featureEndsUptoRow.holds Try.pinned (OpenSpec.upto featureEndsSpec)

/-- 'metrolablaw52.CalibrateWidens', WHERE WHAT IT READS IS OF BULK AT MOST 1048576: true; the input reads as it did. -/
def calibrateWidensUptoRow : OpenClaim := { program := "ytkgdlbepjmgaiaa", sum := "76c4e1a72a30bfa5426db301f69f5f3b088323b62e7b6a2e38b51f6ea8ca00e3", func := "metrolab/metrolablaw52.CalibrateWidens", spec := "calibrateWidens", unfollowed := true, recurses := true, apart := false, narrowed := true }
def CalibrateWidensUptoSaid : Prop := calibrateWidensUptoRow.holds Try.pinned (OpenSpec.upto calibrateWidensSpec)

/-- 'metrolablaw52.CalibrateParts', WHERE WHAT IT READS IS OF BULK AT MOST 1048576: true; the input reads as it did. -/
def calibratePartsUptoRow : OpenClaim := { program := "ytkgdlbepjmgaiaa", sum := "76c4e1a72a30bfa5426db301f69f5f3b088323b62e7b6a2e38b51f6ea8ca00e3", func := "metrolab/metrolablaw52.CalibrateParts", spec := "calibrateParts", unfollowed := true, recurses := true, apart := false, narrowed := true }
def CalibratePartsUptoSaid : Prop := calibratePartsUptoRow.holds Try.pinned (OpenSpec.upto calibratePartsSpec)

/-- 'metrolablaw18.FeatureKeeps', WHERE WHAT IT READS IS OF BULK AT MOST 1048576: true; the input reads as it did. -/
def featureKeepsUptoRow : OpenClaim := { program := "ytkgdlbepjmgaiaa", sum := "76c4e1a72a30bfa5426db301f69f5f3b088323b62e7b6a2e38b51f6ea8ca00e3", func := "metrolab/metrolablaw18.FeatureKeeps", spec := "featureKeeps", unfollowed := true, recurses := true, apart := false, narrowed := true }
def FeatureKeepsUptoSaid : Prop := featureKeepsUptoRow.holds Try.pinned (OpenSpec.upto featureKeepsSpec)

/-- 'metrolablaw18.FeatureCompares', WHERE WHAT IT READS IS OF BULK AT MOST 1048576: true; the input reads as it did. -/
def featureComparesUptoRow : OpenClaim := { program := "ytkgdlbepjmgaiaa", sum := "76c4e1a72a30bfa5426db301f69f5f3b088323b62e7b6a2e38b51f6ea8ca00e3", func := "metrolab/metrolablaw18.FeatureCompares", spec := "featureCompares", unfollowed := true, recurses := true, apart := false, narrowed := true }
def FeatureComparesUptoSaid : Prop := featureComparesUptoRow.holds Try.pinned (OpenSpec.upto featureComparesSpec)

/-- 'metrolablaw18.FeatureMoves', WHERE WHAT IT READS IS OF BULK AT MOST 1048576: true; the input reads as it did. -/
def featureMovesUptoRow : OpenClaim := { program := "ytkgdlbepjmgaiaa", sum := "76c4e1a72a30bfa5426db301f69f5f3b088323b62e7b6a2e38b51f6ea8ca00e3", func := "metrolab/metrolablaw18.FeatureMoves", spec := "featureMoves", unfollowed := true, recurses := true, apart := false, narrowed := true }
def FeatureMovesUptoSaid : Prop := featureMovesUptoRow.holds Try.pinned (OpenSpec.upto featureMovesSpec)

/-- 'metrolablaw18.FeatureReturns', WHERE WHAT IT READS IS OF BULK AT MOST 1048576: true; the input reads as it did. -/
def featureReturnsUptoRow : OpenClaim := { program := "ytkgdlbepjmgaiaa", sum := "76c4e1a72a30bfa5426db301f69f5f3b088323b62e7b6a2e38b51f6ea8ca00e3", func := "metrolab/metrolablaw18.FeatureReturns", spec := "featureReturns", unfollowed := true, recurses := true, apart := false, narrowed := true }
def FeatureReturnsUptoSaid : Prop := featureReturnsUptoRow.holds Try.pinned (OpenSpec.upto featureReturnsSpec)

/-- 'metrolablaw52.CalibrateChains', WHERE WHAT IT READS IS OF BULK AT MOST 1048576: true; the input reads as it did. -/
def calibrateChainsUptoRow : OpenClaim := { program := "ytkgdlbepjmgaiaa", sum := "76c4e1a72a30bfa5426db301f69f5f3b088323b62e7b6a2e38b51f6ea8ca00e3", func := "metrolab/metrolablaw52.CalibrateChains", spec := "calibrateChains", unfollowed := true, recurses := true, apart := false, narrowed := true }
def CalibrateChainsUptoSaid : Prop := calibrateChainsUptoRow.holds Try.pinned (OpenSpec.upto calibrateChainsSpec)

/-- 'metrolablaw52.CalibrateLists', WHERE WHAT IT READS IS OF BULK AT MOST 1048576: true; the input reads as it did. -/
def calibrateListsUptoRow : OpenClaim := { program := "ytkgdlbepjmgaiaa", sum := "76c4e1a72a30bfa5426db301f69f5f3b088323b62e7b6a2e38b51f6ea8ca00e3", func := "metrolab/metrolablaw52.CalibrateLists", spec := "calibrateLists", unfollowed := true, recurses := true, apart := false, narrowed := true }
def CalibrateListsUptoSaid : Prop := calibrateListsUptoRow.holds Try.pinned (OpenSpec.upto calibrateListsSpec)

/-- 'metrolablaw52.CalibrateJudges', WHERE WHAT IT READS IS OF BULK AT MOST 1048576: true; the input reads as it did. -/
def calibrateJudgesUptoRow : OpenClaim := { program := "ytkgdlbepjmgaiaa", sum := "76c4e1a72a30bfa5426db301f69f5f3b088323b62e7b6a2e38b51f6ea8ca00e3", func := "metrolab/metrolablaw52.CalibrateJudges", spec := "calibrateJudges", unfollowed := true, recurses := true, apart := false, narrowed := true }
def CalibrateJudgesUptoSaid : Prop := calibrateJudgesUptoRow.holds Try.pinned (OpenSpec.upto calibrateJudgesSpec)

/-- 'metrolablaw52.CalibrateBacks', WHERE WHAT IT READS IS OF BULK AT MOST 1048576: true; the input reads as it did. -/
def calibrateBacksUptoRow : OpenClaim := { program := "ytkgdlbepjmgaiaa", sum := "76c4e1a72a30bfa5426db301f69f5f3b088323b62e7b6a2e38b51f6ea8ca00e3", func := "metrolab/metrolablaw52.CalibrateBacks", spec := "calibrateBacks", unfollowed := true, recurses := true, apart := false, narrowed := true }
def CalibrateBacksUptoSaid : Prop := calibrateBacksUptoRow.holds Try.pinned (OpenSpec.upto calibrateBacksSpec)

/-- 'metrolablaw52.CalibrateAdds', WHERE WHAT IT READS IS OF BULK AT MOST 1048576: true; the input reads as it did. -/
def calibrateAddsUptoRow : OpenClaim := { program := "ytkgdlbepjmgaiaa", sum := "76c4e1a72a30bfa5426db301f69f5f3b088323b62e7b6a2e38b51f6ea8ca00e3", func := "metrolab/metrolablaw52.CalibrateAdds", spec := "calibrateAdds", unfollowed := true, recurses := true, apart := false, narrowed := true }
def CalibrateAddsUptoSaid : Prop := calibrateAddsUptoRow.holds Try.pinned (OpenSpec.upto calibrateAddsSpec)

end Rows
end Go.Proofs.Ytkgdlbepjmgaiaa
