/-
  No cell of these rows narrows 'for every input' (looked for: loops, veiled, ifaces, maps, wideKeys, modest, calm, conditions, laid).
  DERIVED. THE GIVEN ROWS OF THIS SEAT. 13 by the template 'for every input the law returns true; each argument reads behind the call as it read before'; 0 by the template 'total and deterministic' (their statements: YtcpgcenlgihmnaaTotals.lean).
  GIVEN WITH THE SEED: the statements are not yours to turn. If you find one false, say at which input.
  Laid BY PROGRAM, IN A SANDBOX (cutbox-rows.mjs): the forced cells as the released guide's own fill.sh prints them over the translation ea34ae4d1e750839… (all of the seat's roots in one cut). By AI agents, Wed Nov 11 2026. No macro, syntax, notation, axiom, sorry.
-/
import Derived.Test.YtcpgcenlgihmnaaChecked
import GoSem.Claim
import GoSem.ClaimJoined
import GoSem.ClaimMapViews
import Derived.JoinedTies
import Derived.KernelRfl
namespace Go.Proofs.Ytcpgcenlgihmnaa
/- THE CELL 'sum', in the pinned program and in every row, IS THE sha256 OF THE DUMP (.gsa) THAT YtcpgcenlgihmnaaProg.lean LOADS. Nothing in Lean hashes anything: it is a label: what it is worth is what the hold of that sum in a sandbox is worth. -/
noncomputable def Try.pinned : Pinned := { name := "ytcpgcenlgihmnaa", sum := "ea34ae4d1e75083995e419a1573fc8aadc1a0689f381b3b66a1d9def4730f55e", checked := Try.checked }
namespace Rows
def none {H : Type} : Left H := { results := [], args := [] }

/-- 'canopylaw4.RunsSteps': WHATEVER THE INPUT: true; the input reads as it did. -/
def runsStepsSpec : ChangeSpec := { name := "runsSteps", fn := fun _ => fun
  | [d1, d2, d3, d4] => { results := [.lit (.bool true)], args := [d1, d2, d3, d4] }
  | _ => none }
def runsStepsRow : OpenClaim := { program := "ytcpgcenlgihmnaa", sum := "ea34ae4d1e75083995e419a1573fc8aadc1a0689f381b3b66a1d9def4730f55e", func := "canopy/canopylaw4.RunsSteps", spec := "runsSteps", unfollowed := true, recurses := true, plainKeys := false, apart := false }
def RunsStepsSaid : Prop := runsStepsRow.holds Try.pinned (OpenSpec.ofChange runsStepsSpec)

/-- ITS FALSE NEIGHBOUR: 'it returns false'. Refute it at one input. -/
def runsStepsWrong : ChangeSpec := { name := "runsSteps", fn := fun _ => fun
  | [d1, d2, d3, d4] => { results := [.lit (.bool false)], args := [d1, d2, d3, d4] }
  | _ => none }
def RunsStepsWrongFalsely : Prop := runsStepsRow.holds Try.pinned (OpenSpec.ofChange runsStepsWrong)

/-- 'canopylaw4.RunsNorm': WHATEVER THE INPUT: true; the input reads as it did. -/
def runsNormSpec : ChangeSpec := { name := "runsNorm", fn := fun _ => fun
  | [d1, d2, d3, d4] => { results := [.lit (.bool true)], args := [d1, d2, d3, d4] }
  | _ => none }
def runsNormRow : OpenClaim := { program := "ytcpgcenlgihmnaa", sum := "ea34ae4d1e75083995e419a1573fc8aadc1a0689f381b3b66a1d9def4730f55e", func := "canopy/canopylaw4.RunsNorm", spec := "runsNorm", unfollowed := true, recurses := true, plainKeys := false, apart := false }
def RunsNormSaid : Prop := runsNormRow.holds Try.pinned (OpenSpec.ofChange runsNormSpec)

/-- ITS FALSE NEIGHBOUR: 'it returns false'. Refute it at one input. -/
def runsNormWrong : ChangeSpec := { name := "runsNorm", fn := fun _ => fun
  | [d1, d2, d3, d4] => { results := [.lit (.bool false)], args := [d1, d2, d3, d4] }
  | _ => none }
def RunsNormWrongFalsely : Prop := runsNormRow.holds Try.pinned (OpenSpec.ofChange runsNormWrong)

/-- 'canopylaw4.RunsLong': WHATEVER THE INPUT: true; the input reads as it did. -/
def runsLongSpec : ChangeSpec := { name := "runsLong", fn := fun _ => fun
  | [d1, d2, d3, d4] => { results := [.lit (.bool true)], args := [d1, d2, d3, d4] }
  | _ => none }
def runsLongRow : OpenClaim := { program := "ytcpgcenlgihmnaa", sum := "ea34ae4d1e75083995e419a1573fc8aadc1a0689f381b3b66a1d9def4730f55e", func := "canopy/canopylaw4.RunsLong", spec := "runsLong", unfollowed := true, recurses := true, plainKeys := false, apart := false }
def RunsLongSaid : Prop := runsLongRow.holds Try.pinned (OpenSpec.ofChange runsLongSpec)

/-- ITS FALSE NEIGHBOUR: 'it returns false'. Refute it at one input. -/
def runsLongWrong : ChangeSpec := { name := "runsLong", fn := fun _ => fun
  | [d1, d2, d3, d4] => { results := [.lit (.bool false)], args := [d1, d2, d3, d4] }
  | _ => none }
def RunsLongWrongFalsely : Prop := runsLongRow.holds Try.pinned (OpenSpec.ofChange runsLongWrong)

/-- 'canopylaw4.RunsWhole': WHATEVER THE INPUT: true; the input reads as it did. -/
def runsWholeSpec : ChangeSpec := { name := "runsWhole", fn := fun _ => fun
  | [d1, d2, d3, d4, d5] => { results := [.lit (.bool true)], args := [d1, d2, d3, d4, d5] }
  | _ => none }
def runsWholeRow : OpenClaim := { program := "ytcpgcenlgihmnaa", sum := "ea34ae4d1e75083995e419a1573fc8aadc1a0689f381b3b66a1d9def4730f55e", func := "canopy/canopylaw4.RunsWhole", spec := "runsWhole", unfollowed := true, recurses := true, plainKeys := false, apart := false }
def RunsWholeSaid : Prop := runsWholeRow.holds Try.pinned (OpenSpec.ofChange runsWholeSpec)

/-- ITS FALSE NEIGHBOUR: 'it returns false'. Refute it at one input. -/
def runsWholeWrong : ChangeSpec := { name := "runsWhole", fn := fun _ => fun
  | [d1, d2, d3, d4, d5] => { results := [.lit (.bool false)], args := [d1, d2, d3, d4, d5] }
  | _ => none }
def RunsWholeWrongFalsely : Prop := runsWholeRow.holds Try.pinned (OpenSpec.ofChange runsWholeWrong)

/-- 'canopylaw4.RunsOwn': WHATEVER THE INPUT: true; the input reads as it did. -/
def runsOwnSpec : ChangeSpec := { name := "runsOwn", fn := fun _ => fun
  | [d1, d2, d3, d4] => { results := [.lit (.bool true)], args := [d1, d2, d3, d4] }
  | _ => none }
def runsOwnRow : OpenClaim := { program := "ytcpgcenlgihmnaa", sum := "ea34ae4d1e75083995e419a1573fc8aadc1a0689f381b3b66a1d9def4730f55e", func := "canopy/canopylaw4.RunsOwn", spec := "runsOwn", unfollowed := true, recurses := true, plainKeys := false, apart := false }
def RunsOwnSaid : Prop := runsOwnRow.holds Try.pinned (OpenSpec.ofChange runsOwnSpec)

/-- ITS FALSE NEIGHBOUR: 'it returns false'. Refute it at one input. -/
def runsOwnWrong : ChangeSpec := { name := "runsOwn", fn := fun _ => fun
  | [d1, d2, d3, d4] => { results := [.lit (.bool false)], args := [d1, d2, d3, d4] }
  | _ => none }
def RunsOwnWrongFalsely : Prop := runsOwnRow.holds Try.pinned (OpenSpec.ofChange runsOwnWrong)

/-- 'canopylaw6.MarksAll': WHATEVER THE INPUT: true; the input reads as it did. -/
def marksAllSpec : ChangeSpec := { name := "marksAll", fn := fun _ => fun
  | [d1, d2] => { results := [.lit (.bool true)], args := [d1, d2] }
  | _ => none }
def marksAllRow : OpenClaim := { program := "ytcpgcenlgihmnaa", sum := "ea34ae4d1e75083995e419a1573fc8aadc1a0689f381b3b66a1d9def4730f55e", func := "canopy/canopylaw6.MarksAll", spec := "marksAll", unfollowed := true, recurses := true, plainKeys := false, apart := false }
def MarksAllSaid : Prop := marksAllRow.holds Try.pinned (OpenSpec.ofChange marksAllSpec)

/-- ITS FALSE NEIGHBOUR: 'it returns false'. Refute it at one input. -/
def marksAllWrong : ChangeSpec := { name := "marksAll", fn := fun _ => fun
  | [d1, d2] => { results := [.lit (.bool false)], args := [d1, d2] }
  | _ => none }
def MarksAllWrongFalsely : Prop := marksAllRow.holds Try.pinned (OpenSpec.ofChange marksAllWrong)

/-- 'canopylaw6.MarksWords': WHATEVER THE INPUT: true; the input reads as it did. -/
def marksWordsSpec : ChangeSpec := { name := "marksWords", fn := fun _ => fun
  | [d1, d2, d3] => { results := [.lit (.bool true)], args := [d1, d2, d3] }
  | _ => none }
def marksWordsRow : OpenClaim := { program := "ytcpgcenlgihmnaa", sum := "ea34ae4d1e75083995e419a1573fc8aadc1a0689f381b3b66a1d9def4730f55e", func := "canopy/canopylaw6.MarksWords", spec := "marksWords", unfollowed := true, recurses := true, plainKeys := false, apart := false }
def MarksWordsSaid : Prop := marksWordsRow.holds Try.pinned (OpenSpec.ofChange marksWordsSpec)

/-- ITS FALSE NEIGHBOUR: 'it returns false'. Refute it at one input. -/
def marksWordsWrong : ChangeSpec := { name := "marksWords", fn := fun _ => fun
  | [d1, d2, d3] => { results := [.lit (.bool false)], args := [d1, d2, d3] }
  | _ => none }
def MarksWordsWrongFalsely : Prop := marksWordsRow.holds Try.pinned (OpenSpec.ofChange marksWordsWrong)

/-- 'canopylaw6.MarksVoid': WHATEVER THE INPUT: true; the input reads as it did. -/
def marksVoidSpec : ChangeSpec := { name := "marksVoid", fn := fun _ => fun
  | [d1, d2] => { results := [.lit (.bool true)], args := [d1, d2] }
  | _ => none }
def marksVoidRow : OpenClaim := { program := "ytcpgcenlgihmnaa", sum := "ea34ae4d1e75083995e419a1573fc8aadc1a0689f381b3b66a1d9def4730f55e", func := "canopy/canopylaw6.MarksVoid", spec := "marksVoid", unfollowed := true, recurses := true, plainKeys := false, apart := false }
def MarksVoidSaid : Prop := marksVoidRow.holds Try.pinned (OpenSpec.ofChange marksVoidSpec)

/-- ITS FALSE NEIGHBOUR: 'it returns false'. Refute it at one input. -/
def marksVoidWrong : ChangeSpec := { name := "marksVoid", fn := fun _ => fun
  | [d1, d2] => { results := [.lit (.bool false)], args := [d1, d2] }
  | _ => none }
def MarksVoidWrongFalsely : Prop := marksVoidRow.holds Try.pinned (OpenSpec.ofChange marksVoidWrong)

/-- 'canopylaw6.MarksNests': WHATEVER THE INPUT: true; the input reads as it did. -/
def marksNestsSpec : ChangeSpec := { name := "marksNests", fn := fun _ => fun
  | [d1, d2] => { results := [.lit (.bool true)], args := [d1, d2] }
  | _ => none }
def marksNestsRow : OpenClaim := { program := "ytcpgcenlgihmnaa", sum := "ea34ae4d1e75083995e419a1573fc8aadc1a0689f381b3b66a1d9def4730f55e", func := "canopy/canopylaw6.MarksNests", spec := "marksNests", unfollowed := true, recurses := true, plainKeys := false, apart := false }
def MarksNestsSaid : Prop := marksNestsRow.holds Try.pinned (OpenSpec.ofChange marksNestsSpec)

/-- ITS FALSE NEIGHBOUR: 'it returns false'. Refute it at one input. -/
def marksNestsWrong : ChangeSpec := { name := "marksNests", fn := fun _ => fun
  | [d1, d2] => { results := [.lit (.bool false)], args := [d1, d2] }
  | _ => none }
def MarksNestsWrongFalsely : Prop := marksNestsRow.holds Try.pinned (OpenSpec.ofChange marksNestsWrong)

/-- 'canopylaw6.MarksKnown': WHATEVER THE INPUT: true; the input reads as it did. -/
def marksKnownSpec : ChangeSpec := { name := "marksKnown", fn := fun _ => fun
  | [d] => { results := [.lit (.bool true)], args := [d] }
  | _ => none }
def marksKnownRow : OpenClaim := { program := "ytcpgcenlgihmnaa", sum := "ea34ae4d1e75083995e419a1573fc8aadc1a0689f381b3b66a1d9def4730f55e", func := "canopy/canopylaw6.MarksKnown", spec := "marksKnown", unfollowed := true, recurses := true, plainKeys := false, apart := false }
def MarksKnownSaid : Prop := marksKnownRow.holds Try.pinned (OpenSpec.ofChange marksKnownSpec)

/-- ITS FALSE NEIGHBOUR: 'it returns false'. Refute it at one input. -/
def marksKnownWrong : ChangeSpec := { name := "marksKnown", fn := fun _ => fun
  | [d] => { results := [.lit (.bool false)], args := [d] }
  | _ => none }
def MarksKnownWrongFalsely : Prop := marksKnownRow.holds Try.pinned (OpenSpec.ofChange marksKnownWrong)

/-- 'canopylaw6.MarksStar': WHATEVER THE INPUT: true; the input reads as it did. -/
def marksStarSpec : ChangeSpec := { name := "marksStar", fn := fun _ => fun
  | [d1, d2] => { results := [.lit (.bool true)], args := [d1, d2] }
  | _ => none }
def marksStarRow : OpenClaim := { program := "ytcpgcenlgihmnaa", sum := "ea34ae4d1e75083995e419a1573fc8aadc1a0689f381b3b66a1d9def4730f55e", func := "canopy/canopylaw6.MarksStar", spec := "marksStar", unfollowed := true, recurses := true, plainKeys := false, apart := false }
def MarksStarSaid : Prop := marksStarRow.holds Try.pinned (OpenSpec.ofChange marksStarSpec)

/-- ITS FALSE NEIGHBOUR: 'it returns false'. Refute it at one input. -/
def marksStarWrong : ChangeSpec := { name := "marksStar", fn := fun _ => fun
  | [d1, d2] => { results := [.lit (.bool false)], args := [d1, d2] }
  | _ => none }
def MarksStarWrongFalsely : Prop := marksStarRow.holds Try.pinned (OpenSpec.ofChange marksStarWrong)

/-- 'canopylaw6.MarksBounds': WHATEVER THE INPUT: true; the input reads as it did. -/
def marksBoundsSpec : ChangeSpec := { name := "marksBounds", fn := fun _ => fun
  | [d1, d2] => { results := [.lit (.bool true)], args := [d1, d2] }
  | _ => none }
def marksBoundsRow : OpenClaim := { program := "ytcpgcenlgihmnaa", sum := "ea34ae4d1e75083995e419a1573fc8aadc1a0689f381b3b66a1d9def4730f55e", func := "canopy/canopylaw6.MarksBounds", spec := "marksBounds", unfollowed := true, recurses := true, plainKeys := false, apart := false }
def MarksBoundsSaid : Prop := marksBoundsRow.holds Try.pinned (OpenSpec.ofChange marksBoundsSpec)

/-- ITS FALSE NEIGHBOUR: 'it returns false'. Refute it at one input. -/
def marksBoundsWrong : ChangeSpec := { name := "marksBounds", fn := fun _ => fun
  | [d1, d2] => { results := [.lit (.bool false)], args := [d1, d2] }
  | _ => none }
def MarksBoundsWrongFalsely : Prop := marksBoundsRow.holds Try.pinned (OpenSpec.ofChange marksBoundsWrong)

/-- 'canopylaw6.MarksOwn': WHATEVER THE INPUT: true; the input reads as it did. -/
def marksOwnSpec : ChangeSpec := { name := "marksOwn", fn := fun _ => fun
  | [d1, d2] => { results := [.lit (.bool true)], args := [d1, d2] }
  | _ => none }
def marksOwnRow : OpenClaim := { program := "ytcpgcenlgihmnaa", sum := "ea34ae4d1e75083995e419a1573fc8aadc1a0689f381b3b66a1d9def4730f55e", func := "canopy/canopylaw6.MarksOwn", spec := "marksOwn", unfollowed := true, recurses := true, plainKeys := false, apart := false }
def MarksOwnSaid : Prop := marksOwnRow.holds Try.pinned (OpenSpec.ofChange marksOwnSpec)

/-- ITS FALSE NEIGHBOUR: 'it returns false'. Refute it at one input. -/
def marksOwnWrong : ChangeSpec := { name := "marksOwn", fn := fun _ => fun
  | [d1, d2] => { results := [.lit (.bool false)], args := [d1, d2] }
  | _ => none }
def MarksOwnWrongFalsely : Prop := marksOwnRow.holds Try.pinned (OpenSpec.ofChange marksOwnWrong)

/- THE SECOND FORM. 'bulk': how many values and letters a reading holds, each counted each time it is reached (what is shared counts as often as it is met; a slice's spare places count too). A statement '..UptoSaid' is the law's where the arguments, and the package variables that the reading takes, are together of bulk at most 1048576: NARROWER than '..Said'. Prove '..Said' where nothing that the law and all that it calls make is longer than what came in: it says more and counts as full. Else prove '..UptoSaid'. A law counts once. -/
mutual
def uptoBulk {H : Type} : DataW H → Nat
  | .lit (.string bytes) => bytes.length + 1
  | .lit _ => 1
  | .nil => 1
  | .ptr d => uptoBulk d + 1
  | .slice elems spare => uptoBulkAll elems + uptoBulkAll spare + 1
  | .agg parts => uptoBulkAll parts + 1
  | .iface _ d => uptoBulk d + 1
  | .map entries => uptoBulkEntries entries + 1
  | .held _ => 1
def uptoBulkAll {H : Type} : List (DataW H) → Nat
  | [] => 0
  | d :: r => uptoBulk d + uptoBulkAll r
def uptoBulkEntries {H : Type} : List (Lit × DataW H) → Nat
  | [] => 0
  | x :: r => uptoBulkEntry x + uptoBulkEntries r
def uptoBulkEntry {H : Type} : Lit × DataW H → Nat
  | (.string bytes, d) => bytes.length + uptoBulk d + 1
  | (_, d) => uptoBulk d + 1
 end
def uptoSmall : (H : Type) → List (DataW H) → Bool := fun _ ds => decide (uptoBulkAll ds ≤ 1048576)
def OpenSpec.upto (s : _root_.Go.ChangeSpec) : _root_.Go.OpenSpec := { _root_.Go.OpenSpec.ofChange s with cond := some uptoSmall }

/-- 'canopylaw4.RunsSteps', WHERE WHAT IT READS IS OF BULK AT MOST 1048576: true; the input reads as it did. -/
def runsStepsUptoRow : OpenClaim := { program := "ytcpgcenlgihmnaa", sum := "ea34ae4d1e75083995e419a1573fc8aadc1a0689f381b3b66a1d9def4730f55e", func := "canopy/canopylaw4.RunsSteps", spec := "runsSteps", unfollowed := true, recurses := true, plainKeys := false, apart := false, narrowed := true }
def RunsStepsUptoSaid : Prop := runsStepsUptoRow.holds Try.pinned (OpenSpec.upto runsStepsSpec)

/-- 'canopylaw4.RunsNorm', WHERE WHAT IT READS IS OF BULK AT MOST 1048576: true; the input reads as it did. -/
def runsNormUptoRow : OpenClaim := { program := "ytcpgcenlgihmnaa", sum := "ea34ae4d1e75083995e419a1573fc8aadc1a0689f381b3b66a1d9def4730f55e", func := "canopy/canopylaw4.RunsNorm", spec := "runsNorm", unfollowed := true, recurses := true, plainKeys := false, apart := false, narrowed := true }
def RunsNormUptoSaid : Prop := runsNormUptoRow.holds Try.pinned (OpenSpec.upto runsNormSpec)

/-- 'canopylaw4.RunsLong', WHERE WHAT IT READS IS OF BULK AT MOST 1048576: true; the input reads as it did. -/
def runsLongUptoRow : OpenClaim := { program := "ytcpgcenlgihmnaa", sum := "ea34ae4d1e75083995e419a1573fc8aadc1a0689f381b3b66a1d9def4730f55e", func := "canopy/canopylaw4.RunsLong", spec := "runsLong", unfollowed := true, recurses := true, plainKeys := false, apart := false, narrowed := true }
def RunsLongUptoSaid : Prop := runsLongUptoRow.holds Try.pinned (OpenSpec.upto runsLongSpec)

/-- 'canopylaw4.RunsWhole', WHERE WHAT IT READS IS OF BULK AT MOST 1048576: true; the input reads as it did. -/
def runsWholeUptoRow : OpenClaim := { program := "ytcpgcenlgihmnaa", sum := "ea34ae4d1e75083995e419a1573fc8aadc1a0689f381b3b66a1d9def4730f55e", func := "canopy/canopylaw4.RunsWhole", spec := "runsWhole", unfollowed := true, recurses := true, plainKeys := false, apart := false, narrowed := true }
def RunsWholeUptoSaid : Prop := runsWholeUptoRow.holds Try.pinned (OpenSpec.upto runsWholeSpec)

/-- 'canopylaw4.RunsOwn', WHERE WHAT IT READS IS OF BULK AT MOST 1048576: true; the input reads as it did. -/
def runsOwnUptoRow : OpenClaim := { program := "ytcpgcenlgihmnaa", sum := "ea34ae4d1e75083995e419a1573fc8aadc1a0689f381b3b66a1d9def4730f55e", func := "canopy/canopylaw4.RunsOwn", spec := "runsOwn", unfollowed := true, recurses := true, plainKeys := false, apart := false, narrowed := true }
def RunsOwnUptoSaid : Prop := runsOwnUptoRow.holds Try.pinned (OpenSpec.upto runsOwnSpec)

/-- 'canopylaw6.MarksAll', WHERE WHAT IT READS IS OF BULK AT MOST 1048576: true; the input reads as it did. -/
def marksAllUptoRow : OpenClaim := { program := "ytcpgcenlgihmnaa", sum := "ea34ae4d1e75083995e419a1573fc8aadc1a0689f381b3b66a1d9def4730f55e", func := "canopy/canopylaw6.MarksAll", spec := "marksAll", unfollowed := true, recurses := true, plainKeys := false, apart := false, narrowed := true }
def MarksAllUptoSaid : Prop := marksAllUptoRow.holds Try.pinned (OpenSpec.upto marksAllSpec)

/-- 'canopylaw6.MarksWords', WHERE WHAT IT READS IS OF BULK AT MOST 1048576: true; the input reads as it did. -/
def marksWordsUptoRow : OpenClaim := { program := "ytcpgcenlgihmnaa", sum := "ea34ae4d1e75083995e419a1573fc8aadc1a0689f381b3b66a1d9def4730f55e", func := "canopy/canopylaw6.MarksWords", spec := "marksWords", unfollowed := true, recurses := true, plainKeys := false, apart := false, narrowed := true }
def MarksWordsUptoSaid : Prop := marksWordsUptoRow.holds Try.pinned (OpenSpec.upto marksWordsSpec)

/-- 'canopylaw6.MarksVoid', WHERE WHAT IT READS IS OF BULK AT MOST 1048576: true; the input reads as it did. -/
def marksVoidUptoRow : OpenClaim := { program := "ytcpgcenlgihmnaa", sum := "ea34ae4d1e75083995e419a1573fc8aadc1a0689f381b3b66a1d9def4730f55e", func := "canopy/canopylaw6.MarksVoid", spec := "marksVoid", unfollowed := true, recurses := true, plainKeys := false, apart := false, narrowed := true }
def MarksVoidUptoSaid : Prop := marksVoidUptoRow.holds Try.pinned (OpenSpec.upto marksVoidSpec)

/-- 'canopylaw6.MarksNests', WHERE WHAT IT READS IS OF BULK AT MOST 1048576: true; the input reads as it did. -/
def marksNestsUptoRow : OpenClaim := { program := "ytcpgcenlgihmnaa", sum := "ea34ae4d1e75083995e419a1573fc8aadc1a0689f381b3b66a1d9def4730f55e", func := "canopy/canopylaw6.MarksNests", spec := "marksNests", unfollowed := true, recurses := true, plainKeys := false, apart := false, narrowed := true }
def MarksNestsUptoSaid : Prop := marksNestsUptoRow.holds Try.pinned (OpenSpec.upto marksNestsSpec)

/-- 'canopylaw6.MarksKnown', WHERE WHAT IT READS IS OF BULK AT MOST 1048576: true; the input reads as it did. -/
def marksKnownUptoRow : OpenClaim := { program := "ytcpgcenlgihmnaa", sum := "ea34ae4d1e75083995e419a1573fc8aadc1a0689f381b3b66a1d9def4730f55e", func := "canopy/canopylaw6.MarksKnown", spec := "marksKnown", unfollowed := true, recurses := true, plainKeys := false, apart := false, narrowed := true }
def MarksKnownUptoSaid : Prop := marksKnownUptoRow.holds Try.pinned (OpenSpec.upto marksKnownSpec)

/-- 'canopylaw6.MarksStar', WHERE WHAT IT READS IS OF BULK AT MOST 1048576: true; the input reads as it did. -/
def marksStarUptoRow : OpenClaim := { program := "ytcpgcenlgihmnaa", sum := "ea34ae4d1e75083995e419a1573fc8aadc1a0689f381b3b66a1d9def4730f55e", func := "canopy/canopylaw6.MarksStar", spec := "marksStar", unfollowed := true, recurses := true, plainKeys := false, apart := false, narrowed := true }
def MarksStarUptoSaid : Prop := marksStarUptoRow.holds Try.pinned (OpenSpec.upto marksStarSpec)

/-- 'canopylaw6.MarksBounds', WHERE WHAT IT READS IS OF BULK AT MOST 1048576: true; the input reads as it did. -/
def marksBoundsUptoRow : OpenClaim := { program := "ytcpgcenlgihmnaa", sum := "ea34ae4d1e75083995e419a1573fc8aadc1a0689f381b3b66a1d9def4730f55e", func := "canopy/canopylaw6.MarksBounds", spec := "marksBounds", unfollowed := true, recurses := true, plainKeys := false, apart := false, narrowed := true }
def MarksBoundsUptoSaid : Prop := marksBoundsUptoRow.holds Try.pinned (OpenSpec.upto marksBoundsSpec)

/-- 'canopylaw6.MarksOwn', WHERE WHAT IT READS IS OF BULK AT MOST 1048576: true; the input reads as it did. -/
def marksOwnUptoRow : OpenClaim := { program := "ytcpgcenlgihmnaa", sum := "ea34ae4d1e75083995e419a1573fc8aadc1a0689f381b3b66a1d9def4730f55e", func := "canopy/canopylaw6.MarksOwn", spec := "marksOwn", unfollowed := true, recurses := true, plainKeys := false, apart := false, narrowed := true }
def MarksOwnUptoSaid : Prop := marksOwnUptoRow.holds Try.pinned (OpenSpec.upto marksOwnSpec)

end Rows
end Go.Proofs.Ytcpgcenlgihmnaa
