/-
  No cell of these rows narrows 'for every input' (looked for: loops, veiled, ifaces, maps, wideKeys, modest, calm, conditions, laid).
  DERIVED. THE GIVEN ROWS OF THIS SEAT. 15 by the template 'for every input the law returns true; each argument reads behind the call as it read before'; 0 by the template 'total and deterministic' (their statements: YtbbienodbjfgoaaGreatTotals.lean).
  GIVEN WITH THE SEED: the statements are not yours to turn. If you find one false, say at which input.
  Laid BY PROGRAM, IN A SANDBOX (cutbox-rows.mjs): the forced cells as the released guide's own fill.sh prints them over the translation f9e9e6e0db20d89b… (all of the seat's roots in one cut). By AI agents, Wed Nov 11 2026. No macro, syntax, notation, axiom, sorry.
-/
import Derived.Test.YtbbienodbjfgoaaGreatChecked
import GoSem.Claim
import GoSem.ClaimJoined
import GoSem.ClaimMapViews
import Derived.JoinedTies
import Derived.KernelRfl
namespace Go.Proofs.YtbbienodbjfgoaaGreat
/- THE CELL 'sum', in the pinned program and in every row, IS THE sha256 OF THE DUMP (.gsa) THAT YtbbienodbjfgoaaGreatProg.lean LOADS. Nothing in Lean hashes anything: it is a label: what it is worth is what the hold of that sum in a sandbox is worth. -/
noncomputable def Tryz.pinned : Pinned := { name := "ytbbienodbjfgoaagreat", sum := "f9e9e6e0db20d89b745ad12fea0d674808320b5403d08ea1e03c73f9aed28a20", checked := Tryz.checked }
namespace Rows
def none {H : Type} : Left H := { results := [], args := [] }

/-- 'laganlaw03.FindOrigins': WHATEVER THE INPUT: true; the input reads as it did. -/
def findOriginsSpec : ChangeSpec := { name := "findOrigins", fn := fun _ => fun
  | [d1, d2, d3] => { results := [.lit (.bool true)], args := [d1, d2, d3] }
  | _ => none }
def findOriginsRow : OpenClaim := { program := "ytbbienodbjfgoaagreat", sum := "f9e9e6e0db20d89b745ad12fea0d674808320b5403d08ea1e03c73f9aed28a20", func := "lagan/laganlaw03.FindOrigins", spec := "findOrigins", unfollowed := true, recurses := true, plainKeys := false, apart := false }
def FindOriginsSaid : Prop := findOriginsRow.holds Tryz.pinned (OpenSpec.ofChange findOriginsSpec)

/-- ITS FALSE NEIGHBOUR: 'it returns false'. Refute it at one input. -/
def findOriginsWrong : ChangeSpec := { name := "findOrigins", fn := fun _ => fun
  | [d1, d2, d3] => { results := [.lit (.bool false)], args := [d1, d2, d3] }
  | _ => none }
def FindOriginsWrongFalsely : Prop := findOriginsRow.holds Tryz.pinned (OpenSpec.ofChange findOriginsWrong)

/-- 'laganlaw03.FindChanged': WHATEVER THE INPUT: true; the input reads as it did. -/
def findChangedSpec : ChangeSpec := { name := "findChanged", fn := fun _ => fun
  | [d1, d2, d3] => { results := [.lit (.bool true)], args := [d1, d2, d3] }
  | _ => none }
def findChangedRow : OpenClaim := { program := "ytbbienodbjfgoaagreat", sum := "f9e9e6e0db20d89b745ad12fea0d674808320b5403d08ea1e03c73f9aed28a20", func := "lagan/laganlaw03.FindChanged", spec := "findChanged", unfollowed := true, recurses := true, plainKeys := false, apart := false }
def FindChangedSaid : Prop := findChangedRow.holds Tryz.pinned (OpenSpec.ofChange findChangedSpec)

/-- ITS FALSE NEIGHBOUR: 'it returns false'. Refute it at one input. -/
def findChangedWrong : ChangeSpec := { name := "findChanged", fn := fun _ => fun
  | [d1, d2, d3] => { results := [.lit (.bool false)], args := [d1, d2, d3] }
  | _ => none }
def FindChangedWrongFalsely : Prop := findChangedRow.holds Tryz.pinned (OpenSpec.ofChange findChangedWrong)

/-- 'laganlaw03.FindChains': WHATEVER THE INPUT: true; the input reads as it did. -/
def findChainsSpec : ChangeSpec := { name := "findChains", fn := fun _ => fun
  | [d1, d2, d3, d4, d5] => { results := [.lit (.bool true)], args := [d1, d2, d3, d4, d5] }
  | _ => none }
def findChainsRow : OpenClaim := { program := "ytbbienodbjfgoaagreat", sum := "f9e9e6e0db20d89b745ad12fea0d674808320b5403d08ea1e03c73f9aed28a20", func := "lagan/laganlaw03.FindChains", spec := "findChains", unfollowed := true, recurses := true, plainKeys := false, apart := false }
def FindChainsSaid : Prop := findChainsRow.holds Tryz.pinned (OpenSpec.ofChange findChainsSpec)

/-- ITS FALSE NEIGHBOUR: 'it returns false'. Refute it at one input. -/
def findChainsWrong : ChangeSpec := { name := "findChains", fn := fun _ => fun
  | [d1, d2, d3, d4, d5] => { results := [.lit (.bool false)], args := [d1, d2, d3, d4, d5] }
  | _ => none }
def FindChainsWrongFalsely : Prop := findChainsRow.holds Tryz.pinned (OpenSpec.ofChange findChainsWrong)

/-- 'laganlaw03.FindEnds': WHATEVER THE INPUT: true; the input reads as it did. -/
def findEndsSpec : ChangeSpec := { name := "findEnds", fn := fun _ => fun
  | [d1, d2, d3] => { results := [.lit (.bool true)], args := [d1, d2, d3] }
  | _ => none }
def findEndsRow : OpenClaim := { program := "ytbbienodbjfgoaagreat", sum := "f9e9e6e0db20d89b745ad12fea0d674808320b5403d08ea1e03c73f9aed28a20", func := "lagan/laganlaw03.FindEnds", spec := "findEnds", unfollowed := true, recurses := true, plainKeys := false, apart := false }
def FindEndsSaid : Prop := findEndsRow.holds Tryz.pinned (OpenSpec.ofChange findEndsSpec)

/-- ITS FALSE NEIGHBOUR: 'it returns false'. Refute it at one input. -/
def findEndsWrong : ChangeSpec := { name := "findEnds", fn := fun _ => fun
  | [d1, d2, d3] => { results := [.lit (.bool false)], args := [d1, d2, d3] }
  | _ => none }
def FindEndsWrongFalsely : Prop := findEndsRow.holds Tryz.pinned (OpenSpec.ofChange findEndsWrong)

/-- 'lagantop.TopFits': WHATEVER THE INPUT: true; the input reads as it did. -/
def topFitsSpec : ChangeSpec := { name := "topFits", fn := fun _ => fun
  | [d1, d2, d3, d4, d5] => { results := [.lit (.bool true)], args := [d1, d2, d3, d4, d5] }
  | _ => none }
def topFitsRow : OpenClaim := { program := "ytbbienodbjfgoaagreat", sum := "f9e9e6e0db20d89b745ad12fea0d674808320b5403d08ea1e03c73f9aed28a20", func := "lagan/lagantop.TopFits", spec := "topFits", unfollowed := true, recurses := true, plainKeys := false, apart := false }
def TopFitsSaid : Prop := topFitsRow.holds Tryz.pinned (OpenSpec.ofChange topFitsSpec)

/-- ITS FALSE NEIGHBOUR: 'it returns false'. Refute it at one input. -/
def topFitsWrong : ChangeSpec := { name := "topFits", fn := fun _ => fun
  | [d1, d2, d3, d4, d5] => { results := [.lit (.bool false)], args := [d1, d2, d3, d4, d5] }
  | _ => none }
def TopFitsWrongFalsely : Prop := topFitsRow.holds Tryz.pinned (OpenSpec.ofChange topFitsWrong)

/-- 'laganlaw03.FindWays': WHATEVER THE INPUT: true; the input reads as it did. -/
def findWaysSpec : ChangeSpec := { name := "findWays", fn := fun _ => fun
  | [d1, d2, d3, d4] => { results := [.lit (.bool true)], args := [d1, d2, d3, d4] }
  | _ => none }
def findWaysRow : OpenClaim := { program := "ytbbienodbjfgoaagreat", sum := "f9e9e6e0db20d89b745ad12fea0d674808320b5403d08ea1e03c73f9aed28a20", func := "lagan/laganlaw03.FindWays", spec := "findWays", unfollowed := true, recurses := true, plainKeys := false, apart := false }
def FindWaysSaid : Prop := findWaysRow.holds Tryz.pinned (OpenSpec.ofChange findWaysSpec)

/-- ITS FALSE NEIGHBOUR: 'it returns false'. Refute it at one input. -/
def findWaysWrong : ChangeSpec := { name := "findWays", fn := fun _ => fun
  | [d1, d2, d3, d4] => { results := [.lit (.bool false)], args := [d1, d2, d3, d4] }
  | _ => none }
def FindWaysWrongFalsely : Prop := findWaysRow.holds Tryz.pinned (OpenSpec.ofChange findWaysWrong)

/-- 'lagantop.TopWeights': WHATEVER THE INPUT: true; the input reads as it did. -/
def topWeightsSpec : ChangeSpec := { name := "topWeights", fn := fun _ => fun
  | [d1, d2, d3, d4, d5, d6] => { results := [.lit (.bool true)], args := [d1, d2, d3, d4, d5, d6] }
  | _ => none }
def topWeightsRow : OpenClaim := { program := "ytbbienodbjfgoaagreat", sum := "f9e9e6e0db20d89b745ad12fea0d674808320b5403d08ea1e03c73f9aed28a20", func := "lagan/lagantop.TopWeights", spec := "topWeights", unfollowed := true, recurses := true, plainKeys := false, apart := false }
def TopWeightsSaid : Prop := topWeightsRow.holds Tryz.pinned (OpenSpec.ofChange topWeightsSpec)

/-- ITS FALSE NEIGHBOUR: 'it returns false'. Refute it at one input. -/
def topWeightsWrong : ChangeSpec := { name := "topWeights", fn := fun _ => fun
  | [d1, d2, d3, d4, d5, d6] => { results := [.lit (.bool false)], args := [d1, d2, d3, d4, d5, d6] }
  | _ => none }
def TopWeightsWrongFalsely : Prop := topWeightsRow.holds Tryz.pinned (OpenSpec.ofChange topWeightsWrong)

/-- 'laganlaw03.FindNarrow': WHATEVER THE INPUT: true; the input reads as it did. -/
def findNarrowSpec : ChangeSpec := { name := "findNarrow", fn := fun _ => fun
  | [d1, d2, d3] => { results := [.lit (.bool true)], args := [d1, d2, d3] }
  | _ => none }
def findNarrowRow : OpenClaim := { program := "ytbbienodbjfgoaagreat", sum := "f9e9e6e0db20d89b745ad12fea0d674808320b5403d08ea1e03c73f9aed28a20", func := "lagan/laganlaw03.FindNarrow", spec := "findNarrow", unfollowed := true, recurses := true, plainKeys := false, apart := false }
def FindNarrowSaid : Prop := findNarrowRow.holds Tryz.pinned (OpenSpec.ofChange findNarrowSpec)

/-- ITS FALSE NEIGHBOUR: 'it returns false'. Refute it at one input. -/
def findNarrowWrong : ChangeSpec := { name := "findNarrow", fn := fun _ => fun
  | [d1, d2, d3] => { results := [.lit (.bool false)], args := [d1, d2, d3] }
  | _ => none }
def FindNarrowWrongFalsely : Prop := findNarrowRow.holds Tryz.pinned (OpenSpec.ofChange findNarrowWrong)

/-- 'laganlaw03.FindLater': WHATEVER THE INPUT: true; the input reads as it did. -/
def findLaterSpec : ChangeSpec := { name := "findLater", fn := fun _ => fun
  | [d1, d2, d3, d4] => { results := [.lit (.bool true)], args := [d1, d2, d3, d4] }
  | _ => none }
def findLaterRow : OpenClaim := { program := "ytbbienodbjfgoaagreat", sum := "f9e9e6e0db20d89b745ad12fea0d674808320b5403d08ea1e03c73f9aed28a20", func := "lagan/laganlaw03.FindLater", spec := "findLater", unfollowed := true, recurses := true, plainKeys := false, apart := false }
def FindLaterSaid : Prop := findLaterRow.holds Tryz.pinned (OpenSpec.ofChange findLaterSpec)

/-- ITS FALSE NEIGHBOUR: 'it returns false'. Refute it at one input. -/
def findLaterWrong : ChangeSpec := { name := "findLater", fn := fun _ => fun
  | [d1, d2, d3, d4] => { results := [.lit (.bool false)], args := [d1, d2, d3, d4] }
  | _ => none }
def FindLaterWrongFalsely : Prop := findLaterRow.holds Tryz.pinned (OpenSpec.ofChange findLaterWrong)

/-- 'laganlaw03.FindRests': WHATEVER THE INPUT: true; the input reads as it did. -/
def findRestsSpec : ChangeSpec := { name := "findRests", fn := fun _ => fun
  | [d1, d2, d3, d4, d5, d6] => { results := [.lit (.bool true)], args := [d1, d2, d3, d4, d5, d6] }
  | _ => none }
def findRestsRow : OpenClaim := { program := "ytbbienodbjfgoaagreat", sum := "f9e9e6e0db20d89b745ad12fea0d674808320b5403d08ea1e03c73f9aed28a20", func := "lagan/laganlaw03.FindRests", spec := "findRests", unfollowed := true, recurses := true, plainKeys := false, apart := false }
def FindRestsSaid : Prop := findRestsRow.holds Tryz.pinned (OpenSpec.ofChange findRestsSpec)

/-- ITS FALSE NEIGHBOUR: 'it returns false'. Refute it at one input. -/
def findRestsWrong : ChangeSpec := { name := "findRests", fn := fun _ => fun
  | [d1, d2, d3, d4, d5, d6] => { results := [.lit (.bool false)], args := [d1, d2, d3, d4, d5, d6] }
  | _ => none }
def FindRestsWrongFalsely : Prop := findRestsRow.holds Tryz.pinned (OpenSpec.ofChange findRestsWrong)

/-- 'laganlaw03.FindNothing': WHATEVER THE INPUT: true; the input reads as it did. -/
def findNothingSpec : ChangeSpec := { name := "findNothing", fn := fun _ => fun
  | [d1, d2, d3, d4, d5] => { results := [.lit (.bool true)], args := [d1, d2, d3, d4, d5] }
  | _ => none }
def findNothingRow : OpenClaim := { program := "ytbbienodbjfgoaagreat", sum := "f9e9e6e0db20d89b745ad12fea0d674808320b5403d08ea1e03c73f9aed28a20", func := "lagan/laganlaw03.FindNothing", spec := "findNothing", unfollowed := true, recurses := true, plainKeys := false, apart := false }
def FindNothingSaid : Prop := findNothingRow.holds Tryz.pinned (OpenSpec.ofChange findNothingSpec)

/-- ITS FALSE NEIGHBOUR: 'it returns false'. Refute it at one input. -/
def findNothingWrong : ChangeSpec := { name := "findNothing", fn := fun _ => fun
  | [d1, d2, d3, d4, d5] => { results := [.lit (.bool false)], args := [d1, d2, d3, d4, d5] }
  | _ => none }
def FindNothingWrongFalsely : Prop := findNothingRow.holds Tryz.pinned (OpenSpec.ofChange findNothingWrong)

/-- 'laganlaw03.FindChecks': WHATEVER THE INPUT: true; the input reads as it did. -/
def findChecksSpec : ChangeSpec := { name := "findChecks", fn := fun _ => fun
  | [d1, d2, d3, d4, d5, d6, d7, d8] => { results := [.lit (.bool true)], args := [d1, d2, d3, d4, d5, d6, d7, d8] }
  | _ => none }
def findChecksRow : OpenClaim := { program := "ytbbienodbjfgoaagreat", sum := "f9e9e6e0db20d89b745ad12fea0d674808320b5403d08ea1e03c73f9aed28a20", func := "lagan/laganlaw03.FindChecks", spec := "findChecks", unfollowed := true, recurses := true, plainKeys := false, apart := false }
def FindChecksSaid : Prop := findChecksRow.holds Tryz.pinned (OpenSpec.ofChange findChecksSpec)

/-- ITS FALSE NEIGHBOUR: 'it returns false'. Refute it at one input. -/
def findChecksWrong : ChangeSpec := { name := "findChecks", fn := fun _ => fun
  | [d1, d2, d3, d4, d5, d6, d7, d8] => { results := [.lit (.bool false)], args := [d1, d2, d3, d4, d5, d6, d7, d8] }
  | _ => none }
def FindChecksWrongFalsely : Prop := findChecksRow.holds Tryz.pinned (OpenSpec.ofChange findChecksWrong)

/-- 'laganlaw03.FindParcels': WHATEVER THE INPUT: true; the input reads as it did. -/
def findParcelsSpec : ChangeSpec := { name := "findParcels", fn := fun _ => fun
  | [d1, d2, d3, d4] => { results := [.lit (.bool true)], args := [d1, d2, d3, d4] }
  | _ => none }
def findParcelsRow : OpenClaim := { program := "ytbbienodbjfgoaagreat", sum := "f9e9e6e0db20d89b745ad12fea0d674808320b5403d08ea1e03c73f9aed28a20", func := "lagan/laganlaw03.FindParcels", spec := "findParcels", unfollowed := true, recurses := true, plainKeys := false, apart := false }
def FindParcelsSaid : Prop := findParcelsRow.holds Tryz.pinned (OpenSpec.ofChange findParcelsSpec)

/-- ITS FALSE NEIGHBOUR: 'it returns false'. Refute it at one input. -/
def findParcelsWrong : ChangeSpec := { name := "findParcels", fn := fun _ => fun
  | [d1, d2, d3, d4] => { results := [.lit (.bool false)], args := [d1, d2, d3, d4] }
  | _ => none }
def FindParcelsWrongFalsely : Prop := findParcelsRow.holds Tryz.pinned (OpenSpec.ofChange findParcelsWrong)

/-- 'laganlaw03.FindSharp': WHATEVER THE INPUT: true; the input reads as it did. -/
def findSharpSpec : ChangeSpec := { name := "findSharp", fn := fun _ => fun
  | [d1, d2, d3, d4, d5, d6, d7, d8, d9] => { results := [.lit (.bool true)], args := [d1, d2, d3, d4, d5, d6, d7, d8, d9] }
  | _ => none }
def findSharpRow : OpenClaim := { program := "ytbbienodbjfgoaagreat", sum := "f9e9e6e0db20d89b745ad12fea0d674808320b5403d08ea1e03c73f9aed28a20", func := "lagan/laganlaw03.FindSharp", spec := "findSharp", unfollowed := true, recurses := true, plainKeys := false, apart := false }
def FindSharpSaid : Prop := findSharpRow.holds Tryz.pinned (OpenSpec.ofChange findSharpSpec)

/-- ITS FALSE NEIGHBOUR: 'it returns false'. Refute it at one input. -/
def findSharpWrong : ChangeSpec := { name := "findSharp", fn := fun _ => fun
  | [d1, d2, d3, d4, d5, d6, d7, d8, d9] => { results := [.lit (.bool false)], args := [d1, d2, d3, d4, d5, d6, d7, d8, d9] }
  | _ => none }
def FindSharpWrongFalsely : Prop := findSharpRow.holds Tryz.pinned (OpenSpec.ofChange findSharpWrong)

/-- 'laganlaw03.FindEither': WHATEVER THE INPUT: true; the input reads as it did. -/
def findEitherSpec : ChangeSpec := { name := "findEither", fn := fun _ => fun
  | [d1, d2, d3, d4] => { results := [.lit (.bool true)], args := [d1, d2, d3, d4] }
  | _ => none }
def findEitherRow : OpenClaim := { program := "ytbbienodbjfgoaagreat", sum := "f9e9e6e0db20d89b745ad12fea0d674808320b5403d08ea1e03c73f9aed28a20", func := "lagan/laganlaw03.FindEither", spec := "findEither", unfollowed := true, recurses := true, plainKeys := false, apart := false }
def FindEitherSaid : Prop := findEitherRow.holds Tryz.pinned (OpenSpec.ofChange findEitherSpec)

/-- ITS FALSE NEIGHBOUR: 'it returns false'. Refute it at one input. -/
def findEitherWrong : ChangeSpec := { name := "findEither", fn := fun _ => fun
  | [d1, d2, d3, d4] => { results := [.lit (.bool false)], args := [d1, d2, d3, d4] }
  | _ => none }
def FindEitherWrongFalsely : Prop := findEitherRow.holds Tryz.pinned (OpenSpec.ofChange findEitherWrong)

/- THE SECOND FORM. 'bulk': how many values and letters a reading holds, each counted each time it is reached (what is shared counts as often as it is met; a slice's spare places count too). A statement '..UptoSaid' is the law's where the arguments, and the package variables that the reading takes, are together of bulk at most 1048576: NARROWER than '..Said'. Prove '..Said' where nothing that the law and all that it calls make is longer than what came in: it says more and counts as full. Else prove '..UptoSaid'. A law counts once. -/
mutual
def uptoBulk {H : Type} : DataW H → Nat
  | .lit (.string bytes) => bytes.length + 1
  | .lit _ => 1
  | .nil => 1
  | .ptr d => uptoBulk d + 1
  | .slice elems spare => uptoBulkAll elems + uptoBulkAll spare + 1
  | .agg parts => uptoBulkAll parts + 1
  | .iface _ d => uptoBulk d + 1
  | .map entries => uptoBulkEntries entries + 1
  | .held _ => 1
def uptoBulkAll {H : Type} : List (DataW H) → Nat
  | [] => 0
  | d :: r => uptoBulk d + uptoBulkAll r
def uptoBulkEntries {H : Type} : List (Lit × DataW H) → Nat
  | [] => 0
  | x :: r => uptoBulkEntry x + uptoBulkEntries r
def uptoBulkEntry {H : Type} : Lit × DataW H → Nat
  | (.string bytes, d) => bytes.length + uptoBulk d + 1
  | (_, d) => uptoBulk d + 1
 end
def uptoSmall : (H : Type) → List (DataW H) → Bool := fun _ ds => decide (uptoBulkAll ds ≤ 1048576)
def OpenSpec.upto (s : _root_.Go.ChangeSpec) : _root_.Go.OpenSpec := { _root_.Go.OpenSpec.ofChange s with cond := some uptoSmall }

/-- 'laganlaw03.FindOrigins', WHERE WHAT IT READS IS OF BULK AT MOST 1048576: true; the input reads as it did. -/
def findOriginsUptoRow : OpenClaim := { program := "ytbbienodbjfgoaagreat", sum := "f9e9e6e0db20d89b745ad12fea0d674808320b5403d08ea1e03c73f9aed28a20", func := "lagan/laganlaw03.FindOrigins", spec := "findOrigins", unfollowed := true, recurses := true, plainKeys := false, apart := false, narrowed := true }
def FindOriginsUptoSaid : Prop := findOriginsUptoRow.holds Tryz.pinned (OpenSpec.upto findOriginsSpec)

/-- 'laganlaw03.FindChanged', WHERE WHAT IT READS IS OF BULK AT MOST 1048576: true; the input reads as it did. -/
def findChangedUptoRow : OpenClaim := { program := "ytbbienodbjfgoaagreat", sum := "f9e9e6e0db20d89b745ad12fea0d674808320b5403d08ea1e03c73f9aed28a20", func := "lagan/laganlaw03.FindChanged", spec := "findChanged", unfollowed := true, recurses := true, plainKeys := false, apart := false, narrowed := true }
def FindChangedUptoSaid : Prop := findChangedUptoRow.holds Tryz.pinned (OpenSpec.upto findChangedSpec)

/-- 'laganlaw03.FindChains', WHERE WHAT IT READS IS OF BULK AT MOST 1048576: true; the input reads as it did. -/
def findChainsUptoRow : OpenClaim := { program := "ytbbienodbjfgoaagreat", sum := "f9e9e6e0db20d89b745ad12fea0d674808320b5403d08ea1e03c73f9aed28a20", func := "lagan/laganlaw03.FindChains", spec := "findChains", unfollowed := true, recurses := true, plainKeys := false, apart := false, narrowed := true }
def FindChainsUptoSaid : Prop := findChainsUptoRow.holds Tryz.pinned (OpenSpec.upto findChainsSpec)

/-- 'laganlaw03.FindEnds', WHERE WHAT IT READS IS OF BULK AT MOST 1048576: true; the input reads as it did. -/
def findEndsUptoRow : OpenClaim := { program := "ytbbienodbjfgoaagreat", sum := "f9e9e6e0db20d89b745ad12fea0d674808320b5403d08ea1e03c73f9aed28a20", func := "lagan/laganlaw03.FindEnds", spec := "findEnds", unfollowed := true, recurses := true, plainKeys := false, apart := false, narrowed := true }
def FindEndsUptoSaid : Prop := findEndsUptoRow.holds Tryz.pinned (OpenSpec.upto findEndsSpec)

/-- 'lagantop.TopFits', WHERE WHAT IT READS IS OF BULK AT MOST 1048576: true; the input reads as it did. -/
def topFitsUptoRow : OpenClaim := { program := "ytbbienodbjfgoaagreat", sum := "f9e9e6e0db20d89b745ad12fea0d674808320b5403d08ea1e03c73f9aed28a20", func := "lagan/lagantop.TopFits", spec := "topFits", unfollowed := true, recurses := true, plainKeys := false, apart := false, narrowed := true }
def TopFitsUptoSaid : Prop := topFitsUptoRow.holds Tryz.pinned (OpenSpec.upto topFitsSpec)

/-- 'laganlaw03.FindWays', WHERE WHAT IT READS IS OF BULK AT MOST 1048576: true; the input reads as it did. -/
def findWaysUptoRow : OpenClaim := { program := "ytbbienodbjfgoaagreat", sum := "f9e9e6e0db20d89b745ad12fea0d674808320b5403d08ea1e03c73f9aed28a20", func := "lagan/laganlaw03.FindWays", spec := "findWays", unfollowed := true, recurses := true, plainKeys := false, apart := false, narrowed := true }
def FindWaysUptoSaid : Prop := findWaysUptoRow.holds Tryz.pinned (OpenSpec.upto findWaysSpec)

/-- 'lagantop.TopWeights', WHERE WHAT IT READS IS OF BULK AT MOST 1048576: true; the input reads as it did. -/
def topWeightsUptoRow : OpenClaim := { program := "ytbbienodbjfgoaagreat", sum := "f9e9e6e0db20d89b745ad12fea0d674808320b5403d08ea1e03c73f9aed28a20", func := "lagan/lagantop.TopWeights", spec := "topWeights", unfollowed := true, recurses := true, plainKeys := false, apart := false, narrowed := true }
def TopWeightsUptoSaid : Prop := topWeightsUptoRow.holds Tryz.pinned (OpenSpec.upto topWeightsSpec)

/-- 'laganlaw03.FindNarrow', WHERE WHAT IT READS IS OF BULK AT MOST 1048576: true; the input reads as it did. -/
def findNarrowUptoRow : OpenClaim := { program := "ytbbienodbjfgoaagreat", sum := "f9e9e6e0db20d89b745ad12fea0d674808320b5403d08ea1e03c73f9aed28a20", func := "lagan/laganlaw03.FindNarrow", spec := "findNarrow", unfollowed := true, recurses := true, plainKeys := false, apart := false, narrowed := true }
def FindNarrowUptoSaid : Prop := findNarrowUptoRow.holds Tryz.pinned (OpenSpec.upto findNarrowSpec)

/-- 'laganlaw03.FindLater', WHERE WHAT IT READS IS OF BULK AT MOST 1048576: true; the input reads as it did. -/
def findLaterUptoRow : OpenClaim := { program := "ytbbienodbjfgoaagreat", sum := "f9e9e6e0db20d89b745ad12fea0d674808320b5403d08ea1e03c73f9aed28a20", func := "lagan/laganlaw03.FindLater", spec := "findLater", unfollowed := true, recurses := true, plainKeys := false, apart := false, narrowed := true }
def FindLaterUptoSaid : Prop := findLaterUptoRow.holds Tryz.pinned (OpenSpec.upto findLaterSpec)

/-- 'laganlaw03.FindRests', WHERE WHAT IT READS IS OF BULK AT MOST 1048576: true; the input reads as it did. -/
def findRestsUptoRow : OpenClaim := { program := "ytbbienodbjfgoaagreat", sum := "f9e9e6e0db20d89b745ad12fea0d674808320b5403d08ea1e03c73f9aed28a20", func := "lagan/laganlaw03.FindRests", spec := "findRests", unfollowed := true, recurses := true, plainKeys := false, apart := false, narrowed := true }
def FindRestsUptoSaid : Prop := findRestsUptoRow.holds Tryz.pinned (OpenSpec.upto findRestsSpec)

/-- 'laganlaw03.FindNothing', WHERE WHAT IT READS IS OF BULK AT MOST 1048576: true; the input reads as it did. -/
def findNothingUptoRow : OpenClaim := { program := "ytbbienodbjfgoaagreat", sum := "f9e9e6e0db20d89b745ad12fea0d674808320b5403d08ea1e03c73f9aed28a20", func := "lagan/laganlaw03.FindNothing", spec := "findNothing", unfollowed := true, recurses := true, plainKeys := false, apart := false, narrowed := true }
def FindNothingUptoSaid : Prop := findNothingUptoRow.holds Tryz.pinned (OpenSpec.upto findNothingSpec)

/-- 'laganlaw03.FindChecks', WHERE WHAT IT READS IS OF BULK AT MOST 1048576: true; the input reads as it did. -/
def findChecksUptoRow : OpenClaim := { program := "ytbbienodbjfgoaagreat", sum := "f9e9e6e0db20d89b745ad12fea0d674808320b5403d08ea1e03c73f9aed28a20", func := "lagan/laganlaw03.FindChecks", spec := "findChecks", unfollowed := true, recurses := true, plainKeys := false, apart := false, narrowed := true }
def FindChecksUptoSaid : Prop := findChecksUptoRow.holds Tryz.pinned (OpenSpec.upto findChecksSpec)

/-- 'laganlaw03.FindParcels', WHERE WHAT IT READS IS OF BULK AT MOST 1048576: true; the input reads as it did. -/
def findParcelsUptoRow : OpenClaim := { program := "ytbbienodbjfgoaagreat", sum := "f9e9e6e0db20d89b745ad12fea0d674808320b5403d08ea1e03c73f9aed28a20", func := "lagan/laganlaw03.FindParcels", spec := "findParcels", unfollowed := true, recurses := true, plainKeys := false, apart := false, narrowed := true }
def FindParcelsUptoSaid : Prop := findParcelsUptoRow.holds Tryz.pinned (OpenSpec.upto findParcelsSpec)

/-- 'laganlaw03.FindSharp', WHERE WHAT IT READS IS OF BULK AT MOST 1048576: true; the input reads as it did. -/
def findSharpUptoRow : OpenClaim := { program := "ytbbienodbjfgoaagreat", sum := "f9e9e6e0db20d89b745ad12fea0d674808320b5403d08ea1e03c73f9aed28a20", func := "lagan/laganlaw03.FindSharp", spec := "findSharp", unfollowed := true, recurses := true, plainKeys := false, apart := false, narrowed := true }
def FindSharpUptoSaid : Prop := findSharpUptoRow.holds Tryz.pinned (OpenSpec.upto findSharpSpec)

/-- 'laganlaw03.FindEither', WHERE WHAT IT READS IS OF BULK AT MOST 1048576: true; the input reads as it did. -/
def findEitherUptoRow : OpenClaim := { program := "ytbbienodbjfgoaagreat", sum := "f9e9e6e0db20d89b745ad12fea0d674808320b5403d08ea1e03c73f9aed28a20", func := "lagan/laganlaw03.FindEither", spec := "findEither", unfollowed := true, recurses := true, plainKeys := false, apart := false, narrowed := true }
def FindEitherUptoSaid : Prop := findEitherUptoRow.holds Tryz.pinned (OpenSpec.upto findEitherSpec)

end Rows
end Go.Proofs.YtbbienodbjfgoaaGreat
