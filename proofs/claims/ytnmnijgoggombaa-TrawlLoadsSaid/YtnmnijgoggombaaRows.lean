/-
  No cell of these rows narrows 'for every input' (looked for: loops, veiled, ifaces, maps, wideKeys, modest, calm, conditions, laid).
  DERIVED. THE GIVEN ROWS OF THIS SEAT. 7 by the template 'for every input the law returns true; each argument reads behind the call as it read before'; 0 by the template 'total and deterministic' (their statements: YtnmnijgoggombaaTotals.lean).
  GIVEN WITH THE SEED: the statements are not yours to turn. If you find one false, say at which input.
  Laid BY PROGRAM, IN A SANDBOX (cutbox-rows.mjs): the forced cells as the released guide's own fill.sh prints them over the translation c55d422624e33678… (all of the seat's roots in one cut). By AI agents, Wed Nov 11 2026. No macro, syntax, notation, axiom, sorry.
-/
import Derived.Test.YtnmnijgoggombaaChecked
import GoSem.Claim
import GoSem.ClaimJoined
import GoSem.ClaimMapViews
import Derived.JoinedTies
import Derived.KernelRfl
namespace Go.Proofs.Ytnmnijgoggombaa
/- THE CELL 'sum', in the pinned program and in every row, IS THE sha256 OF THE DUMP (.gsa) THAT YtnmnijgoggombaaProg.lean LOADS. Nothing in Lean hashes anything: it is a label: what it is worth is what the hold of that sum in a sandbox is worth. -/
noncomputable def Try.pinned : Pinned := { name := "ytnmnijgoggombaa", sum := "c55d422624e3367871cce80e7c9e5d85f5f9c6502e50e6b091c6853d52f40507", checked := Try.checked }
namespace Rows
def none {H : Type} : Left H := { results := [], args := [] }

/-- 'codendlaw07.TrawlLoads': WHATEVER THE INPUT: true; the input reads as it did. -/
def trawlLoadsSpec : ChangeSpec := { name := "trawlLoads", fn := fun _ => fun
  | [d1, d2] => { results := [.lit (.bool true)], args := [d1, d2] }
  | _ => none }
def trawlLoadsRow : OpenClaim := { program := "ytnmnijgoggombaa", sum := "c55d422624e3367871cce80e7c9e5d85f5f9c6502e50e6b091c6853d52f40507", func := "codend/codendlaw07.TrawlLoads", spec := "trawlLoads", unfollowed := true, recurses := true, plainKeys := false, apart := false }
def TrawlLoadsSaid : Prop := trawlLoadsRow.holds Try.pinned (OpenSpec.ofChange trawlLoadsSpec)

/-- ITS FALSE NEIGHBOUR: 'it returns false'. Refute it at one input. -/
def trawlLoadsWrong : ChangeSpec := { name := "trawlLoads", fn := fun _ => fun
  | [d1, d2] => { results := [.lit (.bool false)], args := [d1, d2] }
  | _ => none }
def TrawlLoadsWrongFalsely : Prop := trawlLoadsRow.holds Try.pinned (OpenSpec.ofChange trawlLoadsWrong)

/-- 'codendlaw07.TrawlBalances': WHATEVER THE INPUT: true; the input reads as it did. -/
def trawlBalancesSpec : ChangeSpec := { name := "trawlBalances", fn := fun _ => fun
  | [d1, d2] => { results := [.lit (.bool true)], args := [d1, d2] }
  | _ => none }
def trawlBalancesRow : OpenClaim := { program := "ytnmnijgoggombaa", sum := "c55d422624e3367871cce80e7c9e5d85f5f9c6502e50e6b091c6853d52f40507", func := "codend/codendlaw07.TrawlBalances", spec := "trawlBalances", unfollowed := true, recurses := true, plainKeys := false, apart := false }
def TrawlBalancesSaid : Prop := trawlBalancesRow.holds Try.pinned (OpenSpec.ofChange trawlBalancesSpec)

/-- ITS FALSE NEIGHBOUR: 'it returns false'. Refute it at one input. -/
def trawlBalancesWrong : ChangeSpec := { name := "trawlBalances", fn := fun _ => fun
  | [d1, d2] => { results := [.lit (.bool false)], args := [d1, d2] }
  | _ => none }
def TrawlBalancesWrongFalsely : Prop := trawlBalancesRow.holds Try.pinned (OpenSpec.ofChange trawlBalancesWrong)

/-- 'codendlaw07.TrawlCircles': WHATEVER THE INPUT: true; the input reads as it did. -/
def trawlCirclesSpec : ChangeSpec := { name := "trawlCircles", fn := fun _ => fun
  | [d] => { results := [.lit (.bool true)], args := [d] }
  | _ => none }
def trawlCirclesRow : OpenClaim := { program := "ytnmnijgoggombaa", sum := "c55d422624e3367871cce80e7c9e5d85f5f9c6502e50e6b091c6853d52f40507", func := "codend/codendlaw07.TrawlCircles", spec := "trawlCircles", unfollowed := true, recurses := true, plainKeys := false, apart := false }
def TrawlCirclesSaid : Prop := trawlCirclesRow.holds Try.pinned (OpenSpec.ofChange trawlCirclesSpec)

/-- ITS FALSE NEIGHBOUR: 'it returns false'. Refute it at one input. -/
def trawlCirclesWrong : ChangeSpec := { name := "trawlCircles", fn := fun _ => fun
  | [d] => { results := [.lit (.bool false)], args := [d] }
  | _ => none }
def TrawlCirclesWrongFalsely : Prop := trawlCirclesRow.holds Try.pinned (OpenSpec.ofChange trawlCirclesWrong)

/-- 'codendlaw07.TrawlSigns': WHATEVER THE INPUT: true; the input reads as it did. -/
def trawlSignsSpec : ChangeSpec := { name := "trawlSigns", fn := fun _ => fun
  | [d1, d2] => { results := [.lit (.bool true)], args := [d1, d2] }
  | _ => none }
def trawlSignsRow : OpenClaim := { program := "ytnmnijgoggombaa", sum := "c55d422624e3367871cce80e7c9e5d85f5f9c6502e50e6b091c6853d52f40507", func := "codend/codendlaw07.TrawlSigns", spec := "trawlSigns", unfollowed := true, recurses := true, plainKeys := false, apart := false }
def TrawlSignsSaid : Prop := trawlSignsRow.holds Try.pinned (OpenSpec.ofChange trawlSignsSpec)

/-- ITS FALSE NEIGHBOUR: 'it returns false'. Refute it at one input. -/
def trawlSignsWrong : ChangeSpec := { name := "trawlSigns", fn := fun _ => fun
  | [d1, d2] => { results := [.lit (.bool false)], args := [d1, d2] }
  | _ => none }
def TrawlSignsWrongFalsely : Prop := trawlSignsRow.holds Try.pinned (OpenSpec.ofChange trawlSignsWrong)

/-- 'codendlaw07.TrawlChecks': WHATEVER THE INPUT: true; the input reads as it did. -/
def trawlChecksSpec : ChangeSpec := { name := "trawlChecks", fn := fun _ => fun
  | [d1, d2] => { results := [.lit (.bool true)], args := [d1, d2] }
  | _ => none }
def trawlChecksRow : OpenClaim := { program := "ytnmnijgoggombaa", sum := "c55d422624e3367871cce80e7c9e5d85f5f9c6502e50e6b091c6853d52f40507", func := "codend/codendlaw07.TrawlChecks", spec := "trawlChecks", unfollowed := true, recurses := true, plainKeys := false, apart := false }
def TrawlChecksSaid : Prop := trawlChecksRow.holds Try.pinned (OpenSpec.ofChange trawlChecksSpec)

/-- ITS FALSE NEIGHBOUR: 'it returns false'. Refute it at one input. -/
def trawlChecksWrong : ChangeSpec := { name := "trawlChecks", fn := fun _ => fun
  | [d1, d2] => { results := [.lit (.bool false)], args := [d1, d2] }
  | _ => none }
def TrawlChecksWrongFalsely : Prop := trawlChecksRow.holds Try.pinned (OpenSpec.ofChange trawlChecksWrong)

/-- 'codendlaw07.TrawlFlips': WHATEVER THE INPUT: true; the input reads as it did. -/
def trawlFlipsSpec : ChangeSpec := { name := "trawlFlips", fn := fun _ => fun
  | [d1, d2] => { results := [.lit (.bool true)], args := [d1, d2] }
  | _ => none }
def trawlFlipsRow : OpenClaim := { program := "ytnmnijgoggombaa", sum := "c55d422624e3367871cce80e7c9e5d85f5f9c6502e50e6b091c6853d52f40507", func := "codend/codendlaw07.TrawlFlips", spec := "trawlFlips", unfollowed := true, recurses := true, plainKeys := false, apart := false }
def TrawlFlipsSaid : Prop := trawlFlipsRow.holds Try.pinned (OpenSpec.ofChange trawlFlipsSpec)

/-- ITS FALSE NEIGHBOUR: 'it returns false'. Refute it at one input. -/
def trawlFlipsWrong : ChangeSpec := { name := "trawlFlips", fn := fun _ => fun
  | [d1, d2] => { results := [.lit (.bool false)], args := [d1, d2] }
  | _ => none }
def TrawlFlipsWrongFalsely : Prop := trawlFlipsRow.holds Try.pinned (OpenSpec.ofChange trawlFlipsWrong)

/-- 'codendlaw07.TrawlStitches': WHATEVER THE INPUT: true; the input reads as it did. -/
def trawlStitchesSpec : ChangeSpec := { name := "trawlStitches", fn := fun _ => fun
  | [d1, d2] => { results := [.lit (.bool true)], args := [d1, d2] }
  | _ => none }
def trawlStitchesRow : OpenClaim := { program := "ytnmnijgoggombaa", sum := "c55d422624e3367871cce80e7c9e5d85f5f9c6502e50e6b091c6853d52f40507", func := "codend/codendlaw07.TrawlStitches", spec := "trawlStitches", unfollowed := true, recurses := true, plainKeys := false, apart := false }
def TrawlStitchesSaid : Prop := trawlStitchesRow.holds Try.pinned (OpenSpec.ofChange trawlStitchesSpec)

/-- ITS FALSE NEIGHBOUR: 'it returns false'. Refute it at one input. -/
def trawlStitchesWrong : ChangeSpec := { name := "trawlStitches", fn := fun _ => fun
  | [d1, d2] => { results := [.lit (.bool false)], args := [d1, d2] }
  | _ => none }
def TrawlStitchesWrongFalsely : Prop := trawlStitchesRow.holds Try.pinned (OpenSpec.ofChange trawlStitchesWrong)

/- THE SECOND FORM. 'bulk': how many values and letters a reading holds, each counted each time it is reached (what is shared counts as often as it is met; a slice's spare places count too). A statement '..UptoSaid' is the law's where the arguments, and the package variables that the reading takes, are together of bulk at most 1048576: NARROWER than '..Said'. Prove '..Said' where nothing that the law and all that it calls make is longer than what came in: it says more and counts as full. Else prove '..UptoSaid'. A law counts once. -/
mutual
def uptoBulk {H : Type} : DataW H → Nat
  | .lit (.string bytes) => bytes.length + 1
  | .lit _ => 1
  | .nil => 1
  | .ptr d => uptoBulk d + 1
  | .slice elems spare => uptoBulkAll elems + uptoBulkAll spare + 1
  | .agg parts => uptoBulkAll parts + 1
  | .iface _ d => uptoBulk d + 1
  | .map entries => uptoBulkEntries entries + 1
  | .held _ => 1
def uptoBulkAll {H : Type} : List (DataW H) → Nat
  | [] => 0
  | d :: r => uptoBulk d + uptoBulkAll r
def uptoBulkEntries {H : Type} : List (Lit × DataW H) → Nat
  | [] => 0
  | x :: r => uptoBulkEntry x + uptoBulkEntries r
def uptoBulkEntry {H : Type} : Lit × DataW H → Nat
  | (.string bytes, d) => bytes.length + uptoBulk d + 1
  | (_, d) => uptoBulk d + 1
 end
def uptoSmall : (H : Type) → List (DataW H) → Bool := fun _ ds => decide (uptoBulkAll ds ≤ 1048576)
def OpenSpec.upto (s : _root_.Go.ChangeSpec) : _root_.Go.OpenSpec := { _root_.Go.OpenSpec.ofChange s with cond := some uptoSmall }

/-- 'codendlaw07.TrawlLoads', WHERE WHAT IT READS IS OF BULK AT MOST 1048576: true; the input reads as it did. -/
def trawlLoadsUptoRow : OpenClaim := { program := "ytnmnijgoggombaa", sum := "c55d422624e3367871cce80e7c9e5d85f5f9c6502e50e6b091c6853d52f40507", func := "codend/codendlaw07.TrawlLoads", spec := "trawlLoads", unfollowed := true, recurses := true, plainKeys := false, apart := false, narrowed := true }
def TrawlLoadsUptoSaid : Prop := trawlLoadsUptoRow.holds Try.pinned (OpenSpec.upto trawlLoadsSpec)

/-- 'codendlaw07.TrawlBalances', WHERE WHAT IT READS IS OF BULK AT MOST 1048576: true; the input reads as it did. -/
def trawlBalancesUptoRow : OpenClaim := { program := "ytnmnijgoggombaa", sum := "c55d422624e3367871cce80e7c9e5d85f5f9c6502e50e6b091c6853d52f40507", func := "codend/codendlaw07.TrawlBalances", spec := "trawlBalances", unfollowed := true, recurses := true, plainKeys := false, apart := false, narrowed := true }
def TrawlBalancesUptoSaid : Prop := trawlBalancesUptoRow.holds Try.pinned (OpenSpec.upto trawlBalancesSpec)

/-- 'codendlaw07.TrawlCircles', WHERE WHAT IT READS IS OF BULK AT MOST 1048576: true; the input reads as it did. -/
def trawlCirclesUptoRow : OpenClaim := { program := "ytnmnijgoggombaa", sum := "c55d422624e3367871cce80e7c9e5d85f5f9c6502e50e6b091c6853d52f40507", func := "codend/codendlaw07.TrawlCircles", spec := "trawlCircles", unfollowed := true, recurses := true, plainKeys := false, apart := false, narrowed := true }
def TrawlCirclesUptoSaid : Prop := trawlCirclesUptoRow.holds Try.pinned (OpenSpec.upto trawlCirclesSpec)

/-- 'codendlaw07.TrawlSigns', WHERE WHAT IT READS IS OF BULK AT MOST 1048576: true; the input reads as it did. -/
def trawlSignsUptoRow : OpenClaim := { program := "ytnmnijgoggombaa", sum := "c55d422624e3367871cce80e7c9e5d85f5f9c6502e50e6b091c6853d52f40507", func := "codend/codendlaw07.TrawlSigns", spec := "trawlSigns", unfollowed := true, recurses := true, plainKeys := false, apart := false, narrowed := true }
def TrawlSignsUptoSaid : Prop := trawlSignsUptoRow.holds Try.pinned (OpenSpec.upto trawlSignsSpec)

/-- 'codendlaw07.TrawlChecks', WHERE WHAT IT READS IS OF BULK AT MOST 1048576: true; the input reads as it did. -/
def trawlChecksUptoRow : OpenClaim := { program := "ytnmnijgoggombaa", sum := "c55d422624e3367871cce80e7c9e5d85f5f9c6502e50e6b091c6853d52f40507", func := "codend/codendlaw07.TrawlChecks", spec := "trawlChecks", unfollowed := true, recurses := true, plainKeys := false, apart := false, narrowed := true }
def TrawlChecksUptoSaid : Prop := trawlChecksUptoRow.holds Try.pinned (OpenSpec.upto trawlChecksSpec)

/-- 'codendlaw07.TrawlFlips', WHERE WHAT IT READS IS OF BULK AT MOST 1048576: true; the input reads as it did. -/
def trawlFlipsUptoRow : OpenClaim := { program := "ytnmnijgoggombaa", sum := "c55d422624e3367871cce80e7c9e5d85f5f9c6502e50e6b091c6853d52f40507", func := "codend/codendlaw07.TrawlFlips", spec := "trawlFlips", unfollowed := true, recurses := true, plainKeys := false, apart := false, narrowed := true }
def TrawlFlipsUptoSaid : Prop := trawlFlipsUptoRow.holds Try.pinned (OpenSpec.upto trawlFlipsSpec)

/-- 'codendlaw07.TrawlStitches', WHERE WHAT IT READS IS OF BULK AT MOST 1048576: true; the input reads as it did. -/
def trawlStitchesUptoRow : OpenClaim := { program := "ytnmnijgoggombaa", sum := "c55d422624e3367871cce80e7c9e5d85f5f9c6502e50e6b091c6853d52f40507", func := "codend/codendlaw07.TrawlStitches", spec := "trawlStitches", unfollowed := true, recurses := true, plainKeys := false, apart := false, narrowed := true }
def TrawlStitchesUptoSaid : Prop := trawlStitchesUptoRow.holds Try.pinned (OpenSpec.upto trawlStitchesSpec)

end Rows
end Go.Proofs.Ytnmnijgoggombaa
