/-
  No cell of these rows narrows 'for every input' (looked for: loops, veiled, ifaces, maps, wideKeys, modest, calm, conditions, laid).
  DERIVED. THE GIVEN ROWS OF THIS SEAT. 12 by the template 'for every input the law returns true; each argument reads behind the call as it read before'; 0 by the template 'total and deterministic' (their statements: YtflegfieiemipaaTotals.lean).
  GIVEN WITH THE SEED: the statements are not yours to turn. If you find one false, say at which input.
  Laid BY PROGRAM, IN A SANDBOX (cutbox-rows.mjs): the forced cells as the released guide's own fill.sh prints them over the translation 666f427a6129df01… (all of the seat's roots in one cut). By AI agents, Wed Nov 11 2026. No macro, syntax, notation, axiom, sorry.
-/
import Derived.Test.YtflegfieiemipaaChecked
import GoSem.Claim
import GoSem.ClaimJoined
import GoSem.ClaimMapViews
import Derived.JoinedTies
import Derived.KernelRfl
namespace Go.Proofs.Ytflegfieiemipaa
/- THE CELL 'sum', in the pinned program and in every row, IS THE sha256 OF THE DUMP (.gsa) THAT YtflegfieiemipaaProg.lean LOADS. Nothing in Lean hashes anything: it is a label: what it is worth is what the hold of that sum in a sandbox is worth. -/
noncomputable def Try.pinned : Pinned := { name := "ytflegfieiemipaa", sum := "666f427a6129df01ab7982611e8b66ed2985eaccc83b98ae26b12c866cd8dc87", checked := Try.checked }
namespace Rows
def none {H : Type} : Left H := { results := [], args := [] }

/-- 'laws.FnExactGone': WHATEVER THE INPUT: true; the input reads as it did. -/
def fnExactGoneSpec : ChangeSpec := { name := "fnExactGone", fn := fun _ => fun
  | [d] => { results := [.lit (.bool true)], args := [d] }
  | _ => none }
def fnExactGoneRow : OpenClaim := { program := "ytflegfieiemipaa", sum := "666f427a6129df01ab7982611e8b66ed2985eaccc83b98ae26b12c866cd8dc87", func := "loop.example/g00486/laws.FnExactGone", spec := "fnExactGone", apart := false }
def FnExactGoneSaid : Prop := fnExactGoneRow.holds Try.pinned (OpenSpec.ofChange fnExactGoneSpec)

/-- ITS FALSE NEIGHBOUR: 'it returns false'. Refute it at one input. -/
def fnExactGoneWrong : ChangeSpec := { name := "fnExactGone", fn := fun _ => fun
  | [d] => { results := [.lit (.bool false)], args := [d] }
  | _ => none }
def FnExactGoneWrongFalsely : Prop := fnExactGoneRow.holds Try.pinned (OpenSpec.ofChange fnExactGoneWrong)

/-- 'laws.FnExactGuardOk': WHATEVER THE INPUT: true; the input reads as it did. -/
def fnExactGuardOkSpec : ChangeSpec := { name := "fnExactGuardOk", fn := fun _ => fun
  | [d] => { results := [.lit (.bool true)], args := [d] }
  | _ => none }
def fnExactGuardOkRow : OpenClaim := { program := "ytflegfieiemipaa", sum := "666f427a6129df01ab7982611e8b66ed2985eaccc83b98ae26b12c866cd8dc87", func := "loop.example/g00486/laws.FnExactGuardOk", spec := "fnExactGuardOk", apart := false }
def FnExactGuardOkSaid : Prop := fnExactGuardOkRow.holds Try.pinned (OpenSpec.ofChange fnExactGuardOkSpec)

/-- ITS FALSE NEIGHBOUR: 'it returns false'. Refute it at one input. -/
def fnExactGuardOkWrong : ChangeSpec := { name := "fnExactGuardOk", fn := fun _ => fun
  | [d] => { results := [.lit (.bool false)], args := [d] }
  | _ => none }
def FnExactGuardOkWrongFalsely : Prop := fnExactGuardOkRow.holds Try.pinned (OpenSpec.ofChange fnExactGuardOkWrong)

/-- 'laws.FnExactPatOk': WHATEVER THE INPUT: true; the input reads as it did. -/
def fnExactPatOkSpec : ChangeSpec := { name := "fnExactPatOk", fn := fun _ => fun
  | [d] => { results := [.lit (.bool true)], args := [d] }
  | _ => none }
def fnExactPatOkRow : OpenClaim := { program := "ytflegfieiemipaa", sum := "666f427a6129df01ab7982611e8b66ed2985eaccc83b98ae26b12c866cd8dc87", func := "loop.example/g00486/laws.FnExactPatOk", spec := "fnExactPatOk", apart := false }
def FnExactPatOkSaid : Prop := fnExactPatOkRow.holds Try.pinned (OpenSpec.ofChange fnExactPatOkSpec)

/-- ITS FALSE NEIGHBOUR: 'it returns false'. Refute it at one input. -/
def fnExactPatOkWrong : ChangeSpec := { name := "fnExactPatOk", fn := fun _ => fun
  | [d] => { results := [.lit (.bool false)], args := [d] }
  | _ => none }
def FnExactPatOkWrongFalsely : Prop := fnExactPatOkRow.holds Try.pinned (OpenSpec.ofChange fnExactPatOkWrong)

/-- 'laws.FnExactNarrower': WHATEVER THE INPUT: true; the input reads as it did. -/
def fnExactNarrowerSpec : ChangeSpec := { name := "fnExactNarrower", fn := fun _ => fun
  | [d1, d2] => { results := [.lit (.bool true)], args := [d1, d2] }
  | _ => none }
def fnExactNarrowerRow : OpenClaim := { program := "ytflegfieiemipaa", sum := "666f427a6129df01ab7982611e8b66ed2985eaccc83b98ae26b12c866cd8dc87", func := "loop.example/g00486/laws.FnExactNarrower", spec := "fnExactNarrower", apart := false }
def FnExactNarrowerSaid : Prop := fnExactNarrowerRow.holds Try.pinned (OpenSpec.ofChange fnExactNarrowerSpec)

/-- ITS FALSE NEIGHBOUR: 'it returns false'. Refute it at one input. -/
def fnExactNarrowerWrong : ChangeSpec := { name := "fnExactNarrower", fn := fun _ => fun
  | [d1, d2] => { results := [.lit (.bool false)], args := [d1, d2] }
  | _ => none }
def FnExactNarrowerWrongFalsely : Prop := fnExactNarrowerRow.holds Try.pinned (OpenSpec.ofChange fnExactNarrowerWrong)

/-- 'laws.FnExactChoicesOf': WHATEVER THE INPUT: true; the input reads as it did. -/
def fnExactChoicesOfSpec : ChangeSpec := { name := "fnExactChoicesOf", fn := fun _ => fun
  | [d1, d2] => { results := [.lit (.bool true)], args := [d1, d2] }
  | _ => none }
def fnExactChoicesOfRow : OpenClaim := { program := "ytflegfieiemipaa", sum := "666f427a6129df01ab7982611e8b66ed2985eaccc83b98ae26b12c866cd8dc87", func := "loop.example/g00486/laws.FnExactChoicesOf", spec := "fnExactChoicesOf", apart := false }
def FnExactChoicesOfSaid : Prop := fnExactChoicesOfRow.holds Try.pinned (OpenSpec.ofChange fnExactChoicesOfSpec)

/-- ITS FALSE NEIGHBOUR: 'it returns false'. Refute it at one input. -/
def fnExactChoicesOfWrong : ChangeSpec := { name := "fnExactChoicesOf", fn := fun _ => fun
  | [d1, d2] => { results := [.lit (.bool false)], args := [d1, d2] }
  | _ => none }
def FnExactChoicesOfWrongFalsely : Prop := fnExactChoicesOfRow.holds Try.pinned (OpenSpec.ofChange fnExactChoicesOfWrong)

/-- 'laws.FnExactStronger': WHATEVER THE INPUT: true; the input reads as it did. -/
def fnExactStrongerSpec : ChangeSpec := { name := "fnExactStronger", fn := fun _ => fun
  | [d1, d2] => { results := [.lit (.bool true)], args := [d1, d2] }
  | _ => none }
def fnExactStrongerRow : OpenClaim := { program := "ytflegfieiemipaa", sum := "666f427a6129df01ab7982611e8b66ed2985eaccc83b98ae26b12c866cd8dc87", func := "loop.example/g00486/laws.FnExactStronger", spec := "fnExactStronger", apart := false }
def FnExactStrongerSaid : Prop := fnExactStrongerRow.holds Try.pinned (OpenSpec.ofChange fnExactStrongerSpec)

/-- ITS FALSE NEIGHBOUR: 'it returns false'. Refute it at one input. -/
def fnExactStrongerWrong : ChangeSpec := { name := "fnExactStronger", fn := fun _ => fun
  | [d1, d2] => { results := [.lit (.bool false)], args := [d1, d2] }
  | _ => none }
def FnExactStrongerWrongFalsely : Prop := fnExactStrongerRow.holds Try.pinned (OpenSpec.ofChange fnExactStrongerWrong)

/-- 'laws.FnExactPick': WHATEVER THE INPUT: true; the input reads as it did. -/
def fnExactPickSpec : ChangeSpec := { name := "fnExactPick", fn := fun _ => fun
  | [d1, d2] => { results := [.lit (.bool true)], args := [d1, d2] }
  | _ => none }
def fnExactPickRow : OpenClaim := { program := "ytflegfieiemipaa", sum := "666f427a6129df01ab7982611e8b66ed2985eaccc83b98ae26b12c866cd8dc87", func := "loop.example/g00486/laws.FnExactPick", spec := "fnExactPick", apart := false }
def FnExactPickSaid : Prop := fnExactPickRow.holds Try.pinned (OpenSpec.ofChange fnExactPickSpec)

/-- ITS FALSE NEIGHBOUR: 'it returns false'. Refute it at one input. -/
def fnExactPickWrong : ChangeSpec := { name := "fnExactPick", fn := fun _ => fun
  | [d1, d2] => { results := [.lit (.bool false)], args := [d1, d2] }
  | _ => none }
def FnExactPickWrongFalsely : Prop := fnExactPickRow.holds Try.pinned (OpenSpec.ofChange fnExactPickWrong)

/-- 'laws.FnExactTotal': WHATEVER THE INPUT: true; the input reads as it did. -/
def fnExactTotalSpec : ChangeSpec := { name := "fnExactTotal", fn := fun _ => fun
  | [d] => { results := [.lit (.bool true)], args := [d] }
  | _ => none }
def fnExactTotalRow : OpenClaim := { program := "ytflegfieiemipaa", sum := "666f427a6129df01ab7982611e8b66ed2985eaccc83b98ae26b12c866cd8dc87", func := "loop.example/g00486/laws.FnExactTotal", spec := "fnExactTotal", apart := false }
def FnExactTotalSaid : Prop := fnExactTotalRow.holds Try.pinned (OpenSpec.ofChange fnExactTotalSpec)

/-- ITS FALSE NEIGHBOUR: 'it returns false'. Refute it at one input. -/
def fnExactTotalWrong : ChangeSpec := { name := "fnExactTotal", fn := fun _ => fun
  | [d] => { results := [.lit (.bool false)], args := [d] }
  | _ => none }
def FnExactTotalWrongFalsely : Prop := fnExactTotalRow.holds Try.pinned (OpenSpec.ofChange fnExactTotalWrong)

/-- 'laws.FnExactSameTurn': WHATEVER THE INPUT: true; the input reads as it did. -/
def fnExactSameTurnSpec : ChangeSpec := { name := "fnExactSameTurn", fn := fun _ => fun
  | [d1, d2] => { results := [.lit (.bool true)], args := [d1, d2] }
  | _ => none }
def fnExactSameTurnRow : OpenClaim := { program := "ytflegfieiemipaa", sum := "666f427a6129df01ab7982611e8b66ed2985eaccc83b98ae26b12c866cd8dc87", func := "loop.example/g00486/laws.FnExactSameTurn", spec := "fnExactSameTurn", apart := false }
def FnExactSameTurnSaid : Prop := fnExactSameTurnRow.holds Try.pinned (OpenSpec.ofChange fnExactSameTurnSpec)

/-- ITS FALSE NEIGHBOUR: 'it returns false'. Refute it at one input. -/
def fnExactSameTurnWrong : ChangeSpec := { name := "fnExactSameTurn", fn := fun _ => fun
  | [d1, d2] => { results := [.lit (.bool false)], args := [d1, d2] }
  | _ => none }
def FnExactSameTurnWrongFalsely : Prop := fnExactSameTurnRow.holds Try.pinned (OpenSpec.ofChange fnExactSameTurnWrong)

/-- 'laws.FnExactActFits': WHATEVER THE INPUT: true; the input reads as it did. -/
def fnExactActFitsSpec : ChangeSpec := { name := "fnExactActFits", fn := fun _ => fun
  | [d1, d2] => { results := [.lit (.bool true)], args := [d1, d2] }
  | _ => none }
def fnExactActFitsRow : OpenClaim := { program := "ytflegfieiemipaa", sum := "666f427a6129df01ab7982611e8b66ed2985eaccc83b98ae26b12c866cd8dc87", func := "loop.example/g00486/laws.FnExactActFits", spec := "fnExactActFits", apart := false }
def FnExactActFitsSaid : Prop := fnExactActFitsRow.holds Try.pinned (OpenSpec.ofChange fnExactActFitsSpec)

/-- ITS FALSE NEIGHBOUR: 'it returns false'. Refute it at one input. -/
def fnExactActFitsWrong : ChangeSpec := { name := "fnExactActFits", fn := fun _ => fun
  | [d1, d2] => { results := [.lit (.bool false)], args := [d1, d2] }
  | _ => none }
def FnExactActFitsWrongFalsely : Prop := fnExactActFitsRow.holds Try.pinned (OpenSpec.ofChange fnExactActFitsWrong)

/-- 'laws.FnExactAmount': WHATEVER THE INPUT: true; the input reads as it did. -/
def fnExactAmountSpec : ChangeSpec := { name := "fnExactAmount", fn := fun _ => fun
  | [d1, d2] => { results := [.lit (.bool true)], args := [d1, d2] }
  | _ => none }
def fnExactAmountRow : OpenClaim := { program := "ytflegfieiemipaa", sum := "666f427a6129df01ab7982611e8b66ed2985eaccc83b98ae26b12c866cd8dc87", func := "loop.example/g00486/laws.FnExactAmount", spec := "fnExactAmount", apart := false }
def FnExactAmountSaid : Prop := fnExactAmountRow.holds Try.pinned (OpenSpec.ofChange fnExactAmountSpec)

/-- ITS FALSE NEIGHBOUR: 'it returns false'. Refute it at one input. -/
def fnExactAmountWrong : ChangeSpec := { name := "fnExactAmount", fn := fun _ => fun
  | [d1, d2] => { results := [.lit (.bool false)], args := [d1, d2] }
  | _ => none }
def FnExactAmountWrongFalsely : Prop := fnExactAmountRow.holds Try.pinned (OpenSpec.ofChange fnExactAmountWrong)

/-- 'laws.FnExactTurnOk': WHATEVER THE INPUT: true; the input reads as it did. -/
def fnExactTurnOkSpec : ChangeSpec := { name := "fnExactTurnOk", fn := fun _ => fun
  | [d] => { results := [.lit (.bool true)], args := [d] }
  | _ => none }
def fnExactTurnOkRow : OpenClaim := { program := "ytflegfieiemipaa", sum := "666f427a6129df01ab7982611e8b66ed2985eaccc83b98ae26b12c866cd8dc87", func := "loop.example/g00486/laws.FnExactTurnOk", spec := "fnExactTurnOk", unfollowed := true, recurses := true, apart := false }
def FnExactTurnOkSaid : Prop := fnExactTurnOkRow.holds Try.pinned (OpenSpec.ofChange fnExactTurnOkSpec)

/-- ITS FALSE NEIGHBOUR: 'it returns false'. Refute it at one input. -/
def fnExactTurnOkWrong : ChangeSpec := { name := "fnExactTurnOk", fn := fun _ => fun
  | [d] => { results := [.lit (.bool false)], args := [d] }
  | _ => none }
def FnExactTurnOkWrongFalsely : Prop := fnExactTurnOkRow.holds Try.pinned (OpenSpec.ofChange fnExactTurnOkWrong)

/- THE SECOND FORM. 'bulk': how many values and letters a reading holds, each counted each time it is reached (what is shared counts as often as it is met; a slice's spare places count too). A statement '..UptoSaid' is the law's where the arguments, and the package variables that the reading takes, are together of bulk at most 1048576: NARROWER than '..Said'. Prove '..Said' where nothing that the law and all that it calls make is longer than what came in: it says more and counts as full. Else prove '..UptoSaid'. A law counts once. -/
mutual
def uptoBulk {H : Type} : DataW H → Nat
  | .lit (.string bytes) => bytes.length + 1
  | .lit _ => 1
  | .nil => 1
  | .ptr d => uptoBulk d + 1
  | .slice elems spare => uptoBulkAll elems + uptoBulkAll spare + 1
  | .agg parts => uptoBulkAll parts + 1
  | .iface _ d => uptoBulk d + 1
  | .map entries => uptoBulkEntries entries + 1
  | .held _ => 1
def uptoBulkAll {H : Type} : List (DataW H) → Nat
  | [] => 0
  | d :: r => uptoBulk d + uptoBulkAll r
def uptoBulkEntries {H : Type} : List (Lit × DataW H) → Nat
  | [] => 0
  | x :: r => uptoBulkEntry x + uptoBulkEntries r
def uptoBulkEntry {H : Type} : Lit × DataW H → Nat
  | (.string bytes, d) => bytes.length + uptoBulk d + 1
  | (_, d) => uptoBulk d + 1
 end
def uptoSmall : (H : Type) → List (DataW H) → Bool := fun _ ds => decide (uptoBulkAll ds ≤ 1048576)
def OpenSpec.upto (s : _root_.Go.ChangeSpec) : _root_.Go.OpenSpec := { _root_.Go.OpenSpec.ofChange s with cond := some uptoSmall }

/-- 'laws.FnExactGone', WHERE WHAT IT READS IS OF BULK AT MOST 1048576: true; the input reads as it did. -/
def fnExactGoneUptoRow : OpenClaim := { program := "ytflegfieiemipaa", sum := "666f427a6129df01ab7982611e8b66ed2985eaccc83b98ae26b12c866cd8dc87", func := "loop.example/g00486/laws.FnExactGone", spec := "fnExactGone", apart := false, narrowed := true }
def FnExactGoneUptoSaid : Prop := fnExactGoneUptoRow.holds Try.pinned (OpenSpec.upto fnExactGoneSpec)

/-- 'laws.FnExactGuardOk', WHERE WHAT IT READS IS OF BULK AT MOST 1048576: true; the input reads as it did. -/
def fnExactGuardOkUptoRow : OpenClaim := { program := "ytflegfieiemipaa", sum := "666f427a6129df01ab7982611e8b66ed2985eaccc83b98ae26b12c866cd8dc87", func := "loop.example/g00486/laws.FnExactGuardOk", spec := "fnExactGuardOk", apart := false, narrowed := true }
def FnExactGuardOkUptoSaid : Prop := fnExactGuardOkUptoRow.holds Try.pinned (OpenSpec.upto fnExactGuardOkSpec)

/-- 'laws.FnExactPatOk', WHERE WHAT IT READS IS OF BULK AT MOST 1048576: true; the input reads as it did. -/
def fnExactPatOkUptoRow : OpenClaim := { program := "ytflegfieiemipaa", sum := "666f427a6129df01ab7982611e8b66ed2985eaccc83b98ae26b12c866cd8dc87", func := "loop.example/g00486/laws.FnExactPatOk", spec := "fnExactPatOk", apart := false, narrowed := true }
def FnExactPatOkUptoSaid : Prop := fnExactPatOkUptoRow.holds Try.pinned (OpenSpec.upto fnExactPatOkSpec)

/-- 'laws.FnExactNarrower', WHERE WHAT IT READS IS OF BULK AT MOST 1048576: true; the input reads as it did. -/
def fnExactNarrowerUptoRow : OpenClaim := { program := "ytflegfieiemipaa", sum := "666f427a6129df01ab7982611e8b66ed2985eaccc83b98ae26b12c866cd8dc87", func := "loop.example/g00486/laws.FnExactNarrower", spec := "fnExactNarrower", apart := false, narrowed := true }
def FnExactNarrowerUptoSaid : Prop := fnExactNarrowerUptoRow.holds Try.pinned (OpenSpec.upto fnExactNarrowerSpec)

/-- 'laws.FnExactChoicesOf', WHERE WHAT IT READS IS OF BULK AT MOST 1048576: true; the input reads as it did. -/
def fnExactChoicesOfUptoRow : OpenClaim := { program := "ytflegfieiemipaa", sum := "666f427a6129df01ab7982611e8b66ed2985eaccc83b98ae26b12c866cd8dc87", func := "loop.example/g00486/laws.FnExactChoicesOf", spec := "fnExactChoicesOf", apart := false, narrowed := true }
def FnExactChoicesOfUptoSaid : Prop := fnExactChoicesOfUptoRow.holds Try.pinned (OpenSpec.upto fnExactChoicesOfSpec)

/-- 'laws.FnExactStronger', WHERE WHAT IT READS IS OF BULK AT MOST 1048576: true; the input reads as it did. -/
def fnExactStrongerUptoRow : OpenClaim := { program := "ytflegfieiemipaa", sum := "666f427a6129df01ab7982611e8b66ed2985eaccc83b98ae26b12c866cd8dc87", func := "loop.example/g00486/laws.FnExactStronger", spec := "fnExactStronger", apart := false, narrowed := true }
def FnExactStrongerUptoSaid : Prop := fnExactStrongerUptoRow.holds Try.pinned (OpenSpec.upto fnExactStrongerSpec)

/-- 'laws.FnExactPick', WHERE WHAT IT READS IS OF BULK AT MOST 1048576: true; the input reads as it did. -/
def fnExactPickUptoRow : OpenClaim := { program := "ytflegfieiemipaa", sum := "666f427a6129df01ab7982611e8b66ed2985eaccc83b98ae26b12c866cd8dc87", func := "loop.example/g00486/laws.FnExactPick", spec := "fnExactPick", apart := false, narrowed := true }
def FnExactPickUptoSaid : Prop := fnExactPickUptoRow.holds Try.pinned (OpenSpec.upto fnExactPickSpec)

/-- 'laws.FnExactTotal', WHERE WHAT IT READS IS OF BULK AT MOST 1048576: true; the input reads as it did. -/
def fnExactTotalUptoRow : OpenClaim := { program := "ytflegfieiemipaa", sum := "666f427a6129df01ab7982611e8b66ed2985eaccc83b98ae26b12c866cd8dc87", func := "loop.example/g00486/laws.FnExactTotal", spec := "fnExactTotal", apart := false, narrowed := true }
def FnExactTotalUptoSaid : Prop := fnExactTotalUptoRow.holds Try.pinned (OpenSpec.upto fnExactTotalSpec)

/-- 'laws.FnExactSameTurn', WHERE WHAT IT READS IS OF BULK AT MOST 1048576: true; the input reads as it did. -/
def fnExactSameTurnUptoRow : OpenClaim := { program := "ytflegfieiemipaa", sum := "666f427a6129df01ab7982611e8b66ed2985eaccc83b98ae26b12c866cd8dc87", func := "loop.example/g00486/laws.FnExactSameTurn", spec := "fnExactSameTurn", apart := false, narrowed := true }
def FnExactSameTurnUptoSaid : Prop := fnExactSameTurnUptoRow.holds Try.pinned (OpenSpec.upto fnExactSameTurnSpec)

/-- 'laws.FnExactActFits', WHERE WHAT IT READS IS OF BULK AT MOST 1048576: true; the input reads as it did. -/
def fnExactActFitsUptoRow : OpenClaim := { program := "ytflegfieiemipaa", sum := "666f427a6129df01ab7982611e8b66ed2985eaccc83b98ae26b12c866cd8dc87", func := "loop.example/g00486/laws.FnExactActFits", spec := "fnExactActFits", apart := false, narrowed := true }
def FnExactActFitsUptoSaid : Prop := fnExactActFitsUptoRow.holds Try.pinned (OpenSpec.upto fnExactActFitsSpec)

/-- 'laws.FnExactAmount', WHERE WHAT IT READS IS OF BULK AT MOST 1048576: true; the input reads as it did. -/
def fnExactAmountUptoRow : OpenClaim := { program := "ytflegfieiemipaa", sum := "666f427a6129df01ab7982611e8b66ed2985eaccc83b98ae26b12c866cd8dc87", func := "loop.example/g00486/laws.FnExactAmount", spec := "fnExactAmount", apart := false, narrowed := true }
def FnExactAmountUptoSaid : Prop := fnExactAmountUptoRow.holds Try.pinned (OpenSpec.upto fnExactAmountSpec)

/-- 'laws.FnExactTurnOk', WHERE WHAT IT READS IS OF BULK AT MOST 1048576: true; the input reads as it did. -/
def fnExactTurnOkUptoRow : OpenClaim := { program := "ytflegfieiemipaa", sum := "666f427a6129df01ab7982611e8b66ed2985eaccc83b98ae26b12c866cd8dc87", func := "loop.example/g00486/laws.FnExactTurnOk", spec := "fnExactTurnOk", unfollowed := true, recurses := true, apart := false, narrowed := true }
def FnExactTurnOkUptoSaid : Prop := fnExactTurnOkUptoRow.holds Try.pinned (OpenSpec.upto fnExactTurnOkSpec)

end Rows
end Go.Proofs.Ytflegfieiemipaa
