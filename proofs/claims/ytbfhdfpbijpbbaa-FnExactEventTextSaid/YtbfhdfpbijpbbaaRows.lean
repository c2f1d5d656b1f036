/-
  No cell of these rows narrows 'for every input' (looked for: loops, veiled, ifaces, maps, wideKeys, modest, calm, conditions, laid).
  DERIVED. THE GIVEN ROWS OF THIS SEAT. 12 by the template 'for every input the law returns true; each argument reads behind the call as it read before'; 0 by the template 'total and deterministic' (their statements: YtbfhdfpbijpbbaaTotals.lean).
  GIVEN WITH THE SEED: the statements are not yours to turn. If you find one false, say at which input.
  Laid BY PROGRAM, IN A SANDBOX (cutbox-rows.mjs): the forced cells as the released guide's own fill.sh prints them over the translation 1523c67eb10ab541… (all of the seat's roots in one cut). By AI agents, Wed Nov 11 2026. No macro, syntax, notation, axiom, sorry.
-/
import Derived.Test.YtbfhdfpbijpbbaaChecked
import GoSem.Claim
import GoSem.ClaimJoined
import GoSem.ClaimMapViews
import Derived.JoinedTies
import Derived.KernelRfl
namespace Go.Proofs.Ytbfhdfpbijpbbaa
/- THE CELL 'sum', in the pinned program and in every row, IS THE sha256 OF THE DUMP (.gsa) THAT YtbfhdfpbijpbbaaProg.lean LOADS. Nothing in Lean hashes anything: it is a label: what it is worth is what the hold of that sum in a sandbox is worth. -/
noncomputable def Try.pinned : Pinned := { name := "ytbfhdfpbijpbbaa", sum := "1523c67eb10ab541b5923bd4e968c4c8e39fc922c42d93458ffad02384cc2c12", checked := Try.checked }
namespace Rows
def none {H : Type} : Left H := { results := [], args := [] }

/-- 'laws.FnExactBentOf': WHATEVER THE INPUT: true; the input reads as it did. -/
def fnExactBentOfSpec : ChangeSpec := { name := "fnExactBentOf", fn := fun _ => fun
  | [d1, d2] => { results := [.lit (.bool true)], args := [d1, d2] }
  | _ => none }
def fnExactBentOfRow : OpenClaim := { program := "ytbfhdfpbijpbbaa", sum := "1523c67eb10ab541b5923bd4e968c4c8e39fc922c42d93458ffad02384cc2c12", func := "loop.example/g00486/laws.FnExactBentOf", spec := "fnExactBentOf", apart := false }
def FnExactBentOfSaid : Prop := fnExactBentOfRow.holds Try.pinned (OpenSpec.ofChange fnExactBentOfSpec)

/-- ITS FALSE NEIGHBOUR: 'it returns false'. Refute it at one input. -/
def fnExactBentOfWrong : ChangeSpec := { name := "fnExactBentOf", fn := fun _ => fun
  | [d1, d2] => { results := [.lit (.bool false)], args := [d1, d2] }
  | _ => none }
def FnExactBentOfWrongFalsely : Prop := fnExactBentOfRow.holds Try.pinned (OpenSpec.ofChange fnExactBentOfWrong)

/-- 'laws.FnExactSource': WHATEVER THE INPUT: true; the input reads as it did. -/
def fnExactSourceSpec : ChangeSpec := { name := "fnExactSource", fn := fun _ => fun
  | [d1, d2] => { results := [.lit (.bool true)], args := [d1, d2] }
  | _ => none }
def fnExactSourceRow : OpenClaim := { program := "ytbfhdfpbijpbbaa", sum := "1523c67eb10ab541b5923bd4e968c4c8e39fc922c42d93458ffad02384cc2c12", func := "loop.example/g00486/laws.FnExactSource", spec := "fnExactSource", unfollowed := true, recurses := true, apart := false }
def FnExactSourceSaid : Prop := fnExactSourceRow.holds Try.pinned (OpenSpec.ofChange fnExactSourceSpec)

/-- ITS FALSE NEIGHBOUR: 'it returns false'. Refute it at one input. -/
def fnExactSourceWrong : ChangeSpec := { name := "fnExactSource", fn := fun _ => fun
  | [d1, d2] => { results := [.lit (.bool false)], args := [d1, d2] }
  | _ => none }
def FnExactSourceWrongFalsely : Prop := fnExactSourceRow.holds Try.pinned (OpenSpec.ofChange fnExactSourceWrong)

/-- 'laws.FnExactTarget': WHATEVER THE INPUT: true; the input reads as it did. -/
def fnExactTargetSpec : ChangeSpec := { name := "fnExactTarget", fn := fun _ => fun
  | [d1, d2] => { results := [.lit (.bool true)], args := [d1, d2] }
  | _ => none }
def fnExactTargetRow : OpenClaim := { program := "ytbfhdfpbijpbbaa", sum := "1523c67eb10ab541b5923bd4e968c4c8e39fc922c42d93458ffad02384cc2c12", func := "loop.example/g00486/laws.FnExactTarget", spec := "fnExactTarget", unfollowed := true, recurses := true, apart := false }
def FnExactTargetSaid : Prop := fnExactTargetRow.holds Try.pinned (OpenSpec.ofChange fnExactTargetSpec)

/-- ITS FALSE NEIGHBOUR: 'it returns false'. Refute it at one input. -/
def fnExactTargetWrong : ChangeSpec := { name := "fnExactTarget", fn := fun _ => fun
  | [d1, d2] => { results := [.lit (.bool false)], args := [d1, d2] }
  | _ => none }
def FnExactTargetWrongFalsely : Prop := fnExactTargetRow.holds Try.pinned (OpenSpec.ofChange fnExactTargetWrong)

/-- 'laws.FnExactSourceFits': WHATEVER THE INPUT: true; the input reads as it did. -/
def fnExactSourceFitsSpec : ChangeSpec := { name := "fnExactSourceFits", fn := fun _ => fun
  | [d1, d2, d3] => { results := [.lit (.bool true)], args := [d1, d2, d3] }
  | _ => none }
def fnExactSourceFitsRow : OpenClaim := { program := "ytbfhdfpbijpbbaa", sum := "1523c67eb10ab541b5923bd4e968c4c8e39fc922c42d93458ffad02384cc2c12", func := "loop.example/g00486/laws.FnExactSourceFits", spec := "fnExactSourceFits", unfollowed := true, recurses := true, apart := false }
def FnExactSourceFitsSaid : Prop := fnExactSourceFitsRow.holds Try.pinned (OpenSpec.ofChange fnExactSourceFitsSpec)

/-- ITS FALSE NEIGHBOUR: 'it returns false'. Refute it at one input. -/
def fnExactSourceFitsWrong : ChangeSpec := { name := "fnExactSourceFits", fn := fun _ => fun
  | [d1, d2, d3] => { results := [.lit (.bool false)], args := [d1, d2, d3] }
  | _ => none }
def FnExactSourceFitsWrongFalsely : Prop := fnExactSourceFitsRow.holds Try.pinned (OpenSpec.ofChange fnExactSourceFitsWrong)

/-- 'laws.FnExactTargetFits': WHATEVER THE INPUT: true; the input reads as it did. -/
def fnExactTargetFitsSpec : ChangeSpec := { name := "fnExactTargetFits", fn := fun _ => fun
  | [d1, d2, d3, d4] => { results := [.lit (.bool true)], args := [d1, d2, d3, d4] }
  | _ => none }
def fnExactTargetFitsRow : OpenClaim := { program := "ytbfhdfpbijpbbaa", sum := "1523c67eb10ab541b5923bd4e968c4c8e39fc922c42d93458ffad02384cc2c12", func := "loop.example/g00486/laws.FnExactTargetFits", spec := "fnExactTargetFits", unfollowed := true, recurses := true, apart := false }
def FnExactTargetFitsSaid : Prop := fnExactTargetFitsRow.holds Try.pinned (OpenSpec.ofChange fnExactTargetFitsSpec)

/-- ITS FALSE NEIGHBOUR: 'it returns false'. Refute it at one input. -/
def fnExactTargetFitsWrong : ChangeSpec := { name := "fnExactTargetFits", fn := fun _ => fun
  | [d1, d2, d3, d4] => { results := [.lit (.bool false)], args := [d1, d2, d3, d4] }
  | _ => none }
def FnExactTargetFitsWrongFalsely : Prop := fnExactTargetFitsRow.holds Try.pinned (OpenSpec.ofChange fnExactTargetFitsWrong)

/-- 'laws.FnExactHolds': WHATEVER THE INPUT: true; the input reads as it did. -/
def fnExactHoldsSpec : ChangeSpec := { name := "fnExactHolds", fn := fun _ => fun
  | [d1, d2, d3] => { results := [.lit (.bool true)], args := [d1, d2, d3] }
  | _ => none }
def fnExactHoldsRow : OpenClaim := { program := "ytbfhdfpbijpbbaa", sum := "1523c67eb10ab541b5923bd4e968c4c8e39fc922c42d93458ffad02384cc2c12", func := "loop.example/g00486/laws.FnExactHolds", spec := "fnExactHolds", apart := false }
def FnExactHoldsSaid : Prop := fnExactHoldsRow.holds Try.pinned (OpenSpec.ofChange fnExactHoldsSpec)

/-- ITS FALSE NEIGHBOUR: 'it returns false'. Refute it at one input. -/
def fnExactHoldsWrong : ChangeSpec := { name := "fnExactHolds", fn := fun _ => fun
  | [d1, d2, d3] => { results := [.lit (.bool false)], args := [d1, d2, d3] }
  | _ => none }
def FnExactHoldsWrongFalsely : Prop := fnExactHoldsRow.holds Try.pinned (OpenSpec.ofChange fnExactHoldsWrong)

/-- 'laws.FnExactPatFits': WHATEVER THE INPUT: true; the input reads as it did. -/
def fnExactPatFitsSpec : ChangeSpec := { name := "fnExactPatFits", fn := fun _ => fun
  | [d1, d2, d3, d4] => { results := [.lit (.bool true)], args := [d1, d2, d3, d4] }
  | _ => none }
def fnExactPatFitsRow : OpenClaim := { program := "ytbfhdfpbijpbbaa", sum := "1523c67eb10ab541b5923bd4e968c4c8e39fc922c42d93458ffad02384cc2c12", func := "loop.example/g00486/laws.FnExactPatFits", spec := "fnExactPatFits", unfollowed := true, recurses := true, apart := false }
def FnExactPatFitsSaid : Prop := fnExactPatFitsRow.holds Try.pinned (OpenSpec.ofChange fnExactPatFitsSpec)

/-- ITS FALSE NEIGHBOUR: 'it returns false'. Refute it at one input. -/
def fnExactPatFitsWrong : ChangeSpec := { name := "fnExactPatFits", fn := fun _ => fun
  | [d1, d2, d3, d4] => { results := [.lit (.bool false)], args := [d1, d2, d3, d4] }
  | _ => none }
def FnExactPatFitsWrongFalsely : Prop := fnExactPatFitsRow.holds Try.pinned (OpenSpec.ofChange fnExactPatFitsWrong)

/-- 'laws.FnExactEventText': WHATEVER THE INPUT: true; the input reads as it did. -/
def fnExactEventTextSpec : ChangeSpec := { name := "fnExactEventText", fn := fun _ => fun
  | [d] => { results := [.lit (.bool true)], args := [d] }
  | _ => none }
def fnExactEventTextRow : OpenClaim := { program := "ytbfhdfpbijpbbaa", sum := "1523c67eb10ab541b5923bd4e968c4c8e39fc922c42d93458ffad02384cc2c12", func := "loop.example/g00486/laws.FnExactEventText", spec := "fnExactEventText", inPlace := ["internal/abi.NoEscape", "internal/bytealg.MakeNoZero"], recurses := true, apart := false }
def FnExactEventTextSaid : Prop := fnExactEventTextRow.holds Try.pinned (OpenSpec.ofChange fnExactEventTextSpec)

/-- ITS FALSE NEIGHBOUR: 'it returns false'. Refute it at one input. -/
def fnExactEventTextWrong : ChangeSpec := { name := "fnExactEventText", fn := fun _ => fun
  | [d] => { results := [.lit (.bool false)], args := [d] }
  | _ => none }
def FnExactEventTextWrongFalsely : Prop := fnExactEventTextRow.holds Try.pinned (OpenSpec.ofChange fnExactEventTextWrong)

/-- 'laws.FnExactActOk': WHATEVER THE INPUT: true; the input reads as it did. -/
def fnExactActOkSpec : ChangeSpec := { name := "fnExactActOk", fn := fun _ => fun
  | [d] => { results := [.lit (.bool true)], args := [d] }
  | _ => none }
def fnExactActOkRow : OpenClaim := { program := "ytbfhdfpbijpbbaa", sum := "1523c67eb10ab541b5923bd4e968c4c8e39fc922c42d93458ffad02384cc2c12", func := "loop.example/g00486/laws.FnExactActOk", spec := "fnExactActOk", unfollowed := true, recurses := true, apart := false }
def FnExactActOkSaid : Prop := fnExactActOkRow.holds Try.pinned (OpenSpec.ofChange fnExactActOkSpec)

/-- ITS FALSE NEIGHBOUR: 'it returns false'. Refute it at one input. -/
def fnExactActOkWrong : ChangeSpec := { name := "fnExactActOk", fn := fun _ => fun
  | [d] => { results := [.lit (.bool false)], args := [d] }
  | _ => none }
def FnExactActOkWrongFalsely : Prop := fnExactActOkRow.holds Try.pinned (OpenSpec.ofChange fnExactActOkWrong)

/-- 'laws.FnExactParts': WHATEVER THE INPUT: true; the input reads as it did. -/
def fnExactPartsSpec : ChangeSpec := { name := "fnExactParts", fn := fun _ => fun
  | [d1, d2] => { results := [.lit (.bool true)], args := [d1, d2] }
  | _ => none }
def fnExactPartsRow : OpenClaim := { program := "ytbfhdfpbijpbbaa", sum := "1523c67eb10ab541b5923bd4e968c4c8e39fc922c42d93458ffad02384cc2c12", func := "loop.example/g00486/laws.FnExactParts", spec := "fnExactParts", apart := false }
def FnExactPartsSaid : Prop := fnExactPartsRow.holds Try.pinned (OpenSpec.ofChange fnExactPartsSpec)

/-- ITS FALSE NEIGHBOUR: 'it returns false'. Refute it at one input. -/
def fnExactPartsWrong : ChangeSpec := { name := "fnExactParts", fn := fun _ => fun
  | [d1, d2] => { results := [.lit (.bool false)], args := [d1, d2] }
  | _ => none }
def FnExactPartsWrongFalsely : Prop := fnExactPartsRow.holds Try.pinned (OpenSpec.ofChange fnExactPartsWrong)

/-- 'laws.FnExactSameEffect': WHATEVER THE INPUT: true; the input reads as it did. -/
def fnExactSameEffectSpec : ChangeSpec := { name := "fnExactSameEffect", fn := fun _ => fun
  | [d1, d2] => { results := [.lit (.bool true)], args := [d1, d2] }
  | _ => none }
def fnExactSameEffectRow : OpenClaim := { program := "ytbfhdfpbijpbbaa", sum := "1523c67eb10ab541b5923bd4e968c4c8e39fc922c42d93458ffad02384cc2c12", func := "loop.example/g00486/laws.FnExactSameEffect", spec := "fnExactSameEffect", apart := false }
def FnExactSameEffectSaid : Prop := fnExactSameEffectRow.holds Try.pinned (OpenSpec.ofChange fnExactSameEffectSpec)

/-- ITS FALSE NEIGHBOUR: 'it returns false'. Refute it at one input. -/
def fnExactSameEffectWrong : ChangeSpec := { name := "fnExactSameEffect", fn := fun _ => fun
  | [d1, d2] => { results := [.lit (.bool false)], args := [d1, d2] }
  | _ => none }
def FnExactSameEffectWrongFalsely : Prop := fnExactSameEffectRow.holds Try.pinned (OpenSpec.ofChange fnExactSameEffectWrong)

/-- 'laws.FnExactActText': WHATEVER THE INPUT: true; the input reads as it did. -/
def fnExactActTextSpec : ChangeSpec := { name := "fnExactActText", fn := fun _ => fun
  | [d] => { results := [.lit (.bool true)], args := [d] }
  | _ => none }
def fnExactActTextRow : OpenClaim := { program := "ytbfhdfpbijpbbaa", sum := "1523c67eb10ab541b5923bd4e968c4c8e39fc922c42d93458ffad02384cc2c12", func := "loop.example/g00486/laws.FnExactActText", spec := "fnExactActText", unfollowed := true, recurses := true, apart := false }
def FnExactActTextSaid : Prop := fnExactActTextRow.holds Try.pinned (OpenSpec.ofChange fnExactActTextSpec)

/-- ITS FALSE NEIGHBOUR: 'it returns false'. Refute it at one input. -/
def fnExactActTextWrong : ChangeSpec := { name := "fnExactActText", fn := fun _ => fun
  | [d] => { results := [.lit (.bool false)], args := [d] }
  | _ => none }
def FnExactActTextWrongFalsely : Prop := fnExactActTextRow.holds Try.pinned (OpenSpec.ofChange fnExactActTextWrong)

/- THE SECOND FORM. 'bulk': how many values and letters a reading holds, each counted each time it is reached (what is shared counts as often as it is met; a slice's spare places count too). A statement '..UptoSaid' is the law's where the arguments, and the package variables that the reading takes, are together of bulk at most 1048576: NARROWER than '..Said'. Prove '..Said' where nothing that the law and all that it calls make is longer than what came in: it says more and counts as full. Else prove '..UptoSaid'. A law counts once. -/
mutual
def uptoBulk {H : Type} : DataW H → Nat
  | .lit (.string bytes) => bytes.length + 1
  | .lit _ => 1
  | .nil => 1
  | .ptr d => uptoBulk d + 1
  | .slice elems spare => uptoBulkAll elems + uptoBulkAll spare + 1
  | .agg parts => uptoBulkAll parts + 1
  | .iface _ d => uptoBulk d + 1
  | .map entries => uptoBulkEntries entries + 1
  | .held _ => 1
def uptoBulkAll {H : Type} : List (DataW H) → Nat
  | [] => 0
  | d :: r => uptoBulk d + uptoBulkAll r
def uptoBulkEntries {H : Type} : List (Lit × DataW H) → Nat
  | [] => 0
  | x :: r => uptoBulkEntry x + uptoBulkEntries r
def uptoBulkEntry {H : Type} : Lit × DataW H → Nat
  | (.string bytes, d) => bytes.length + uptoBulk d + 1
  | (_, d) => uptoBulk d + 1
 end
def uptoSmall : (H : Type) → List (DataW H) → Bool := fun _ ds => decide (uptoBulkAll ds ≤ 1048576)
def OpenSpec.upto (s : _root_.Go.ChangeSpec) : _root_.Go.OpenSpec := { _root_.Go.OpenSpec.ofChange s with cond := some uptoSmall }

/-- 'laws.FnExactBentOf', WHERE WHAT IT READS IS OF BULK AT MOST 1048576: true; the input reads as it did. -/
def fnExactBentOfUptoRow : OpenClaim := { program := "ytbfhdfpbijpbbaa", sum := "1523c67eb10ab541b5923bd4e968c4c8e39fc922c42d93458ffad02384cc2c12", func := "loop.example/g00486/laws.FnExactBentOf", spec := "fnExactBentOf", apart := false, narrowed := true }
def FnExactBentOfUptoSaid : Prop := fnExactBentOfUptoRow.holds Try.pinned (OpenSpec.upto fnExactBentOfSpec)

/-- 'laws.FnExactSource', WHERE WHAT IT READS IS OF BULK AT MOST 1048576: true; the input reads as it did. -/
def fnExactSourceUptoRow : OpenClaim := { program := "ytbfhdfpbijpbbaa", sum := "1523c67eb10ab541b5923bd4e968c4c8e39fc922c42d93458ffad02384cc2c12", func := "loop.example/g00486/laws.FnExactSource", spec := "fnExactSource", unfollowed := true, recurses := true, apart := false, narrowed := true }
def FnExactSourceUptoSaid : Prop := fnExactSourceUptoRow.holds Try.pinned (OpenSpec.upto fnExactSourceSpec)

/-- 'laws.FnExactTarget', WHERE WHAT IT READS IS OF BULK AT MOST 1048576: true; the input reads as it did. -/
def fnExactTargetUptoRow : OpenClaim := { program := "ytbfhdfpbijpbbaa", sum := "1523c67eb10ab541b5923bd4e968c4c8e39fc922c42d93458ffad02384cc2c12", func := "loop.example/g00486/laws.FnExactTarget", spec := "fnExactTarget", unfollowed := true, recurses := true, apart := false, narrowed := true }
def FnExactTargetUptoSaid : Prop := fnExactTargetUptoRow.holds Try.pinned (OpenSpec.upto fnExactTargetSpec)

/-- 'laws.FnExactSourceFits', WHERE WHAT IT READS IS OF BULK AT MOST 1048576: true; the input reads as it did. -/
def fnExactSourceFitsUptoRow : OpenClaim := { program := "ytbfhdfpbijpbbaa", sum := "1523c67eb10ab541b5923bd4e968c4c8e39fc922c42d93458ffad02384cc2c12", func := "loop.example/g00486/laws.FnExactSourceFits", spec := "fnExactSourceFits", unfollowed := true, recurses := true, apart := false, narrowed := true }
def FnExactSourceFitsUptoSaid : Prop := fnExactSourceFitsUptoRow.holds Try.pinned (OpenSpec.upto fnExactSourceFitsSpec)

/-- 'laws.FnExactTargetFits', WHERE WHAT IT READS IS OF BULK AT MOST 1048576: true; the input reads as it did. -/
def fnExactTargetFitsUptoRow : OpenClaim := { program := "ytbfhdfpbijpbbaa", sum := "1523c67eb10ab541b5923bd4e968c4c8e39fc922c42d93458ffad02384cc2c12", func := "loop.example/g00486/laws.FnExactTargetFits", spec := "fnExactTargetFits", unfollowed := true, recurses := true, apart := false, narrowed := true }
def FnExactTargetFitsUptoSaid : Prop := fnExactTargetFitsUptoRow.holds Try.pinned (OpenSpec.upto fnExactTargetFitsSpec)

/-- 'laws.FnExactHolds', WHERE WHAT IT READS IS OF BULK AT MOST 1048576: true; the input reads as it did. -/
def fnExactHoldsUptoRow : OpenClaim := { program := "ytbfhdfpbijpbbaa", sum := "1523c67eb10ab541b5923bd4e968c4c8e39fc922c42d93458ffad02384cc2c12", func := "loop.example/g00486/laws.FnExactHolds", spec := "fnExactHolds", apart := false, narrowed := true }
def FnExactHoldsUptoSaid : Prop := fnExactHoldsUptoRow.holds Try.pinned (OpenSpec.upto fnExactHoldsSpec)

/-- 'laws.FnExactPatFits', WHERE WHAT IT READS IS OF BULK AT MOST 1048576: true; the input reads as it did. -/
def fnExactPatFitsUptoRow : OpenClaim := { program := "ytbfhdfpbijpbbaa", sum := "1523c67eb10ab541b5923bd4e968c4c8e39fc922c42d93458ffad02384cc2c12", func := "loop.example/g00486/laws.FnExactPatFits", spec := "fnExactPatFits", unfollowed := true, recurses := true, apart := false, narrowed := true }
def FnExactPatFitsUptoSaid : Prop := fnExactPatFitsUptoRow.holds Try.pinned (OpenSpec.upto fnExactPatFitsSpec)

/-- 'laws.FnExactEventText', WHERE WHAT IT READS IS OF BULK AT MOST 1048576: true; the input reads as it did. -/
def fnExactEventTextUptoRow : OpenClaim := { program := "ytbfhdfpbijpbbaa", sum := "1523c67eb10ab541b5923bd4e968c4c8e39fc922c42d93458ffad02384cc2c12", func := "loop.example/g00486/laws.FnExactEventText", spec := "fnExactEventText", inPlace := ["internal/abi.NoEscape", "internal/bytealg.MakeNoZero"], recurses := true, apart := false, narrowed := true }
def FnExactEventTextUptoSaid : Prop := fnExactEventTextUptoRow.holds Try.pinned (OpenSpec.upto fnExactEventTextSpec)

/-- 'laws.FnExactActOk', WHERE WHAT IT READS IS OF BULK AT MOST 1048576: true; the input reads as it did. -/
def fnExactActOkUptoRow : OpenClaim := { program := "ytbfhdfpbijpbbaa", sum := "1523c67eb10ab541b5923bd4e968c4c8e39fc922c42d93458ffad02384cc2c12", func := "loop.example/g00486/laws.FnExactActOk", spec := "fnExactActOk", unfollowed := true, recurses := true, apart := false, narrowed := true }
def FnExactActOkUptoSaid : Prop := fnExactActOkUptoRow.holds Try.pinned (OpenSpec.upto fnExactActOkSpec)

/-- 'laws.FnExactParts', WHERE WHAT IT READS IS OF BULK AT MOST 1048576: true; the input reads as it did. -/
def fnExactPartsUptoRow : OpenClaim := { program := "ytbfhdfpbijpbbaa", sum := "1523c67eb10ab541b5923bd4e968c4c8e39fc922c42d93458ffad02384cc2c12", func := "loop.example/g00486/laws.FnExactParts", spec := "fnExactParts", apart := false, narrowed := true }
def FnExactPartsUptoSaid : Prop := fnExactPartsUptoRow.holds Try.pinned (OpenSpec.upto fnExactPartsSpec)

/-- 'laws.FnExactSameEffect', WHERE WHAT IT READS IS OF BULK AT MOST 1048576: true; the input reads as it did. -/
def fnExactSameEffectUptoRow : OpenClaim := { program := "ytbfhdfpbijpbbaa", sum := "1523c67eb10ab541b5923bd4e968c4c8e39fc922c42d93458ffad02384cc2c12", func := "loop.example/g00486/laws.FnExactSameEffect", spec := "fnExactSameEffect", apart := false, narrowed := true }
def FnExactSameEffectUptoSaid : Prop := fnExactSameEffectUptoRow.holds Try.pinned (OpenSpec.upto fnExactSameEffectSpec)

/-- 'laws.FnExactActText', WHERE WHAT IT READS IS OF BULK AT MOST 1048576: true; the input reads as it did. -/
def fnExactActTextUptoRow : OpenClaim := { program := "ytbfhdfpbijpbbaa", sum := "1523c67eb10ab541b5923bd4e968c4c8e39fc922c42d93458ffad02384cc2c12", func := "loop.example/g00486/laws.FnExactActText", spec := "fnExactActText", unfollowed := true, recurses := true, apart := false, narrowed := true }
def FnExactActTextUptoSaid : Prop := fnExactActTextUptoRow.holds Try.pinned (OpenSpec.upto fnExactActTextSpec)

end Rows
end Go.Proofs.Ytbfhdfpbijpbbaa
