/-
  No cell of these rows narrows 'for every input' (looked for: loops, veiled, ifaces, maps, wideKeys, modest, calm, conditions, laid).
  DERIVED. THE GIVEN ROWS OF THIS SEAT. 11 by the template 'for every input the law returns true; each argument reads behind the call as it read before'; 0 by the template 'total and deterministic' (their statements: YtammagpahfmenaaTotals.lean).
  GIVEN WITH THE SEED: the statements are not yours to turn. If you find one false, say at which input.
  Laid BY PROGRAM, IN A SANDBOX (cutbox-rows.mjs): the forced cells as the released guide's own fill.sh prints them over the translation 69ad273846a31b73… (all of the seat's roots in one cut). By AI agents, Wed Nov 11 2026. No macro, syntax, notation, axiom, sorry.
-/
import Derived.Test.YtammagpahfmenaaChecked
import GoSem.Claim
import GoSem.ClaimJoined
import GoSem.ClaimMapViews
import Derived.JoinedTies
import Derived.KernelRfl
namespace Go.Proofs.Ytammagpahfmenaa
/- THE CELL 'sum', in the pinned program and in every row, IS THE sha256 OF THE DUMP (.gsa) THAT YtammagpahfmenaaProg.lean LOADS. Nothing in Lean hashes anything: it is a label: what it is worth is what the hold of that sum in a sandbox is worth. -/
noncomputable def Try.pinned : Pinned := { name := "ytammagpahfmenaa", sum := "69ad273846a31b7343916aea7934da285562153d1269ec5bb0f80a764f88adc7", checked := Try.checked }
namespace Rows
def none {H : Type} : Left H := { results := [], args := [] }

/-- 'laws.FnPicks': WHATEVER THE INPUT: true; the input reads as it did. -/
def fnPicksSpec : ChangeSpec := { name := "fnPicks", fn := fun _ => fun
  | [d] => { results := [.lit (.bool true)], args := [d] }
  | _ => none }
def fnPicksRow : OpenClaim := { program := "ytammagpahfmenaa", sum := "69ad273846a31b7343916aea7934da285562153d1269ec5bb0f80a764f88adc7", func := "loop.example/g00486/laws.FnPicks", spec := "fnPicks", apart := false }
def FnPicksSaid : Prop := fnPicksRow.holds Try.pinned (OpenSpec.ofChange fnPicksSpec)

/-- ITS FALSE NEIGHBOUR: 'it returns false'. Refute it at one input. -/
def fnPicksWrong : ChangeSpec := { name := "fnPicks", fn := fun _ => fun
  | [d] => { results := [.lit (.bool false)], args := [d] }
  | _ => none }
def FnPicksWrongFalsely : Prop := fnPicksRow.holds Try.pinned (OpenSpec.ofChange fnPicksWrong)

/-- 'laws.FnNarrow': WHATEVER THE INPUT: true; the input reads as it did. -/
def fnNarrowSpec : ChangeSpec := { name := "fnNarrow", fn := fun _ => fun
  | [d] => { results := [.lit (.bool true)], args := [d] }
  | _ => none }
def fnNarrowRow : OpenClaim := { program := "ytammagpahfmenaa", sum := "69ad273846a31b7343916aea7934da285562153d1269ec5bb0f80a764f88adc7", func := "loop.example/g00486/laws.FnNarrow", spec := "fnNarrow", apart := false }
def FnNarrowSaid : Prop := fnNarrowRow.holds Try.pinned (OpenSpec.ofChange fnNarrowSpec)

/-- ITS FALSE NEIGHBOUR: 'it returns false'. Refute it at one input. -/
def fnNarrowWrong : ChangeSpec := { name := "fnNarrow", fn := fun _ => fun
  | [d] => { results := [.lit (.bool false)], args := [d] }
  | _ => none }
def FnNarrowWrongFalsely : Prop := fnNarrowRow.holds Try.pinned (OpenSpec.ofChange fnNarrowWrong)

/-- 'laws.FnGuards': WHATEVER THE INPUT: true; the input reads as it did. -/
def fnGuardsSpec : ChangeSpec := { name := "fnGuards", fn := fun _ => fun
  | [d] => { results := [.lit (.bool true)], args := [d] }
  | _ => none }
def fnGuardsRow : OpenClaim := { program := "ytammagpahfmenaa", sum := "69ad273846a31b7343916aea7934da285562153d1269ec5bb0f80a764f88adc7", func := "loop.example/g00486/laws.FnGuards", spec := "fnGuards", apart := false }
def FnGuardsSaid : Prop := fnGuardsRow.holds Try.pinned (OpenSpec.ofChange fnGuardsSpec)

/-- ITS FALSE NEIGHBOUR: 'it returns false'. Refute it at one input. -/
def fnGuardsWrong : ChangeSpec := { name := "fnGuards", fn := fun _ => fun
  | [d] => { results := [.lit (.bool false)], args := [d] }
  | _ => none }
def FnGuardsWrongFalsely : Prop := fnGuardsRow.holds Try.pinned (OpenSpec.ofChange fnGuardsWrong)

/-- 'laws.FnAmounts': WHATEVER THE INPUT: true; the input reads as it did. -/
def fnAmountsSpec : ChangeSpec := { name := "fnAmounts", fn := fun _ => fun
  | [d] => { results := [.lit (.bool true)], args := [d] }
  | _ => none }
def fnAmountsRow : OpenClaim := { program := "ytammagpahfmenaa", sum := "69ad273846a31b7343916aea7934da285562153d1269ec5bb0f80a764f88adc7", func := "loop.example/g00486/laws.FnAmounts", spec := "fnAmounts", unfollowed := true, recurses := true, apart := false }
def FnAmountsSaid : Prop := fnAmountsRow.holds Try.pinned (OpenSpec.ofChange fnAmountsSpec)

/-- ITS FALSE NEIGHBOUR: 'it returns false'. Refute it at one input. -/
def fnAmountsWrong : ChangeSpec := { name := "fnAmounts", fn := fun _ => fun
  | [d] => { results := [.lit (.bool false)], args := [d] }
  | _ => none }
def FnAmountsWrongFalsely : Prop := fnAmountsRow.holds Try.pinned (OpenSpec.ofChange fnAmountsWrong)

/-- 'laws.FnPats': WHATEVER THE INPUT: true; the input reads as it did. -/
def fnPatsSpec : ChangeSpec := { name := "fnPats", fn := fun _ => fun
  | [d] => { results := [.lit (.bool true)], args := [d] }
  | _ => none }
def fnPatsRow : OpenClaim := { program := "ytammagpahfmenaa", sum := "69ad273846a31b7343916aea7934da285562153d1269ec5bb0f80a764f88adc7", func := "loop.example/g00486/laws.FnPats", spec := "fnPats", unfollowed := true, recurses := true, apart := false }
def FnPatsSaid : Prop := fnPatsRow.holds Try.pinned (OpenSpec.ofChange fnPatsSpec)

/-- ITS FALSE NEIGHBOUR: 'it returns false'. Refute it at one input. -/
def fnPatsWrong : ChangeSpec := { name := "fnPats", fn := fun _ => fun
  | [d] => { results := [.lit (.bool false)], args := [d] }
  | _ => none }
def FnPatsWrongFalsely : Prop := fnPatsRow.holds Try.pinned (OpenSpec.ofChange fnPatsWrong)

/-- 'laws.FnEvents': WHATEVER THE INPUT: true; the input reads as it did. -/
def fnEventsSpec : ChangeSpec := { name := "fnEvents", fn := fun _ => fun
  | [d] => { results := [.lit (.bool true)], args := [d] }
  | _ => none }
def fnEventsRow : OpenClaim := { program := "ytammagpahfmenaa", sum := "69ad273846a31b7343916aea7934da285562153d1269ec5bb0f80a764f88adc7", func := "loop.example/g00486/laws.FnEvents", spec := "fnEvents", inPlace := ["internal/abi.NoEscape", "internal/bytealg.MakeNoZero"], unfollowed := true, recurses := true, apart := false }
def FnEventsSaid : Prop := fnEventsRow.holds Try.pinned (OpenSpec.ofChange fnEventsSpec)

/-- ITS FALSE NEIGHBOUR: 'it returns false'. Refute it at one input. -/
def fnEventsWrong : ChangeSpec := { name := "fnEvents", fn := fun _ => fun
  | [d] => { results := [.lit (.bool false)], args := [d] }
  | _ => none }
def FnEventsWrongFalsely : Prop := fnEventsRow.holds Try.pinned (OpenSpec.ofChange fnEventsWrong)

/-- 'laws.FnActs': WHATEVER THE INPUT: true; the input reads as it did. -/
def fnActsSpec : ChangeSpec := { name := "fnActs", fn := fun _ => fun
  | [d] => { results := [.lit (.bool true)], args := [d] }
  | _ => none }
def fnActsRow : OpenClaim := { program := "ytammagpahfmenaa", sum := "69ad273846a31b7343916aea7934da285562153d1269ec5bb0f80a764f88adc7", func := "loop.example/g00486/laws.FnActs", spec := "fnActs", unfollowed := true, recurses := true, apart := false }
def FnActsSaid : Prop := fnActsRow.holds Try.pinned (OpenSpec.ofChange fnActsSpec)

/-- ITS FALSE NEIGHBOUR: 'it returns false'. Refute it at one input. -/
def fnActsWrong : ChangeSpec := { name := "fnActs", fn := fun _ => fun
  | [d] => { results := [.lit (.bool false)], args := [d] }
  | _ => none }
def FnActsWrongFalsely : Prop := fnActsRow.holds Try.pinned (OpenSpec.ofChange fnActsWrong)

/-- 'laws.FnSpents': WHATEVER THE INPUT: true; the input reads as it did. -/
def fnSpentsSpec : ChangeSpec := { name := "fnSpents", fn := fun _ => fun
  | [d] => { results := [.lit (.bool true)], args := [d] }
  | _ => none }
def fnSpentsRow : OpenClaim := { program := "ytammagpahfmenaa", sum := "69ad273846a31b7343916aea7934da285562153d1269ec5bb0f80a764f88adc7", func := "loop.example/g00486/laws.FnSpents", spec := "fnSpents", unfollowed := true, recurses := true, apart := false }
def FnSpentsSaid : Prop := fnSpentsRow.holds Try.pinned (OpenSpec.ofChange fnSpentsSpec)

/-- ITS FALSE NEIGHBOUR: 'it returns false'. Refute it at one input. -/
def fnSpentsWrong : ChangeSpec := { name := "fnSpents", fn := fun _ => fun
  | [d] => { results := [.lit (.bool false)], args := [d] }
  | _ => none }
def FnSpentsWrongFalsely : Prop := fnSpentsRow.holds Try.pinned (OpenSpec.ofChange fnSpentsWrong)

/-- 'laws.FnTurnsOk': WHATEVER THE INPUT: true; the input reads as it did. -/
def fnTurnsOkSpec : ChangeSpec := { name := "fnTurnsOk", fn := fun _ => fun
  | [d] => { results := [.lit (.bool true)], args := [d] }
  | _ => none }
def fnTurnsOkRow : OpenClaim := { program := "ytammagpahfmenaa", sum := "69ad273846a31b7343916aea7934da285562153d1269ec5bb0f80a764f88adc7", func := "loop.example/g00486/laws.FnTurnsOk", spec := "fnTurnsOk", unfollowed := true, recurses := true, apart := false }
def FnTurnsOkSaid : Prop := fnTurnsOkRow.holds Try.pinned (OpenSpec.ofChange fnTurnsOkSpec)

/-- ITS FALSE NEIGHBOUR: 'it returns false'. Refute it at one input. -/
def fnTurnsOkWrong : ChangeSpec := { name := "fnTurnsOk", fn := fun _ => fun
  | [d] => { results := [.lit (.bool false)], args := [d] }
  | _ => none }
def FnTurnsOkWrongFalsely : Prop := fnTurnsOkRow.holds Try.pinned (OpenSpec.ofChange fnTurnsOkWrong)

/-- 'laws.FnTables': WHATEVER THE INPUT: true; the input reads as it did. -/
def fnTablesSpec : ChangeSpec := { name := "fnTables", fn := fun _ => fun
  | [d] => { results := [.lit (.bool true)], args := [d] }
  | _ => none }
def fnTablesRow : OpenClaim := { program := "ytammagpahfmenaa", sum := "69ad273846a31b7343916aea7934da285562153d1269ec5bb0f80a764f88adc7", func := "loop.example/g00486/laws.FnTables", spec := "fnTables", unfollowed := true, recurses := true, apart := false }
def FnTablesSaid : Prop := fnTablesRow.holds Try.pinned (OpenSpec.ofChange fnTablesSpec)

/-- ITS FALSE NEIGHBOUR: 'it returns false'. Refute it at one input. -/
def fnTablesWrong : ChangeSpec := { name := "fnTables", fn := fun _ => fun
  | [d] => { results := [.lit (.bool false)], args := [d] }
  | _ => none }
def FnTablesWrongFalsely : Prop := fnTablesRow.holds Try.pinned (OpenSpec.ofChange fnTablesWrong)

/-- 'laws.FnInstalls': WHATEVER THE INPUT: true; the input reads as it did. -/
def fnInstallsSpec : ChangeSpec := { name := "fnInstalls", fn := fun _ => fun
  | [d] => { results := [.lit (.bool true)], args := [d] }
  | _ => none }
def fnInstallsRow : OpenClaim := { program := "ytammagpahfmenaa", sum := "69ad273846a31b7343916aea7934da285562153d1269ec5bb0f80a764f88adc7", func := "loop.example/g00486/laws.FnInstalls", spec := "fnInstalls", inPlace := ["slices.overlaps[loop.example/g00486/impl.Effect]"], unfollowed := true, recurses := true, apart := false }
def FnInstallsSaid : Prop := fnInstallsRow.holds Try.pinned (OpenSpec.ofChange fnInstallsSpec)

/-- ITS FALSE NEIGHBOUR: 'it returns false'. Refute it at one input. -/
def fnInstallsWrong : ChangeSpec := { name := "fnInstalls", fn := fun _ => fun
  | [d] => { results := [.lit (.bool false)], args := [d] }
  | _ => none }
def FnInstallsWrongFalsely : Prop := fnInstallsRow.holds Try.pinned (OpenSpec.ofChange fnInstallsWrong)

/- THE SECOND FORM. 'bulk': how many values and letters a reading holds, each counted each time it is reached (what is shared counts as often as it is met; a slice's spare places count too). A statement '..UptoSaid' is the law's where the arguments, and the package variables that the reading takes, are together of bulk at most 1048576: NARROWER than '..Said'. Prove '..Said' where nothing that the law and all that it calls make is longer than what came in: it says more and counts as full. Else prove '..UptoSaid'. A law counts once. -/
mutual
def uptoBulk {H : Type} : DataW H → Nat
  | .lit (.string bytes) => bytes.length + 1
  | .lit _ => 1
  | .nil => 1
  | .ptr d => uptoBulk d + 1
  | .slice elems spare => uptoBulkAll elems + uptoBulkAll spare + 1
  | .agg parts => uptoBulkAll parts + 1
  | .iface _ d => uptoBulk d + 1
  | .map entries => uptoBulkEntries entries + 1
  | .held _ => 1
def uptoBulkAll {H : Type} : List (DataW H) → Nat
  | [] => 0
  | d :: r => uptoBulk d + uptoBulkAll r
def uptoBulkEntries {H : Type} : List (Lit × DataW H) → Nat
  | [] => 0
  | x :: r => uptoBulkEntry x + uptoBulkEntries r
def uptoBulkEntry {H : Type} : Lit × DataW H → Nat
  | (.string bytes, d) => bytes.length + uptoBulk d + 1
  | (_, d) => uptoBulk d + 1
 end
def uptoSmall : (H : Type) → List (DataW H) → Bool := fun _ ds => decide (uptoBulkAll ds ≤ 1048576)
def OpenSpec.upto (s : _root_.Go.ChangeSpec) : _root_.Go.OpenSpec := { _root_.Go.OpenSpec.ofChange s with cond := some uptoSmall }

/-- 'laws.FnPicks', WHERE WHAT IT READS IS OF BULK AT MOST 1048576: true; the input reads as it did. -/
def fnPicksUptoRow : OpenClaim := { program := "ytammagpahfmenaa", sum := "69ad273846a31b7343916aea7934da285562153d1269ec5bb0f80a764f88adc7", func := "loop.example/g00486/laws.FnPicks", spec := "fnPicks", apart := false, narrowed := true }
def FnPicksUptoSaid : Prop := fnPicksUptoRow.holds Try.pinned (OpenSpec.upto fnPicksSpec)

/-- 'laws.FnNarrow', WHERE WHAT IT READS IS OF BULK AT MOST 1048576: true; the input reads as it did. -/
def fnNarrowUptoRow : OpenClaim := { program := "ytammagpahfmenaa", sum := "69ad273846a31b7343916aea7934da285562153d1269ec5bb0f80a764f88adc7", func := "loop.example/g00486/laws.FnNarrow", spec := "fnNarrow", apart := false, narrowed := true }
def FnNarrowUptoSaid : Prop := fnNarrowUptoRow.holds Try.pinned (OpenSpec.upto fnNarrowSpec)

/-- 'laws.FnGuards', WHERE WHAT IT READS IS OF BULK AT MOST 1048576: true; the input reads as it did. -/
def fnGuardsUptoRow : OpenClaim := { program := "ytammagpahfmenaa", sum := "69ad273846a31b7343916aea7934da285562153d1269ec5bb0f80a764f88adc7", func := "loop.example/g00486/laws.FnGuards", spec := "fnGuards", apart := false, narrowed := true }
def FnGuardsUptoSaid : Prop := fnGuardsUptoRow.holds Try.pinned (OpenSpec.upto fnGuardsSpec)

/-- 'laws.FnAmounts', WHERE WHAT IT READS IS OF BULK AT MOST 1048576: true; the input reads as it did. -/
def fnAmountsUptoRow : OpenClaim := { program := "ytammagpahfmenaa", sum := "69ad273846a31b7343916aea7934da285562153d1269ec5bb0f80a764f88adc7", func := "loop.example/g00486/laws.FnAmounts", spec := "fnAmounts", unfollowed := true, recurses := true, apart := false, narrowed := true }
def FnAmountsUptoSaid : Prop := fnAmountsUptoRow.holds Try.pinned (OpenSpec.upto fnAmountsSpec)

/-- 'laws.FnPats', WHERE WHAT IT READS IS OF BULK AT MOST 1048576: true; the input reads as it did. -/
def fnPatsUptoRow : OpenClaim := { program := "ytammagpahfmenaa", sum := "69ad273846a31b7343916aea7934da285562153d1269ec5bb0f80a764f88adc7", func := "loop.example/g00486/laws.FnPats", spec := "fnPats", unfollowed := true, recurses := true, apart := false, narrowed := true }
def FnPatsUptoSaid : Prop := fnPatsUptoRow.holds Try.pinned (OpenSpec.upto fnPatsSpec)

/-- 'laws.FnEvents', WHERE WHAT IT READS IS OF BULK AT MOST 1048576: true; the input reads as it did. -/
def fnEventsUptoRow : OpenClaim := { program := "ytammagpahfmenaa", sum := "69ad273846a31b7343916aea7934da285562153d1269ec5bb0f80a764f88adc7", func := "loop.example/g00486/laws.FnEvents", spec := "fnEvents", inPlace := ["internal/abi.NoEscape", "internal/bytealg.MakeNoZero"], unfollowed := true, recurses := true, apart := false, narrowed := true }
def FnEventsUptoSaid : Prop := fnEventsUptoRow.holds Try.pinned (OpenSpec.upto fnEventsSpec)

/-- 'laws.FnActs', WHERE WHAT IT READS IS OF BULK AT MOST 1048576: true; the input reads as it did. -/
def fnActsUptoRow : OpenClaim := { program := "ytammagpahfmenaa", sum := "69ad273846a31b7343916aea7934da285562153d1269ec5bb0f80a764f88adc7", func := "loop.example/g00486/laws.FnActs", spec := "fnActs", unfollowed := true, recurses := true, apart := false, narrowed := true }
def FnActsUptoSaid : Prop := fnActsUptoRow.holds Try.pinned (OpenSpec.upto fnActsSpec)

/-- 'laws.FnSpents', WHERE WHAT IT READS IS OF BULK AT MOST 1048576: true; the input reads as it did. -/
def fnSpentsUptoRow : OpenClaim := { program := "ytammagpahfmenaa", sum := "69ad273846a31b7343916aea7934da285562153d1269ec5bb0f80a764f88adc7", func := "loop.example/g00486/laws.FnSpents", spec := "fnSpents", unfollowed := true, recurses := true, apart := false, narrowed := true }
def FnSpentsUptoSaid : Prop := fnSpentsUptoRow.holds Try.pinned (OpenSpec.upto fnSpentsSpec)

/-- 'laws.FnTurnsOk', WHERE WHAT IT READS IS OF BULK AT MOST 1048576: true; the input reads as it did. -/
def fnTurnsOkUptoRow : OpenClaim := { program := "ytammagpahfmenaa", sum := "69ad273846a31b7343916aea7934da285562153d1269ec5bb0f80a764f88adc7", func := "loop.example/g00486/laws.FnTurnsOk", spec := "fnTurnsOk", unfollowed := true, recurses := true, apart := false, narrowed := true }
def FnTurnsOkUptoSaid : Prop := fnTurnsOkUptoRow.holds Try.pinned (OpenSpec.upto fnTurnsOkSpec)

/-- 'laws.FnTables', WHERE WHAT IT READS IS OF BULK AT MOST 1048576: true; the input reads as it did. -/
def fnTablesUptoRow : OpenClaim := { program := "ytammagpahfmenaa", sum := "69ad273846a31b7343916aea7934da285562153d1269ec5bb0f80a764f88adc7", func := "loop.example/g00486/laws.FnTables", spec := "fnTables", unfollowed := true, recurses := true, apart := false, narrowed := true }
def FnTablesUptoSaid : Prop := fnTablesUptoRow.holds Try.pinned (OpenSpec.upto fnTablesSpec)

/-- 'laws.FnInstalls', WHERE WHAT IT READS IS OF BULK AT MOST 1048576: true; the input reads as it did. -/
def fnInstallsUptoRow : OpenClaim := { program := "ytammagpahfmenaa", sum := "69ad273846a31b7343916aea7934da285562153d1269ec5bb0f80a764f88adc7", func := "loop.example/g00486/laws.FnInstalls", spec := "fnInstalls", inPlace := ["slices.overlaps[loop.example/g00486/impl.Effect]"], unfollowed := true, recurses := true, apart := false, narrowed := true }
def FnInstallsUptoSaid : Prop := fnInstallsUptoRow.holds Try.pinned (OpenSpec.upto fnInstallsSpec)

end Rows
end Go.Proofs.Ytammagpahfmenaa
