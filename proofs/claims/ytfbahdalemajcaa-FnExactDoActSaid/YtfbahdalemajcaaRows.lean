/-
  No cell of these rows narrows 'for every input' (looked for: loops, veiled, ifaces, maps, wideKeys, modest, calm, conditions, laid).
  DERIVED. THE GIVEN ROWS OF THIS SEAT. 11 by the template 'for every input the law returns true; each argument reads behind the call as it read before'; 0 by the template 'total and deterministic' (their statements: YtfbahdalemajcaaTotals.lean).
  GIVEN WITH THE SEED: the statements are not yours to turn. If you find one false, say at which input.
  Laid BY PROGRAM, IN A SANDBOX (cutbox-rows.mjs): the forced cells as the released guide's own fill.sh prints them over the translation 04b7474e648c4635… (all of the seat's roots in one cut). By AI agents, Wed Nov 11 2026. No macro, syntax, notation, axiom, sorry.
-/
import Derived.Test.YtfbahdalemajcaaChecked
import GoSem.Claim
import GoSem.ClaimJoined
import GoSem.ClaimMapViews
import Derived.JoinedTies
import Derived.KernelRfl
namespace Go.Proofs.Ytfbahdalemajcaa
/- THE CELL 'sum', in the pinned program and in every row, IS THE sha256 OF THE DUMP (.gsa) THAT YtfbahdalemajcaaProg.lean LOADS. Nothing in Lean hashes anything: it is a label: what it is worth is what the hold of that sum in a sandbox is worth. -/
noncomputable def Try.pinned : Pinned := { name := "ytfbahdalemajcaa", sum := "04b7474e648c463595d49f29f3639b794339d306bfa7d48e53d24e64870f0bd2", checked := Try.checked }
namespace Rows
def none {H : Type} : Left H := { results := [], args := [] }

/-- 'laws.FnExactEffectAt': WHATEVER THE INPUT: true; the input reads as it did. -/
def fnExactEffectAtSpec : ChangeSpec := { name := "fnExactEffectAt", fn := fun _ => fun
  | [d1, d2] => { results := [.lit (.bool true)], args := [d1, d2] }
  | _ => none }
def fnExactEffectAtRow : OpenClaim := { program := "ytfbahdalemajcaa", sum := "04b7474e648c463595d49f29f3639b794339d306bfa7d48e53d24e64870f0bd2", func := "loop.example/g00486/laws.FnExactEffectAt", spec := "fnExactEffectAt", unfollowed := true, recurses := true, apart := false }
def FnExactEffectAtSaid : Prop := fnExactEffectAtRow.holds Try.pinned (OpenSpec.ofChange fnExactEffectAtSpec)

/-- ITS FALSE NEIGHBOUR: 'it returns false'. Refute it at one input. -/
def fnExactEffectAtWrong : ChangeSpec := { name := "fnExactEffectAt", fn := fun _ => fun
  | [d1, d2] => { results := [.lit (.bool false)], args := [d1, d2] }
  | _ => none }
def FnExactEffectAtWrongFalsely : Prop := fnExactEffectAtRow.holds Try.pinned (OpenSpec.ofChange fnExactEffectAtWrong)

/-- 'laws.FnExactSameTable': WHATEVER THE INPUT: true; the input reads as it did. -/
def fnExactSameTableSpec : ChangeSpec := { name := "fnExactSameTable", fn := fun _ => fun
  | [d1, d2] => { results := [.lit (.bool true)], args := [d1, d2] }
  | _ => none }
def fnExactSameTableRow : OpenClaim := { program := "ytfbahdalemajcaa", sum := "04b7474e648c463595d49f29f3639b794339d306bfa7d48e53d24e64870f0bd2", func := "loop.example/g00486/laws.FnExactSameTable", spec := "fnExactSameTable", unfollowed := true, recurses := true, apart := false }
def FnExactSameTableSaid : Prop := fnExactSameTableRow.holds Try.pinned (OpenSpec.ofChange fnExactSameTableSpec)

/-- ITS FALSE NEIGHBOUR: 'it returns false'. Refute it at one input. -/
def fnExactSameTableWrong : ChangeSpec := { name := "fnExactSameTable", fn := fun _ => fun
  | [d1, d2] => { results := [.lit (.bool false)], args := [d1, d2] }
  | _ => none }
def FnExactSameTableWrongFalsely : Prop := fnExactSameTableRow.holds Try.pinned (OpenSpec.ofChange fnExactSameTableWrong)

/-- 'laws.FnExactSpent': WHATEVER THE INPUT: true; the input reads as it did. -/
def fnExactSpentSpec : ChangeSpec := { name := "fnExactSpent", fn := fun _ => fun
  | [d1, d2] => { results := [.lit (.bool true)], args := [d1, d2] }
  | _ => none }
def fnExactSpentRow : OpenClaim := { program := "ytfbahdalemajcaa", sum := "04b7474e648c463595d49f29f3639b794339d306bfa7d48e53d24e64870f0bd2", func := "loop.example/g00486/laws.FnExactSpent", spec := "fnExactSpent", apart := false }
def FnExactSpentSaid : Prop := fnExactSpentRow.holds Try.pinned (OpenSpec.ofChange fnExactSpentSpec)

/-- ITS FALSE NEIGHBOUR: 'it returns false'. Refute it at one input. -/
def fnExactSpentWrong : ChangeSpec := { name := "fnExactSpent", fn := fun _ => fun
  | [d1, d2] => { results := [.lit (.bool false)], args := [d1, d2] }
  | _ => none }
def FnExactSpentWrongFalsely : Prop := fnExactSpentRow.holds Try.pinned (OpenSpec.ofChange fnExactSpentWrong)

/-- 'laws.FnExactEffectOk': WHATEVER THE INPUT: true; the input reads as it did. -/
def fnExactEffectOkSpec : ChangeSpec := { name := "fnExactEffectOk", fn := fun _ => fun
  | [d] => { results := [.lit (.bool true)], args := [d] }
  | _ => none }
def fnExactEffectOkRow : OpenClaim := { program := "ytfbahdalemajcaa", sum := "04b7474e648c463595d49f29f3639b794339d306bfa7d48e53d24e64870f0bd2", func := "loop.example/g00486/laws.FnExactEffectOk", spec := "fnExactEffectOk", unfollowed := true, recurses := true, apart := false }
def FnExactEffectOkSaid : Prop := fnExactEffectOkRow.holds Try.pinned (OpenSpec.ofChange fnExactEffectOkSpec)

/-- ITS FALSE NEIGHBOUR: 'it returns false'. Refute it at one input. -/
def fnExactEffectOkWrong : ChangeSpec := { name := "fnExactEffectOk", fn := fun _ => fun
  | [d] => { results := [.lit (.bool false)], args := [d] }
  | _ => none }
def FnExactEffectOkWrongFalsely : Prop := fnExactEffectOkRow.holds Try.pinned (OpenSpec.ofChange fnExactEffectOkWrong)

/-- 'laws.FnExactTableOk': WHATEVER THE INPUT: true; the input reads as it did. -/
def fnExactTableOkSpec : ChangeSpec := { name := "fnExactTableOk", fn := fun _ => fun
  | [d] => { results := [.lit (.bool true)], args := [d] }
  | _ => none }
def fnExactTableOkRow : OpenClaim := { program := "ytfbahdalemajcaa", sum := "04b7474e648c463595d49f29f3639b794339d306bfa7d48e53d24e64870f0bd2", func := "loop.example/g00486/laws.FnExactTableOk", spec := "fnExactTableOk", unfollowed := true, recurses := true, apart := false }
def FnExactTableOkSaid : Prop := fnExactTableOkRow.holds Try.pinned (OpenSpec.ofChange fnExactTableOkSpec)

/-- ITS FALSE NEIGHBOUR: 'it returns false'. Refute it at one input. -/
def fnExactTableOkWrong : ChangeSpec := { name := "fnExactTableOk", fn := fun _ => fun
  | [d] => { results := [.lit (.bool false)], args := [d] }
  | _ => none }
def FnExactTableOkWrongFalsely : Prop := fnExactTableOkRow.holds Try.pinned (OpenSpec.ofChange fnExactTableOkWrong)

/-- 'laws.FnExactExpire': WHATEVER THE INPUT: true; the input reads as it did. -/
def fnExactExpireSpec : ChangeSpec := { name := "fnExactExpire", fn := fun _ => fun
  | [d1, d2] => { results := [.lit (.bool true)], args := [d1, d2] }
  | _ => none }
def fnExactExpireRow : OpenClaim := { program := "ytfbahdalemajcaa", sum := "04b7474e648c463595d49f29f3639b794339d306bfa7d48e53d24e64870f0bd2", func := "loop.example/g00486/laws.FnExactExpire", spec := "fnExactExpire", unfollowed := true, recurses := true, apart := false }
def FnExactExpireSaid : Prop := fnExactExpireRow.holds Try.pinned (OpenSpec.ofChange fnExactExpireSpec)

/-- ITS FALSE NEIGHBOUR: 'it returns false'. Refute it at one input. -/
def fnExactExpireWrong : ChangeSpec := { name := "fnExactExpire", fn := fun _ => fun
  | [d1, d2] => { results := [.lit (.bool false)], args := [d1, d2] }
  | _ => none }
def FnExactExpireWrongFalsely : Prop := fnExactExpireRow.holds Try.pinned (OpenSpec.ofChange fnExactExpireWrong)

/-- 'laws.FnExactUpdate': WHATEVER THE INPUT: true; the input reads as it did. -/
def fnExactUpdateSpec : ChangeSpec := { name := "fnExactUpdate", fn := fun _ => fun
  | [d1, d2] => { results := [.lit (.bool true)], args := [d1, d2] }
  | _ => none }
def fnExactUpdateRow : OpenClaim := { program := "ytfbahdalemajcaa", sum := "04b7474e648c463595d49f29f3639b794339d306bfa7d48e53d24e64870f0bd2", func := "loop.example/g00486/laws.FnExactUpdate", spec := "fnExactUpdate", unfollowed := true, recurses := true, apart := false }
def FnExactUpdateSaid : Prop := fnExactUpdateRow.holds Try.pinned (OpenSpec.ofChange fnExactUpdateSpec)

/-- ITS FALSE NEIGHBOUR: 'it returns false'. Refute it at one input. -/
def fnExactUpdateWrong : ChangeSpec := { name := "fnExactUpdate", fn := fun _ => fun
  | [d1, d2] => { results := [.lit (.bool false)], args := [d1, d2] }
  | _ => none }
def FnExactUpdateWrongFalsely : Prop := fnExactUpdateRow.holds Try.pinned (OpenSpec.ofChange fnExactUpdateWrong)

/-- 'laws.FnExactDrop': WHATEVER THE INPUT: true; the input reads as it did. -/
def fnExactDropSpec : ChangeSpec := { name := "fnExactDrop", fn := fun _ => fun
  | [d1, d2] => { results := [.lit (.bool true)], args := [d1, d2] }
  | _ => none }
def fnExactDropRow : OpenClaim := { program := "ytfbahdalemajcaa", sum := "04b7474e648c463595d49f29f3639b794339d306bfa7d48e53d24e64870f0bd2", func := "loop.example/g00486/laws.FnExactDrop", spec := "fnExactDrop", unfollowed := true, recurses := true, apart := false }
def FnExactDropSaid : Prop := fnExactDropRow.holds Try.pinned (OpenSpec.ofChange fnExactDropSpec)

/-- ITS FALSE NEIGHBOUR: 'it returns false'. Refute it at one input. -/
def fnExactDropWrong : ChangeSpec := { name := "fnExactDrop", fn := fun _ => fun
  | [d1, d2] => { results := [.lit (.bool false)], args := [d1, d2] }
  | _ => none }
def FnExactDropWrongFalsely : Prop := fnExactDropRow.holds Try.pinned (OpenSpec.ofChange fnExactDropWrong)

/-- 'laws.FnExactDoAct': WHATEVER THE INPUT: true; the input reads as it did. -/
def fnExactDoActSpec : ChangeSpec := { name := "fnExactDoAct", fn := fun _ => fun
  | [d1, d2] => { results := [.lit (.bool true)], args := [d1, d2] }
  | _ => none }
def fnExactDoActRow : OpenClaim := { program := "ytfbahdalemajcaa", sum := "04b7474e648c463595d49f29f3639b794339d306bfa7d48e53d24e64870f0bd2", func := "loop.example/g00486/laws.FnExactDoAct", spec := "fnExactDoAct", unfollowed := true, recurses := true, apart := false }
def FnExactDoActSaid : Prop := fnExactDoActRow.holds Try.pinned (OpenSpec.ofChange fnExactDoActSpec)

/-- ITS FALSE NEIGHBOUR: 'it returns false'. Refute it at one input. -/
def fnExactDoActWrong : ChangeSpec := { name := "fnExactDoAct", fn := fun _ => fun
  | [d1, d2] => { results := [.lit (.bool false)], args := [d1, d2] }
  | _ => none }
def FnExactDoActWrongFalsely : Prop := fnExactDoActRow.holds Try.pinned (OpenSpec.ofChange fnExactDoActWrong)

/-- 'laws.FnExactFits': WHATEVER THE INPUT: true; the input reads as it did. -/
def fnExactFitsSpec : ChangeSpec := { name := "fnExactFits", fn := fun _ => fun
  | [d1, d2, d3] => { results := [.lit (.bool true)], args := [d1, d2, d3] }
  | _ => none }
def fnExactFitsRow : OpenClaim := { program := "ytfbahdalemajcaa", sum := "04b7474e648c463595d49f29f3639b794339d306bfa7d48e53d24e64870f0bd2", func := "loop.example/g00486/laws.FnExactFits", spec := "fnExactFits", unfollowed := true, recurses := true, apart := false }
def FnExactFitsSaid : Prop := fnExactFitsRow.holds Try.pinned (OpenSpec.ofChange fnExactFitsSpec)

/-- ITS FALSE NEIGHBOUR: 'it returns false'. Refute it at one input. -/
def fnExactFitsWrong : ChangeSpec := { name := "fnExactFits", fn := fun _ => fun
  | [d1, d2, d3] => { results := [.lit (.bool false)], args := [d1, d2, d3] }
  | _ => none }
def FnExactFitsWrongFalsely : Prop := fnExactFitsRow.holds Try.pinned (OpenSpec.ofChange fnExactFitsWrong)

/-- 'laws.FnExactInstall': WHATEVER THE INPUT: true; the input reads as it did. -/
def fnExactInstallSpec : ChangeSpec := { name := "fnExactInstall", fn := fun _ => fun
  | [d1, d2] => { results := [.lit (.bool true)], args := [d1, d2] }
  | _ => none }
def fnExactInstallRow : OpenClaim := { program := "ytfbahdalemajcaa", sum := "04b7474e648c463595d49f29f3639b794339d306bfa7d48e53d24e64870f0bd2", func := "loop.example/g00486/laws.FnExactInstall", spec := "fnExactInstall", inPlace := ["slices.overlaps[loop.example/g00486/impl.Effect]"], unfollowed := true, recurses := true, apart := false }
def FnExactInstallSaid : Prop := fnExactInstallRow.holds Try.pinned (OpenSpec.ofChange fnExactInstallSpec)

/-- ITS FALSE NEIGHBOUR: 'it returns false'. Refute it at one input. -/
def fnExactInstallWrong : ChangeSpec := { name := "fnExactInstall", fn := fun _ => fun
  | [d1, d2] => { results := [.lit (.bool false)], args := [d1, d2] }
  | _ => none }
def FnExactInstallWrongFalsely : Prop := fnExactInstallRow.holds Try.pinned (OpenSpec.ofChange fnExactInstallWrong)

/- THE SECOND FORM. 'bulk': how many values and letters a reading holds, each counted each time it is reached (what is shared counts as often as it is met; a slice's spare places count too). A statement '..UptoSaid' is the law's where the arguments, and the package variables that the reading takes, are together of bulk at most 1048576: NARROWER than '..Said'. Prove '..Said' where nothing that the law and all that it calls make is longer than what came in: it says more and counts as full. Else prove '..UptoSaid'. A law counts once. -/
mutual
def uptoBulk {H : Type} : DataW H → Nat
  | .lit (.string bytes) => bytes.length + 1
  | .lit _ => 1
  | .nil => 1
  | .ptr d => uptoBulk d + 1
  | .slice elems spare => uptoBulkAll elems + uptoBulkAll spare + 1
  | .agg parts => uptoBulkAll parts + 1
  | .iface _ d => uptoBulk d + 1
  | .map entries => uptoBulkEntries entries + 1
  | .held _ => 1
def uptoBulkAll {H : Type} : List (DataW H) → Nat
  | [] => 0
  | d :: r => uptoBulk d + uptoBulkAll r
def uptoBulkEntries {H : Type} : List (Lit × DataW H) → Nat
  | [] => 0
  | x :: r => uptoBulkEntry x + uptoBulkEntries r
def uptoBulkEntry {H : Type} : Lit × DataW H → Nat
  | (.string bytes, d) => bytes.length + uptoBulk d + 1
  | (_, d) => uptoBulk d + 1
 end
def uptoSmall : (H : Type) → List (DataW H) → Bool := fun _ ds => decide (uptoBulkAll ds ≤ 1048576)
def OpenSpec.upto (s : _root_.Go.ChangeSpec) : _root_.Go.OpenSpec := { _root_.Go.OpenSpec.ofChange s with cond := some uptoSmall }

/-- 'laws.FnExactEffectAt', WHERE WHAT IT READS IS OF BULK AT MOST 1048576: true; the input reads as it did. -/
def fnExactEffectAtUptoRow : OpenClaim := { program := "ytfbahdalemajcaa", sum := "04b7474e648c463595d49f29f3639b794339d306bfa7d48e53d24e64870f0bd2", func := "loop.example/g00486/laws.FnExactEffectAt", spec := "fnExactEffectAt", unfollowed := true, recurses := true, apart := false, narrowed := true }
def FnExactEffectAtUptoSaid : Prop := fnExactEffectAtUptoRow.holds Try.pinned (OpenSpec.upto fnExactEffectAtSpec)

/-- 'laws.FnExactSameTable', WHERE WHAT IT READS IS OF BULK AT MOST 1048576: true; the input reads as it did. -/
def fnExactSameTableUptoRow : OpenClaim := { program := "ytfbahdalemajcaa", sum := "04b7474e648c463595d49f29f3639b794339d306bfa7d48e53d24e64870f0bd2", func := "loop.example/g00486/laws.FnExactSameTable", spec := "fnExactSameTable", unfollowed := true, recurses := true, apart := false, narrowed := true }
def FnExactSameTableUptoSaid : Prop := fnExactSameTableUptoRow.holds Try.pinned (OpenSpec.upto fnExactSameTableSpec)

/-- 'laws.FnExactSpent', WHERE WHAT IT READS IS OF BULK AT MOST 1048576: true; the input reads as it did. -/
def fnExactSpentUptoRow : OpenClaim := { program := "ytfbahdalemajcaa", sum := "04b7474e648c463595d49f29f3639b794339d306bfa7d48e53d24e64870f0bd2", func := "loop.example/g00486/laws.FnExactSpent", spec := "fnExactSpent", apart := false, narrowed := true }
def FnExactSpentUptoSaid : Prop := fnExactSpentUptoRow.holds Try.pinned (OpenSpec.upto fnExactSpentSpec)

/-- 'laws.FnExactEffectOk', WHERE WHAT IT READS IS OF BULK AT MOST 1048576: true; the input reads as it did. -/
def fnExactEffectOkUptoRow : OpenClaim := { program := "ytfbahdalemajcaa", sum := "04b7474e648c463595d49f29f3639b794339d306bfa7d48e53d24e64870f0bd2", func := "loop.example/g00486/laws.FnExactEffectOk", spec := "fnExactEffectOk", unfollowed := true, recurses := true, apart := false, narrowed := true }
def FnExactEffectOkUptoSaid : Prop := fnExactEffectOkUptoRow.holds Try.pinned (OpenSpec.upto fnExactEffectOkSpec)

/-- 'laws.FnExactTableOk', WHERE WHAT IT READS IS OF BULK AT MOST 1048576: true; the input reads as it did. -/
def fnExactTableOkUptoRow : OpenClaim := { program := "ytfbahdalemajcaa", sum := "04b7474e648c463595d49f29f3639b794339d306bfa7d48e53d24e64870f0bd2", func := "loop.example/g00486/laws.FnExactTableOk", spec := "fnExactTableOk", unfollowed := true, recurses := true, apart := false, narrowed := true }
def FnExactTableOkUptoSaid : Prop := fnExactTableOkUptoRow.holds Try.pinned (OpenSpec.upto fnExactTableOkSpec)

/-- 'laws.FnExactExpire', WHERE WHAT IT READS IS OF BULK AT MOST 1048576: true; the input reads as it did. -/
def fnExactExpireUptoRow : OpenClaim := { program := "ytfbahdalemajcaa", sum := "04b7474e648c463595d49f29f3639b794339d306bfa7d48e53d24e64870f0bd2", func := "loop.example/g00486/laws.FnExactExpire", spec := "fnExactExpire", unfollowed := true, recurses := true, apart := false, narrowed := true }
def FnExactExpireUptoSaid : Prop := fnExactExpireUptoRow.holds Try.pinned (OpenSpec.upto fnExactExpireSpec)

/-- 'laws.FnExactUpdate', WHERE WHAT IT READS IS OF BULK AT MOST 1048576: true; the input reads as it did. -/
def fnExactUpdateUptoRow : OpenClaim := { program := "ytfbahdalemajcaa", sum := "04b7474e648c463595d49f29f3639b794339d306bfa7d48e53d24e64870f0bd2", func := "loop.example/g00486/laws.FnExactUpdate", spec := "fnExactUpdate", unfollowed := true, recurses := true, apart := false, narrowed := true }
def FnExactUpdateUptoSaid : Prop := fnExactUpdateUptoRow.holds Try.pinned (OpenSpec.upto fnExactUpdateSpec)

/-- 'laws.FnExactDrop', WHERE WHAT IT READS IS OF BULK AT MOST 1048576: true; the input reads as it did. -/
def fnExactDropUptoRow : OpenClaim := { program := "ytfbahdalemajcaa", sum := "04b7474e648c463595d49f29f3639b794339d306bfa7d48e53d24e64870f0bd2", func := "loop.example/g00486/laws.FnExactDrop", spec := "fnExactDrop", unfollowed := true, recurses := true, apart := false, narrowed := true }
def FnExactDropUptoSaid : Prop := fnExactDropUptoRow.holds Try.pinned (OpenSpec.upto fnExactDropSpec)

/-- 'laws.FnExactDoAct', WHERE WHAT IT READS IS OF BULK AT MOST 1048576: true; the input reads as it did. -/
def fnExactDoActUptoRow : OpenClaim := { program := "ytfbahdalemajcaa", sum := "04b7474e648c463595d49f29f3639b794339d306bfa7d48e53d24e64870f0bd2", func := "loop.example/g00486/laws.FnExactDoAct", spec := "fnExactDoAct", unfollowed := true, recurses := true, apart := false, narrowed := true }
def FnExactDoActUptoSaid : Prop := fnExactDoActUptoRow.holds Try.pinned (OpenSpec.upto fnExactDoActSpec)

/-- 'laws.FnExactFits', WHERE WHAT IT READS IS OF BULK AT MOST 1048576: true; the input reads as it did. -/
def fnExactFitsUptoRow : OpenClaim := { program := "ytfbahdalemajcaa", sum := "04b7474e648c463595d49f29f3639b794339d306bfa7d48e53d24e64870f0bd2", func := "loop.example/g00486/laws.FnExactFits", spec := "fnExactFits", unfollowed := true, recurses := true, apart := false, narrowed := true }
def FnExactFitsUptoSaid : Prop := fnExactFitsUptoRow.holds Try.pinned (OpenSpec.upto fnExactFitsSpec)

/-- 'laws.FnExactInstall', WHERE WHAT IT READS IS OF BULK AT MOST 1048576: true; the input reads as it did. -/
def fnExactInstallUptoRow : OpenClaim := { program := "ytfbahdalemajcaa", sum := "04b7474e648c463595d49f29f3639b794339d306bfa7d48e53d24e64870f0bd2", func := "loop.example/g00486/laws.FnExactInstall", spec := "fnExactInstall", inPlace := ["slices.overlaps[loop.example/g00486/impl.Effect]"], unfollowed := true, recurses := true, apart := false, narrowed := true }
def FnExactInstallUptoSaid : Prop := fnExactInstallUptoRow.holds Try.pinned (OpenSpec.upto fnExactInstallSpec)

end Rows
end Go.Proofs.Ytfbahdalemajcaa
