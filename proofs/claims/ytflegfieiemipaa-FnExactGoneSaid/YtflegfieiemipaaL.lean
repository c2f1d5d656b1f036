/- For every input the law FnExactGone returns true, and each argument reads as it read before. No condition. -/
import Derived.Test.YtflegfieiemipaaC
import Derived.ProofKit
import Derived.SizedLaws
namespace Go.Proofs.Ytflegfieiemipaa
open Go.Proofs.Ytflegfieiemipaa.Eng
set_option maxRecDepth 100000
def phi_3 : Nat → List D → List D
  | 15, [d] => [.bool (gone d)]
  | 16, [d] => [d]
  | 17, [d] => [.bool (gone d)]
  | _, _ => []
theorem pc_3 (d0 : D) : PC Try.prog 3 [.st [(.int .i64), (.int .i64), (.int .i64), (.int .i64), (.int .i64), (.int .i64), .bool] d0] [.sc .bool] fun o => o = [.bool true] := by
  refine PC.of_sig mix sig_3 ⟨rfl, trivial⟩ rfl fun hok => ?_
  apply says_den (φ := phi_3)
  simp [tree_3, T.says, X.den, O1.den, O2.den, O3.den, callD, XArg.ev, XArg.dat, Callee'.num, backs, DArg.back, Conds.den, phi_3, pc_15, pc_16, pc_17]
end Go.Proofs.Ytflegfieiemipaa
namespace Go.Proofs.Ytflegfieiemipaa.fnExactGone
open Go.Proofs.Ytflegfieiemipaa Go.Proofs.Ytflegfieiemipaa.Eng
theorem own : ownKnob Try.prog.godebug = none := by kernel_rfl
theorem laid : laidOutB Try.prog = true := by kernel_rfl
theorem pars : parKs Try.prog md 3 0 Try.f3.params.toList = some [.st [(.int .i64), (.int .i64), (.int .i64), (.int .i64), (.int .i64), (.int .i64), .bool]] := by kernel_rfl
theorem reads : Try.f3.params.toList.all (fun t => laysPar Try.prog t && Try.prog.readableRec t && decide (t < Try.prog.types.size)) = true := by kernel_rfl
theorem isBool : Try.prog.underlying 4 = some .bool := by kernel_rfl
theorem lifted (os : Os) (started : os.Started) (H : Type) (enc : TypeId × Value → H) :
    ReturnsInHanded {} Try.checked os 3 .any (Rows.fnExactGoneSpec.pre6 enc Try.prog Try.f3 Rows.fnExactGoneRow.domain false) (Rows.fnExactGoneSpec.post enc Try.prog Try.f3 false true false false) := by
  refine returnsInHanded_of_change_sized (C := Try.checked) own started (by kernel_rfl) Try.func3
    (ChangeSpec.witness6 (enc := enc) (C := Try.checked) false ⟨#[], #[.agg #[.int .i64 0, .int .i64 0, .int .i64 0, .int .i64 0, .int .i64 0, .int .i64 0, .bool false]], []⟩ 8 (by kernel_rfl) (by kernel_rfl) (by kernel_rfl) (by kernel_rfl)) ?_
  intro W base args ds gs before hval hW _ hsz _
  exact law_contract (P := Try.prog) (md := md) laid pars (fun j => rfl) (fun j => rfl) reads rfl isBool rfl (fun ds h => by match ds, h with | [_], _ => rfl)
    (fun xs h => by match xs, h with | [.st _ d0], ⟨rfl, _⟩ => exact pc_3 d0) hval hW hsz
/-- The statement. -/
theorem proved : Rows.FnExactGoneSaid :=
  OpenClaim.holds_of_wide 3 Try.f3 rfl rfl rfl rfl rfl rfl rfl ⟨rfl, rfl, rfl, rfl, rfl⟩ rfl rfl rfl rfl rfl (by kernel_rfl) Try.func3 (by kernel_rfl)
    (of_decide_eq_true (by kernel_rfl)) (by unfold Func.isWrapper; first | (rw [if_pos (by decide +kernel)]; kernel_rfl) | (rw [if_neg (by decide +kernel)]; exact ⟨rfl, rfl⟩))
    (fun os started H enc _ => lifted os started H enc)
end Go.Proofs.Ytflegfieiemipaa.fnExactGone
