/- For every input the law FnExactEventText returns true, and each argument reads as it read before. No condition. -/
import Derived.Test.YtbfhdfpbijpbbaaC
import Derived.ProofKit
import Derived.SizedLaws
namespace Go.Proofs.Ytbfhdfpbijpbbaa
open Go.Proofs.Ytbfhdfpbijpbbaa.Eng
set_option maxRecDepth 100000
set_option maxHeartbeats 2000000
set_option linter.unusedSimpArgs false
set_option linter.unusedVariables false
def phi_10 : Nat → List D → List D
  | 21, [d] => [d]
  | 36, [e] => [txt (eventText e)]
  | 37, [e] => [txt (eventText e)]
  | _, _ => []
theorem pc_10 (d0 : D) : PC Try.prog 10 [.st [(.int .i64), (.int .i64), (.int .i64), (.int .i64), (.int .i64), (.int .i64), .bool] d0] [.sc .bool] fun o => o = [.bool true] := by
  refine PC.of_sig mix sig_10 ⟨rfl, trivial⟩ rfl fun hok => ?_
  have e_d0 : D.lst [d0.fld 0, d0.fld 1, d0.fld 2, d0.fld 3, d0.fld 4, d0.fld 5, d0.fld 6] = d0 := by simpa [List.range, List.range.loop] using okL_eta (hok _ (.head _))
  have k_d0 : okL [(.int .i64), (.int .i64), (.int .i64), (.int .i64), (.int .i64), (.int .i64), .bool] d0 := (hok _ (.head _))
  apply says_den (φ := (phi_10))
  simp [e_d0, tree_10, T.says, X.den, O1.den, O2.den, O3.den, callD, XArg.ev, XArg.dat, Callee'.num, backs, DArg.back, Conds.den, cloArgs, phi_10, pd_21, pd_36, pd_37]
  all_goals ((repeat' (first | (with_reducible apply And.intro) | intro _)) <;> (first | assumption | (exact pd_21 _ _ (by first | rfl | simp | (simp; omega))) | (exact pd_36 _ _ (by first | rfl | simp | (simp; omega))) | (exact pd_37 _ _ (by first | rfl | simp | (simp; omega))) | (first | omega | (simp only [IntKind.wrap_i64, maxL] at *; omega) | (simp [IntKind.wrap_i64, maxL] at *; omega)) | rfl | contradiction | grind))
end Go.Proofs.Ytbfhdfpbijpbbaa
namespace Go.Proofs.Ytbfhdfpbijpbbaa.fnExactEventText
open Go.Proofs.Ytbfhdfpbijpbbaa Go.Proofs.Ytbfhdfpbijpbbaa.Eng
set_option maxRecDepth 100000
set_option maxHeartbeats 2000000
set_option linter.unusedSimpArgs false
set_option linter.unusedVariables false
theorem own : ownKnob Try.prog.godebug = none := by kernel_rfl
theorem laid : laidOutB Try.prog = true := by kernel_rfl
theorem pars : parKs Try.prog md 10 0 Try.f10.params.toList = some [.st [(.int .i64), (.int .i64), (.int .i64), (.int .i64), (.int .i64), (.int .i64), .bool]] := by kernel_rfl
theorem reads : Try.f10.params.toList.all (fun t => laysPar Try.prog t && Try.prog.readableRec t && decide (t < Try.prog.types.size)) = true := by kernel_rfl
theorem isBool : Try.prog.underlying 4 = some .bool := by kernel_rfl
theorem lifted (os : Os) (started : os.Started) (H : Type) (enc : TypeId × Value → H) :
    ReturnsInHanded {} Try.checked os 10 .any (Rows.fnExactEventTextSpec.pre6 enc Try.prog Try.f10 Rows.fnExactEventTextRow.domain false) (Rows.fnExactEventTextSpec.post enc Try.prog Try.f10 false true false false) := by
  refine returnsInHanded_of_change_sized (C := Try.checked) own started (by kernel_rfl) Try.func10
    (ChangeSpec.witness6 (enc := enc) (C := Try.checked) false ⟨#[], #[.agg #[.int .i64 0, .int .i64 0, .int .i64 0, .int .i64 0, .int .i64 0, .int .i64 0, .bool false]], []⟩ 8 (by kernel_rfl) (by kernel_rfl) (by kernel_rfl) (by kernel_rfl)) ?_
  intro W base args ds gs before hval hW _ hsz _
  exact law_contract (P := Try.prog) (md := md) laid pars (fun j => rfl) (fun j => rfl) reads rfl isBool rfl (fun ds h => by match ds, h with | [_], _ => rfl)
    (fun xs h => by match xs, h with | [.st _ d0], ⟨rfl, _⟩ => exact pc_10 d0) hval hW hsz
/-- The statement. -/
theorem proved : Rows.FnExactEventTextSaid :=
  OpenClaim.holds_of_wide 10 Try.f10 rfl rfl rfl rfl rfl rfl rfl ⟨rfl, rfl, rfl, rfl, rfl⟩ rfl rfl rfl rfl rfl (by kernel_rfl) Try.func10 (by kernel_rfl)
    (of_decide_eq_true (by kernel_rfl)) (by unfold Func.isWrapper; first | (rw [if_pos (by decide +kernel)]; kernel_rfl) | (rw [if_neg (by decide +kernel)]; exact ⟨rfl, rfl⟩))
    (fun os started H enc _ => lifted os started H enc)
end Go.Proofs.Ytbfhdfpbijpbbaa.fnExactEventText
