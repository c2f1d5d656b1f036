/- For every input the law FnExactNarrower returns true, and each argument reads as it read before. No condition. -/
import Derived.Test.YtflegfieiemipaaC
import Derived.ProofKit
import Derived.SizedLaws
namespace Go.Proofs.Ytflegfieiemipaa
open Go.Proofs.Ytflegfieiemipaa.Eng
set_option maxRecDepth 100000
def phi_6 : Nat → List D → List D
  | 22, [d] => [d]
  | 24, [a, b] => [.bool (narrower a b)]
  | 25, [a, b] => [.bool (narrower a b)]
  | _, _ => []
theorem pc_6 (d0 d1 : D) : PC Try.prog 6 [.st [(.int .i64), (.int .i64), (.int .i64), (.int .i64), (.int .i64), (.int .i64), (.int .i64)] d0, .st [(.int .i64), (.int .i64), (.int .i64), (.int .i64), (.int .i64), (.int .i64), (.int .i64)] d1] [.sc .bool] fun o => o = [.bool true] := by
  refine PC.of_sig mix sig_6 ⟨rfl, rfl, trivial⟩ rfl fun hok => ?_
  have e_d0 : D.lst [d0.fld 0, d0.fld 1, d0.fld 2, d0.fld 3, d0.fld 4, d0.fld 5, d0.fld 6] = d0 := by simpa [List.range, List.range.loop] using okL_eta (hok _ (.head _))
  have e_d1 : D.lst [d1.fld 0, d1.fld 1, d1.fld 2, d1.fld 3, d1.fld 4, d1.fld 5, d1.fld 6] = d1 := by simpa [List.range, List.range.loop] using okL_eta (hok _ (.tail _ (.head _)))
  apply says_den (φ := phi_6)
  simp [e_d0, e_d1, tree_6, T.says, X.den, O1.den, O2.den, O3.den, callD, XArg.ev, XArg.dat, Callee'.num, backs, DArg.back, Conds.den, phi_6, pd_22, pd_24, pd_25]
end Go.Proofs.Ytflegfieiemipaa
namespace Go.Proofs.Ytflegfieiemipaa.fnExactNarrower
open Go.Proofs.Ytflegfieiemipaa Go.Proofs.Ytflegfieiemipaa.Eng
theorem own : ownKnob Try.prog.godebug = none := by kernel_rfl
theorem laid : laidOutB Try.prog = true := by kernel_rfl
theorem pars : parKs Try.prog md 6 0 Try.f6.params.toList = some [.st [(.int .i64), (.int .i64), (.int .i64), (.int .i64), (.int .i64), (.int .i64), (.int .i64)], .st [(.int .i64), (.int .i64), (.int .i64), (.int .i64), (.int .i64), (.int .i64), (.int .i64)]] := by kernel_rfl
theorem reads : Try.f6.params.toList.all (fun t => laysPar Try.prog t && Try.prog.readableRec t && decide (t < Try.prog.types.size)) = true := by kernel_rfl
theorem isBool : Try.prog.underlying 4 = some .bool := by kernel_rfl
theorem lifted (os : Os) (started : os.Started) (H : Type) (enc : TypeId × Value → H) :
    ReturnsInHanded {} Try.checked os 6 .any (Rows.fnExactNarrowerSpec.pre6 enc Try.prog Try.f6 Rows.fnExactNarrowerRow.domain false) (Rows.fnExactNarrowerSpec.post enc Try.prog Try.f6 false true false false) := by
  refine returnsInHanded_of_change_sized (C := Try.checked) own started (by kernel_rfl) Try.func6
    (ChangeSpec.witness6 (enc := enc) (C := Try.checked) false ⟨#[], #[.agg #[.int .i64 0, .int .i64 0, .int .i64 0, .int .i64 0, .int .i64 0, .int .i64 0, .int .i64 0], .agg #[.int .i64 0, .int .i64 0, .int .i64 0, .int .i64 0, .int .i64 0, .int .i64 0, .int .i64 0]], []⟩ 8 (by kernel_rfl) (by kernel_rfl) (by kernel_rfl) (by kernel_rfl)) ?_
  intro W base args ds gs before hval hW _ hsz _
  exact law_contract (P := Try.prog) (md := md) laid pars (fun j => rfl) (fun j => rfl) reads rfl isBool rfl (fun ds h => by match ds, h with | [_, _], _ => rfl)
    (fun xs h => by match xs, h with | [.st _ d0, .st _ d1], ⟨rfl, rfl, _⟩ => exact pc_6 d0 d1) hval hW hsz
/-- The statement. -/
theorem proved : Rows.FnExactNarrowerSaid :=
  OpenClaim.holds_of_wide 6 Try.f6 rfl rfl rfl rfl rfl rfl rfl ⟨rfl, rfl, rfl, rfl, rfl⟩ rfl rfl rfl rfl rfl (by kernel_rfl) Try.func6 (by kernel_rfl)
    (of_decide_eq_true (by kernel_rfl)) (by unfold Func.isWrapper; first | (rw [if_pos (by decide +kernel)]; kernel_rfl) | (rw [if_neg (by decide +kernel)]; exact ⟨rfl, rfl⟩))
    (fun os started H enc _ => lifted os started H enc)
end Go.Proofs.Ytflegfieiemipaa.fnExactNarrower
