/- For every input the law FnExactStronger returns true, and each argument reads as it read before. No condition. -/
import Derived.Test.YtflegfieiemipaaC
import Derived.ProofKit
import Derived.SizedLaws
namespace Go.Proofs.Ytflegfieiemipaa
open Go.Proofs.Ytflegfieiemipaa.Eng
set_option maxRecDepth 100000
def phi_8 : Nat → List D → List D
  | 19, [d] => [d]
  | 32, [a, b] => [.bool (stronger a b)]
  | 33, [a, b] => [.bool (stronger a b)]
  | _, _ => []
theorem pc_8 (d0 d1 : D) : PC Try.prog 8 [.st [(.int .i64), (.int .i64)] d0, .st [(.int .i64), (.int .i64)] d1] [.sc .bool] fun o => o = [.bool true] := by
  refine PC.of_sig mix sig_8 ⟨rfl, rfl, trivial⟩ rfl fun hok => ?_
  have e_d0 : D.lst [d0.fld 0, d0.fld 1] = d0 := by simpa [List.range, List.range.loop] using okL_eta (hok _ (.head _))
  have e_d1 : D.lst [d1.fld 0, d1.fld 1] = d1 := by simpa [List.range, List.range.loop] using okL_eta (hok _ (.tail _ (.head _)))
  apply says_den (φ := phi_8)
  simp [e_d0, e_d1, tree_8, T.says, X.den, O1.den, O2.den, O3.den, callD, XArg.ev, XArg.dat, Callee'.num, backs, DArg.back, Conds.den, phi_8, pd_19, pd_32, pd_33]
end Go.Proofs.Ytflegfieiemipaa
namespace Go.Proofs.Ytflegfieiemipaa.fnExactStronger
open Go.Proofs.Ytflegfieiemipaa Go.Proofs.Ytflegfieiemipaa.Eng
theorem own : ownKnob Try.prog.godebug = none := by kernel_rfl
theorem laid : laidOutB Try.prog = true := by kernel_rfl
theorem pars : parKs Try.prog md 8 0 Try.f8.params.toList = some [.st [(.int .i64), (.int .i64)], .st [(.int .i64), (.int .i64)]] := by kernel_rfl
theorem reads : Try.f8.params.toList.all (fun t => laysPar Try.prog t && Try.prog.readableRec t && decide (t < Try.prog.types.size)) = true := by kernel_rfl
theorem isBool : Try.prog.underlying 4 = some .bool := by kernel_rfl
theorem lifted (os : Os) (started : os.Started) (H : Type) (enc : TypeId × Value → H) :
    ReturnsInHanded {} Try.checked os 8 .any (Rows.fnExactStrongerSpec.pre6 enc Try.prog Try.f8 Rows.fnExactStrongerRow.domain false) (Rows.fnExactStrongerSpec.post enc Try.prog Try.f8 false true false false) := by
  refine returnsInHanded_of_change_sized (C := Try.checked) own started (by kernel_rfl) Try.func8
    (ChangeSpec.witness6 (enc := enc) (C := Try.checked) false ⟨#[], #[.agg #[.int .i64 0, .int .i64 0], .agg #[.int .i64 0, .int .i64 0]], []⟩ 8 (by kernel_rfl) (by kernel_rfl) (by kernel_rfl) (by kernel_rfl)) ?_
  intro W base args ds gs before hval hW _ hsz _
  exact law_contract (P := Try.prog) (md := md) laid pars (fun j => rfl) (fun j => rfl) reads rfl isBool rfl (fun ds h => by match ds, h with | [_, _], _ => rfl)
    (fun xs h => by match xs, h with | [.st _ d0, .st _ d1], ⟨rfl, rfl, _⟩ => exact pc_8 d0 d1) hval hW hsz
/-- The statement. -/
theorem proved : Rows.FnExactStrongerSaid :=
  OpenClaim.holds_of_wide 8 Try.f8 rfl rfl rfl rfl rfl rfl rfl ⟨rfl, rfl, rfl, rfl, rfl⟩ rfl rfl rfl rfl rfl (by kernel_rfl) Try.func8 (by kernel_rfl)
    (of_decide_eq_true (by kernel_rfl)) (by unfold Func.isWrapper; first | (rw [if_pos (by decide +kernel)]; kernel_rfl) | (rw [if_neg (by decide +kernel)]; exact ⟨rfl, rfl⟩))
    (fun os started H enc _ => lifted os started H enc)
end Go.Proofs.Ytflegfieiemipaa.fnExactStronger
