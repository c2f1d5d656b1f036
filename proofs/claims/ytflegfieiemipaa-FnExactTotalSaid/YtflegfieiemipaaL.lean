/- For every input the law FnExactTotal returns true, and each argument reads as it read before. No condition. -/
import Derived.Test.YtflegfieiemipaaC
import Derived.ProofKit
import Derived.SizedLaws
namespace Go.Proofs.Ytflegfieiemipaa
open Go.Proofs.Ytflegfieiemipaa.Eng
set_option maxRecDepth 100000
set_option linter.unusedSimpArgs false
set_option linter.unusedVariables false
def phi_10 : Nat → List D → List D
  | 36, [d, n] => [.int (szS n.toI d.toL.length)]
  | 37, [d] => [.int (total d.toL 0)]
  | 38, [d] => [d]
  | 39, [d] => [.int (total d.toL 0)]
  | 40, [d, e] => [.bool true]
  | _, _ => []
theorem pc_10 (d0 : D) : PC Try.prog 10 [.sc (.sl [(.int .i64), (.int .i64), (.int .i64), (.int .i64), (.int .i64), (.int .i64), .bool]) d0] [.sc .bool] fun o => o = [.bool true] := by
  refine PC.of_sig mix sig_10 ⟨rfl, trivial⟩ rfl fun hok => ?_
  have e_d0 := sl_eta (hok _ (.head _))
  have l_d0 := sl_len (hok _ (.head _))
  have k_d0 := sl_all (hok _ (.head _))
  have E_d0 : ∀ i, i < d0.toL.length → D.lst [(d0.elem i).fld 0, (d0.elem i).fld 1, (d0.elem i).fld 2, (d0.elem i).fld 3, (d0.elem i).fld 4, (d0.elem i).fld 5, (d0.elem i).fld 6] = d0.elem i := fun i hi => by simpa [List.range, List.range.loop] using okL_eta (k_d0 _ (elem_mem hi))
  apply says_den (φ := phi_10)
  simp [e_d0, E_d0, tree_10, T.says, X.den, O1.den, O2.den, O3.den, callD, XArg.ev, XArg.dat, Callee'.num, backs, DArg.back, Conds.den, cloArgs, phi_10, pd_36, pd_37, pd_38, pd_39, pd_40]
  all_goals ((repeat' (first | (with_reducible apply And.intro) | intro _)) <;> (first | assumption | (first | omega | (simp only [IntKind.wrap_i64, maxL] at *; omega) | (simp [IntKind.wrap_i64, maxL] at *; omega)) | rfl | contradiction | (exact pd_36 _ _ (by first | assumption | omega | (simp; done) | (simp; omega) | (simp [*]; done) | (simp [*] at *; omega) | grind [szS]) _ (by first | rfl | simp | (simp; omega))) | (exact pd_37 _ _ (by first | rfl | simp | (simp; omega))) | (exact pd_38 _ (by first | assumption | omega | (simp; done) | (simp; omega) | (simp [*]; done) | (simp [*] at *; omega) | grind [szS]) _ (by first | rfl | simp | (simp; omega))) | (exact pd_39 _ _ (by first | rfl | simp | (simp; omega))) | (exact pd_40 _ _ (by first | assumption | omega | (simp; done) | (simp; omega) | (simp [*]; done) | (simp [*] at *; omega) | grind [szS]) _ (by first | rfl | simp | (simp; omega))) | grind))
end Go.Proofs.Ytflegfieiemipaa
namespace Go.Proofs.Ytflegfieiemipaa.fnExactTotal
open Go.Proofs.Ytflegfieiemipaa Go.Proofs.Ytflegfieiemipaa.Eng
theorem own : ownKnob Try.prog.godebug = none := by kernel_rfl
theorem laid : laidOutB Try.prog = true := by kernel_rfl
theorem pars : parKs Try.prog md 10 0 Try.f10.params.toList = some [.sc (.sl [(.int .i64), (.int .i64), (.int .i64), (.int .i64), (.int .i64), (.int .i64), .bool])] := by kernel_rfl
theorem reads : Try.f10.params.toList.all (fun t => laysPar Try.prog t && Try.prog.readableRec t && decide (t < Try.prog.types.size)) = true := by kernel_rfl
theorem isBool : Try.prog.underlying 4 = some .bool := by kernel_rfl
theorem lifted (os : Os) (started : os.Started) (H : Type) (enc : TypeId × Value → H) :
    ReturnsInHanded {} Try.checked os 10 .any (Rows.fnExactTotalSpec.pre6 enc Try.prog Try.f10 Rows.fnExactTotalRow.domain false) (Rows.fnExactTotalSpec.post enc Try.prog Try.f10 false true false false) := by
  refine returnsInHanded_of_change_sized (C := Try.checked) own started (by kernel_rfl) Try.func10
    (ChangeSpec.witness6 (enc := enc) (C := Try.checked) false ⟨#[], #[.slice none 0 0], []⟩ 8 (by kernel_rfl) (by kernel_rfl) (by kernel_rfl) (by kernel_rfl)) ?_
  intro W base args ds gs before hval hW _ hsz _
  exact law_contract (P := Try.prog) (md := md) laid pars (fun j => rfl) (fun j => rfl) reads rfl isBool rfl (fun ds h => by match ds, h with | [_], _ => rfl)
    (fun xs h => by match xs, h with | [.sc _ d0], ⟨rfl, _⟩ => exact pc_10 d0) hval hW hsz
/-- The statement. -/
theorem proved : Rows.FnExactTotalSaid :=
  OpenClaim.holds_of_wide 10 Try.f10 rfl rfl rfl rfl rfl rfl rfl ⟨rfl, rfl, rfl, rfl, rfl⟩ rfl rfl rfl rfl rfl (by kernel_rfl) Try.func10 (by kernel_rfl)
    (of_decide_eq_true (by kernel_rfl)) (by unfold Func.isWrapper; first | (rw [if_pos (by decide +kernel)]; kernel_rfl) | (rw [if_neg (by decide +kernel)]; exact ⟨rfl, rfl⟩))
    (fun os started H enc _ => lifted os started H enc)
end Go.Proofs.Ytflegfieiemipaa.fnExactTotal
