/- For every input the law FnExactEffectOk returns true, and each argument reads as it read before. No condition. -/
import Derived.Test.YtfbahdalemajcaaC
import Derived.ProofKit
import Derived.SizedLaws
namespace Go.Proofs.Ytfbahdalemajcaa
open Go.Proofs.Ytfbahdalemajcaa.Eng
set_option maxRecDepth 100000
set_option linter.unusedSimpArgs false
set_option linter.unusedVariables false
def phi_6 : Nat → List D → List D
  | 21, [d, n] => [.int (szS n.toI (d.fld 19).toL.length)]
  | 23, [d] => [d]
  | 25, [d, e] => [.bool true]
  | 28, [e] => [.bool (effectOk e)]
  | 29, [e] => [.bool (effectOk e)]
  | _, _ => []
theorem pc_6 (d0 : D) : PC Try.prog 6 [.st [(.int .i64), (.int .i64), (.int .i64), (.int .i64), (.int .i64), (.int .i64), (.int .i64), (.int .i64), (.int .i64), (.int .i64), (.int .i64), (.int .i64), (.int .i64), (.int .i64), (.int .i64), (.int .i64), (.int .i64), (.int .i64), .bool, (.sl [(.int .i64), (.int .i64), (.int .i64), (.int .i64), (.int .i64), (.int .i64), .bool]), (.int .i64), (.int .i64)] d0] [.sc .bool] fun o => o = [.bool true] := by
  refine PC.of_sig mix sig_6 ⟨rfl, trivial⟩ rfl fun hok => ?_
  have e_d0 : D.lst [d0.fld 0, d0.fld 1, d0.fld 2, d0.fld 3, d0.fld 4, d0.fld 5, d0.fld 6, d0.fld 7, d0.fld 8, d0.fld 9, d0.fld 10, d0.fld 11, d0.fld 12, d0.fld 13, d0.fld 14, d0.fld 15, d0.fld 16, d0.fld 17, d0.fld 18, d0.fld 19, d0.fld 20, d0.fld 21] = d0 := by simpa [List.range, List.range.loop] using okL_eta (hok _ (.head _))
  have k_d0 : okL [(.int .i64), (.int .i64), (.int .i64), (.int .i64), (.int .i64), (.int .i64), (.int .i64), (.int .i64), (.int .i64), (.int .i64), (.int .i64), (.int .i64), (.int .i64), (.int .i64), (.int .i64), (.int .i64), (.int .i64), (.int .i64), .bool, (.sl [(.int .i64), (.int .i64), (.int .i64), (.int .i64), (.int .i64), (.int .i64), .bool]), (.int .i64), (.int .i64)] d0 := (hok _ (.head _))
  have e_d0_19 : D.lst (d0.fld 19).toL = d0.fld 19 := sl_eta (okL_at k_d0 (i := 19) rfl)
  have l_d0_19 := sl_len (okL_at k_d0 (i := 19) rfl)
  have k_d0_19 := sl_all (okL_at k_d0 (i := 19) rfl)
  have E_d0_19 : ∀ i, i < (d0.fld 19).toL.length → D.lst [((d0.fld 19).elem i).fld 0, ((d0.fld 19).elem i).fld 1, ((d0.fld 19).elem i).fld 2, ((d0.fld 19).elem i).fld 3, ((d0.fld 19).elem i).fld 4, ((d0.fld 19).elem i).fld 5, ((d0.fld 19).elem i).fld 6] = (d0.fld 19).elem i := fun i hi => by simpa [List.range, List.range.loop] using okL_eta (k_d0_19 _ (elem_mem hi))
  apply says_den (φ := (phi_6))
  simp [e_d0_19, E_d0_19, e_d0, tree_6, T.says, X.den, O1.den, O2.den, O3.den, callD, XArg.ev, XArg.dat, Callee'.num, backs, DArg.back, Conds.den, cloArgs, phi_6, pd_21, pd_23, pd_25, pd_28, pd_29]
  all_goals ((repeat' (first | (with_reducible apply And.intro) | intro _)) <;> (first | assumption | (first | omega | (simp only [IntKind.wrap_i64, maxL] at *; omega) | (simp [IntKind.wrap_i64, maxL] at *; omega)) | rfl | contradiction | (exact pd_21 _ _ (by first | assumption | omega | (simp; done) | (simp; omega) | (simp [*]; done) | (simp [*] at *; omega) | grind [szS]) _ (by first | rfl | simp | (simp; omega))) | (exact pd_23 _ (by first | assumption | omega | (simp; done) | (simp; omega) | (simp [*]; done) | (simp [*] at *; omega) | grind [szS]) _ (by first | rfl | simp | (simp; omega))) | (exact pd_25 _ _ (by first | assumption | omega | (simp; done) | (simp; omega) | (simp [*]; done) | (simp [*] at *; omega) | grind [szS]) _ (by first | rfl | simp | (simp; omega))) | (exact pd_28 _ _ (by first | rfl | simp | (simp; omega))) | (exact pd_29 _ _ (by first | rfl | simp | (simp; omega))) | grind))
end Go.Proofs.Ytfbahdalemajcaa
namespace Go.Proofs.Ytfbahdalemajcaa.fnExactEffectOk
open Go.Proofs.Ytfbahdalemajcaa Go.Proofs.Ytfbahdalemajcaa.Eng
set_option maxRecDepth 100000
set_option linter.unusedSimpArgs false
set_option linter.unusedVariables false
theorem own : ownKnob Try.prog.godebug = none := by kernel_rfl
theorem laid : laidOutB Try.prog = true := by kernel_rfl
theorem pars : parKs Try.prog md 6 0 Try.f6.params.toList = some [.st [(.int .i64), (.int .i64), (.int .i64), (.int .i64), (.int .i64), (.int .i64), (.int .i64), (.int .i64), (.int .i64), (.int .i64), (.int .i64), (.int .i64), (.int .i64), (.int .i64), (.int .i64), (.int .i64), (.int .i64), (.int .i64), .bool, (.sl [(.int .i64), (.int .i64), (.int .i64), (.int .i64), (.int .i64), (.int .i64), .bool]), (.int .i64), (.int .i64)]] := by kernel_rfl
theorem reads : Try.f6.params.toList.all (fun t => laysPar Try.prog t && Try.prog.readableRec t && decide (t < Try.prog.types.size)) = true := by kernel_rfl
theorem isBool : Try.prog.underlying 4 = some .bool := by kernel_rfl
theorem lifted (os : Os) (started : os.Started) (H : Type) (enc : TypeId × Value → H) :
    ReturnsInHanded {} Try.checked os 6 .any (Rows.fnExactEffectOkSpec.pre6 enc Try.prog Try.f6 Rows.fnExactEffectOkRow.domain false) (Rows.fnExactEffectOkSpec.post enc Try.prog Try.f6 false true false false) := by
  refine returnsInHanded_of_change_sized (C := Try.checked) own started (by kernel_rfl) Try.func6
    (ChangeSpec.witness6 (enc := enc) (C := Try.checked) false ⟨#[], #[.agg #[.int .i64 0, .int .i64 0, .int .i64 0, .int .i64 0, .int .i64 0, .int .i64 0, .int .i64 0, .int .i64 0, .int .i64 0, .int .i64 0, .int .i64 0, .int .i64 0, .int .i64 0, .int .i64 0, .int .i64 0, .int .i64 0, .int .i64 0, .int .i64 0, .bool false, .slice none 0 0, .int .i64 0, .int .i64 0]], []⟩ 8 (by kernel_rfl) (by kernel_rfl) (by kernel_rfl) (by kernel_rfl)) ?_
  intro W base args ds gs before hval hW _ hsz _
  exact law_contract (P := Try.prog) (md := md) laid pars (fun j => rfl) (fun j => rfl) reads rfl isBool rfl (fun ds h => by match ds, h with | [_], _ => rfl)
    (fun xs h => by match xs, h with | [.st _ d0], ⟨rfl, _⟩ => exact pc_6 d0) hval hW hsz
/-- The statement. -/
theorem proved : Rows.FnExactEffectOkSaid :=
  OpenClaim.holds_of_wide 6 Try.f6 rfl rfl rfl rfl rfl rfl rfl ⟨rfl, rfl, rfl, rfl, rfl⟩ rfl rfl rfl rfl rfl (by kernel_rfl) Try.func6 (by kernel_rfl)
    (of_decide_eq_true (by kernel_rfl)) (by unfold Func.isWrapper; first | (rw [if_pos (by decide +kernel)]; kernel_rfl) | (rw [if_neg (by decide +kernel)]; exact ⟨rfl, rfl⟩))
    (fun os started H enc _ => lifted os started H enc)
end Go.Proofs.Ytfbahdalemajcaa.fnExactEffectOk
