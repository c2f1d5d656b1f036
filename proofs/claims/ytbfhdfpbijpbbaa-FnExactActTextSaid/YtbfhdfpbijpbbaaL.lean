/- For every input the law FnExactActText returns true, and each argument reads as it read before. No condition. -/
import Derived.Test.YtbfhdfpbijpbbaaC
import Derived.ProofKit
import Derived.SizedLaws
namespace Go.Proofs.Ytbfhdfpbijpbbaa
open Go.Proofs.Ytbfhdfpbijpbbaa.Eng
set_option maxRecDepth 100000
set_option maxHeartbeats 2000000
set_option linter.unusedSimpArgs false
set_option linter.unusedVariables false
def phi_14 : Nat → List D → List D
  | 38, [d, n] => [.int (szS n.toI (d.fld 6).toL.length)]
  | 40, [d] => [d]
  | 42, [d, e] => [.bool true]
  | 54, [a] => [txt (actText a)]
  | 55, [a] => [txt (actText a)]
  | _, _ => []
theorem pc_14 (d0 : D) : PC Try.prog 14 [.st [(.int .i64), (.int .i64), (.int .i64), (.int .i64), (.int .i64), .bool, (.sl [(.int .i64), (.int .i64), (.int .i64), (.int .i64), (.int .i64), (.int .i64), .bool])] d0] [.sc .bool] fun o => o = [.bool true] := by
  refine PC.of_sig mix sig_14 ⟨rfl, trivial⟩ rfl fun hok => ?_
  have e_d0 : D.lst [d0.fld 0, d0.fld 1, d0.fld 2, d0.fld 3, d0.fld 4, d0.fld 5, d0.fld 6] = d0 := by simpa [List.range, List.range.loop] using okL_eta (hok _ (.head _))
  have k_d0 : okL [(.int .i64), (.int .i64), (.int .i64), (.int .i64), (.int .i64), .bool, (.sl [(.int .i64), (.int .i64), (.int .i64), (.int .i64), (.int .i64), (.int .i64), .bool])] d0 := (hok _ (.head _))
  have e_d0_6 : D.lst (d0.fld 6).toL = d0.fld 6 := sl_eta (okL_at k_d0 (i := 6) rfl)
  have l_d0_6 := sl_len (okL_at k_d0 (i := 6) rfl)
  have k_d0_6 := sl_all (okL_at k_d0 (i := 6) rfl)
  have E_d0_6 : ∀ i, i < (d0.fld 6).toL.length → D.lst [((d0.fld 6).elem i).fld 0, ((d0.fld 6).elem i).fld 1, ((d0.fld 6).elem i).fld 2, ((d0.fld 6).elem i).fld 3, ((d0.fld 6).elem i).fld 4, ((d0.fld 6).elem i).fld 5, ((d0.fld 6).elem i).fld 6] = (d0.fld 6).elem i := fun i hi => by simpa [List.range, List.range.loop] using okL_eta (k_d0_6 _ (elem_mem hi))
  apply says_den (φ := (phi_14))
  simp [e_d0_6, E_d0_6, e_d0, tree_14, T.says, X.den, O1.den, O2.den, O3.den, callD, XArg.ev, XArg.dat, Callee'.num, backs, DArg.back, Conds.den, cloArgs, phi_14, pd_38, pd_40, pd_42, pd_54, pd_55]
  all_goals ((repeat' (first | (with_reducible apply And.intro) | intro _)) <;> (first | assumption | (exact pd_38 _ _ (by first | assumption | omega | (simp; done) | (simp; omega) | (simp [*]; done) | exact smallE_of (n := 1048576) (by omega) (by omega) | (simp [*] at *; omega) | grind [szS]) _ (by first | rfl | simp | (simp; omega))) | (exact pd_40 _ (by first | assumption | omega | (simp; done) | (simp; omega) | (simp [*]; done) | exact smallE_of (n := 1048576) (by omega) (by omega) | (simp [*] at *; omega) | grind [szS]) _ (by first | rfl | simp | (simp; omega))) | (exact pd_42 _ _ (by first | assumption | omega | (simp; done) | (simp; omega) | (simp [*]; done) | exact smallE_of (n := 1048576) (by omega) (by omega) | (simp [*] at *; omega) | grind [szS]) _ (by first | rfl | simp | (simp; omega))) | (exact pd_54 _ _ (by first | rfl | simp | (simp; omega))) | (exact pd_55 _ _ (by first | rfl | simp | (simp; omega))) | (first | omega | (simp only [IntKind.wrap_i64, maxL] at *; omega) | (simp [IntKind.wrap_i64, maxL] at *; omega)) | rfl | contradiction | grind))
end Go.Proofs.Ytbfhdfpbijpbbaa
namespace Go.Proofs.Ytbfhdfpbijpbbaa.fnExactActText
open Go.Proofs.Ytbfhdfpbijpbbaa Go.Proofs.Ytbfhdfpbijpbbaa.Eng
set_option maxRecDepth 100000
set_option maxHeartbeats 2000000
set_option linter.unusedSimpArgs false
set_option linter.unusedVariables false
theorem own : ownKnob Try.prog.godebug = none := by kernel_rfl
theorem laid : laidOutB Try.prog = true := by kernel_rfl
theorem pars : parKs Try.prog md 14 0 Try.f14.params.toList = some [.st [(.int .i64), (.int .i64), (.int .i64), (.int .i64), (.int .i64), .bool, (.sl [(.int .i64), (.int .i64), (.int .i64), (.int .i64), (.int .i64), (.int .i64), .bool])]] := by kernel_rfl
theorem reads : Try.f14.params.toList.all (fun t => laysPar Try.prog t && Try.prog.readableRec t && decide (t < Try.prog.types.size)) = true := by kernel_rfl
theorem isBool : Try.prog.underlying 4 = some .bool := by kernel_rfl
theorem lifted (os : Os) (started : os.Started) (H : Type) (enc : TypeId × Value → H) :
    ReturnsInHanded {} Try.checked os 14 .any (Rows.fnExactActTextSpec.pre6 enc Try.prog Try.f14 Rows.fnExactActTextRow.domain false) (Rows.fnExactActTextSpec.post enc Try.prog Try.f14 false true false false) := by
  refine returnsInHanded_of_change_sized (C := Try.checked) own started (by kernel_rfl) Try.func14
    (ChangeSpec.witness6 (enc := enc) (C := Try.checked) false ⟨#[], #[.agg #[.int .i64 0, .int .i64 0, .int .i64 0, .int .i64 0, .int .i64 0, .bool false, .slice none 0 0]], []⟩ 8 (by kernel_rfl) (by kernel_rfl) (by kernel_rfl) (by kernel_rfl)) ?_
  intro W base args ds gs before hval hW _ hsz _
  exact law_contract (P := Try.prog) (md := md) laid pars (fun j => rfl) (fun j => rfl) reads rfl isBool rfl (fun ds h => by match ds, h with | [_], _ => rfl)
    (fun xs h => by match xs, h with | [.st _ d0], ⟨rfl, _⟩ => exact pc_14 d0) hval hW hsz
/-- The statement. -/
theorem proved : Rows.FnExactActTextSaid :=
  OpenClaim.holds_of_wide 14 Try.f14 rfl rfl rfl rfl rfl rfl rfl ⟨rfl, rfl, rfl, rfl, rfl⟩ rfl rfl rfl rfl rfl (by kernel_rfl) Try.func14 (by kernel_rfl)
    (of_decide_eq_true (by kernel_rfl)) (by unfold Func.isWrapper; first | (rw [if_pos (by decide +kernel)]; kernel_rfl) | (rw [if_neg (by decide +kernel)]; exact ⟨rfl, rfl⟩))
    (fun os started H enc _ => lifted os started H enc)
end Go.Proofs.Ytbfhdfpbijpbbaa.fnExactActText
