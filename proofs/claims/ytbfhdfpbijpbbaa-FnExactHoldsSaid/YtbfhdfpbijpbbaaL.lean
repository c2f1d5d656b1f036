/- For every input the law FnExactHolds returns true, and each argument reads as it read before. No condition. -/
import Derived.Test.YtbfhdfpbijpbbaaC
import Derived.ProofKit
import Derived.SizedLaws
namespace Go.Proofs.Ytbfhdfpbijpbbaa
open Go.Proofs.Ytbfhdfpbijpbbaa.Eng
set_option maxRecDepth 100000
set_option linter.unusedSimpArgs false
set_option linter.unusedVariables false
def phi_8 : Nat → List D → List D
  | 15, [d, n] => [.int (szS (szS n.toI (d.fld 0).toL.length) (d.fld 1).toL.length)]
  | 17, [d] => [d]
  | 19, [d, e] => [.bool true]
  | 31, [s, n, g] => [.bool (holds s n.toI g)]
  | 32, [d] => [d]
  | 33, [s, n, g] => [.bool (holds s n.toI g)]
  | _, _ => []
theorem pc_8 (d0 d1 d2 : D) : PC Try.prog 8 [.st [(.sl [(.int .i64), (.int .i64), (.int .i64), (.int .i64), (.int .i64), (.int .i64), (.int .i64), (.int .i64), (.int .i64), (.int .i64), (.int .i64), .bool, .bool]), (.sl [(.int .i64), (.int .i64), .bool]), (.int .i64), (.int .i64)] d0, .sc (.int .i64) d1, .st [(.int .i64), (.int .i64)] d2] [.sc .bool] fun o => o = [.bool true] := by
  refine PC.of_sig mix sig_8 ⟨rfl, rfl, rfl, trivial⟩ rfl fun hok => ?_
  have e_d0 : D.lst [d0.fld 0, d0.fld 1, d0.fld 2, d0.fld 3] = d0 := by simpa [List.range, List.range.loop] using okL_eta (hok _ (.head _))
  have k_d0 : okL [(.sl [(.int .i64), (.int .i64), (.int .i64), (.int .i64), (.int .i64), (.int .i64), (.int .i64), (.int .i64), (.int .i64), (.int .i64), (.int .i64), .bool, .bool]), (.sl [(.int .i64), (.int .i64), .bool]), (.int .i64), (.int .i64)] d0 := (hok _ (.head _))
  have e_d0_0 : D.lst (d0.fld 0).toL = d0.fld 0 := sl_eta (okL_at k_d0 (i := 0) rfl)
  have l_d0_0 := sl_len (okL_at k_d0 (i := 0) rfl)
  have k_d0_0 := sl_all (okL_at k_d0 (i := 0) rfl)
  have E_d0_0 : ∀ i, i < (d0.fld 0).toL.length → D.lst [((d0.fld 0).elem i).fld 0, ((d0.fld 0).elem i).fld 1, ((d0.fld 0).elem i).fld 2, ((d0.fld 0).elem i).fld 3, ((d0.fld 0).elem i).fld 4, ((d0.fld 0).elem i).fld 5, ((d0.fld 0).elem i).fld 6, ((d0.fld 0).elem i).fld 7, ((d0.fld 0).elem i).fld 8, ((d0.fld 0).elem i).fld 9, ((d0.fld 0).elem i).fld 10, ((d0.fld 0).elem i).fld 11, ((d0.fld 0).elem i).fld 12] = (d0.fld 0).elem i := fun i hi => by simpa [List.range, List.range.loop] using okL_eta (k_d0_0 _ (elem_mem hi))
  have e_d0_1 : D.lst (d0.fld 1).toL = d0.fld 1 := sl_eta (okL_at k_d0 (i := 1) rfl)
  have l_d0_1 := sl_len (okL_at k_d0 (i := 1) rfl)
  have k_d0_1 := sl_all (okL_at k_d0 (i := 1) rfl)
  have E_d0_1 : ∀ i, i < (d0.fld 1).toL.length → D.lst [((d0.fld 1).elem i).fld 0, ((d0.fld 1).elem i).fld 1, ((d0.fld 1).elem i).fld 2] = (d0.fld 1).elem i := fun i hi => by simpa [List.range, List.range.loop] using okL_eta (k_d0_1 _ (elem_mem hi))
  have e_d1 := int_eta (hok _ (.tail _ (.head _)))
  have b_d1 := int_range (hok _ (.tail _ (.head _)))
  have e_d2 : D.lst [d2.fld 0, d2.fld 1] = d2 := by simpa [List.range, List.range.loop] using okL_eta (hok _ (.tail _ (.tail _ (.head _))))
  have k_d2 : okL [(.int .i64), (.int .i64)] d2 := (hok _ (.tail _ (.tail _ (.head _))))
  apply says_den (φ := (phi_8))
  simp [e_d0_0, E_d0_0, e_d0_1, E_d0_1, e_d0, e_d1, e_d2, tree_8, T.says, X.den, O1.den, O2.den, O3.den, callD, XArg.ev, XArg.dat, Callee'.num, backs, DArg.back, Conds.den, cloArgs, phi_8, pd_15, pd_17, pd_19, pd_31, pd_32, pd_33]
  all_goals ((repeat' (first | (with_reducible apply And.intro) | intro _)) <;> (first | assumption | (first | omega | (simp only [IntKind.wrap_i64, maxL] at *; omega) | (simp [IntKind.wrap_i64, maxL] at *; omega)) | rfl | contradiction | (exact pd_15 _ _ (by first | assumption | omega | (simp; done) | (simp; omega) | (simp [*]; done) | (simp [*] at *; omega) | grind [szS]) _ (by first | rfl | simp | (simp; omega))) | (exact pd_17 _ (by first | assumption | omega | (simp; done) | (simp; omega) | (simp [*]; done) | (simp [*] at *; omega) | grind [szS]) _ (by first | rfl | simp | (simp; omega))) | (exact pd_19 _ _ (by first | assumption | omega | (simp; done) | (simp; omega) | (simp [*]; done) | (simp [*] at *; omega) | grind [szS]) _ (by first | rfl | simp | (simp; omega))) | (exact pd_31 _ _ _ _ (by first | rfl | simp | (simp; omega))) | (exact pd_32 _ _ (by first | rfl | simp | (simp; omega))) | (exact pd_33 _ _ _ (by first | assumption | omega | (simp; done) | (simp; omega) | (simp [*]; done) | (simp [*] at *; omega) | grind [szS]) _ (by first | rfl | simp | (simp; omega))) | grind))
end Go.Proofs.Ytbfhdfpbijpbbaa
namespace Go.Proofs.Ytbfhdfpbijpbbaa.fnExactHolds
open Go.Proofs.Ytbfhdfpbijpbbaa Go.Proofs.Ytbfhdfpbijpbbaa.Eng
set_option maxRecDepth 100000
set_option linter.unusedSimpArgs false
set_option linter.unusedVariables false
theorem own : ownKnob Try.prog.godebug = none := by kernel_rfl
theorem laid : laidOutB Try.prog = true := by kernel_rfl
theorem pars : parKs Try.prog md 8 0 Try.f8.params.toList = some [.st [(.sl [(.int .i64), (.int .i64), (.int .i64), (.int .i64), (.int .i64), (.int .i64), (.int .i64), (.int .i64), (.int .i64), (.int .i64), (.int .i64), .bool, .bool]), (.sl [(.int .i64), (.int .i64), .bool]), (.int .i64), (.int .i64)], .sc (.int .i64), .st [(.int .i64), (.int .i64)]] := by kernel_rfl
theorem reads : Try.f8.params.toList.all (fun t => laysPar Try.prog t && Try.prog.readableRec t && decide (t < Try.prog.types.size)) = true := by kernel_rfl
theorem isBool : Try.prog.underlying 4 = some .bool := by kernel_rfl
theorem lifted (os : Os) (started : os.Started) (H : Type) (enc : TypeId × Value → H) :
    ReturnsInHanded {} Try.checked os 8 .any (Rows.fnExactHoldsSpec.pre6 enc Try.prog Try.f8 Rows.fnExactHoldsRow.domain false) (Rows.fnExactHoldsSpec.post enc Try.prog Try.f8 false true false false) := by
  refine returnsInHanded_of_change_sized (C := Try.checked) own started (by kernel_rfl) Try.func8
    (ChangeSpec.witness6 (enc := enc) (C := Try.checked) false ⟨#[], #[.agg #[.slice none 0 0, .slice none 0 0, .int .i64 0, .int .i64 0], .int .i64 0, .agg #[.int .i64 0, .int .i64 0]], []⟩ 8 (by kernel_rfl) (by kernel_rfl) (by kernel_rfl) (by kernel_rfl)) ?_
  intro W base args ds gs before hval hW _ hsz _
  exact law_contract (P := Try.prog) (md := md) laid pars (fun j => rfl) (fun j => rfl) reads rfl isBool rfl (fun ds h => by match ds, h with | [_, _, _], _ => rfl)
    (fun xs h => by match xs, h with | [.st _ d0, .sc _ d1, .st _ d2], ⟨rfl, rfl, rfl, _⟩ => exact pc_8 d0 d1 d2) hval hW hsz
/-- The statement. -/
theorem proved : Rows.FnExactHoldsSaid :=
  OpenClaim.holds_of_wide 8 Try.f8 rfl rfl rfl rfl rfl rfl rfl ⟨rfl, rfl, rfl, rfl, rfl⟩ rfl rfl rfl rfl rfl (by kernel_rfl) Try.func8 (by kernel_rfl)
    (of_decide_eq_true (by kernel_rfl)) (by unfold Func.isWrapper; first | (rw [if_pos (by decide +kernel)]; kernel_rfl) | (rw [if_neg (by decide +kernel)]; exact ⟨rfl, rfl⟩))
    (fun os started H enc _ => lifted os started H enc)
end Go.Proofs.Ytbfhdfpbijpbbaa.fnExactHolds
