/- For every input the law FnExactFits returns true, and each argument reads as it read before. No condition. -/
import Derived.Test.YtfbahdalemajcaaC
import Derived.ProofKit
import Derived.SizedLaws
namespace Go.Proofs.Ytfbahdalemajcaa
open Go.Proofs.Ytfbahdalemajcaa.Eng
set_option maxRecDepth 100000
set_option linter.unusedSimpArgs false
set_option linter.unusedVariables false
def phi_12 : Nat → List D → List D
  | 21, [d, n] => [.int (szS n.toI (d.fld 19).toL.length)]
  | 23, [d] => [d]
  | 25, [d, e] => [.bool true]
  | 41, [d] => [d]
  | 46, [d, n] => [.int (szS (szS n.toI (d.fld 0).toL.length) (d.fld 1).toL.length)]
  | 47, [s, e, v] => [.bool (fitsE s e v)]
  | 48, [d] => [d]
  | 49, [s, e, v] => [.bool (fitsE s e v)]
  | 50, [d, e] => [.bool true]
  | _, _ => []
theorem pc_12 (d0 d1 d2 : D) : PC Try.prog 12 [.st [(.sl [(.int .i64), (.int .i64), (.int .i64), (.int .i64), (.int .i64), (.int .i64), (.int .i64), (.int .i64), (.int .i64), (.int .i64), (.int .i64), .bool, .bool]), (.sl [(.int .i64), (.int .i64), .bool]), (.int .i64), (.int .i64)] d0, .st [(.int .i64), (.int .i64), (.int .i64), (.int .i64), (.int .i64), (.int .i64), (.int .i64), (.int .i64), (.int .i64), (.int .i64), (.int .i64), (.int .i64), (.int .i64), (.int .i64), (.int .i64), (.int .i64), (.int .i64), (.int .i64), .bool, (.sl [(.int .i64), (.int .i64), (.int .i64), (.int .i64), (.int .i64), (.int .i64), .bool]), (.int .i64), (.int .i64)] d1, .st [(.int .i64), (.int .i64), (.int .i64), (.int .i64), (.int .i64), (.int .i64), .bool] d2] [.sc .bool] fun o => o = [.bool true] := by
  refine PC.of_sig mix sig_12 ⟨rfl, rfl, rfl, trivial⟩ rfl fun hok => ?_
  have e_d0 : D.lst [d0.fld 0, d0.fld 1, d0.fld 2, d0.fld 3] = d0 := by simpa [List.range, List.range.loop] using okL_eta (hok _ (.head _))
  have k_d0 : okL [(.sl [(.int .i64), (.int .i64), (.int .i64), (.int .i64), (.int .i64), (.int .i64), (.int .i64), (.int .i64), (.int .i64), (.int .i64), (.int .i64), .bool, .bool]), (.sl [(.int .i64), (.int .i64), .bool]), (.int .i64), (.int .i64)] d0 := (hok _ (.head _))
  have e_d0_0 : D.lst (d0.fld 0).toL = d0.fld 0 := sl_eta (okL_at k_d0 (i := 0) rfl)
  have l_d0_0 := sl_len (okL_at k_d0 (i := 0) rfl)
  have k_d0_0 := sl_all (okL_at k_d0 (i := 0) rfl)
  have E_d0_0 : ∀ i, i < (d0.fld 0).toL.length → D.lst [((d0.fld 0).elem i).fld 0, ((d0.fld 0).elem i).fld 1, ((d0.fld 0).elem i).fld 2, ((d0.fld 0).elem i).fld 3, ((d0.fld 0).elem i).fld 4, ((d0.fld 0).elem i).fld 5, ((d0.fld 0).elem i).fld 6, ((d0.fld 0).elem i).fld 7, ((d0.fld 0).elem i).fld 8, ((d0.fld 0).elem i).fld 9, ((d0.fld 0).elem i).fld 10, ((d0.fld 0).elem i).fld 11, ((d0.fld 0).elem i).fld 12] = (d0.fld 0).elem i := fun i hi => by simpa [List.range, List.range.loop] using okL_eta (k_d0_0 _ (elem_mem hi))
  have e_d0_1 : D.lst (d0.fld 1).toL = d0.fld 1 := sl_eta (okL_at k_d0 (i := 1) rfl)
  have l_d0_1 := sl_len (okL_at k_d0 (i := 1) rfl)
  have k_d0_1 := sl_all (okL_at k_d0 (i := 1) rfl)
  have E_d0_1 : ∀ i, i < (d0.fld 1).toL.length → D.lst [((d0.fld 1).elem i).fld 0, ((d0.fld 1).elem i).fld 1, ((d0.fld 1).elem i).fld 2] = (d0.fld 1).elem i := fun i hi => by simpa [List.range, List.range.loop] using okL_eta (k_d0_1 _ (elem_mem hi))
  have e_d1 : D.lst [d1.fld 0, d1.fld 1, d1.fld 2, d1.fld 3, d1.fld 4, d1.fld 5, d1.fld 6, d1.fld 7, d1.fld 8, d1.fld 9, d1.fld 10, d1.fld 11, d1.fld 12, d1.fld 13, d1.fld 14, d1.fld 15, d1.fld 16, d1.fld 17, d1.fld 18, d1.fld 19, d1.fld 20, d1.fld 21] = d1 := by simpa [List.range, List.range.loop] using okL_eta (hok _ (.tail _ (.head _)))
  have k_d1 : okL [(.int .i64), (.int .i64), (.int .i64), (.int .i64), (.int .i64), (.int .i64), (.int .i64), (.int .i64), (.int .i64), (.int .i64), (.int .i64), (.int .i64), (.int .i64), (.int .i64), (.int .i64), (.int .i64), (.int .i64), (.int .i64), .bool, (.sl [(.int .i64), (.int .i64), (.int .i64), (.int .i64), (.int .i64), (.int .i64), .bool]), (.int .i64), (.int .i64)] d1 := (hok _ (.tail _ (.head _)))
  have e_d1_19 : D.lst (d1.fld 19).toL = d1.fld 19 := sl_eta (okL_at k_d1 (i := 19) rfl)
  have l_d1_19 := sl_len (okL_at k_d1 (i := 19) rfl)
  have k_d1_19 := sl_all (okL_at k_d1 (i := 19) rfl)
  have E_d1_19 : ∀ i, i < (d1.fld 19).toL.length → D.lst [((d1.fld 19).elem i).fld 0, ((d1.fld 19).elem i).fld 1, ((d1.fld 19).elem i).fld 2, ((d1.fld 19).elem i).fld 3, ((d1.fld 19).elem i).fld 4, ((d1.fld 19).elem i).fld 5, ((d1.fld 19).elem i).fld 6] = (d1.fld 19).elem i := fun i hi => by simpa [List.range, List.range.loop] using okL_eta (k_d1_19 _ (elem_mem hi))
  have e_d2 : D.lst [d2.fld 0, d2.fld 1, d2.fld 2, d2.fld 3, d2.fld 4, d2.fld 5, d2.fld 6] = d2 := by simpa [List.range, List.range.loop] using okL_eta (hok _ (.tail _ (.tail _ (.head _))))
  have k_d2 : okL [(.int .i64), (.int .i64), (.int .i64), (.int .i64), (.int .i64), (.int .i64), .bool] d2 := (hok _ (.tail _ (.tail _ (.head _))))
  apply says_den (φ := (phi_12))
  simp [e_d0_0, E_d0_0, e_d0_1, E_d0_1, e_d1_19, E_d1_19, e_d0, e_d1, e_d2, tree_12, T.says, X.den, O1.den, O2.den, O3.den, callD, XArg.ev, XArg.dat, Callee'.num, backs, DArg.back, Conds.den, cloArgs, phi_12, pd_21, pd_23, pd_25, pd_41, pd_46, pd_47, pd_48, pd_49, pd_50]
  all_goals ((repeat' (first | (with_reducible apply And.intro) | intro _)) <;> (first | assumption | (first | omega | (simp only [IntKind.wrap_i64, maxL] at *; omega) | (simp [IntKind.wrap_i64, maxL] at *; omega)) | rfl | contradiction | (exact pd_21 _ _ (by first | assumption | omega | (simp; done) | (simp; omega) | (simp [*]; done) | (simp [*] at *; omega) | grind [szS]) _ (by first | rfl | simp | (simp; omega))) | (exact pd_23 _ (by first | assumption | omega | (simp; done) | (simp; omega) | (simp [*]; done) | (simp [*] at *; omega) | grind [szS]) _ (by first | rfl | simp | (simp; omega))) | (exact pd_25 _ _ (by first | assumption | omega | (simp; done) | (simp; omega) | (simp [*]; done) | (simp [*] at *; omega) | grind [szS]) _ (by first | rfl | simp | (simp; omega))) | (exact pd_41 _ _ (by first | rfl | simp | (simp; omega))) | (exact pd_46 _ _ (by first | assumption | omega | (simp; done) | (simp; omega) | (simp [*]; done) | (simp [*] at *; omega) | grind [szS]) _ (by first | rfl | simp | (simp; omega))) | (exact pd_47 _ _ _ _ (by first | rfl | simp | (simp; omega))) | (exact pd_48 _ (by first | assumption | omega | (simp; done) | (simp; omega) | (simp [*]; done) | (simp [*] at *; omega) | grind [szS]) _ (by first | rfl | simp | (simp; omega))) | (exact pd_49 _ _ _ (by first | assumption | omega | (simp; done) | (simp; omega) | (simp [*]; done) | (simp [*] at *; omega) | grind [szS]) _ (by first | rfl | simp | (simp; omega))) | (exact pd_50 _ _ (by first | assumption | omega | (simp; done) | (simp; omega) | (simp [*]; done) | (simp [*] at *; omega) | grind [szS]) _ (by first | rfl | simp | (simp; omega))) | grind))
end Go.Proofs.Ytfbahdalemajcaa
namespace Go.Proofs.Ytfbahdalemajcaa.fnExactFits
open Go.Proofs.Ytfbahdalemajcaa Go.Proofs.Ytfbahdalemajcaa.Eng
set_option maxRecDepth 100000
set_option linter.unusedSimpArgs false
set_option linter.unusedVariables false
theorem own : ownKnob Try.prog.godebug = none := by kernel_rfl
theorem laid : laidOutB Try.prog = true := by kernel_rfl
theorem pars : parKs Try.prog md 12 0 Try.f12.params.toList = some [.st [(.sl [(.int .i64), (.int .i64), (.int .i64), (.int .i64), (.int .i64), (.int .i64), (.int .i64), (.int .i64), (.int .i64), (.int .i64), (.int .i64), .bool, .bool]), (.sl [(.int .i64), (.int .i64), .bool]), (.int .i64), (.int .i64)], .st [(.int .i64), (.int .i64), (.int .i64), (.int .i64), (.int .i64), (.int .i64), (.int .i64), (.int .i64), (.int .i64), (.int .i64), (.int .i64), (.int .i64), (.int .i64), (.int .i64), (.int .i64), (.int .i64), (.int .i64), (.int .i64), .bool, (.sl [(.int .i64), (.int .i64), (.int .i64), (.int .i64), (.int .i64), (.int .i64), .bool]), (.int .i64), (.int .i64)], .st [(.int .i64), (.int .i64), (.int .i64), (.int .i64), (.int .i64), (.int .i64), .bool]] := by kernel_rfl
theorem reads : Try.f12.params.toList.all (fun t => laysPar Try.prog t && Try.prog.readableRec t && decide (t < Try.prog.types.size)) = true := by kernel_rfl
theorem isBool : Try.prog.underlying 4 = some .bool := by kernel_rfl
theorem lifted (os : Os) (started : os.Started) (H : Type) (enc : TypeId × Value → H) :
    ReturnsInHanded {} Try.checked os 12 .any (Rows.fnExactFitsSpec.pre6 enc Try.prog Try.f12 Rows.fnExactFitsRow.domain false) (Rows.fnExactFitsSpec.post enc Try.prog Try.f12 false true false false) := by
  refine returnsInHanded_of_change_sized (C := Try.checked) own started (by kernel_rfl) Try.func12
    (ChangeSpec.witness6 (enc := enc) (C := Try.checked) false ⟨#[], #[.agg #[.slice none 0 0, .slice none 0 0, .int .i64 0, .int .i64 0], .agg #[.int .i64 0, .int .i64 0, .int .i64 0, .int .i64 0, .int .i64 0, .int .i64 0, .int .i64 0, .int .i64 0, .int .i64 0, .int .i64 0, .int .i64 0, .int .i64 0, .int .i64 0, .int .i64 0, .int .i64 0, .int .i64 0, .int .i64 0, .int .i64 0, .bool false, .slice none 0 0, .int .i64 0, .int .i64 0], .agg #[.int .i64 0, .int .i64 0, .int .i64 0, .int .i64 0, .int .i64 0, .int .i64 0, .bool false]], []⟩ 8 (by kernel_rfl) (by kernel_rfl) (by kernel_rfl) (by kernel_rfl)) ?_
  intro W base args ds gs before hval hW _ hsz _
  exact law_contract (P := Try.prog) (md := md) laid pars (fun j => rfl) (fun j => rfl) reads rfl isBool rfl (fun ds h => by match ds, h with | [_, _, _], _ => rfl)
    (fun xs h => by match xs, h with | [.st _ d0, .st _ d1, .st _ d2], ⟨rfl, rfl, rfl, _⟩ => exact pc_12 d0 d1 d2) hval hW hsz
/-- The statement. -/
theorem proved : Rows.FnExactFitsSaid :=
  OpenClaim.holds_of_wide 12 Try.f12 rfl rfl rfl rfl rfl rfl rfl ⟨rfl, rfl, rfl, rfl, rfl⟩ rfl rfl rfl rfl rfl (by kernel_rfl) Try.func12 (by kernel_rfl)
    (of_decide_eq_true (by kernel_rfl)) (by unfold Func.isWrapper; first | (rw [if_pos (by decide +kernel)]; kernel_rfl) | (rw [if_neg (by decide +kernel)]; exact ⟨rfl, rfl⟩))
    (fun os started H enc _ => lifted os started H enc)
end Go.Proofs.Ytfbahdalemajcaa.fnExactFits
