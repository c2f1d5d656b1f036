/- For every input the law FnExactTableOk returns true, and each argument reads as it read before. No condition. -/
import Derived.Test.YtfbahdalemajcaaC
import Derived.ProofKit
import Derived.SizedLaws
namespace Go.Proofs.Ytfbahdalemajcaa
open Go.Proofs.Ytfbahdalemajcaa.Eng
set_option maxRecDepth 100000
set_option maxHeartbeats 2000000
set_option linter.unusedSimpArgs false
set_option linter.unusedVariables false
def phi_7 : Nat → List D → List D
  | 14, [d, n] => [.int (szEs n.toI d)]
  | 16, [d] => [d]
  | 18, [d, e] => [.bool true]
  | 30, [d] => [.bool (tableOk d)]
  | 31, [d] => [.bool (tableOk d)]
  | _, _ => []
theorem pc_7 (d0 : D) : PC Try.prog 7 [.sc (.sl [(.int .i64), (.int .i64), (.int .i64), (.int .i64), (.int .i64), (.int .i64), (.int .i64), (.int .i64), (.int .i64), (.int .i64), (.int .i64), (.int .i64), (.int .i64), (.int .i64), (.int .i64), (.int .i64), (.int .i64), (.int .i64), .bool, (.sl [(.int .i64), (.int .i64), (.int .i64), (.int .i64), (.int .i64), (.int .i64), .bool]), (.int .i64), (.int .i64)]) d0] [.sc .bool] fun o => o = [.bool true] := by
  refine PC.of_sig mix sig_7 ⟨rfl, trivial⟩ rfl fun hok => ?_
  have e_d0 := sl_eta (hok _ (.head _))
  have l_d0 := sl_len (hok _ (.head _))
  have k_d0 := sl_all (hok _ (.head _))
  have E_d0 : ∀ i, i < d0.toL.length → D.lst [(d0.elem i).fld 0, (d0.elem i).fld 1, (d0.elem i).fld 2, (d0.elem i).fld 3, (d0.elem i).fld 4, (d0.elem i).fld 5, (d0.elem i).fld 6, (d0.elem i).fld 7, (d0.elem i).fld 8, (d0.elem i).fld 9, (d0.elem i).fld 10, (d0.elem i).fld 11, (d0.elem i).fld 12, (d0.elem i).fld 13, (d0.elem i).fld 14, (d0.elem i).fld 15, (d0.elem i).fld 16, (d0.elem i).fld 17, (d0.elem i).fld 18, (d0.elem i).fld 19, (d0.elem i).fld 20, (d0.elem i).fld 21] = d0.elem i := fun i hi => by simpa [List.range, List.range.loop] using okL_eta (k_d0 _ (elem_mem hi))
  apply says_den (φ := (phi_7))
  simp [e_d0, E_d0, tree_7, T.says, X.den, O1.den, O2.den, O3.den, callD, XArg.ev, XArg.dat, Callee'.num, backs, DArg.back, Conds.den, cloArgs, phi_7, pd_14, pd_16, pd_18, pd_30, pd_31]
  all_goals ((repeat' (first | (with_reducible apply And.intro) | intro _)) <;> (first | assumption | (exact pd_14 _ _ (by first | assumption | omega | (simp; done) | (simp; omega) | (simp [*]; done) | exact smallE_of (n := 1048576) (by omega) (by omega) | (simp [*] at *; omega) | grind [szS]) _ (by first | rfl | simp | (simp; omega))) | (exact pd_16 _ (by first | assumption | omega | (simp; done) | (simp; omega) | (simp [*]; done) | exact smallE_of (n := 1048576) (by omega) (by omega) | (simp [*] at *; omega) | grind [szS]) _ (by first | rfl | simp | (simp; omega))) | (exact pd_18 _ _ (by first | assumption | omega | (simp; done) | (simp; omega) | (simp [*]; done) | exact smallE_of (n := 1048576) (by omega) (by omega) | (simp [*] at *; omega) | grind [szS]) _ (by first | rfl | simp | (simp; omega))) | (exact pd_30 _ _ (by first | rfl | simp | (simp; omega))) | (exact pd_31 _ _ (by first | rfl | simp | (simp; omega))) | (first | omega | (simp only [IntKind.wrap_i64, maxL] at *; omega) | (simp [IntKind.wrap_i64, maxL] at *; omega)) | rfl | contradiction | grind))
end Go.Proofs.Ytfbahdalemajcaa
namespace Go.Proofs.Ytfbahdalemajcaa.fnExactTableOk
open Go.Proofs.Ytfbahdalemajcaa Go.Proofs.Ytfbahdalemajcaa.Eng
set_option maxRecDepth 100000
set_option maxHeartbeats 2000000
set_option linter.unusedSimpArgs false
set_option linter.unusedVariables false
theorem own : ownKnob Try.prog.godebug = none := by kernel_rfl
theorem laid : laidOutB Try.prog = true := by kernel_rfl
theorem pars : parKs Try.prog md 7 0 Try.f7.params.toList = some [.sc (.sl [(.int .i64), (.int .i64), (.int .i64), (.int .i64), (.int .i64), (.int .i64), (.int .i64), (.int .i64), (.int .i64), (.int .i64), (.int .i64), (.int .i64), (.int .i64), (.int .i64), (.int .i64), (.int .i64), (.int .i64), (.int .i64), .bool, (.sl [(.int .i64), (.int .i64), (.int .i64), (.int .i64), (.int .i64), (.int .i64), .bool]), (.int .i64), (.int .i64)])] := by kernel_rfl
theorem reads : Try.f7.params.toList.all (fun t => laysPar Try.prog t && Try.prog.readableRec t && decide (t < Try.prog.types.size)) = true := by kernel_rfl
theorem isBool : Try.prog.underlying 4 = some .bool := by kernel_rfl
theorem lifted (os : Os) (started : os.Started) (H : Type) (enc : TypeId × Value → H) :
    ReturnsInHanded {} Try.checked os 7 .any (Rows.fnExactTableOkSpec.pre6 enc Try.prog Try.f7 Rows.fnExactTableOkRow.domain false) (Rows.fnExactTableOkSpec.post enc Try.prog Try.f7 false true false false) := by
  refine returnsInHanded_of_change_sized (C := Try.checked) own started (by kernel_rfl) Try.func7
    (ChangeSpec.witness6 (enc := enc) (C := Try.checked) false ⟨#[], #[.slice none 0 0], []⟩ 8 (by kernel_rfl) (by kernel_rfl) (by kernel_rfl) (by kernel_rfl)) ?_
  intro W base args ds gs before hval hW _ hsz _
  exact law_contract (P := Try.prog) (md := md) laid pars (fun j => rfl) (fun j => rfl) reads rfl isBool rfl (fun ds h => by match ds, h with | [_], _ => rfl)
    (fun xs h => by match xs, h with | [.sc _ d0], ⟨rfl, _⟩ => exact pc_7 d0) hval hW hsz
/-- The statement. -/
theorem proved : Rows.FnExactTableOkSaid :=
  OpenClaim.holds_of_wide 7 Try.f7 rfl rfl rfl rfl rfl rfl rfl ⟨rfl, rfl, rfl, rfl, rfl⟩ rfl rfl rfl rfl rfl (by kernel_rfl) Try.func7 (by kernel_rfl)
    (of_decide_eq_true (by kernel_rfl)) (by unfold Func.isWrapper; first | (rw [if_pos (by decide +kernel)]; kernel_rfl) | (rw [if_neg (by decide +kernel)]; exact ⟨rfl, rfl⟩))
    (fun os started H enc _ => lifted os started H enc)
end Go.Proofs.Ytfbahdalemajcaa.fnExactTableOk
