/- For every input the law FnExactPick returns true, and each argument reads as it read before. No condition. -/
import Derived.Test.YtflegfieiemipaaC
import Derived.ProofKit
import Derived.SizedLaws
namespace Go.Proofs.Ytflegfieiemipaa
open Go.Proofs.Ytflegfieiemipaa.Eng
set_option maxRecDepth 100000
set_option linter.unusedSimpArgs false
set_option linter.unusedVariables false
def phi_9 : Nat → List D → List D
  | 27, [d] => [d]
  | 29, [d, e] => [.bool true]
  | 30, [d, n] => [.int (n.toI + d.toL.length), .lst (markedN n.toI d.toL.length)]
  | 31, [d, n] => [.int (n.toI + d.toL.length)]
  | 34, [d, n] => [.int (pickN d n.toI), .lst (pickL d n.toI)]
  | 35, [d, n] => [.int (pickN d n.toI), .lst (pickL d n.toI)]
  | _, _ => []
theorem pc_9 (d n : D) : PC Try.prog 9 [.sc (.sl [(.int .i64)]) d, .sc (.int .i64) n] [.sc .bool] fun o => o = [.bool true] := by
  refine PC.of_sig mix sig_9 ⟨rfl, rfl, trivial⟩ rfl fun hok => ?_
  have e_d := sl_eta (hok _ (.head _))
  have l_d := sl_len (hok _ (.head _))
  have k_d := sl_all (hok _ (.head _))
  have e_n := int_eta (hok _ (.tail _ (.head _)))
  have b_n := int_range (hok _ (.tail _ (.head _)))
  apply says_den (φ := (phi_9))
  have hpl := pickL_le d n.toI
  simp [e_d, e_n, tree_9, T.says, X.den, O1.den, O2.den, O3.den, callD, XArg.ev, XArg.dat, Callee'.num, backs, DArg.back, Conds.den, cloArgs, phi_9, pd_27, pd_29, pd_30, pd_31, pd_34, pd_35]
  (repeat' (first | (with_reducible apply And.intro) | intro _)) <;> (first | assumption | (first | omega | (simp only [IntKind.wrap_i64, maxL] at *; omega) | (simp [IntKind.wrap_i64, maxL] at *; omega)) | rfl | contradiction | (exact pd_27 _ (by first | assumption | omega | (simp; done) | (simp; omega) | (simp [*]; done) | (simp [*] at *; omega) | grind [szS]) _ (by first | rfl | simp | (simp; omega))) | (exact pd_29 _ _ (by first | assumption | omega | (simp; done) | (simp; omega) | (simp [*]; done) | (simp [*] at *; omega) | grind [szS]) _ (by first | rfl | simp | (simp; omega))) | (exact pd_30 _ _ (by first | assumption | omega | (simp; done) | (simp; omega) | (simp [*]; done) | (simp [*] at *; omega) | grind [szS]) (by first | assumption | omega | (simp; done) | (simp; omega) | (simp [*]; done) | (simp [*] at *; omega) | grind [szS]) _ (by first | rfl | simp | (simp; omega))) | (exact pd_31 _ _ (by first | assumption | omega | (simp; done) | (simp; omega) | (simp [*]; done) | (simp [*] at *; omega) | grind [szS]) (by first | assumption | omega | (simp; done) | (simp; omega) | (simp [*]; done) | (simp [*] at *; omega) | grind [szS]) (by first | assumption | omega | (simp; done) | (simp; omega) | (simp [*]; done) | (simp [*] at *; omega) | grind [szS]) _ (by first | rfl | simp | (simp; omega))) | (exact pd_34 _ _ (by first | assumption | omega | (simp; done) | (simp; omega) | (simp [*]; done) | (simp [*] at *; omega) | grind [szS]) _ (by first | rfl | simp | (simp; omega))) | (exact pd_35 _ _ (by first | assumption | omega | (simp; done) | (simp; omega) | (simp [*]; done) | (simp [*] at *; omega) | grind [szS]) _ (by first | rfl | simp | (simp; omega))) | grind)
end Go.Proofs.Ytflegfieiemipaa
namespace Go.Proofs.Ytflegfieiemipaa.fnExactPick
open Go.Proofs.Ytflegfieiemipaa Go.Proofs.Ytflegfieiemipaa.Eng
set_option maxRecDepth 100000
set_option linter.unusedSimpArgs false
set_option linter.unusedVariables false
theorem own : ownKnob Try.prog.godebug = none := by kernel_rfl
theorem laid : laidOutB Try.prog = true := by kernel_rfl
theorem pars : parKs Try.prog md 9 0 Try.f9.params.toList = some [.sc (.sl [(.int .i64)]), .sc (.int .i64)] := by kernel_rfl
theorem reads : Try.f9.params.toList.all (fun t => laysPar Try.prog t && Try.prog.readableRec t && decide (t < Try.prog.types.size)) = true := by kernel_rfl
theorem isBool : Try.prog.underlying 4 = some .bool := by kernel_rfl
theorem lifted (os : Os) (started : os.Started) (H : Type) (enc : TypeId × Value → H) :
    ReturnsInHanded {} Try.checked os 9 .any (Rows.fnExactPickSpec.pre6 enc Try.prog Try.f9 Rows.fnExactPickRow.domain false) (Rows.fnExactPickSpec.post enc Try.prog Try.f9 false true false false) := by
  refine returnsInHanded_of_change_sized (C := Try.checked) own started (by kernel_rfl) Try.func9
    (ChangeSpec.witness6 (enc := enc) (C := Try.checked) false ⟨#[], #[.slice none 0 0, .int .i64 0], []⟩ 8 (by kernel_rfl) (by kernel_rfl) (by kernel_rfl) (by kernel_rfl)) ?_
  intro W base args ds gs before hval hW _ hsz _
  exact law_contract (P := Try.prog) (md := md) laid pars (fun j => rfl) (fun j => rfl) reads rfl isBool rfl (fun ds h => by match ds, h with | [_, _], _ => rfl)
    (fun xs h => by match xs, h with | [.sc _ d, .sc _ n], ⟨rfl, rfl, _⟩ => exact pc_9 d n) hval hW hsz
/-- The statement. -/
theorem proved : Rows.FnExactPickSaid :=
  OpenClaim.holds_of_wide 9 Try.f9 rfl rfl rfl rfl rfl rfl rfl ⟨rfl, rfl, rfl, rfl, rfl⟩ rfl rfl rfl rfl rfl (by kernel_rfl) Try.func9 (by kernel_rfl)
    (of_decide_eq_true (by kernel_rfl)) (by unfold Func.isWrapper; first | (rw [if_pos (by decide +kernel)]; kernel_rfl) | (rw [if_neg (by decide +kernel)]; exact ⟨rfl, rfl⟩))
    (fun os started H enc _ => lifted os started H enc)
end Go.Proofs.Ytflegfieiemipaa.fnExactPick
