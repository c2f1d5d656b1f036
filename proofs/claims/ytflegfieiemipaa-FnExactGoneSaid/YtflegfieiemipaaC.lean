/- The contracts of the functions that this claim reaches: what each hands back, for all data. -/
import Derived.Test.YtflegfieiemipaaT
import Derived.Test.YtflegfieiemipaaS
namespace Go.Proofs.Ytflegfieiemipaa
open Go.Proofs.Ytflegfieiemipaa.Eng
set_option maxRecDepth 100000
/- spec.Gone -/
theorem pc_15 (d : D) : PC Try.prog 15 [.st [(.int .i64), (.int .i64), (.int .i64), (.int .i64), (.int .i64), (.int .i64), .bool] d] [.sc .bool] fun o => o = [.bool (gone d)] := by
  refine PC.of_sig mix sig_15 ⟨rfl, trivial⟩ rfl fun hok => ?_
  apply says_den (φ := fun _ _ => [])
  simp [tree_15, T.says, X.den, O1.den, O2.den, O3.den, callD, XArg.ev, XArg.dat, Callee'.num, backs, DArg.back, Conds.den, gone]
/- laws.toEvent -/
theorem pc_16 (d : D) : PC Try.prog 16 [.st [(.int .i64), (.int .i64), (.int .i64), (.int .i64), (.int .i64), (.int .i64), .bool] d] [.st [(.int .i64), (.int .i64), (.int .i64), (.int .i64), (.int .i64), (.int .i64), .bool]] fun o => o = [d] := by
  refine PC.of_sig mix sig_16 ⟨rfl, trivial⟩ rfl fun hok => ?_
  apply says_den (φ := fun _ _ => [])
  have e0 := okL_eta (hok _ (.head _))
  simp [tree_16, T.says, X.den, O1.den, O2.den, O3.den, callD, XArg.ev, XArg.dat, Callee'.num, backs, DArg.back, Conds.den, List.range, List.range.loop] at e0 ⊢
  exact e0
/- impl.Gone -/
theorem pc_17 (d : D) : PC Try.prog 17 [.st [(.int .i64), (.int .i64), (.int .i64), (.int .i64), (.int .i64), (.int .i64), .bool] d] [.sc .bool] fun o => o = [.bool (gone d)] := by
  refine PC.of_sig mix sig_17 ⟨rfl, trivial⟩ rfl fun hok => ?_
  apply says_den (φ := fun _ _ => [])
  simp [tree_17, T.says, X.den, O1.den, O2.den, O3.den, callD, XArg.ev, XArg.dat, Callee'.num, backs, DArg.back, Conds.den, gone]
end Go.Proofs.Ytflegfieiemipaa
