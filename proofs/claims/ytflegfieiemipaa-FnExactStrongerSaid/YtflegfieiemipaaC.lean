/- The contracts of the functions that this claim reaches: what each hands back, for all data. -/
import Derived.Test.YtflegfieiemipaaT
import Derived.Test.YtflegfieiemipaaS
namespace Go.Proofs.Ytflegfieiemipaa
open Go.Proofs.Ytflegfieiemipaa.Eng
set_option maxRecDepth 100000
/- laws.toGuard -/
theorem pc_19 (d : D) : PC Try.prog 19 [.st [(.int .i64), (.int .i64)] d] [.st [(.int .i64), (.int .i64)]] fun o => o = [d] := by
  refine PC.of_sig mix sig_19 ⟨rfl, trivial⟩ rfl fun hok => ?_
  have e_d : D.lst [d.fld 0, d.fld 1] = d := by simpa [List.range, List.range.loop] using okL_eta (hok _ (.head _))
  apply says_den (φ := fun _ _ => [])
  simp [e_d, tree_19, T.says, X.den, O1.den, O2.den, O3.den, callD, XArg.ev, XArg.dat, Callee'.num, backs, DArg.back, Conds.den]
theorem pd_19 (d : D) (Q : List D → Prop) (ho : Q [d]) : PC Try.prog 19 [.st [(.int .i64), (.int .i64)] d] [.st [(.int .i64), (.int .i64)]] Q := (pc_19 d).mono fun _ h => h ▸ ho
/- spec.l1In -/
theorem pc_55 (a b c : D) : PC Try.prog 55 [.sc (.int .i64) a, .sc (.int .i64) b, .sc (.int .i64) c] [.sc .bool] fun o => o = [.bool (inR a.toI b.toI c.toI)] := by
  refine PC.of_sig mix sig_55 ⟨rfl, rfl, rfl, trivial⟩ rfl fun hok => ?_
  apply says_den (φ := fun _ _ => [])
  simp [tree_55, T.says, X.den, O1.den, O2.den, O3.den, callD, XArg.ev, XArg.dat, Callee'.num, backs, DArg.back, Conds.den, inR]
theorem pd_55 (a b c : D) (Q : List D → Prop) (ho : Q [.bool (inR a.toI b.toI c.toI)]) : PC Try.prog 55 [.sc (.int .i64) a, .sc (.int .i64) b, .sc (.int .i64) c] [.sc .bool] Q := (pc_55 a b c).mono fun _ h => h ▸ ho
/- spec.GuardOk -/
def phi_18 : Nat → List D → List D
  | 55, [a, b, c] => [.bool (inR a.toI b.toI c.toI)]
  | _, _ => []
theorem pc_18 (d : D) : PC Try.prog 18 [.st [(.int .i64), (.int .i64)] d] [.sc .bool] fun o => o = [.bool (guardOk d)] := by
  refine PC.of_sig mix sig_18 ⟨rfl, trivial⟩ rfl fun hok => ?_
  have e_d : D.lst [d.fld 0, d.fld 1] = d := by simpa [List.range, List.range.loop] using okL_eta (hok _ (.head _))
  apply says_den (φ := phi_18)
  simp [e_d, tree_18, T.says, X.den, O1.den, O2.den, O3.den, callD, XArg.ev, XArg.dat, Callee'.num, backs, DArg.back, Conds.den, phi_18, pd_55]
  (repeat' (first | apply And.intro | intro _)) <;> grind [guardOk]
theorem pd_18 (d : D) (Q : List D → Prop) (ho : Q [.bool (guardOk d)]) : PC Try.prog 18 [.st [(.int .i64), (.int .i64)] d] [.sc .bool] Q := (pc_18 d).mono fun _ h => h ▸ ho
/- spec.Stronger -/
def phi_32 : Nat → List D → List D
  | 18, [d] => [.bool (guardOk d)]
  | _, _ => []
theorem pc_32 (a b : D) : PC Try.prog 32 [.st [(.int .i64), (.int .i64)] a, .st [(.int .i64), (.int .i64)] b] [.sc .bool] fun o => o = [.bool (stronger a b)] := by
  refine PC.of_sig mix sig_32 ⟨rfl, rfl, trivial⟩ rfl fun hok => ?_
  have e_a : D.lst [a.fld 0, a.fld 1] = a := by simpa [List.range, List.range.loop] using okL_eta (hok _ (.head _))
  have e_b : D.lst [b.fld 0, b.fld 1] = b := by simpa [List.range, List.range.loop] using okL_eta (hok _ (.tail _ (.head _)))
  apply says_den (φ := phi_32)
  simp [e_a, e_b, tree_32, T.says, X.den, O1.den, O2.den, O3.den, callD, XArg.ev, XArg.dat, Callee'.num, backs, DArg.back, Conds.den, phi_32, pd_18]
  (repeat' (first | apply And.intro | intro _)) <;> grind [stronger]
theorem pd_32 (a b : D) (Q : List D → Prop) (ho : Q [.bool (stronger a b)]) : PC Try.prog 32 [.st [(.int .i64), (.int .i64)] a, .st [(.int .i64), (.int .i64)] b] [.sc .bool] Q := (pc_32 a b).mono fun _ h => h ▸ ho
/- impl.Bound -/
theorem pc_56 (a : D) : PC Try.prog 56 [.sc (.int .i64) a] [.sc (.int .i64)] fun o => o = [.int (bound a.toI)] := by
  refine PC.of_sig mix sig_56 ⟨rfl, trivial⟩ rfl fun hok => ?_
  apply says_den (φ := fun _ _ => [])
  simp [tree_56, T.says, X.den, O1.den, O2.den, O3.den, callD, XArg.ev, XArg.dat, Callee'.num, backs, DArg.back, Conds.den]
  (repeat' (first | apply And.intro | intro _)) <;> grind [bound]
theorem pd_56 (a : D) (Q : List D → Prop) (ho : Q [.int (bound a.toI)]) : PC Try.prog 56 [.sc (.int .i64) a] [.sc (.int .i64)] Q := (pc_56 a).mono fun _ h => h ▸ ho
/- impl.from -/
theorem pc_57 (a b c : D) : PC Try.prog 57 [.sc (.int .i64) a, .sc (.int .i64) b, .sc (.int .i64) c] [.sc .bool] fun o => o = [.bool (inR a.toI b.toI c.toI)] := by
  refine PC.of_sig mix sig_57 ⟨rfl, rfl, rfl, trivial⟩ rfl fun hok => ?_
  apply says_den (φ := fun _ _ => [])
  simp [tree_57, T.says, X.den, O1.den, O2.den, O3.den, callD, XArg.ev, XArg.dat, Callee'.num, backs, DArg.back, Conds.den, inR]
theorem pd_57 (a b c : D) (Q : List D → Prop) (ho : Q [.bool (inR a.toI b.toI c.toI)]) : PC Try.prog 57 [.sc (.int .i64) a, .sc (.int .i64) b, .sc (.int .i64) c] [.sc .bool] Q := (pc_57 a b c).mono fun _ h => h ▸ ho
/- impl.GuardOk -/
def phi_20 : Nat → List D → List D
  | 56, [a] => [.int (bound a.toI)]
  | 57, [a, b, c] => [.bool (inR a.toI b.toI c.toI)]
  | _, _ => []
theorem pc_20 (d : D) : PC Try.prog 20 [.st [(.int .i64), (.int .i64)] d] [.sc .bool] fun o => o = [.bool (guardOk d)] := by
  refine PC.of_sig mix sig_20 ⟨rfl, trivial⟩ rfl fun hok => ?_
  have e_d : D.lst [d.fld 0, d.fld 1] = d := by simpa [List.range, List.range.loop] using okL_eta (hok _ (.head _))
  apply says_den (φ := phi_20)
  simp [e_d, tree_20, T.says, X.den, O1.den, O2.den, O3.den, callD, XArg.ev, XArg.dat, Callee'.num, backs, DArg.back, Conds.den, phi_20, pd_56, pd_57]
  (repeat' (first | apply And.intro | intro _)) <;> grind [guardOk, inR, bound]
theorem pd_20 (d : D) (Q : List D → Prop) (ho : Q [.bool (guardOk d)]) : PC Try.prog 20 [.st [(.int .i64), (.int .i64)] d] [.sc .bool] Q := (pc_20 d).mono fun _ h => h ▸ ho
/- impl.Stronger -/
def phi_33 : Nat → List D → List D
  | 20, [d] => [.bool (guardOk d)]
  | _, _ => []
theorem pc_33 (a b : D) : PC Try.prog 33 [.st [(.int .i64), (.int .i64)] a, .st [(.int .i64), (.int .i64)] b] [.sc .bool] fun o => o = [.bool (stronger a b)] := by
  refine PC.of_sig mix sig_33 ⟨rfl, rfl, trivial⟩ rfl fun hok => ?_
  have e_a : D.lst [a.fld 0, a.fld 1] = a := by simpa [List.range, List.range.loop] using okL_eta (hok _ (.head _))
  have e_b : D.lst [b.fld 0, b.fld 1] = b := by simpa [List.range, List.range.loop] using okL_eta (hok _ (.tail _ (.head _)))
  apply says_den (φ := phi_33)
  simp [e_a, e_b, tree_33, T.says, X.den, O1.den, O2.den, O3.den, callD, XArg.ev, XArg.dat, Callee'.num, backs, DArg.back, Conds.den, phi_33, pd_20]
  (repeat' (first | apply And.intro | intro _)) <;> grind [stronger]
theorem pd_33 (a b : D) (Q : List D → Prop) (ho : Q [.bool (stronger a b)]) : PC Try.prog 33 [.st [(.int .i64), (.int .i64)] a, .st [(.int .i64), (.int .i64)] b] [.sc .bool] Q := (pc_33 a b).mono fun _ h => h ▸ ho
end Go.Proofs.Ytflegfieiemipaa
