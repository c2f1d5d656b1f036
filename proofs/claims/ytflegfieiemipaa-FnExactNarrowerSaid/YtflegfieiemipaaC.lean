/- The contracts of the functions that this claim reaches: what each hands back, for all data. -/
import Derived.Test.YtflegfieiemipaaT
import Derived.Test.YtflegfieiemipaaS
namespace Go.Proofs.Ytflegfieiemipaa
open Go.Proofs.Ytflegfieiemipaa.Eng
set_option maxRecDepth 100000
/- laws.toPat -/
theorem pc_22 (d : D) : PC Try.prog 22 [.st [(.int .i64), (.int .i64), (.int .i64), (.int .i64), (.int .i64), (.int .i64), (.int .i64)] d] [.st [(.int .i64), (.int .i64), (.int .i64), (.int .i64), (.int .i64), (.int .i64), (.int .i64)]] fun o => o = [d] := by
  refine PC.of_sig mix sig_22 ⟨rfl, trivial⟩ rfl fun hok => ?_
  have e_d : D.lst [d.fld 0, d.fld 1, d.fld 2, d.fld 3, d.fld 4, d.fld 5, d.fld 6] = d := by simpa [List.range, List.range.loop] using okL_eta (hok _ (.head _))
  apply says_den (φ := fun _ _ => [])
  simp [e_d, tree_22, T.says, X.den, O1.den, O2.den, O3.den, callD, XArg.ev, XArg.dat, Callee'.num, backs, DArg.back, Conds.den]
theorem pd_22 (d : D) (Q : List D → Prop) (ho : Q [d]) : PC Try.prog 22 [.st [(.int .i64), (.int .i64), (.int .i64), (.int .i64), (.int .i64), (.int .i64), (.int .i64)] d] [.st [(.int .i64), (.int .i64), (.int .i64), (.int .i64), (.int .i64), (.int .i64), (.int .i64)]] Q := (pc_22 d).mono fun _ h => h ▸ ho
/- spec.l1In -/
theorem pc_55 (a b c : D) : PC Try.prog 55 [.sc (.int .i64) a, .sc (.int .i64) b, .sc (.int .i64) c] [.sc .bool] fun o => o = [.bool (inR a.toI b.toI c.toI)] := by
  refine PC.of_sig mix sig_55 ⟨rfl, rfl, rfl, trivial⟩ rfl fun hok => ?_
  apply says_den (φ := fun _ _ => [])
  simp [tree_55, T.says, X.den, O1.den, O2.den, O3.den, callD, XArg.ev, XArg.dat, Callee'.num, backs, DArg.back, Conds.den, inR]
theorem pd_55 (a b c : D) (Q : List D → Prop) (ho : Q [.bool (inR a.toI b.toI c.toI)]) : PC Try.prog 55 [.sc (.int .i64) a, .sc (.int .i64) b, .sc (.int .i64) c] [.sc .bool] Q := (pc_55 a b c).mono fun _ h => h ▸ ho
/- spec.PatOk -/
def phi_21 : Nat → List D → List D
  | 55, [a, b, c] => [.bool (inR a.toI b.toI c.toI)]
  | _, _ => []
theorem pc_21 (d : D) : PC Try.prog 21 [.st [(.int .i64), (.int .i64), (.int .i64), (.int .i64), (.int .i64), (.int .i64), (.int .i64)] d] [.sc .bool] fun o => o = [.bool (patOk d)] := by
  refine PC.of_sig mix sig_21 ⟨rfl, trivial⟩ rfl fun hok => ?_
  have e_d : D.lst [d.fld 0, d.fld 1, d.fld 2, d.fld 3, d.fld 4, d.fld 5, d.fld 6] = d := by simpa [List.range, List.range.loop] using okL_eta (hok _ (.head _))
  apply says_den (φ := phi_21)
  simp [e_d, tree_21, T.says, X.den, O1.den, O2.den, O3.den, callD, XArg.ev, XArg.dat, Callee'.num, backs, DArg.back, Conds.den, phi_21, pd_55]
  (repeat' (first | apply And.intro | intro _)) <;> grind [patOk]
theorem pd_21 (d : D) (Q : List D → Prop) (ho : Q [.bool (patOk d)]) : PC Try.prog 21 [.st [(.int .i64), (.int .i64), (.int .i64), (.int .i64), (.int .i64), (.int .i64), (.int .i64)] d] [.sc .bool] Q := (pc_21 d).mono fun _ h => h ▸ ho
/- spec.Narrower -/
def phi_24 : Nat → List D → List D
  | 21, [d] => [.bool (patOk d)]
  | _, _ => []
theorem pc_24 (a b : D) : PC Try.prog 24 [.st [(.int .i64), (.int .i64), (.int .i64), (.int .i64), (.int .i64), (.int .i64), (.int .i64)] a, .st [(.int .i64), (.int .i64), (.int .i64), (.int .i64), (.int .i64), (.int .i64), (.int .i64)] b] [.sc .bool] fun o => o = [.bool (narrower a b)] := by
  refine PC.of_sig mix sig_24 ⟨rfl, rfl, trivial⟩ rfl fun hok => ?_
  have e_a : D.lst [a.fld 0, a.fld 1, a.fld 2, a.fld 3, a.fld 4, a.fld 5, a.fld 6] = a := by simpa [List.range, List.range.loop] using okL_eta (hok _ (.head _))
  have e_b : D.lst [b.fld 0, b.fld 1, b.fld 2, b.fld 3, b.fld 4, b.fld 5, b.fld 6] = b := by simpa [List.range, List.range.loop] using okL_eta (hok _ (.tail _ (.head _)))
  apply says_den (φ := phi_24)
  simp [e_a, e_b, tree_24, T.says, X.den, O1.den, O2.den, O3.den, callD, XArg.ev, XArg.dat, Callee'.num, backs, DArg.back, Conds.den, phi_24, pd_21]
  (repeat' (first | apply And.intro | intro _)) <;> grind [narrower, demands]
theorem pd_24 (a b : D) (Q : List D → Prop) (ho : Q [.bool (narrower a b)]) : PC Try.prog 24 [.st [(.int .i64), (.int .i64), (.int .i64), (.int .i64), (.int .i64), (.int .i64), (.int .i64)] a, .st [(.int .i64), (.int .i64), (.int .i64), (.int .i64), (.int .i64), (.int .i64), (.int .i64)] b] [.sc .bool] Q := (pc_24 a b).mono fun _ h => h ▸ ho
/- impl.from -/
theorem pc_57 (a b c : D) : PC Try.prog 57 [.sc (.int .i64) a, .sc (.int .i64) b, .sc (.int .i64) c] [.sc .bool] fun o => o = [.bool (inR a.toI b.toI c.toI)] := by
  refine PC.of_sig mix sig_57 ⟨rfl, rfl, rfl, trivial⟩ rfl fun hok => ?_
  apply says_den (φ := fun _ _ => [])
  simp [tree_57, T.says, X.den, O1.den, O2.den, O3.den, callD, XArg.ev, XArg.dat, Callee'.num, backs, DArg.back, Conds.den, inR]
theorem pd_57 (a b c : D) (Q : List D → Prop) (ho : Q [.bool (inR a.toI b.toI c.toI)]) : PC Try.prog 57 [.sc (.int .i64) a, .sc (.int .i64) b, .sc (.int .i64) c] [.sc .bool] Q := (pc_57 a b c).mono fun _ h => h ▸ ho
/- impl.isKind -/
def phi_58 : Nat → List D → List D
  | 57, [a, b, c] => [.bool (inR a.toI b.toI c.toI)]
  | _, _ => []
theorem pc_58 (a : D) : PC Try.prog 58 [.sc (.int .i64) a] [.sc .bool] fun o => o = [.bool (inR a.toI 1 6)] := by
  refine PC.of_sig mix sig_58 ⟨rfl, trivial⟩ rfl fun hok => ?_
  apply says_den (φ := phi_58)
  simp [tree_58, T.says, X.den, O1.den, O2.den, O3.den, callD, XArg.ev, XArg.dat, Callee'.num, backs, DArg.back, Conds.den, phi_58, pd_57]
theorem pd_58 (a : D) (Q : List D → Prop) (ho : Q [.bool (inR a.toI 1 6)]) : PC Try.prog 58 [.sc (.int .i64) a] [.sc .bool] Q := (pc_58 a).mono fun _ h => h ▸ ho
/- impl.isTraits -/
def phi_59 : Nat → List D → List D
  | 57, [a, b, c] => [.bool (inR a.toI b.toI c.toI)]
  | _, _ => []
theorem pc_59 (a : D) : PC Try.prog 59 [.sc (.int .i64) a] [.sc .bool] fun o => o = [.bool (inR a.toI 0 63)] := by
  refine PC.of_sig mix sig_59 ⟨rfl, trivial⟩ rfl fun hok => ?_
  apply says_den (φ := phi_59)
  simp [tree_59, T.says, X.den, O1.den, O2.den, O3.den, callD, XArg.ev, XArg.dat, Callee'.num, backs, DArg.back, Conds.den, phi_59, pd_57]
theorem pd_59 (a : D) (Q : List D → Prop) (ho : Q [.bool (inR a.toI 0 63)]) : PC Try.prog 59 [.sc (.int .i64) a] [.sc .bool] Q := (pc_59 a).mono fun _ h => h ▸ ho
/- impl.isAmount -/
def phi_60 : Nat → List D → List D
  | 57, [a, b, c] => [.bool (inR a.toI b.toI c.toI)]
  | _, _ => []
theorem pc_60 (a : D) : PC Try.prog 60 [.sc (.int .i64) a] [.sc .bool] fun o => o = [.bool (inR a.toI 0 2147483647)] := by
  refine PC.of_sig mix sig_60 ⟨rfl, trivial⟩ rfl fun hok => ?_
  apply says_den (φ := phi_60)
  simp [tree_60, T.says, X.den, O1.den, O2.den, O3.den, callD, XArg.ev, XArg.dat, Callee'.num, backs, DArg.back, Conds.den, phi_60, pd_57]
theorem pd_60 (a : D) (Q : List D → Prop) (ho : Q [.bool (inR a.toI 0 2147483647)]) : PC Try.prog 60 [.sc (.int .i64) a] [.sc .bool] Q := (pc_60 a).mono fun _ h => h ▸ ho
/- impl.PatOk -/
def phi_23 : Nat → List D → List D
  | 57, [a, b, c] => [.bool (inR a.toI b.toI c.toI)]
  | 58, [a] => [.bool (inR a.toI 1 6)]
  | 59, [a] => [.bool (inR a.toI 0 63)]
  | 60, [a] => [.bool (inR a.toI 0 2147483647)]
  | _, _ => []
theorem pc_23 (d : D) : PC Try.prog 23 [.st [(.int .i64), (.int .i64), (.int .i64), (.int .i64), (.int .i64), (.int .i64), (.int .i64)] d] [.sc .bool] fun o => o = [.bool (patOk d)] := by
  refine PC.of_sig mix sig_23 ⟨rfl, trivial⟩ rfl fun hok => ?_
  have e_d : D.lst [d.fld 0, d.fld 1, d.fld 2, d.fld 3, d.fld 4, d.fld 5, d.fld 6] = d := by simpa [List.range, List.range.loop] using okL_eta (hok _ (.head _))
  apply says_den (φ := phi_23)
  simp [e_d, tree_23, T.says, X.den, O1.den, O2.den, O3.den, callD, XArg.ev, XArg.dat, Callee'.num, backs, DArg.back, Conds.den, phi_23, pd_57, pd_58, pd_59, pd_60]
  (repeat' (first | apply And.intro | intro _)) <;> grind [patOk]
theorem pd_23 (d : D) (Q : List D → Prop) (ho : Q [.bool (patOk d)]) : PC Try.prog 23 [.st [(.int .i64), (.int .i64), (.int .i64), (.int .i64), (.int .i64), (.int .i64), (.int .i64)] d] [.sc .bool] Q := (pc_23 d).mono fun _ h => h ▸ ho
/- impl.demands -/
theorem pc_61 (a b : D) : PC Try.prog 61 [.sc (.int .i64) a, .sc (.int .i64) b] [.sc .bool] fun o => o = [.bool (demands a.toI b.toI)] := by
  refine PC.of_sig mix sig_61 ⟨rfl, rfl, trivial⟩ rfl fun hok => ?_
  apply says_den (φ := fun _ _ => [])
  simp [tree_61, T.says, X.den, O1.den, O2.den, O3.den, callD, XArg.ev, XArg.dat, Callee'.num, backs, DArg.back, Conds.den, demands]
theorem pd_61 (a b : D) (Q : List D → Prop) (ho : Q [.bool (demands a.toI b.toI)]) : PC Try.prog 61 [.sc (.int .i64) a, .sc (.int .i64) b] [.sc .bool] Q := (pc_61 a b).mono fun _ h => h ▸ ho
/- impl.Narrower -/
def phi_25 : Nat → List D → List D
  | 23, [d] => [.bool (patOk d)]
  | 61, [a, b] => [.bool (demands a.toI b.toI)]
  | _, _ => []
theorem pc_25 (a b : D) : PC Try.prog 25 [.st [(.int .i64), (.int .i64), (.int .i64), (.int .i64), (.int .i64), (.int .i64), (.int .i64)] a, .st [(.int .i64), (.int .i64), (.int .i64), (.int .i64), (.int .i64), (.int .i64), (.int .i64)] b] [.sc .bool] fun o => o = [.bool (narrower a b)] := by
  refine PC.of_sig mix sig_25 ⟨rfl, rfl, trivial⟩ rfl fun hok => ?_
  have e_a : D.lst [a.fld 0, a.fld 1, a.fld 2, a.fld 3, a.fld 4, a.fld 5, a.fld 6] = a := by simpa [List.range, List.range.loop] using okL_eta (hok _ (.head _))
  have e_b : D.lst [b.fld 0, b.fld 1, b.fld 2, b.fld 3, b.fld 4, b.fld 5, b.fld 6] = b := by simpa [List.range, List.range.loop] using okL_eta (hok _ (.tail _ (.head _)))
  apply says_den (φ := phi_25)
  simp [e_a, e_b, tree_25, T.says, X.den, O1.den, O2.den, O3.den, callD, XArg.ev, XArg.dat, Callee'.num, backs, DArg.back, Conds.den, phi_25, pd_23, pd_61]
  (repeat' (first | apply And.intro | intro _)) <;> grind [narrower]
theorem pd_25 (a b : D) (Q : List D → Prop) (ho : Q [.bool (narrower a b)]) : PC Try.prog 25 [.st [(.int .i64), (.int .i64), (.int .i64), (.int .i64), (.int .i64), (.int .i64), (.int .i64)] a, .st [(.int .i64), (.int .i64), (.int .i64), (.int .i64), (.int .i64), (.int .i64), (.int .i64)] b] [.sc .bool] Q := (pc_25 a b).mono fun _ h => h ▸ ho
end Go.Proofs.Ytflegfieiemipaa
