/- The contracts of the functions that this claim reaches: what each hands back, for all data. -/
import Derived.Test.YtflegfieiemipaaT
import Derived.Test.YtflegfieiemipaaS
namespace Go.Proofs.Ytflegfieiemipaa
open Go.Proofs.Ytflegfieiemipaa.Eng
set_option maxRecDepth 100000
set_option linter.unusedSimpArgs false
set_option linter.unusedVariables false
/- laws.szEventS -/
theorem pc_36 (d n : D) (hn : 0 ≤ n.toI) : PC Try.prog 36 [.sc (.sl [(.int .i64), (.int .i64), (.int .i64), (.int .i64), (.int .i64), (.int .i64), .bool]) d, .sc (.int .i64) n] [.sc (.int .i64)] fun o => o = [.int (szS n.toI d.toL.length)] := by
  refine PC.of_sig mix sig_36 ⟨rfl, rfl, trivial⟩ rfl fun hok => ?_
  have e_d := sl_eta (hok _ (.head _))
  have l_d := sl_len (hok _ (.head _))
  have k_d := sl_all (hok _ (.head _))
  have E_d : ∀ i, i < d.toL.length → D.lst [(d.elem i).fld 0, (d.elem i).fld 1, (d.elem i).fld 2, (d.elem i).fld 3, (d.elem i).fld 4, (d.elem i).fld 5, (d.elem i).fld 6] = d.elem i := fun i hi => by simpa [List.range, List.range.loop] using okL_eta (k_d _ (elem_mem hi))
  have e_n := int_eta (hok _ (.tail _ (.head _)))
  have b_n := int_range (hok _ (.tail _ (.head _)))
  have hw : IntKind.i64.wrap (n.toI - d.toL.length) = n.toI - d.toL.length := by (first | omega | (simp only [IntKind.wrap_i64, maxL] at *; omega) | (simp [IntKind.wrap_i64, maxL] at *; omega))
  apply says_den (φ := fun _ _ => [])
  simp [e_d, e_n, E_d, tree_36, T.says, X.den, O1.den, O2.den, O3.den, callD, XArg.ev, XArg.dat, Callee'.num, backs, DArg.back, Conds.den, cloArgs, hw, szS]
  all_goals grind
theorem pd_36 (d n : D) (hn : 0 ≤ n.toI) (Q : List D → Prop) (ho : Q [.int (szS n.toI d.toL.length)]) : PC Try.prog 36 [.sc (.sl [(.int .i64), (.int .i64), (.int .i64), (.int .i64), (.int .i64), (.int .i64), .bool]) d, .sc (.int .i64) n] [.sc (.int .i64)] Q := (pc_36 d n hn).mono fun _ h => h ▸ ho
/- laws.szAct -/
def phi_46 : Nat → List D → List D
  | 36, [d, n] => [.int (szS n.toI d.toL.length)]
  | _, _ => []
theorem pc_46 (d n : D) (hn : 0 ≤ n.toI) : PC Try.prog 46 [.st [(.int .i64), (.int .i64), (.int .i64), (.int .i64), (.int .i64), .bool, (.sl [(.int .i64), (.int .i64), (.int .i64), (.int .i64), (.int .i64), (.int .i64), .bool])] d, .sc (.int .i64) n] [.sc (.int .i64)] fun o => o = [.int (szS n.toI (d.fld 6).toL.length)] := by
  refine PC.of_sig mix sig_46 ⟨rfl, rfl, trivial⟩ rfl fun hok => ?_
  have e_d : D.lst [d.fld 0, d.fld 1, d.fld 2, d.fld 3, d.fld 4, d.fld 5, d.fld 6] = d := by simpa [List.range, List.range.loop] using okL_eta (hok _ (.head _))
  have k_d : okL [(.int .i64), (.int .i64), (.int .i64), (.int .i64), (.int .i64), .bool, (.sl [(.int .i64), (.int .i64), (.int .i64), (.int .i64), (.int .i64), (.int .i64), .bool])] d := (hok _ (.head _))
  have e_n := int_eta (hok _ (.tail _ (.head _)))
  have b_n := int_range (hok _ (.tail _ (.head _)))
  apply says_den (φ := phi_46)
  simp [e_d, e_n, tree_46, T.says, X.den, O1.den, O2.den, O3.den, callD, XArg.ev, XArg.dat, Callee'.num, backs, DArg.back, Conds.den, cloArgs, phi_46, pd_36]
  (repeat' (first | (with_reducible apply And.intro) | intro _)) <;> first | (first | assumption | (first | omega | (simp only [IntKind.wrap_i64, maxL] at *; omega) | (simp [IntKind.wrap_i64, maxL] at *; omega)) | rfl | contradiction | (exact pd_36 _ _ (by first | assumption | omega | (simp; done) | (simp; omega) | (simp [*]; done) | (simp [*] at *; omega) | grind [szS]) _ (by first | rfl | simp | (simp; omega))) | grind) | grind [szS]
theorem pd_46 (d n : D) (hn : 0 ≤ n.toI) (Q : List D → Prop) (ho : Q [.int (szS n.toI (d.fld 6).toL.length)]) : PC Try.prog 46 [.st [(.int .i64), (.int .i64), (.int .i64), (.int .i64), (.int .i64), .bool, (.sl [(.int .i64), (.int .i64), (.int .i64), (.int .i64), (.int .i64), (.int .i64), .bool])] d, .sc (.int .i64) n] [.sc (.int .i64)] Q := (pc_46 d n hn).mono fun _ h => h ▸ ho
/- laws.toEvent -/
theorem pc_16 (d : D) : PC Try.prog 16 [.st [(.int .i64), (.int .i64), (.int .i64), (.int .i64), (.int .i64), (.int .i64), .bool] d] [.st [(.int .i64), (.int .i64), (.int .i64), (.int .i64), (.int .i64), (.int .i64), .bool]] fun o => o = [d] := by
  refine PC.of_sig mix sig_16 ⟨rfl, trivial⟩ rfl fun hok => ?_
  have e_d : D.lst [d.fld 0, d.fld 1, d.fld 2, d.fld 3, d.fld 4, d.fld 5, d.fld 6] = d := by simpa [List.range, List.range.loop] using okL_eta (hok _ (.head _))
  have k_d : okL [(.int .i64), (.int .i64), (.int .i64), (.int .i64), (.int .i64), (.int .i64), .bool] d := (hok _ (.head _))
  apply says_den (φ := fun _ _ => [])
  simp [e_d, tree_16, T.says, X.den, O1.den, O2.den, O3.den, callD, XArg.ev, XArg.dat, Callee'.num, backs, DArg.back, Conds.den, cloArgs]
theorem pd_16 (d : D) (Q : List D → Prop) (ho : Q [d]) : PC Try.prog 16 [.st [(.int .i64), (.int .i64), (.int .i64), (.int .i64), (.int .i64), (.int .i64), .bool] d] [.st [(.int .i64), (.int .i64), (.int .i64), (.int .i64), (.int .i64), (.int .i64), .bool]] Q := (pc_16 d).mono fun _ h => h ▸ ho
/- laws.toEventS -/
def phi_38 : Nat → List D → List D
  | 16, [d] => [d]
  | _, _ => []
theorem pc_38 (d : D) (h : (d.toL.length : Int) ≤ 1048576) : PC Try.prog 38 [.sc (.sl [(.int .i64), (.int .i64), (.int .i64), (.int .i64), (.int .i64), (.int .i64), .bool]) d] [.sc (.sl [(.int .i64), (.int .i64), (.int .i64), (.int .i64), (.int .i64), (.int .i64), .bool])] fun o => o = [d] := by
  refine PC.of_sig mix sig_38 ⟨rfl, trivial⟩ rfl fun hok => ?_
  have e_d := sl_eta (hok _ (.head _))
  have l_d := sl_len (hok _ (.head _))
  have k_d := sl_all (hok _ (.head _))
  have E_d : ∀ i, i < d.toL.length → D.lst [(d.elem i).fld 0, (d.elem i).fld 1, (d.elem i).fld 2, (d.elem i).fld 3, (d.elem i).fld 4, (d.elem i).fld 5, (d.elem i).fld 6] = d.elem i := fun i hi => by simpa [List.range, List.range.loop] using okL_eta (k_d _ (elem_mem hi))
  apply says_den (φ := phi_38)
  simp [e_d, E_d, tree_38, T.says, X.den, O1.den, O2.den, O3.den, callD, XArg.ev, XArg.dat, Callee'.num, backs, DArg.back, Conds.den, cloArgs, phi_38, pd_16] at h ⊢
  refine fun _ => ⟨by omega, ?_⟩
  refine den_for d.toL.length 0 (fun i => [.int i, .lst (d.toL.take i ++ List.replicate (d.toL.length - i) (.lst [.int 0, .int 0, .int 0, .int 0, .int 0, .int 0, .bool false]))]) (fun _ => True) (by simp) (by simp [X.den, O1.den, O2.den]) trivial fun i hi _ => ?_
  apply says_den (φ := phi_38)
  by_cases hlt : i < d.toL.length
  · simp [e_d, E_d, tree_38, T.says, X.den, O1.den, O2.den, O3.den, callD, XArg.ev, XArg.dat, Callee'.num, backs, DArg.back, Conds.den, cloArgs, phi_38, pd_16, hlt]
    (repeat' (first | (with_reducible apply And.intro) | intro _)) <;> first | (exact copy_step hlt rfl) | (exact copy_step hlt (eta1 (k_d _ (elem_mem hlt)))) | (first | assumption | (first | omega | (simp only [IntKind.wrap_i64, maxL] at *; omega) | (simp [IntKind.wrap_i64, maxL] at *; omega)) | rfl | contradiction | (exact pd_16 _ _ (by first | rfl | simp | (simp; omega))) | grind)
  · simp [e_d, E_d, tree_38, T.says, X.den, O1.den, O2.den, O3.den, callD, XArg.ev, XArg.dat, Callee'.num, backs, DArg.back, Conds.den, cloArgs, phi_38, pd_16, hlt]
    (repeat' (first | (with_reducible apply And.intro) | intro _)) <;> first | (rw [copy_end (by omega), e_d]) | (first | assumption | (first | omega | (simp only [IntKind.wrap_i64, maxL] at *; omega) | (simp [IntKind.wrap_i64, maxL] at *; omega)) | rfl | contradiction | (exact pd_16 _ _ (by first | rfl | simp | (simp; omega))) | grind)
theorem pd_38 (d : D) (h : (d.toL.length : Int) ≤ 1048576) (Q : List D → Prop) (ho : Q [d]) : PC Try.prog 38 [.sc (.sl [(.int .i64), (.int .i64), (.int .i64), (.int .i64), (.int .i64), (.int .i64), .bool]) d] [.sc (.sl [(.int .i64), (.int .i64), (.int .i64), (.int .i64), (.int .i64), (.int .i64), .bool])] Q := (pc_38 d h).mono fun _ h => h ▸ ho
/- laws.toAct -/
def phi_48 : Nat → List D → List D
  | 38, [d] => [d]
  | _, _ => []
theorem pc_48 (d : D) (h : ((d.fld 6).toL.length : Int) ≤ 1048576) : PC Try.prog 48 [.st [(.int .i64), (.int .i64), (.int .i64), (.int .i64), (.int .i64), .bool, (.sl [(.int .i64), (.int .i64), (.int .i64), (.int .i64), (.int .i64), (.int .i64), .bool])] d] [.st [(.int .i64), (.int .i64), (.int .i64), (.int .i64), (.int .i64), .bool, (.sl [(.int .i64), (.int .i64), (.int .i64), (.int .i64), (.int .i64), (.int .i64), .bool])]] fun o => o = [d] := by
  refine PC.of_sig mix sig_48 ⟨rfl, trivial⟩ rfl fun hok => ?_
  have e_d : D.lst [d.fld 0, d.fld 1, d.fld 2, d.fld 3, d.fld 4, d.fld 5, d.fld 6] = d := by simpa [List.range, List.range.loop] using okL_eta (hok _ (.head _))
  have k_d : okL [(.int .i64), (.int .i64), (.int .i64), (.int .i64), (.int .i64), .bool, (.sl [(.int .i64), (.int .i64), (.int .i64), (.int .i64), (.int .i64), (.int .i64), .bool])] d := (hok _ (.head _))
  apply says_den (φ := phi_48)
  simp [e_d, tree_48, T.says, X.den, O1.den, O2.den, O3.den, callD, XArg.ev, XArg.dat, Callee'.num, backs, DArg.back, Conds.den, cloArgs, phi_48, pd_38]
  (repeat' (first | (with_reducible apply And.intro) | intro _)) <;> (first | assumption | (first | omega | (simp only [IntKind.wrap_i64, maxL] at *; omega) | (simp [IntKind.wrap_i64, maxL] at *; omega)) | rfl | contradiction | (exact pd_38 _ (by first | assumption | omega | (simp; done) | (simp; omega) | (simp [*]; done) | (simp [*] at *; omega) | grind [szS]) _ (by first | rfl | simp | (simp; omega))) | grind)
theorem pd_48 (d : D) (h : ((d.fld 6).toL.length : Int) ≤ 1048576) (Q : List D → Prop) (ho : Q [d]) : PC Try.prog 48 [.st [(.int .i64), (.int .i64), (.int .i64), (.int .i64), (.int .i64), .bool, (.sl [(.int .i64), (.int .i64), (.int .i64), (.int .i64), (.int .i64), (.int .i64), .bool])] d] [.st [(.int .i64), (.int .i64), (.int .i64), (.int .i64), (.int .i64), .bool, (.sl [(.int .i64), (.int .i64), (.int .i64), (.int .i64), (.int .i64), (.int .i64), .bool])]] Q := (pc_48 d h).mono fun _ h => h ▸ ho
/- laws.eqEvent -/
theorem pc_65 (d e : D) (h : d = e) : PC Try.prog 65 [.st [(.int .i64), (.int .i64), (.int .i64), (.int .i64), (.int .i64), (.int .i64), .bool] d, .st [(.int .i64), (.int .i64), (.int .i64), (.int .i64), (.int .i64), (.int .i64), .bool] e] [.sc .bool] fun o => o = [.bool true] := by
  refine PC.of_sig mix sig_65 ⟨rfl, rfl, trivial⟩ rfl fun hok => ?_
  have e_d : D.lst [d.fld 0, d.fld 1, d.fld 2, d.fld 3, d.fld 4, d.fld 5, d.fld 6] = d := by simpa [List.range, List.range.loop] using okL_eta (hok _ (.head _))
  have k_d : okL [(.int .i64), (.int .i64), (.int .i64), (.int .i64), (.int .i64), (.int .i64), .bool] d := (hok _ (.head _))
  have e_e : D.lst [e.fld 0, e.fld 1, e.fld 2, e.fld 3, e.fld 4, e.fld 5, e.fld 6] = e := by simpa [List.range, List.range.loop] using okL_eta (hok _ (.tail _ (.head _)))
  have k_e : okL [(.int .i64), (.int .i64), (.int .i64), (.int .i64), (.int .i64), (.int .i64), .bool] e := (hok _ (.tail _ (.head _)))
  subst h
  apply says_den (φ := fun _ _ => [])
  simp [e_d, e_e, tree_65, T.says, X.den, O1.den, O2.den, O3.den, callD, XArg.ev, XArg.dat, Callee'.num, backs, DArg.back, Conds.den, cloArgs]
theorem pd_65 (d e : D) (h : d = e) (Q : List D → Prop) (ho : Q [.bool true]) : PC Try.prog 65 [.st [(.int .i64), (.int .i64), (.int .i64), (.int .i64), (.int .i64), (.int .i64), .bool] d, .st [(.int .i64), (.int .i64), (.int .i64), (.int .i64), (.int .i64), (.int .i64), .bool] e] [.sc .bool] Q := (pc_65 d e h).mono fun _ h => h ▸ ho
/- laws.eqEventS -/
def phi_40 : Nat → List D → List D
  | 65, [d, e] => [.bool true]
  | _, _ => []
theorem pc_40 (d e : D) (h : d = e) : PC Try.prog 40 [.sc (.sl [(.int .i64), (.int .i64), (.int .i64), (.int .i64), (.int .i64), (.int .i64), .bool]) d, .sc (.sl [(.int .i64), (.int .i64), (.int .i64), (.int .i64), (.int .i64), (.int .i64), .bool]) e] [.sc .bool] fun o => o = [.bool true] := by
  refine PC.of_sig mix sig_40 ⟨rfl, rfl, trivial⟩ rfl fun hok => ?_
  have e_d := sl_eta (hok _ (.head _))
  have l_d := sl_len (hok _ (.head _))
  have k_d := sl_all (hok _ (.head _))
  have E_d : ∀ i, i < d.toL.length → D.lst [(d.elem i).fld 0, (d.elem i).fld 1, (d.elem i).fld 2, (d.elem i).fld 3, (d.elem i).fld 4, (d.elem i).fld 5, (d.elem i).fld 6] = d.elem i := fun i hi => by simpa [List.range, List.range.loop] using okL_eta (k_d _ (elem_mem hi))
  have e_e := sl_eta (hok _ (.tail _ (.head _)))
  have l_e := sl_len (hok _ (.tail _ (.head _)))
  have k_e := sl_all (hok _ (.tail _ (.head _)))
  have E_e : ∀ i, i < e.toL.length → D.lst [(e.elem i).fld 0, (e.elem i).fld 1, (e.elem i).fld 2, (e.elem i).fld 3, (e.elem i).fld 4, (e.elem i).fld 5, (e.elem i).fld 6] = e.elem i := fun i hi => by simpa [List.range, List.range.loop] using okL_eta (k_e _ (elem_mem hi))
  subst h
  apply says_den (φ := phi_40)
  simp [e_d, e_e, E_d, E_e, tree_40, T.says, X.den, O1.den, O2.den, O3.den, callD, XArg.ev, XArg.dat, Callee'.num, backs, DArg.back, Conds.den, cloArgs, phi_40, pd_65]
  refine fun _ => ?_
  refine den_for d.toL.length 0 (fun i => [.int i]) (fun _ => True) (by simp) (by simp [X.den]) trivial fun i hi _ => ?_
  apply says_den (φ := phi_40)
  simp [e_d, e_e, E_d, E_e, tree_40, T.says, X.den, O1.den, O2.den, O3.den, callD, XArg.ev, XArg.dat, Callee'.num, backs, DArg.back, Conds.den, cloArgs, phi_40, pd_65]
  (repeat' (first | (with_reducible apply And.intro) | intro _)) <;> (first | omega | (simp only [IntKind.wrap_i64, maxL] at *; omega) | (simp [IntKind.wrap_i64, maxL] at *; omega))
theorem pd_40 (d e : D) (h : d = e) (Q : List D → Prop) (ho : Q [.bool true]) : PC Try.prog 40 [.sc (.sl [(.int .i64), (.int .i64), (.int .i64), (.int .i64), (.int .i64), (.int .i64), .bool]) d, .sc (.sl [(.int .i64), (.int .i64), (.int .i64), (.int .i64), (.int .i64), (.int .i64), .bool]) e] [.sc .bool] Q := (pc_40 d e h).mono fun _ h => h ▸ ho
/- laws.eqAct -/
def phi_50 : Nat → List D → List D
  | 40, [d, e] => [.bool true]
  | _, _ => []
theorem pc_50 (d e : D) (h : d = e) : PC Try.prog 50 [.st [(.int .i64), (.int .i64), (.int .i64), (.int .i64), (.int .i64), .bool, (.sl [(.int .i64), (.int .i64), (.int .i64), (.int .i64), (.int .i64), (.int .i64), .bool])] d, .st [(.int .i64), (.int .i64), (.int .i64), (.int .i64), (.int .i64), .bool, (.sl [(.int .i64), (.int .i64), (.int .i64), (.int .i64), (.int .i64), (.int .i64), .bool])] e] [.sc .bool] fun o => o = [.bool true] := by
  refine PC.of_sig mix sig_50 ⟨rfl, rfl, trivial⟩ rfl fun hok => ?_
  have e_d : D.lst [d.fld 0, d.fld 1, d.fld 2, d.fld 3, d.fld 4, d.fld 5, d.fld 6] = d := by simpa [List.range, List.range.loop] using okL_eta (hok _ (.head _))
  have k_d : okL [(.int .i64), (.int .i64), (.int .i64), (.int .i64), (.int .i64), .bool, (.sl [(.int .i64), (.int .i64), (.int .i64), (.int .i64), (.int .i64), (.int .i64), .bool])] d := (hok _ (.head _))
  have e_e : D.lst [e.fld 0, e.fld 1, e.fld 2, e.fld 3, e.fld 4, e.fld 5, e.fld 6] = e := by simpa [List.range, List.range.loop] using okL_eta (hok _ (.tail _ (.head _)))
  have k_e : okL [(.int .i64), (.int .i64), (.int .i64), (.int .i64), (.int .i64), .bool, (.sl [(.int .i64), (.int .i64), (.int .i64), (.int .i64), (.int .i64), (.int .i64), .bool])] e := (hok _ (.tail _ (.head _)))
  subst h
  apply says_den (φ := phi_50)
  simp [e_d, e_e, tree_50, T.says, X.den, O1.den, O2.den, O3.den, callD, XArg.ev, XArg.dat, Callee'.num, backs, DArg.back, Conds.den, cloArgs, phi_50, pd_40]
theorem pd_50 (d e : D) (h : d = e) (Q : List D → Prop) (ho : Q [.bool true]) : PC Try.prog 50 [.st [(.int .i64), (.int .i64), (.int .i64), (.int .i64), (.int .i64), .bool, (.sl [(.int .i64), (.int .i64), (.int .i64), (.int .i64), (.int .i64), (.int .i64), .bool])] d, .st [(.int .i64), (.int .i64), (.int .i64), (.int .i64), (.int .i64), .bool, (.sl [(.int .i64), (.int .i64), (.int .i64), (.int .i64), (.int .i64), (.int .i64), .bool])] e] [.sc .bool] Q := (pc_50 d e h).mono fun _ h => h ▸ ho
/- spec.Upto -/
theorem pc_63 (a b : D) : PC Try.prog 63 [.sc (.int .i64) a, .sc (.int .i64) b] [.sc (.int .i64)] fun o => o = [.int (upto a.toI b.toI)] := by
  refine PC.of_sig mix sig_63 ⟨rfl, rfl, trivial⟩ rfl fun hok => ?_
  have e_a := int_eta (hok _ (.head _))
  have b_a := int_range (hok _ (.head _))
  have e_b := int_eta (hok _ (.tail _ (.head _)))
  have b_b := int_range (hok _ (.tail _ (.head _)))
  apply says_den (φ := fun _ _ => [])
  simp [e_a, e_b, tree_63, T.says, X.den, O1.den, O2.den, O3.den, callD, XArg.ev, XArg.dat, Callee'.num, backs, DArg.back, Conds.den, cloArgs]
  grind [upto]
theorem pd_63 (a b : D) (Q : List D → Prop) (ho : Q [.int (upto a.toI b.toI)]) : PC Try.prog 63 [.sc (.int .i64) a, .sc (.int .i64) b] [.sc (.int .i64)] Q := (pc_63 a b).mono fun _ h => h ▸ ho
/- spec.Bound -/
theorem pc_79 (a : D) : PC Try.prog 79 [.sc (.int .i64) a] [.sc (.int .i64)] fun o => o = [.int (bound a.toI)] := by
  refine PC.of_sig mix sig_79 ⟨rfl, trivial⟩ rfl fun hok => ?_
  have e_a := int_eta (hok _ (.head _))
  have b_a := int_range (hok _ (.head _))
  apply says_den (φ := fun _ _ => [])
  simp [e_a, tree_79, T.says, X.den, O1.den, O2.den, O3.den, callD, XArg.ev, XArg.dat, Callee'.num, backs, DArg.back, Conds.den, cloArgs]
  (repeat' (first | (with_reducible apply And.intro) | intro _)) <;> grind [bound]
theorem pd_79 (a : D) (Q : List D → Prop) (ho : Q [.int (bound a.toI)]) : PC Try.prog 79 [.sc (.int .i64) a] [.sc (.int .i64)] Q := (pc_79 a).mono fun _ h => h ▸ ho
/- spec.Plus -/
def phi_67 : Nat → List D → List D
  | 79, [a] => [.int (bound a.toI)]
  | _, _ => []
theorem pc_67 (a b : D) : PC Try.prog 67 [.sc (.int .i64) a, .sc (.int .i64) b] [.sc (.int .i64)] fun o => o = [.int (plus a.toI b.toI)] := by
  refine PC.of_sig mix sig_67 ⟨rfl, rfl, trivial⟩ rfl fun hok => ?_
  have e_a := int_eta (hok _ (.head _))
  have b_a := int_range (hok _ (.head _))
  have e_b := int_eta (hok _ (.tail _ (.head _)))
  have b_b := int_range (hok _ (.tail _ (.head _)))
  apply says_den (φ := phi_67)
  simp [e_a, e_b, tree_67, T.says, X.den, O1.den, O2.den, O3.den, callD, XArg.ev, XArg.dat, Callee'.num, backs, DArg.back, Conds.den, cloArgs, phi_67, pd_79, plus]
theorem pd_67 (a b : D) (Q : List D → Prop) (ho : Q [.int (plus a.toI b.toI)]) : PC Try.prog 67 [.sc (.int .i64) a, .sc (.int .i64) b] [.sc (.int .i64)] Q := (pc_67 a b).mono fun _ h => h ▸ ho
/- spec.Twice -/
def phi_68 : Nat → List D → List D
  | 79, [a] => [.int (bound a.toI)]
  | _, _ => []
theorem pc_68 (a : D) : PC Try.prog 68 [.sc (.int .i64) a] [.sc (.int .i64)] fun o => o = [.int (twice a.toI)] := by
  refine PC.of_sig mix sig_68 ⟨rfl, trivial⟩ rfl fun hok => ?_
  have e_a := int_eta (hok _ (.head _))
  have b_a := int_range (hok _ (.head _))
  apply says_den (φ := phi_68)
  simp [e_a, tree_68, T.says, X.den, O1.den, O2.den, O3.den, callD, XArg.ev, XArg.dat, Callee'.num, backs, DArg.back, Conds.den, cloArgs, phi_68, pd_79, twice]
theorem pd_68 (a : D) (Q : List D → Prop) (ho : Q [.int (twice a.toI)]) : PC Try.prog 68 [.sc (.int .i64) a] [.sc (.int .i64)] Q := (pc_68 a).mono fun _ h => h ▸ ho
/- spec.Half -/
def phi_69 : Nat → List D → List D
  | 79, [a] => [.int (bound a.toI)]
  | _, _ => []
theorem pc_69 (a : D) : PC Try.prog 69 [.sc (.int .i64) a] [.sc (.int .i64)] fun o => o = [.int (half a.toI)] := by
  refine PC.of_sig mix sig_69 ⟨rfl, trivial⟩ rfl fun hok => ?_
  have e_a := int_eta (hok _ (.head _))
  have b_a := int_range (hok _ (.head _))
  apply says_den (φ := phi_69)
  simp [e_a, tree_69, T.says, X.den, O1.den, O2.den, O3.den, callD, XArg.ev, XArg.dat, Callee'.num, backs, DArg.back, Conds.den, cloArgs, phi_69, pd_79, half]
theorem pd_69 (a : D) (Q : List D → Prop) (ho : Q [.int (half a.toI)]) : PC Try.prog 69 [.sc (.int .i64) a] [.sc (.int .i64)] Q := (pc_69 a).mono fun _ h => h ▸ ho
/- spec.Amount -/
def phi_51 : Nat → List D → List D
  | 63, [a, b] => [.int (upto a.toI b.toI)]
  | 67, [a, b] => [.int (plus a.toI b.toI)]
  | 68, [a] => [.int (twice a.toI)]
  | 69, [a] => [.int (half a.toI)]
  | _, _ => []
theorem pc_51 (a n : D) : PC Try.prog 51 [.st [(.int .i64), (.int .i64), (.int .i64), (.int .i64), (.int .i64), .bool, (.sl [(.int .i64), (.int .i64), (.int .i64), (.int .i64), (.int .i64), (.int .i64), .bool])] a, .sc (.int .i64) n] [.sc (.int .i64)] fun o => o = [.int (amount a n.toI)] := by
  refine PC.of_sig mix sig_51 ⟨rfl, rfl, trivial⟩ rfl fun hok => ?_
  have e_a : D.lst [a.fld 0, a.fld 1, a.fld 2, a.fld 3, a.fld 4, a.fld 5, a.fld 6] = a := by simpa [List.range, List.range.loop] using okL_eta (hok _ (.head _))
  have k_a : okL [(.int .i64), (.int .i64), (.int .i64), (.int .i64), (.int .i64), .bool, (.sl [(.int .i64), (.int .i64), (.int .i64), (.int .i64), (.int .i64), (.int .i64), .bool])] a := (hok _ (.head _))
  have e_n := int_eta (hok _ (.tail _ (.head _)))
  have b_n := int_range (hok _ (.tail _ (.head _)))
  apply says_den (φ := phi_51)
  simp [e_a, e_n, tree_51, T.says, X.den, O1.den, O2.den, O3.den, callD, XArg.ev, XArg.dat, Callee'.num, backs, DArg.back, Conds.den, cloArgs, phi_51, pd_63, pd_67, pd_68, pd_69]
  (repeat' (first | (with_reducible apply And.intro) | intro _)) <;> grind [amount]
theorem pd_51 (a n : D) (Q : List D → Prop) (ho : Q [.int (amount a n.toI)]) : PC Try.prog 51 [.st [(.int .i64), (.int .i64), (.int .i64), (.int .i64), (.int .i64), .bool, (.sl [(.int .i64), (.int .i64), (.int .i64), (.int .i64), (.int .i64), (.int .i64), .bool])] a, .sc (.int .i64) n] [.sc (.int .i64)] Q := (pc_51 a n).mono fun _ h => h ▸ ho
/- impl.Upto -/
theorem pc_64 (a b : D) : PC Try.prog 64 [.sc (.int .i64) a, .sc (.int .i64) b] [.sc (.int .i64)] fun o => o = [.int (upto a.toI b.toI)] := by
  refine PC.of_sig mix sig_64 ⟨rfl, rfl, trivial⟩ rfl fun hok => ?_
  have e_a := int_eta (hok _ (.head _))
  have b_a := int_range (hok _ (.head _))
  have e_b := int_eta (hok _ (.tail _ (.head _)))
  have b_b := int_range (hok _ (.tail _ (.head _)))
  apply says_den (φ := fun _ _ => [])
  simp [e_a, e_b, tree_64, T.says, X.den, O1.den, O2.den, O3.den, callD, XArg.ev, XArg.dat, Callee'.num, backs, DArg.back, Conds.den, cloArgs]
  grind [upto]
theorem pd_64 (a b : D) (Q : List D → Prop) (ho : Q [.int (upto a.toI b.toI)]) : PC Try.prog 64 [.sc (.int .i64) a, .sc (.int .i64) b] [.sc (.int .i64)] Q := (pc_64 a b).mono fun _ h => h ▸ ho
/- impl.Bound -/
theorem pc_56 (a : D) : PC Try.prog 56 [.sc (.int .i64) a] [.sc (.int .i64)] fun o => o = [.int (bound a.toI)] := by
  refine PC.of_sig mix sig_56 ⟨rfl, trivial⟩ rfl fun hok => ?_
  have e_a := int_eta (hok _ (.head _))
  have b_a := int_range (hok _ (.head _))
  apply says_den (φ := fun _ _ => [])
  simp [e_a, tree_56, T.says, X.den, O1.den, O2.den, O3.den, callD, XArg.ev, XArg.dat, Callee'.num, backs, DArg.back, Conds.den, cloArgs]
  (repeat' (first | (with_reducible apply And.intro) | intro _)) <;> grind [bound]
theorem pd_56 (a : D) (Q : List D → Prop) (ho : Q [.int (bound a.toI)]) : PC Try.prog 56 [.sc (.int .i64) a] [.sc (.int .i64)] Q := (pc_56 a).mono fun _ h => h ▸ ho
/- impl.Plus -/
def phi_70 : Nat → List D → List D
  | 56, [a] => [.int (bound a.toI)]
  | _, _ => []
theorem pc_70 (a b : D) : PC Try.prog 70 [.sc (.int .i64) a, .sc (.int .i64) b] [.sc (.int .i64)] fun o => o = [.int (plus a.toI b.toI)] := by
  refine PC.of_sig mix sig_70 ⟨rfl, rfl, trivial⟩ rfl fun hok => ?_
  have e_a := int_eta (hok _ (.head _))
  have b_a := int_range (hok _ (.head _))
  have e_b := int_eta (hok _ (.tail _ (.head _)))
  have b_b := int_range (hok _ (.tail _ (.head _)))
  apply says_den (φ := phi_70)
  simp [e_a, e_b, tree_70, T.says, X.den, O1.den, O2.den, O3.den, callD, XArg.ev, XArg.dat, Callee'.num, backs, DArg.back, Conds.den, cloArgs, phi_70, pd_56, plus]
theorem pd_70 (a b : D) (Q : List D → Prop) (ho : Q [.int (plus a.toI b.toI)]) : PC Try.prog 70 [.sc (.int .i64) a, .sc (.int .i64) b] [.sc (.int .i64)] Q := (pc_70 a b).mono fun _ h => h ▸ ho
/- impl.Twice -/
def phi_71 : Nat → List D → List D
  | 56, [a] => [.int (bound a.toI)]
  | _, _ => []
theorem pc_71 (a : D) : PC Try.prog 71 [.sc (.int .i64) a] [.sc (.int .i64)] fun o => o = [.int (twice a.toI)] := by
  refine PC.of_sig mix sig_71 ⟨rfl, trivial⟩ rfl fun hok => ?_
  have e_a := int_eta (hok _ (.head _))
  have b_a := int_range (hok _ (.head _))
  apply says_den (φ := phi_71)
  simp [e_a, tree_71, T.says, X.den, O1.den, O2.den, O3.den, callD, XArg.ev, XArg.dat, Callee'.num, backs, DArg.back, Conds.den, cloArgs, phi_71, pd_56, twice]
theorem pd_71 (a : D) (Q : List D → Prop) (ho : Q [.int (twice a.toI)]) : PC Try.prog 71 [.sc (.int .i64) a] [.sc (.int .i64)] Q := (pc_71 a).mono fun _ h => h ▸ ho
/- impl.Half -/
def phi_72 : Nat → List D → List D
  | 56, [a] => [.int (bound a.toI)]
  | _, _ => []
theorem pc_72 (a : D) : PC Try.prog 72 [.sc (.int .i64) a] [.sc (.int .i64)] fun o => o = [.int (half a.toI)] := by
  refine PC.of_sig mix sig_72 ⟨rfl, trivial⟩ rfl fun hok => ?_
  have e_a := int_eta (hok _ (.head _))
  have b_a := int_range (hok _ (.head _))
  apply says_den (φ := phi_72)
  simp [e_a, tree_72, T.says, X.den, O1.den, O2.den, O3.den, callD, XArg.ev, XArg.dat, Callee'.num, backs, DArg.back, Conds.den, cloArgs, phi_72, pd_56, half]
theorem pd_72 (a : D) (Q : List D → Prop) (ho : Q [.int (half a.toI)]) : PC Try.prog 72 [.sc (.int .i64) a] [.sc (.int .i64)] Q := (pc_72 a).mono fun _ h => h ▸ ho
/- impl.Amount -/
def phi_52 : Nat → List D → List D
  | 64, [a, b] => [.int (upto a.toI b.toI)]
  | 70, [a, b] => [.int (plus a.toI b.toI)]
  | 71, [a] => [.int (twice a.toI)]
  | 72, [a] => [.int (half a.toI)]
  | _, _ => []
theorem pc_52 (a n : D) : PC Try.prog 52 [.st [(.int .i64), (.int .i64), (.int .i64), (.int .i64), (.int .i64), .bool, (.sl [(.int .i64), (.int .i64), (.int .i64), (.int .i64), (.int .i64), (.int .i64), .bool])] a, .sc (.int .i64) n] [.sc (.int .i64)] fun o => o = [.int (amount a n.toI)] := by
  refine PC.of_sig mix sig_52 ⟨rfl, rfl, trivial⟩ rfl fun hok => ?_
  have e_a : D.lst [a.fld 0, a.fld 1, a.fld 2, a.fld 3, a.fld 4, a.fld 5, a.fld 6] = a := by simpa [List.range, List.range.loop] using okL_eta (hok _ (.head _))
  have k_a : okL [(.int .i64), (.int .i64), (.int .i64), (.int .i64), (.int .i64), .bool, (.sl [(.int .i64), (.int .i64), (.int .i64), (.int .i64), (.int .i64), (.int .i64), .bool])] a := (hok _ (.head _))
  have e_n := int_eta (hok _ (.tail _ (.head _)))
  have b_n := int_range (hok _ (.tail _ (.head _)))
  apply says_den (φ := phi_52)
  simp [e_a, e_n, tree_52, T.says, X.den, O1.den, O2.den, O3.den, callD, XArg.ev, XArg.dat, Callee'.num, backs, DArg.back, Conds.den, cloArgs, phi_52, pd_64, pd_70, pd_71, pd_72]
  (repeat' (first | (with_reducible apply And.intro) | intro _)) <;> grind [amount]
theorem pd_52 (a n : D) (Q : List D → Prop) (ho : Q [.int (amount a n.toI)]) : PC Try.prog 52 [.st [(.int .i64), (.int .i64), (.int .i64), (.int .i64), (.int .i64), .bool, (.sl [(.int .i64), (.int .i64), (.int .i64), (.int .i64), (.int .i64), (.int .i64), .bool])] a, .sc (.int .i64) n] [.sc (.int .i64)] Q := (pc_52 a n).mono fun _ h => h ▸ ho
end Go.Proofs.Ytflegfieiemipaa
