/- The contracts of the functions that this claim reaches: what each hands back, for all data. -/
import Derived.Test.YtbfhdfpbijpbbaaT
import Derived.Test.YtbfhdfpbijpbbaaS
namespace Go.Proofs.Ytbfhdfpbijpbbaa
open Go.Proofs.Ytbfhdfpbijpbbaa.Eng
set_option maxRecDepth 100000
set_option linter.unusedSimpArgs false
set_option linter.unusedVariables false
/- laws.szPieceS -/
theorem pc_56 (d n : D) (hn : 0 ≤ n.toI) : PC Try.prog 56 [.sc (.sl [(.int .i64), (.int .i64), (.int .i64), (.int .i64), (.int .i64), (.int .i64), (.int .i64), (.int .i64), (.int .i64), (.int .i64), (.int .i64), .bool, .bool]) d, .sc (.int .i64) n] [.sc (.int .i64)] fun o => o = [.int (szS n.toI d.toL.length)] := by
  refine PC.of_sig mix sig_56 ⟨rfl, rfl, trivial⟩ rfl fun hok => ?_
  have e_d := sl_eta (hok _ (.head _))
  have l_d := sl_len (hok _ (.head _))
  have k_d := sl_all (hok _ (.head _))
  have E_d : ∀ i, i < d.toL.length → D.lst [(d.elem i).fld 0, (d.elem i).fld 1, (d.elem i).fld 2, (d.elem i).fld 3, (d.elem i).fld 4, (d.elem i).fld 5, (d.elem i).fld 6, (d.elem i).fld 7, (d.elem i).fld 8, (d.elem i).fld 9, (d.elem i).fld 10, (d.elem i).fld 11, (d.elem i).fld 12] = d.elem i := fun i hi => by simpa [List.range, List.range.loop] using okL_eta (k_d _ (elem_mem hi))
  have e_n := int_eta (hok _ (.tail _ (.head _)))
  have b_n := int_range (hok _ (.tail _ (.head _)))
  have hw : IntKind.i64.wrap (n.toI - d.toL.length) = n.toI - d.toL.length := by (first | omega | (simp only [IntKind.wrap_i64, maxL] at *; omega) | (simp [IntKind.wrap_i64, maxL] at *; omega))
  apply says_den (φ := fun _ _ => [])
  simp [e_d, e_n, E_d, tree_56, T.says, X.den, O1.den, O2.den, O3.den, callD, XArg.ev, XArg.dat, Callee'.num, backs, DArg.back, Conds.den, cloArgs, hw, szS]
  all_goals grind
theorem pd_56 (d n : D) (hn : 0 ≤ n.toI) (Q : List D → Prop) (ho : Q [.int (szS n.toI d.toL.length)]) : PC Try.prog 56 [.sc (.sl [(.int .i64), (.int .i64), (.int .i64), (.int .i64), (.int .i64), (.int .i64), (.int .i64), (.int .i64), (.int .i64), (.int .i64), (.int .i64), .bool, .bool]) d, .sc (.int .i64) n] [.sc (.int .i64)] Q := (pc_56 d n hn).mono fun _ h => h ▸ ho
/- laws.szSideS -/
theorem pc_57 (d n : D) (hn : 0 ≤ n.toI) : PC Try.prog 57 [.sc (.sl [(.int .i64), (.int .i64), .bool]) d, .sc (.int .i64) n] [.sc (.int .i64)] fun o => o = [.int (szS n.toI d.toL.length)] := by
  refine PC.of_sig mix sig_57 ⟨rfl, rfl, trivial⟩ rfl fun hok => ?_
  have e_d := sl_eta (hok _ (.head _))
  have l_d := sl_len (hok _ (.head _))
  have k_d := sl_all (hok _ (.head _))
  have E_d : ∀ i, i < d.toL.length → D.lst [(d.elem i).fld 0, (d.elem i).fld 1, (d.elem i).fld 2] = d.elem i := fun i hi => by simpa [List.range, List.range.loop] using okL_eta (k_d _ (elem_mem hi))
  have e_n := int_eta (hok _ (.tail _ (.head _)))
  have b_n := int_range (hok _ (.tail _ (.head _)))
  have hw : IntKind.i64.wrap (n.toI - d.toL.length) = n.toI - d.toL.length := by (first | omega | (simp only [IntKind.wrap_i64, maxL] at *; omega) | (simp [IntKind.wrap_i64, maxL] at *; omega))
  apply says_den (φ := fun _ _ => [])
  simp [e_d, e_n, E_d, tree_57, T.says, X.den, O1.den, O2.den, O3.den, callD, XArg.ev, XArg.dat, Callee'.num, backs, DArg.back, Conds.den, cloArgs, hw, szS]
  all_goals grind
theorem pd_57 (d n : D) (hn : 0 ≤ n.toI) (Q : List D → Prop) (ho : Q [.int (szS n.toI d.toL.length)]) : PC Try.prog 57 [.sc (.sl [(.int .i64), (.int .i64), .bool]) d, .sc (.int .i64) n] [.sc (.int .i64)] Q := (pc_57 d n hn).mono fun _ h => h ▸ ho
/- laws.szState -/
def phi_15 : Nat → List D → List D
  | 56, [d, n] => [.int (szS n.toI d.toL.length)]
  | 57, [d, n] => [.int (szS n.toI d.toL.length)]
  | _, _ => []
theorem pc_15 (d n : D) (hn : 0 ≤ n.toI) : PC Try.prog 15 [.st [(.sl [(.int .i64), (.int .i64), (.int .i64), (.int .i64), (.int .i64), (.int .i64), (.int .i64), (.int .i64), (.int .i64), (.int .i64), (.int .i64), .bool, .bool]), (.sl [(.int .i64), (.int .i64), .bool]), (.int .i64), (.int .i64)] d, .sc (.int .i64) n] [.sc (.int .i64)] fun o => o = [.int (szS (szS n.toI (d.fld 0).toL.length) (d.fld 1).toL.length)] := by
  refine PC.of_sig mix sig_15 ⟨rfl, rfl, trivial⟩ rfl fun hok => ?_
  have e_d : D.lst [d.fld 0, d.fld 1, d.fld 2, d.fld 3] = d := by simpa [List.range, List.range.loop] using okL_eta (hok _ (.head _))
  have k_d : okL [(.sl [(.int .i64), (.int .i64), (.int .i64), (.int .i64), (.int .i64), (.int .i64), (.int .i64), (.int .i64), (.int .i64), (.int .i64), (.int .i64), .bool, .bool]), (.sl [(.int .i64), (.int .i64), .bool]), (.int .i64), (.int .i64)] d := (hok _ (.head _))
  have e_d_0 : D.lst (d.fld 0).toL = d.fld 0 := sl_eta (okL_at k_d (i := 0) rfl)
  have l_d_0 := sl_len (okL_at k_d (i := 0) rfl)
  have k_d_0 := sl_all (okL_at k_d (i := 0) rfl)
  have E_d_0 : ∀ i, i < (d.fld 0).toL.length → D.lst [((d.fld 0).elem i).fld 0, ((d.fld 0).elem i).fld 1, ((d.fld 0).elem i).fld 2, ((d.fld 0).elem i).fld 3, ((d.fld 0).elem i).fld 4, ((d.fld 0).elem i).fld 5, ((d.fld 0).elem i).fld 6, ((d.fld 0).elem i).fld 7, ((d.fld 0).elem i).fld 8, ((d.fld 0).elem i).fld 9, ((d.fld 0).elem i).fld 10, ((d.fld 0).elem i).fld 11, ((d.fld 0).elem i).fld 12] = (d.fld 0).elem i := fun i hi => by simpa [List.range, List.range.loop] using okL_eta (k_d_0 _ (elem_mem hi))
  have e_d_1 : D.lst (d.fld 1).toL = d.fld 1 := sl_eta (okL_at k_d (i := 1) rfl)
  have l_d_1 := sl_len (okL_at k_d (i := 1) rfl)
  have k_d_1 := sl_all (okL_at k_d (i := 1) rfl)
  have E_d_1 : ∀ i, i < (d.fld 1).toL.length → D.lst [((d.fld 1).elem i).fld 0, ((d.fld 1).elem i).fld 1, ((d.fld 1).elem i).fld 2] = (d.fld 1).elem i := fun i hi => by simpa [List.range, List.range.loop] using okL_eta (k_d_1 _ (elem_mem hi))
  have e_n := int_eta (hok _ (.tail _ (.head _)))
  have b_n := int_range (hok _ (.tail _ (.head _)))
  apply says_den (φ := (phi_15))
  simp [e_d_0, E_d_0, e_d_1, E_d_1, e_d, e_n, tree_15, T.says, X.den, O1.den, O2.den, O3.den, callD, XArg.ev, XArg.dat, Callee'.num, backs, DArg.back, Conds.den, cloArgs, phi_15, pd_56, pd_57]
  (repeat' (first | (with_reducible apply And.intro) | intro _)) <;> first | (first | assumption | (first | omega | (simp only [IntKind.wrap_i64, maxL] at *; omega) | (simp [IntKind.wrap_i64, maxL] at *; omega)) | rfl | contradiction | (exact pd_56 _ _ (by first | assumption | omega | (simp; done) | (simp; omega) | (simp [*]; done) | (simp [*] at *; omega) | grind [szS]) _ (by first | rfl | simp | (simp; omega))) | (exact pd_57 _ _ (by first | assumption | omega | (simp; done) | (simp; omega) | (simp [*]; done) | (simp [*] at *; omega) | grind [szS]) _ (by first | rfl | simp | (simp; omega))) | grind) | grind [szS]
theorem pd_15 (d n : D) (hn : 0 ≤ n.toI) (Q : List D → Prop) (ho : Q [.int (szS (szS n.toI (d.fld 0).toL.length) (d.fld 1).toL.length)]) : PC Try.prog 15 [.st [(.sl [(.int .i64), (.int .i64), (.int .i64), (.int .i64), (.int .i64), (.int .i64), (.int .i64), (.int .i64), (.int .i64), (.int .i64), (.int .i64), .bool, .bool]), (.sl [(.int .i64), (.int .i64), .bool]), (.int .i64), (.int .i64)] d, .sc (.int .i64) n] [.sc (.int .i64)] Q := (pc_15 d n hn).mono fun _ h => h ▸ ho
/- laws.toPiece -/
theorem pc_94 (d : D) : PC Try.prog 94 [.st [(.int .i64), (.int .i64), (.int .i64), (.int .i64), (.int .i64), (.int .i64), (.int .i64), (.int .i64), (.int .i64), (.int .i64), (.int .i64), .bool, .bool] d] [.st [(.int .i64), (.int .i64), (.int .i64), (.int .i64), (.int .i64), (.int .i64), (.int .i64), (.int .i64), (.int .i64), (.int .i64), (.int .i64), .bool, .bool]] fun o => o = [d] := by
  refine PC.of_sig mix sig_94 ⟨rfl, trivial⟩ rfl fun hok => ?_
  have e_d : D.lst [d.fld 0, d.fld 1, d.fld 2, d.fld 3, d.fld 4, d.fld 5, d.fld 6, d.fld 7, d.fld 8, d.fld 9, d.fld 10, d.fld 11, d.fld 12] = d := by simpa [List.range, List.range.loop] using okL_eta (hok _ (.head _))
  have k_d : okL [(.int .i64), (.int .i64), (.int .i64), (.int .i64), (.int .i64), (.int .i64), (.int .i64), (.int .i64), (.int .i64), (.int .i64), (.int .i64), .bool, .bool] d := (hok _ (.head _))
  apply says_den (φ := fun _ _ => [])
  simp [e_d, tree_94, T.says, X.den, O1.den, O2.den, O3.den, callD, XArg.ev, XArg.dat, Callee'.num, backs, DArg.back, Conds.den, cloArgs]
theorem pd_94 (d : D) (Q : List D → Prop) (ho : Q [d]) : PC Try.prog 94 [.st [(.int .i64), (.int .i64), (.int .i64), (.int .i64), (.int .i64), (.int .i64), (.int .i64), (.int .i64), (.int .i64), (.int .i64), (.int .i64), .bool, .bool] d] [.st [(.int .i64), (.int .i64), (.int .i64), (.int .i64), (.int .i64), (.int .i64), (.int .i64), (.int .i64), (.int .i64), (.int .i64), (.int .i64), .bool, .bool]] Q := (pc_94 d).mono fun _ h => h ▸ ho
/- laws.toPieceS -/
def phi_58 : Nat → List D → List D
  | 94, [d] => [d]
  | _, _ => []
theorem pc_58 (d : D) (h : (d.toL.length : Int) ≤ 1048576) : PC Try.prog 58 [.sc (.sl [(.int .i64), (.int .i64), (.int .i64), (.int .i64), (.int .i64), (.int .i64), (.int .i64), (.int .i64), (.int .i64), (.int .i64), (.int .i64), .bool, .bool]) d] [.sc (.sl [(.int .i64), (.int .i64), (.int .i64), (.int .i64), (.int .i64), (.int .i64), (.int .i64), (.int .i64), (.int .i64), (.int .i64), (.int .i64), .bool, .bool])] fun o => o = [d] := by
  refine PC.of_sig mix sig_58 ⟨rfl, trivial⟩ rfl fun hok => ?_
  have e_d := sl_eta (hok _ (.head _))
  have l_d := sl_len (hok _ (.head _))
  have k_d := sl_all (hok _ (.head _))
  have E_d : ∀ i, i < d.toL.length → D.lst [(d.elem i).fld 0, (d.elem i).fld 1, (d.elem i).fld 2, (d.elem i).fld 3, (d.elem i).fld 4, (d.elem i).fld 5, (d.elem i).fld 6, (d.elem i).fld 7, (d.elem i).fld 8, (d.elem i).fld 9, (d.elem i).fld 10, (d.elem i).fld 11, (d.elem i).fld 12] = d.elem i := fun i hi => by simpa [List.range, List.range.loop] using okL_eta (k_d _ (elem_mem hi))
  apply says_den (φ := (phi_58))
  simp [e_d, E_d, tree_58, T.says, X.den, O1.den, O2.den, O3.den, callD, XArg.ev, XArg.dat, Callee'.num, backs, DArg.back, Conds.den, cloArgs, phi_58, pd_94] at h ⊢
  refine fun _ => ⟨by omega, ?_⟩
  refine den_for d.toL.length 0 (fun i => [.int i, .lst (d.toL.take i ++ List.replicate (d.toL.length - i) (.lst [.int 0, .int 0, .int 0, .int 0, .int 0, .int 0, .int 0, .int 0, .int 0, .int 0, .int 0, .bool false, .bool false]))]) (fun _ => True) (by simp) (by simp [X.den, O1.den, O2.den]) trivial fun i hi _ => ?_
  apply says_den (φ := (phi_58))
  by_cases hlt : i < d.toL.length
  · simp [e_d, E_d, tree_58, T.says, X.den, O1.den, O2.den, O3.den, callD, XArg.ev, XArg.dat, Callee'.num, backs, DArg.back, Conds.den, cloArgs, phi_58, pd_94, hlt]
    (repeat' (first | (with_reducible apply And.intro) | intro _)) <;> first | (exact copy_step hlt rfl) | (exact copy_step hlt (eta1 (k_d _ (elem_mem hlt)))) | (first | assumption | (first | omega | (simp only [IntKind.wrap_i64, maxL] at *; omega) | (simp [IntKind.wrap_i64, maxL] at *; omega)) | rfl | contradiction | (exact pd_94 _ _ (by first | rfl | simp | (simp; omega))) | grind)
  · simp [e_d, E_d, tree_58, T.says, X.den, O1.den, O2.den, O3.den, callD, XArg.ev, XArg.dat, Callee'.num, backs, DArg.back, Conds.den, cloArgs, phi_58, pd_94, hlt]
    (repeat' (first | (with_reducible apply And.intro) | intro _)) <;> first | (rw [copy_end (by omega), e_d]) | (first | assumption | (first | omega | (simp only [IntKind.wrap_i64, maxL] at *; omega) | (simp [IntKind.wrap_i64, maxL] at *; omega)) | rfl | contradiction | (exact pd_94 _ _ (by first | rfl | simp | (simp; omega))) | grind)
theorem pd_58 (d : D) (h : (d.toL.length : Int) ≤ 1048576) (Q : List D → Prop) (ho : Q [d]) : PC Try.prog 58 [.sc (.sl [(.int .i64), (.int .i64), (.int .i64), (.int .i64), (.int .i64), (.int .i64), (.int .i64), (.int .i64), (.int .i64), (.int .i64), (.int .i64), .bool, .bool]) d] [.sc (.sl [(.int .i64), (.int .i64), (.int .i64), (.int .i64), (.int .i64), (.int .i64), (.int .i64), (.int .i64), (.int .i64), (.int .i64), (.int .i64), .bool, .bool])] Q := (pc_58 d h).mono fun _ h => h ▸ ho
/- laws.toSide -/
theorem pc_95 (d : D) : PC Try.prog 95 [.st [(.int .i64), (.int .i64), .bool] d] [.st [(.int .i64), (.int .i64), .bool]] fun o => o = [d] := by
  refine PC.of_sig mix sig_95 ⟨rfl, trivial⟩ rfl fun hok => ?_
  have e_d : D.lst [d.fld 0, d.fld 1, d.fld 2] = d := by simpa [List.range, List.range.loop] using okL_eta (hok _ (.head _))
  have k_d : okL [(.int .i64), (.int .i64), .bool] d := (hok _ (.head _))
  apply says_den (φ := fun _ _ => [])
  simp [e_d, tree_95, T.says, X.den, O1.den, O2.den, O3.den, callD, XArg.ev, XArg.dat, Callee'.num, backs, DArg.back, Conds.den, cloArgs]
theorem pd_95 (d : D) (Q : List D → Prop) (ho : Q [d]) : PC Try.prog 95 [.st [(.int .i64), (.int .i64), .bool] d] [.st [(.int .i64), (.int .i64), .bool]] Q := (pc_95 d).mono fun _ h => h ▸ ho
/- laws.toSideS -/
def phi_59 : Nat → List D → List D
  | 95, [d] => [d]
  | _, _ => []
theorem pc_59 (d : D) (h : (d.toL.length : Int) ≤ 1048576) : PC Try.prog 59 [.sc (.sl [(.int .i64), (.int .i64), .bool]) d] [.sc (.sl [(.int .i64), (.int .i64), .bool])] fun o => o = [d] := by
  refine PC.of_sig mix sig_59 ⟨rfl, trivial⟩ rfl fun hok => ?_
  have e_d := sl_eta (hok _ (.head _))
  have l_d := sl_len (hok _ (.head _))
  have k_d := sl_all (hok _ (.head _))
  have E_d : ∀ i, i < d.toL.length → D.lst [(d.elem i).fld 0, (d.elem i).fld 1, (d.elem i).fld 2] = d.elem i := fun i hi => by simpa [List.range, List.range.loop] using okL_eta (k_d _ (elem_mem hi))
  apply says_den (φ := (phi_59))
  simp [e_d, E_d, tree_59, T.says, X.den, O1.den, O2.den, O3.den, callD, XArg.ev, XArg.dat, Callee'.num, backs, DArg.back, Conds.den, cloArgs, phi_59, pd_95] at h ⊢
  refine fun _ => ⟨by omega, ?_⟩
  refine den_for d.toL.length 0 (fun i => [.int i, .lst (d.toL.take i ++ List.replicate (d.toL.length - i) (.lst [.int 0, .int 0, .bool false]))]) (fun _ => True) (by simp) (by simp [X.den, O1.den, O2.den]) trivial fun i hi _ => ?_
  apply says_den (φ := (phi_59))
  by_cases hlt : i < d.toL.length
  · simp [e_d, E_d, tree_59, T.says, X.den, O1.den, O2.den, O3.den, callD, XArg.ev, XArg.dat, Callee'.num, backs, DArg.back, Conds.den, cloArgs, phi_59, pd_95, hlt]
    (repeat' (first | (with_reducible apply And.intro) | intro _)) <;> first | (exact copy_step hlt rfl) | (exact copy_step hlt (eta1 (k_d _ (elem_mem hlt)))) | (first | assumption | (first | omega | (simp only [IntKind.wrap_i64, maxL] at *; omega) | (simp [IntKind.wrap_i64, maxL] at *; omega)) | rfl | contradiction | (exact pd_95 _ _ (by first | rfl | simp | (simp; omega))) | grind)
  · simp [e_d, E_d, tree_59, T.says, X.den, O1.den, O2.den, O3.den, callD, XArg.ev, XArg.dat, Callee'.num, backs, DArg.back, Conds.den, cloArgs, phi_59, pd_95, hlt]
    (repeat' (first | (with_reducible apply And.intro) | intro _)) <;> first | (rw [copy_end (by omega), e_d]) | (first | assumption | (first | omega | (simp only [IntKind.wrap_i64, maxL] at *; omega) | (simp [IntKind.wrap_i64, maxL] at *; omega)) | rfl | contradiction | (exact pd_95 _ _ (by first | rfl | simp | (simp; omega))) | grind)
theorem pd_59 (d : D) (h : (d.toL.length : Int) ≤ 1048576) (Q : List D → Prop) (ho : Q [d]) : PC Try.prog 59 [.sc (.sl [(.int .i64), (.int .i64), .bool]) d] [.sc (.sl [(.int .i64), (.int .i64), .bool])] Q := (pc_59 d h).mono fun _ h => h ▸ ho
/- laws.toState -/
def phi_17 : Nat → List D → List D
  | 58, [d] => [d]
  | 59, [d] => [d]
  | _, _ => []
theorem pc_17 (d : D) (h : ((d.fld 0).toL.length : Int) ≤ 1048576 ∧ ((d.fld 1).toL.length : Int) ≤ 1048576) : PC Try.prog 17 [.st [(.sl [(.int .i64), (.int .i64), (.int .i64), (.int .i64), (.int .i64), (.int .i64), (.int .i64), (.int .i64), (.int .i64), (.int .i64), (.int .i64), .bool, .bool]), (.sl [(.int .i64), (.int .i64), .bool]), (.int .i64), (.int .i64)] d] [.st [(.sl [(.int .i64), (.int .i64), (.int .i64), (.int .i64), (.int .i64), (.int .i64), (.int .i64), (.int .i64), (.int .i64), (.int .i64), (.int .i64), .bool, .bool]), (.sl [(.int .i64), (.int .i64), .bool]), (.int .i64), (.int .i64)]] fun o => o = [d] := by
  refine PC.of_sig mix sig_17 ⟨rfl, trivial⟩ rfl fun hok => ?_
  have e_d : D.lst [d.fld 0, d.fld 1, d.fld 2, d.fld 3] = d := by simpa [List.range, List.range.loop] using okL_eta (hok _ (.head _))
  have k_d : okL [(.sl [(.int .i64), (.int .i64), (.int .i64), (.int .i64), (.int .i64), (.int .i64), (.int .i64), (.int .i64), (.int .i64), (.int .i64), (.int .i64), .bool, .bool]), (.sl [(.int .i64), (.int .i64), .bool]), (.int .i64), (.int .i64)] d := (hok _ (.head _))
  have e_d_0 : D.lst (d.fld 0).toL = d.fld 0 := sl_eta (okL_at k_d (i := 0) rfl)
  have l_d_0 := sl_len (okL_at k_d (i := 0) rfl)
  have k_d_0 := sl_all (okL_at k_d (i := 0) rfl)
  have E_d_0 : ∀ i, i < (d.fld 0).toL.length → D.lst [((d.fld 0).elem i).fld 0, ((d.fld 0).elem i).fld 1, ((d.fld 0).elem i).fld 2, ((d.fld 0).elem i).fld 3, ((d.fld 0).elem i).fld 4, ((d.fld 0).elem i).fld 5, ((d.fld 0).elem i).fld 6, ((d.fld 0).elem i).fld 7, ((d.fld 0).elem i).fld 8, ((d.fld 0).elem i).fld 9, ((d.fld 0).elem i).fld 10, ((d.fld 0).elem i).fld 11, ((d.fld 0).elem i).fld 12] = (d.fld 0).elem i := fun i hi => by simpa [List.range, List.range.loop] using okL_eta (k_d_0 _ (elem_mem hi))
  have e_d_1 : D.lst (d.fld 1).toL = d.fld 1 := sl_eta (okL_at k_d (i := 1) rfl)
  have l_d_1 := sl_len (okL_at k_d (i := 1) rfl)
  have k_d_1 := sl_all (okL_at k_d (i := 1) rfl)
  have E_d_1 : ∀ i, i < (d.fld 1).toL.length → D.lst [((d.fld 1).elem i).fld 0, ((d.fld 1).elem i).fld 1, ((d.fld 1).elem i).fld 2] = (d.fld 1).elem i := fun i hi => by simpa [List.range, List.range.loop] using okL_eta (k_d_1 _ (elem_mem hi))
  apply says_den (φ := (phi_17))
  simp [e_d_0, E_d_0, e_d_1, E_d_1, e_d, tree_17, T.says, X.den, O1.den, O2.den, O3.den, callD, XArg.ev, XArg.dat, Callee'.num, backs, DArg.back, Conds.den, cloArgs, phi_17, pd_58, pd_59, h.1, h.2]
theorem pd_17 (d : D) (h : ((d.fld 0).toL.length : Int) ≤ 1048576 ∧ ((d.fld 1).toL.length : Int) ≤ 1048576) (Q : List D → Prop) (ho : Q [d]) : PC Try.prog 17 [.st [(.sl [(.int .i64), (.int .i64), (.int .i64), (.int .i64), (.int .i64), (.int .i64), (.int .i64), (.int .i64), (.int .i64), (.int .i64), (.int .i64), .bool, .bool]), (.sl [(.int .i64), (.int .i64), .bool]), (.int .i64), (.int .i64)] d] [.st [(.sl [(.int .i64), (.int .i64), (.int .i64), (.int .i64), (.int .i64), (.int .i64), (.int .i64), (.int .i64), (.int .i64), (.int .i64), (.int .i64), .bool, .bool]), (.sl [(.int .i64), (.int .i64), .bool]), (.int .i64), (.int .i64)]] Q := (pc_17 d h).mono fun _ h => h ▸ ho
/- laws.eqPiece -/
theorem pc_23 (d e : D) (h : d = e) : PC Try.prog 23 [.st [(.int .i64), (.int .i64), (.int .i64), (.int .i64), (.int .i64), (.int .i64), (.int .i64), (.int .i64), (.int .i64), (.int .i64), (.int .i64), .bool, .bool] d, .st [(.int .i64), (.int .i64), (.int .i64), (.int .i64), (.int .i64), (.int .i64), (.int .i64), (.int .i64), (.int .i64), (.int .i64), (.int .i64), .bool, .bool] e] [.sc .bool] fun o => o = [.bool true] := by
  refine PC.of_sig mix sig_23 ⟨rfl, rfl, trivial⟩ rfl fun hok => ?_
  have e_d : D.lst [d.fld 0, d.fld 1, d.fld 2, d.fld 3, d.fld 4, d.fld 5, d.fld 6, d.fld 7, d.fld 8, d.fld 9, d.fld 10, d.fld 11, d.fld 12] = d := by simpa [List.range, List.range.loop] using okL_eta (hok _ (.head _))
  have k_d : okL [(.int .i64), (.int .i64), (.int .i64), (.int .i64), (.int .i64), (.int .i64), (.int .i64), (.int .i64), (.int .i64), (.int .i64), (.int .i64), .bool, .bool] d := (hok _ (.head _))
  have e_e : D.lst [e.fld 0, e.fld 1, e.fld 2, e.fld 3, e.fld 4, e.fld 5, e.fld 6, e.fld 7, e.fld 8, e.fld 9, e.fld 10, e.fld 11, e.fld 12] = e := by simpa [List.range, List.range.loop] using okL_eta (hok _ (.tail _ (.head _)))
  have k_e : okL [(.int .i64), (.int .i64), (.int .i64), (.int .i64), (.int .i64), (.int .i64), (.int .i64), (.int .i64), (.int .i64), (.int .i64), (.int .i64), .bool, .bool] e := (hok _ (.tail _ (.head _)))
  subst h
  apply says_den (φ := fun _ _ => [])
  simp [e_d, e_e, tree_23, T.says, X.den, O1.den, O2.den, O3.den, callD, XArg.ev, XArg.dat, Callee'.num, backs, DArg.back, Conds.den, cloArgs]
theorem pd_23 (d e : D) (h : d = e) (Q : List D → Prop) (ho : Q [.bool true]) : PC Try.prog 23 [.st [(.int .i64), (.int .i64), (.int .i64), (.int .i64), (.int .i64), (.int .i64), (.int .i64), (.int .i64), (.int .i64), (.int .i64), (.int .i64), .bool, .bool] d, .st [(.int .i64), (.int .i64), (.int .i64), (.int .i64), (.int .i64), (.int .i64), (.int .i64), (.int .i64), (.int .i64), (.int .i64), (.int .i64), .bool, .bool] e] [.sc .bool] Q := (pc_23 d e h).mono fun _ h => h ▸ ho
/- laws.eqPieceS -/
def phi_60 : Nat → List D → List D
  | 23, [d, e] => [.bool true]
  | _, _ => []
theorem pc_60 (d e : D) (h : d = e) : PC Try.prog 60 [.sc (.sl [(.int .i64), (.int .i64), (.int .i64), (.int .i64), (.int .i64), (.int .i64), (.int .i64), (.int .i64), (.int .i64), (.int .i64), (.int .i64), .bool, .bool]) d, .sc (.sl [(.int .i64), (.int .i64), (.int .i64), (.int .i64), (.int .i64), (.int .i64), (.int .i64), (.int .i64), (.int .i64), (.int .i64), (.int .i64), .bool, .bool]) e] [.sc .bool] fun o => o = [.bool true] := by
  refine PC.of_sig mix sig_60 ⟨rfl, rfl, trivial⟩ rfl fun hok => ?_
  have e_d := sl_eta (hok _ (.head _))
  have l_d := sl_len (hok _ (.head _))
  have k_d := sl_all (hok _ (.head _))
  have E_d : ∀ i, i < d.toL.length → D.lst [(d.elem i).fld 0, (d.elem i).fld 1, (d.elem i).fld 2, (d.elem i).fld 3, (d.elem i).fld 4, (d.elem i).fld 5, (d.elem i).fld 6, (d.elem i).fld 7, (d.elem i).fld 8, (d.elem i).fld 9, (d.elem i).fld 10, (d.elem i).fld 11, (d.elem i).fld 12] = d.elem i := fun i hi => by simpa [List.range, List.range.loop] using okL_eta (k_d _ (elem_mem hi))
  have e_e := sl_eta (hok _ (.tail _ (.head _)))
  have l_e := sl_len (hok _ (.tail _ (.head _)))
  have k_e := sl_all (hok _ (.tail _ (.head _)))
  have E_e : ∀ i, i < e.toL.length → D.lst [(e.elem i).fld 0, (e.elem i).fld 1, (e.elem i).fld 2, (e.elem i).fld 3, (e.elem i).fld 4, (e.elem i).fld 5, (e.elem i).fld 6, (e.elem i).fld 7, (e.elem i).fld 8, (e.elem i).fld 9, (e.elem i).fld 10, (e.elem i).fld 11, (e.elem i).fld 12] = e.elem i := fun i hi => by simpa [List.range, List.range.loop] using okL_eta (k_e _ (elem_mem hi))
  subst h
  apply says_den (φ := (phi_60))
  simp [e_d, e_e, E_d, E_e, tree_60, T.says, X.den, O1.den, O2.den, O3.den, callD, XArg.ev, XArg.dat, Callee'.num, backs, DArg.back, Conds.den, cloArgs, phi_60, pd_23]
  refine fun _ => ?_
  refine den_for d.toL.length 0 (fun i => [.int i]) (fun _ => True) (by simp) (by simp [X.den]) trivial fun i hi _ => ?_
  apply says_den (φ := (phi_60))
  simp [e_d, e_e, E_d, E_e, tree_60, T.says, X.den, O1.den, O2.den, O3.den, callD, XArg.ev, XArg.dat, Callee'.num, backs, DArg.back, Conds.den, cloArgs, phi_60, pd_23]
  (repeat' (first | (with_reducible apply And.intro) | intro _)) <;> (first | omega | (simp only [IntKind.wrap_i64, maxL] at *; omega) | (simp [IntKind.wrap_i64, maxL] at *; omega))
theorem pd_60 (d e : D) (h : d = e) (Q : List D → Prop) (ho : Q [.bool true]) : PC Try.prog 60 [.sc (.sl [(.int .i64), (.int .i64), (.int .i64), (.int .i64), (.int .i64), (.int .i64), (.int .i64), (.int .i64), (.int .i64), (.int .i64), (.int .i64), .bool, .bool]) d, .sc (.sl [(.int .i64), (.int .i64), (.int .i64), (.int .i64), (.int .i64), (.int .i64), (.int .i64), (.int .i64), (.int .i64), (.int .i64), (.int .i64), .bool, .bool]) e] [.sc .bool] Q := (pc_60 d e h).mono fun _ h => h ▸ ho
/- laws.eqSide -/
theorem pc_96 (d e : D) (h : d = e) : PC Try.prog 96 [.st [(.int .i64), (.int .i64), .bool] d, .st [(.int .i64), (.int .i64), .bool] e] [.sc .bool] fun o => o = [.bool true] := by
  refine PC.of_sig mix sig_96 ⟨rfl, rfl, trivial⟩ rfl fun hok => ?_
  have e_d : D.lst [d.fld 0, d.fld 1, d.fld 2] = d := by simpa [List.range, List.range.loop] using okL_eta (hok _ (.head _))
  have k_d : okL [(.int .i64), (.int .i64), .bool] d := (hok _ (.head _))
  have e_e : D.lst [e.fld 0, e.fld 1, e.fld 2] = e := by simpa [List.range, List.range.loop] using okL_eta (hok _ (.tail _ (.head _)))
  have k_e : okL [(.int .i64), (.int .i64), .bool] e := (hok _ (.tail _ (.head _)))
  subst h
  apply says_den (φ := fun _ _ => [])
  simp [e_d, e_e, tree_96, T.says, X.den, O1.den, O2.den, O3.den, callD, XArg.ev, XArg.dat, Callee'.num, backs, DArg.back, Conds.den, cloArgs]
theorem pd_96 (d e : D) (h : d = e) (Q : List D → Prop) (ho : Q [.bool true]) : PC Try.prog 96 [.st [(.int .i64), (.int .i64), .bool] d, .st [(.int .i64), (.int .i64), .bool] e] [.sc .bool] Q := (pc_96 d e h).mono fun _ h => h ▸ ho
/- laws.eqSideS -/
def phi_61 : Nat → List D → List D
  | 96, [d, e] => [.bool true]
  | _, _ => []
theorem pc_61 (d e : D) (h : d = e) : PC Try.prog 61 [.sc (.sl [(.int .i64), (.int .i64), .bool]) d, .sc (.sl [(.int .i64), (.int .i64), .bool]) e] [.sc .bool] fun o => o = [.bool true] := by
  refine PC.of_sig mix sig_61 ⟨rfl, rfl, trivial⟩ rfl fun hok => ?_
  have e_d := sl_eta (hok _ (.head _))
  have l_d := sl_len (hok _ (.head _))
  have k_d := sl_all (hok _ (.head _))
  have E_d : ∀ i, i < d.toL.length → D.lst [(d.elem i).fld 0, (d.elem i).fld 1, (d.elem i).fld 2] = d.elem i := fun i hi => by simpa [List.range, List.range.loop] using okL_eta (k_d _ (elem_mem hi))
  have e_e := sl_eta (hok _ (.tail _ (.head _)))
  have l_e := sl_len (hok _ (.tail _ (.head _)))
  have k_e := sl_all (hok _ (.tail _ (.head _)))
  have E_e : ∀ i, i < e.toL.length → D.lst [(e.elem i).fld 0, (e.elem i).fld 1, (e.elem i).fld 2] = e.elem i := fun i hi => by simpa [List.range, List.range.loop] using okL_eta (k_e _ (elem_mem hi))
  subst h
  apply says_den (φ := (phi_61))
  simp [e_d, e_e, E_d, E_e, tree_61, T.says, X.den, O1.den, O2.den, O3.den, callD, XArg.ev, XArg.dat, Callee'.num, backs, DArg.back, Conds.den, cloArgs, phi_61, pd_96]
  refine fun _ => ?_
  refine den_for d.toL.length 0 (fun i => [.int i]) (fun _ => True) (by simp) (by simp [X.den]) trivial fun i hi _ => ?_
  apply says_den (φ := (phi_61))
  simp [e_d, e_e, E_d, E_e, tree_61, T.says, X.den, O1.den, O2.den, O3.den, callD, XArg.ev, XArg.dat, Callee'.num, backs, DArg.back, Conds.den, cloArgs, phi_61, pd_96]
  (repeat' (first | (with_reducible apply And.intro) | intro _)) <;> (first | omega | (simp only [IntKind.wrap_i64, maxL] at *; omega) | (simp [IntKind.wrap_i64, maxL] at *; omega))
theorem pd_61 (d e : D) (h : d = e) (Q : List D → Prop) (ho : Q [.bool true]) : PC Try.prog 61 [.sc (.sl [(.int .i64), (.int .i64), .bool]) d, .sc (.sl [(.int .i64), (.int .i64), .bool]) e] [.sc .bool] Q := (pc_61 d e h).mono fun _ h => h ▸ ho
/- laws.eqState -/
def phi_19 : Nat → List D → List D
  | 60, [d, e] => [.bool true]
  | 61, [d, e] => [.bool true]
  | _, _ => []
theorem pc_19 (d e : D) (h : d = e) : PC Try.prog 19 [.st [(.sl [(.int .i64), (.int .i64), (.int .i64), (.int .i64), (.int .i64), (.int .i64), (.int .i64), (.int .i64), (.int .i64), (.int .i64), (.int .i64), .bool, .bool]), (.sl [(.int .i64), (.int .i64), .bool]), (.int .i64), (.int .i64)] d, .st [(.sl [(.int .i64), (.int .i64), (.int .i64), (.int .i64), (.int .i64), (.int .i64), (.int .i64), (.int .i64), (.int .i64), (.int .i64), (.int .i64), .bool, .bool]), (.sl [(.int .i64), (.int .i64), .bool]), (.int .i64), (.int .i64)] e] [.sc .bool] fun o => o = [.bool true] := by
  refine PC.of_sig mix sig_19 ⟨rfl, rfl, trivial⟩ rfl fun hok => ?_
  have e_d : D.lst [d.fld 0, d.fld 1, d.fld 2, d.fld 3] = d := by simpa [List.range, List.range.loop] using okL_eta (hok _ (.head _))
  have k_d : okL [(.sl [(.int .i64), (.int .i64), (.int .i64), (.int .i64), (.int .i64), (.int .i64), (.int .i64), (.int .i64), (.int .i64), (.int .i64), (.int .i64), .bool, .bool]), (.sl [(.int .i64), (.int .i64), .bool]), (.int .i64), (.int .i64)] d := (hok _ (.head _))
  have e_d_0 : D.lst (d.fld 0).toL = d.fld 0 := sl_eta (okL_at k_d (i := 0) rfl)
  have l_d_0 := sl_len (okL_at k_d (i := 0) rfl)
  have k_d_0 := sl_all (okL_at k_d (i := 0) rfl)
  have E_d_0 : ∀ i, i < (d.fld 0).toL.length → D.lst [((d.fld 0).elem i).fld 0, ((d.fld 0).elem i).fld 1, ((d.fld 0).elem i).fld 2, ((d.fld 0).elem i).fld 3, ((d.fld 0).elem i).fld 4, ((d.fld 0).elem i).fld 5, ((d.fld 0).elem i).fld 6, ((d.fld 0).elem i).fld 7, ((d.fld 0).elem i).fld 8, ((d.fld 0).elem i).fld 9, ((d.fld 0).elem i).fld 10, ((d.fld 0).elem i).fld 11, ((d.fld 0).elem i).fld 12] = (d.fld 0).elem i := fun i hi => by simpa [List.range, List.range.loop] using okL_eta (k_d_0 _ (elem_mem hi))
  have e_d_1 : D.lst (d.fld 1).toL = d.fld 1 := sl_eta (okL_at k_d (i := 1) rfl)
  have l_d_1 := sl_len (okL_at k_d (i := 1) rfl)
  have k_d_1 := sl_all (okL_at k_d (i := 1) rfl)
  have E_d_1 : ∀ i, i < (d.fld 1).toL.length → D.lst [((d.fld 1).elem i).fld 0, ((d.fld 1).elem i).fld 1, ((d.fld 1).elem i).fld 2] = (d.fld 1).elem i := fun i hi => by simpa [List.range, List.range.loop] using okL_eta (k_d_1 _ (elem_mem hi))
  have e_e : D.lst [e.fld 0, e.fld 1, e.fld 2, e.fld 3] = e := by simpa [List.range, List.range.loop] using okL_eta (hok _ (.tail _ (.head _)))
  have k_e : okL [(.sl [(.int .i64), (.int .i64), (.int .i64), (.int .i64), (.int .i64), (.int .i64), (.int .i64), (.int .i64), (.int .i64), (.int .i64), (.int .i64), .bool, .bool]), (.sl [(.int .i64), (.int .i64), .bool]), (.int .i64), (.int .i64)] e := (hok _ (.tail _ (.head _)))
  have e_e_0 : D.lst (e.fld 0).toL = e.fld 0 := sl_eta (okL_at k_e (i := 0) rfl)
  have l_e_0 := sl_len (okL_at k_e (i := 0) rfl)
  have k_e_0 := sl_all (okL_at k_e (i := 0) rfl)
  have E_e_0 : ∀ i, i < (e.fld 0).toL.length → D.lst [((e.fld 0).elem i).fld 0, ((e.fld 0).elem i).fld 1, ((e.fld 0).elem i).fld 2, ((e.fld 0).elem i).fld 3, ((e.fld 0).elem i).fld 4, ((e.fld 0).elem i).fld 5, ((e.fld 0).elem i).fld 6, ((e.fld 0).elem i).fld 7, ((e.fld 0).elem i).fld 8, ((e.fld 0).elem i).fld 9, ((e.fld 0).elem i).fld 10, ((e.fld 0).elem i).fld 11, ((e.fld 0).elem i).fld 12] = (e.fld 0).elem i := fun i hi => by simpa [List.range, List.range.loop] using okL_eta (k_e_0 _ (elem_mem hi))
  have e_e_1 : D.lst (e.fld 1).toL = e.fld 1 := sl_eta (okL_at k_e (i := 1) rfl)
  have l_e_1 := sl_len (okL_at k_e (i := 1) rfl)
  have k_e_1 := sl_all (okL_at k_e (i := 1) rfl)
  have E_e_1 : ∀ i, i < (e.fld 1).toL.length → D.lst [((e.fld 1).elem i).fld 0, ((e.fld 1).elem i).fld 1, ((e.fld 1).elem i).fld 2] = (e.fld 1).elem i := fun i hi => by simpa [List.range, List.range.loop] using okL_eta (k_e_1 _ (elem_mem hi))
  subst h
  apply says_den (φ := (phi_19))
  simp [e_d_0, E_d_0, e_d_1, E_d_1, e_e_0, E_e_0, e_e_1, E_e_1, e_d, e_e, tree_19, T.says, X.den, O1.den, O2.den, O3.den, callD, XArg.ev, XArg.dat, Callee'.num, backs, DArg.back, Conds.den, cloArgs, phi_19, pd_60, pd_61]
theorem pd_19 (d e : D) (h : d = e) (Q : List D → Prop) (ho : Q [.bool true]) : PC Try.prog 19 [.st [(.sl [(.int .i64), (.int .i64), (.int .i64), (.int .i64), (.int .i64), (.int .i64), (.int .i64), (.int .i64), (.int .i64), (.int .i64), (.int .i64), .bool, .bool]), (.sl [(.int .i64), (.int .i64), .bool]), (.int .i64), (.int .i64)] d, .st [(.sl [(.int .i64), (.int .i64), (.int .i64), (.int .i64), (.int .i64), (.int .i64), (.int .i64), (.int .i64), (.int .i64), (.int .i64), (.int .i64), .bool, .bool]), (.sl [(.int .i64), (.int .i64), .bool]), (.int .i64), (.int .i64)] e] [.sc .bool] Q := (pc_19 d e h).mono fun _ h => h ▸ ho
/- laws.toEvent -/
theorem pc_21 (d : D) : PC Try.prog 21 [.st [(.int .i64), (.int .i64), (.int .i64), (.int .i64), (.int .i64), (.int .i64), .bool] d] [.st [(.int .i64), (.int .i64), (.int .i64), (.int .i64), (.int .i64), (.int .i64), .bool]] fun o => o = [d] := by
  refine PC.of_sig mix sig_21 ⟨rfl, trivial⟩ rfl fun hok => ?_
  have e_d : D.lst [d.fld 0, d.fld 1, d.fld 2, d.fld 3, d.fld 4, d.fld 5, d.fld 6] = d := by simpa [List.range, List.range.loop] using okL_eta (hok _ (.head _))
  have k_d : okL [(.int .i64), (.int .i64), (.int .i64), (.int .i64), (.int .i64), (.int .i64), .bool] d := (hok _ (.head _))
  apply says_den (φ := fun _ _ => [])
  simp [e_d, tree_21, T.says, X.den, O1.den, O2.den, O3.den, callD, XArg.ev, XArg.dat, Callee'.num, backs, DArg.back, Conds.den, cloArgs]
theorem pd_21 (d : D) (Q : List D → Prop) (ho : Q [d]) : PC Try.prog 21 [.st [(.int .i64), (.int .i64), (.int .i64), (.int .i64), (.int .i64), (.int .i64), .bool] d] [.st [(.int .i64), (.int .i64), (.int .i64), (.int .i64), (.int .i64), (.int .i64), .bool]] Q := (pc_21 d).mono fun _ h => h ▸ ho
/- laws.toPat -/
theorem pc_27 (d : D) : PC Try.prog 27 [.st [(.int .i64), (.int .i64), (.int .i64), (.int .i64), (.int .i64), (.int .i64), (.int .i64)] d] [.st [(.int .i64), (.int .i64), (.int .i64), (.int .i64), (.int .i64), (.int .i64), (.int .i64)]] fun o => o = [d] := by
  refine PC.of_sig mix sig_27 ⟨rfl, trivial⟩ rfl fun hok => ?_
  have e_d : D.lst [d.fld 0, d.fld 1, d.fld 2, d.fld 3, d.fld 4, d.fld 5, d.fld 6] = d := by simpa [List.range, List.range.loop] using okL_eta (hok _ (.head _))
  have k_d : okL [(.int .i64), (.int .i64), (.int .i64), (.int .i64), (.int .i64), (.int .i64), (.int .i64)] d := (hok _ (.head _))
  apply says_den (φ := fun _ _ => [])
  simp [e_d, tree_27, T.says, X.den, O1.den, O2.den, O3.den, callD, XArg.ev, XArg.dat, Callee'.num, backs, DArg.back, Conds.den, cloArgs]
theorem pd_27 (d : D) (Q : List D → Prop) (ho : Q [d]) : PC Try.prog 27 [.st [(.int .i64), (.int .i64), (.int .i64), (.int .i64), (.int .i64), (.int .i64), (.int .i64)] d] [.st [(.int .i64), (.int .i64), (.int .i64), (.int .i64), (.int .i64), (.int .i64), (.int .i64)]] Q := (pc_27 d).mono fun _ h => h ▸ ho
/- spec.PieceAt -/
theorem pc_62 (s n : D) : PC Try.prog 62 [.st [(.sl [(.int .i64), (.int .i64), (.int .i64), (.int .i64), (.int .i64), (.int .i64), (.int .i64), (.int .i64), (.int .i64), (.int .i64), (.int .i64), .bool, .bool]), (.sl [(.int .i64), (.int .i64), .bool]), (.int .i64), (.int .i64)] s, .sc (.int .i64) n] [.sc (.int .i64)] fun o => o = [.int (pieceAt s n.toI)] := by
  refine PC.of_sig mix sig_62 ⟨rfl, rfl, trivial⟩ rfl fun hok => ?_
  have e_s : D.lst [s.fld 0, s.fld 1, s.fld 2, s.fld 3] = s := by simpa [List.range, List.range.loop] using okL_eta (hok _ (.head _))
  have k_s : okL [(.sl [(.int .i64), (.int .i64), (.int .i64), (.int .i64), (.int .i64), (.int .i64), (.int .i64), (.int .i64), (.int .i64), (.int .i64), (.int .i64), .bool, .bool]), (.sl [(.int .i64), (.int .i64), .bool]), (.int .i64), (.int .i64)] s := (hok _ (.head _))
  have e_s_0 : D.lst (s.fld 0).toL = s.fld 0 := sl_eta (okL_at k_s (i := 0) rfl)
  have l_s_0 := sl_len (okL_at k_s (i := 0) rfl)
  have k_s_0 := sl_all (okL_at k_s (i := 0) rfl)
  have E_s_0 : ∀ i, i < (s.fld 0).toL.length → D.lst [((s.fld 0).elem i).fld 0, ((s.fld 0).elem i).fld 1, ((s.fld 0).elem i).fld 2, ((s.fld 0).elem i).fld 3, ((s.fld 0).elem i).fld 4, ((s.fld 0).elem i).fld 5, ((s.fld 0).elem i).fld 6, ((s.fld 0).elem i).fld 7, ((s.fld 0).elem i).fld 8, ((s.fld 0).elem i).fld 9, ((s.fld 0).elem i).fld 10, ((s.fld 0).elem i).fld 11, ((s.fld 0).elem i).fld 12] = (s.fld 0).elem i := fun i hi => by simpa [List.range, List.range.loop] using okL_eta (k_s_0 _ (elem_mem hi))
  have e_s_1 : D.lst (s.fld 1).toL = s.fld 1 := sl_eta (okL_at k_s (i := 1) rfl)
  have l_s_1 := sl_len (okL_at k_s (i := 1) rfl)
  have k_s_1 := sl_all (okL_at k_s (i := 1) rfl)
  have E_s_1 : ∀ i, i < (s.fld 1).toL.length → D.lst [((s.fld 1).elem i).fld 0, ((s.fld 1).elem i).fld 1, ((s.fld 1).elem i).fld 2] = (s.fld 1).elem i := fun i hi => by simpa [List.range, List.range.loop] using okL_eta (k_s_1 _ (elem_mem hi))
  have e_n := int_eta (hok _ (.tail _ (.head _)))
  have b_n := int_range (hok _ (.tail _ (.head _)))
  apply says_den (φ := fun _ _ => [])
  simp [e_s_0, E_s_0, e_s_1, E_s_1, e_s, e_n, tree_62, T.says, X.den, O1.den, O2.den, O3.den, callD, XArg.ev, XArg.dat, Callee'.num, backs, DArg.back, Conds.den, cloArgs, pieceAt]
  refine den_for (s.fld 0).toL.length 0 (fun i => [.int i]) (fun i => ∀ j, j < i → ((((s.fld 0).elem j).fld 0).toI == n.toI) = false) (by simp) (by simp [X.den]) (by simp) fun i hi hR => ?_
  apply says_den (φ := fun _ _ => [])
  by_cases hlt : i < (s.fld 0).toL.length
  · simp [e_s_0, E_s_0, e_s_1, E_s_1, e_s, e_n, tree_62, T.says, X.den, O1.den, O2.den, O3.den, callD, XArg.ev, XArg.dat, Callee'.num, backs, DArg.back, Conds.den, cloArgs, hlt]
    (repeat' (first | (with_reducible apply And.intro) | intro _))
    · exact (findR_some (p := fun i => (((s.fld 0).elem i).fld 0).toI == n.toI) hlt (by simp_all) hR).symm
    · (first | omega | (simp only [IntKind.wrap_i64, maxL] at *; omega) | (simp [IntKind.wrap_i64, maxL] at *; omega))
    · grind
  · simp [e_s_0, E_s_0, e_s_1, E_s_1, e_s, e_n, tree_62, T.says, X.den, O1.den, O2.den, O3.den, callD, XArg.ev, XArg.dat, Callee'.num, backs, DArg.back, Conds.den, cloArgs, hlt]
    (repeat' (first | (with_reducible apply And.intro) | intro _))
    · exact (findR_none fun j hj => hR j (by omega)).symm
theorem pd_62 (s n : D) (Q : List D → Prop) (ho : Q [.int (pieceAt s n.toI)]) : PC Try.prog 62 [.st [(.sl [(.int .i64), (.int .i64), (.int .i64), (.int .i64), (.int .i64), (.int .i64), (.int .i64), (.int .i64), (.int .i64), (.int .i64), (.int .i64), .bool, .bool]), (.sl [(.int .i64), (.int .i64), .bool]), (.int .i64), (.int .i64)] s, .sc (.int .i64) n] [.sc (.int .i64)] Q := (pc_62 s n).mono fun _ h => h ▸ ho
/- spec.Source -/
def phi_20 : Nat → List D → List D
  | 62, [s, n] => [.int (pieceAt s n.toI)]
  | _, _ => []
theorem pc_20 (s e : D) : PC Try.prog 20 [.st [(.sl [(.int .i64), (.int .i64), (.int .i64), (.int .i64), (.int .i64), (.int .i64), (.int .i64), (.int .i64), (.int .i64), (.int .i64), (.int .i64), .bool, .bool]), (.sl [(.int .i64), (.int .i64), .bool]), (.int .i64), (.int .i64)] s, .st [(.int .i64), (.int .i64), (.int .i64), (.int .i64), (.int .i64), (.int .i64), .bool] e] [.st [(.int .i64), (.int .i64), (.int .i64), (.int .i64), (.int .i64), (.int .i64), (.int .i64), (.int .i64), (.int .i64), (.int .i64), (.int .i64), .bool, .bool]] fun o => o = [source s e] := by
  refine PC.of_sig mix sig_20 ⟨rfl, rfl, trivial⟩ rfl fun hok => ?_
  have e_s : D.lst [s.fld 0, s.fld 1, s.fld 2, s.fld 3] = s := by simpa [List.range, List.range.loop] using okL_eta (hok _ (.head _))
  have k_s : okL [(.sl [(.int .i64), (.int .i64), (.int .i64), (.int .i64), (.int .i64), (.int .i64), (.int .i64), (.int .i64), (.int .i64), (.int .i64), (.int .i64), .bool, .bool]), (.sl [(.int .i64), (.int .i64), .bool]), (.int .i64), (.int .i64)] s := (hok _ (.head _))
  have e_s_0 : D.lst (s.fld 0).toL = s.fld 0 := sl_eta (okL_at k_s (i := 0) rfl)
  have l_s_0 := sl_len (okL_at k_s (i := 0) rfl)
  have k_s_0 := sl_all (okL_at k_s (i := 0) rfl)
  have E_s_0 : ∀ i, i < (s.fld 0).toL.length → D.lst [((s.fld 0).elem i).fld 0, ((s.fld 0).elem i).fld 1, ((s.fld 0).elem i).fld 2, ((s.fld 0).elem i).fld 3, ((s.fld 0).elem i).fld 4, ((s.fld 0).elem i).fld 5, ((s.fld 0).elem i).fld 6, ((s.fld 0).elem i).fld 7, ((s.fld 0).elem i).fld 8, ((s.fld 0).elem i).fld 9, ((s.fld 0).elem i).fld 10, ((s.fld 0).elem i).fld 11, ((s.fld 0).elem i).fld 12] = (s.fld 0).elem i := fun i hi => by simpa [List.range, List.range.loop] using okL_eta (k_s_0 _ (elem_mem hi))
  have e_s_1 : D.lst (s.fld 1).toL = s.fld 1 := sl_eta (okL_at k_s (i := 1) rfl)
  have l_s_1 := sl_len (okL_at k_s (i := 1) rfl)
  have k_s_1 := sl_all (okL_at k_s (i := 1) rfl)
  have E_s_1 : ∀ i, i < (s.fld 1).toL.length → D.lst [((s.fld 1).elem i).fld 0, ((s.fld 1).elem i).fld 1, ((s.fld 1).elem i).fld 2] = (s.fld 1).elem i := fun i hi => by simpa [List.range, List.range.loop] using okL_eta (k_s_1 _ (elem_mem hi))
  have e_e : D.lst [e.fld 0, e.fld 1, e.fld 2, e.fld 3, e.fld 4, e.fld 5, e.fld 6] = e := by simpa [List.range, List.range.loop] using okL_eta (hok _ (.tail _ (.head _)))
  have k_e : okL [(.int .i64), (.int .i64), (.int .i64), (.int .i64), (.int .i64), (.int .i64), .bool] e := (hok _ (.tail _ (.head _)))
  apply says_den (φ := (phi_20))
  have hr := pieceAt_range s (e.fld 1).toI
  simp [e_s_0, E_s_0, e_s_1, E_s_1, e_s, e_e, tree_20, T.says, X.den, O1.den, O2.den, O3.den, callD, XArg.ev, XArg.dat, Callee'.num, backs, DArg.back, Conds.den, cloArgs, phi_20, pd_62]
  (repeat' (first | (with_reducible apply And.intro) | intro _))
  · rw [source, if_pos ‹_›]; rfl
  · omega
  · omega
  · rw [E_s_0 _ (by omega), source, if_neg (by omega)]
theorem pd_20 (s e : D) (Q : List D → Prop) (ho : Q [source s e]) : PC Try.prog 20 [.st [(.sl [(.int .i64), (.int .i64), (.int .i64), (.int .i64), (.int .i64), (.int .i64), (.int .i64), (.int .i64), (.int .i64), (.int .i64), (.int .i64), .bool, .bool]), (.sl [(.int .i64), (.int .i64), .bool]), (.int .i64), (.int .i64)] s, .st [(.int .i64), (.int .i64), (.int .i64), (.int .i64), (.int .i64), (.int .i64), .bool] e] [.st [(.int .i64), (.int .i64), (.int .i64), (.int .i64), (.int .i64), (.int .i64), (.int .i64), (.int .i64), (.int .i64), (.int .i64), (.int .i64), .bool, .bool]] Q := (pc_20 s e).mono fun _ h => h ▸ ho
/- spec.SourceFits -/
def phi_26 : Nat → List D → List D
  | 20, [s, e] => [source s e]
  | _, _ => []
theorem pc_26 (s p e : D) : PC Try.prog 26 [.st [(.sl [(.int .i64), (.int .i64), (.int .i64), (.int .i64), (.int .i64), (.int .i64), (.int .i64), (.int .i64), (.int .i64), (.int .i64), (.int .i64), .bool, .bool]), (.sl [(.int .i64), (.int .i64), .bool]), (.int .i64), (.int .i64)] s, .st [(.int .i64), (.int .i64), (.int .i64), (.int .i64), (.int .i64), (.int .i64), (.int .i64)] p, .st [(.int .i64), (.int .i64), (.int .i64), (.int .i64), (.int .i64), (.int .i64), .bool] e] [.sc .bool] fun o => o = [.bool (sourceFits s p e)] := by
  refine PC.of_sig mix sig_26 ⟨rfl, rfl, rfl, trivial⟩ rfl fun hok => ?_
  have e_s : D.lst [s.fld 0, s.fld 1, s.fld 2, s.fld 3] = s := by simpa [List.range, List.range.loop] using okL_eta (hok _ (.head _))
  have k_s : okL [(.sl [(.int .i64), (.int .i64), (.int .i64), (.int .i64), (.int .i64), (.int .i64), (.int .i64), (.int .i64), (.int .i64), (.int .i64), (.int .i64), .bool, .bool]), (.sl [(.int .i64), (.int .i64), .bool]), (.int .i64), (.int .i64)] s := (hok _ (.head _))
  have e_s_0 : D.lst (s.fld 0).toL = s.fld 0 := sl_eta (okL_at k_s (i := 0) rfl)
  have l_s_0 := sl_len (okL_at k_s (i := 0) rfl)
  have k_s_0 := sl_all (okL_at k_s (i := 0) rfl)
  have E_s_0 : ∀ i, i < (s.fld 0).toL.length → D.lst [((s.fld 0).elem i).fld 0, ((s.fld 0).elem i).fld 1, ((s.fld 0).elem i).fld 2, ((s.fld 0).elem i).fld 3, ((s.fld 0).elem i).fld 4, ((s.fld 0).elem i).fld 5, ((s.fld 0).elem i).fld 6, ((s.fld 0).elem i).fld 7, ((s.fld 0).elem i).fld 8, ((s.fld 0).elem i).fld 9, ((s.fld 0).elem i).fld 10, ((s.fld 0).elem i).fld 11, ((s.fld 0).elem i).fld 12] = (s.fld 0).elem i := fun i hi => by simpa [List.range, List.range.loop] using okL_eta (k_s_0 _ (elem_mem hi))
  have e_s_1 : D.lst (s.fld 1).toL = s.fld 1 := sl_eta (okL_at k_s (i := 1) rfl)
  have l_s_1 := sl_len (okL_at k_s (i := 1) rfl)
  have k_s_1 := sl_all (okL_at k_s (i := 1) rfl)
  have E_s_1 : ∀ i, i < (s.fld 1).toL.length → D.lst [((s.fld 1).elem i).fld 0, ((s.fld 1).elem i).fld 1, ((s.fld 1).elem i).fld 2] = (s.fld 1).elem i := fun i hi => by simpa [List.range, List.range.loop] using okL_eta (k_s_1 _ (elem_mem hi))
  have e_p : D.lst [p.fld 0, p.fld 1, p.fld 2, p.fld 3, p.fld 4, p.fld 5, p.fld 6] = p := by simpa [List.range, List.range.loop] using okL_eta (hok _ (.tail _ (.head _)))
  have k_p : okL [(.int .i64), (.int .i64), (.int .i64), (.int .i64), (.int .i64), (.int .i64), (.int .i64)] p := (hok _ (.tail _ (.head _)))
  have e_e : D.lst [e.fld 0, e.fld 1, e.fld 2, e.fld 3, e.fld 4, e.fld 5, e.fld 6] = e := by simpa [List.range, List.range.loop] using okL_eta (hok _ (.tail _ (.tail _ (.head _))))
  have k_e : okL [(.int .i64), (.int .i64), (.int .i64), (.int .i64), (.int .i64), (.int .i64), .bool] e := (hok _ (.tail _ (.tail _ (.head _))))
  apply says_den (φ := (phi_26))
  simp [e_s_0, E_s_0, e_s_1, E_s_1, e_s, e_p, e_e, tree_26, T.says, X.den, O1.den, O2.den, O3.den, callD, XArg.ev, XArg.dat, Callee'.num, backs, DArg.back, Conds.den, cloArgs, phi_26, pd_20, sourceFits]
  all_goals grind
theorem pd_26 (s p e : D) (Q : List D → Prop) (ho : Q [.bool (sourceFits s p e)]) : PC Try.prog 26 [.st [(.sl [(.int .i64), (.int .i64), (.int .i64), (.int .i64), (.int .i64), (.int .i64), (.int .i64), (.int .i64), (.int .i64), (.int .i64), (.int .i64), .bool, .bool]), (.sl [(.int .i64), (.int .i64), .bool]), (.int .i64), (.int .i64)] s, .st [(.int .i64), (.int .i64), (.int .i64), (.int .i64), (.int .i64), (.int .i64), (.int .i64)] p, .st [(.int .i64), (.int .i64), (.int .i64), (.int .i64), (.int .i64), (.int .i64), .bool] e] [.sc .bool] Q := (pc_26 s p e).mono fun _ h => h ▸ ho
/- spec.l1In -/
theorem pc_64 (a b c : D) : PC Try.prog 64 [.sc (.int .i64) a, .sc (.int .i64) b, .sc (.int .i64) c] [.sc .bool] fun o => o = [.bool (inR a.toI b.toI c.toI)] := by
  refine PC.of_sig mix sig_64 ⟨rfl, rfl, rfl, trivial⟩ rfl fun hok => ?_
  have e_a := int_eta (hok _ (.head _))
  have b_a := int_range (hok _ (.head _))
  have e_b := int_eta (hok _ (.tail _ (.head _)))
  have b_b := int_range (hok _ (.tail _ (.head _)))
  have e_c := int_eta (hok _ (.tail _ (.tail _ (.head _))))
  have b_c := int_range (hok _ (.tail _ (.tail _ (.head _))))
  apply says_den (φ := fun _ _ => [])
  simp [e_a, e_b, e_c, tree_64, T.says, X.den, O1.den, O2.den, O3.den, callD, XArg.ev, XArg.dat, Callee'.num, backs, DArg.back, Conds.den, cloArgs, inR]
theorem pd_64 (a b c : D) (Q : List D → Prop) (ho : Q [.bool (inR a.toI b.toI c.toI)]) : PC Try.prog 64 [.sc (.int .i64) a, .sc (.int .i64) b, .sc (.int .i64) c] [.sc .bool] Q := (pc_64 a b c).mono fun _ h => h ▸ ho
/- spec.Target -/
def phi_24 : Nat → List D → List D
  | 62, [s, n] => [.int (pieceAt s n.toI)]
  | 64, [a, b, c] => [.bool (inR a.toI b.toI c.toI)]
  | _, _ => []
theorem pc_24 (s e : D) : PC Try.prog 24 [.st [(.sl [(.int .i64), (.int .i64), (.int .i64), (.int .i64), (.int .i64), (.int .i64), (.int .i64), (.int .i64), (.int .i64), (.int .i64), (.int .i64), .bool, .bool]), (.sl [(.int .i64), (.int .i64), .bool]), (.int .i64), (.int .i64)] s, .st [(.int .i64), (.int .i64), (.int .i64), (.int .i64), (.int .i64), (.int .i64), .bool] e] [.sc (.int .i64)] fun o => o = [.int (target s e)] := by
  refine PC.of_sig mix sig_24 ⟨rfl, rfl, trivial⟩ rfl fun hok => ?_
  have e_s : D.lst [s.fld 0, s.fld 1, s.fld 2, s.fld 3] = s := by simpa [List.range, List.range.loop] using okL_eta (hok _ (.head _))
  have k_s : okL [(.sl [(.int .i64), (.int .i64), (.int .i64), (.int .i64), (.int .i64), (.int .i64), (.int .i64), (.int .i64), (.int .i64), (.int .i64), (.int .i64), .bool, .bool]), (.sl [(.int .i64), (.int .i64), .bool]), (.int .i64), (.int .i64)] s := (hok _ (.head _))
  have e_s_0 : D.lst (s.fld 0).toL = s.fld 0 := sl_eta (okL_at k_s (i := 0) rfl)
  have l_s_0 := sl_len (okL_at k_s (i := 0) rfl)
  have k_s_0 := sl_all (okL_at k_s (i := 0) rfl)
  have E_s_0 : ∀ i, i < (s.fld 0).toL.length → D.lst [((s.fld 0).elem i).fld 0, ((s.fld 0).elem i).fld 1, ((s.fld 0).elem i).fld 2, ((s.fld 0).elem i).fld 3, ((s.fld 0).elem i).fld 4, ((s.fld 0).elem i).fld 5, ((s.fld 0).elem i).fld 6, ((s.fld 0).elem i).fld 7, ((s.fld 0).elem i).fld 8, ((s.fld 0).elem i).fld 9, ((s.fld 0).elem i).fld 10, ((s.fld 0).elem i).fld 11, ((s.fld 0).elem i).fld 12] = (s.fld 0).elem i := fun i hi => by simpa [List.range, List.range.loop] using okL_eta (k_s_0 _ (elem_mem hi))
  have e_s_1 : D.lst (s.fld 1).toL = s.fld 1 := sl_eta (okL_at k_s (i := 1) rfl)
  have l_s_1 := sl_len (okL_at k_s (i := 1) rfl)
  have k_s_1 := sl_all (okL_at k_s (i := 1) rfl)
  have E_s_1 : ∀ i, i < (s.fld 1).toL.length → D.lst [((s.fld 1).elem i).fld 0, ((s.fld 1).elem i).fld 1, ((s.fld 1).elem i).fld 2] = (s.fld 1).elem i := fun i hi => by simpa [List.range, List.range.loop] using okL_eta (k_s_1 _ (elem_mem hi))
  have e_e : D.lst [e.fld 0, e.fld 1, e.fld 2, e.fld 3, e.fld 4, e.fld 5, e.fld 6] = e := by simpa [List.range, List.range.loop] using okL_eta (hok _ (.tail _ (.head _)))
  have k_e : okL [(.int .i64), (.int .i64), (.int .i64), (.int .i64), (.int .i64), (.int .i64), .bool] e := (hok _ (.tail _ (.head _)))
  apply says_den (φ := (phi_24))
  have hr := pieceAt_range s (e.fld 2).toI
  have i3 := int_eta (okL_at k_e (i := 3) rfl)
  have hw : IntKind.i64.wrap (((s.fld 1).toL.length : Int) - 1) = (s.fld 1).toL.length - 1 := by (first | omega | (simp only [IntKind.wrap_i64, maxL] at *; omega) | (simp [IntKind.wrap_i64, maxL] at *; omega))
  simp [e_s_0, E_s_0, e_s_1, E_s_1, e_s, e_e, tree_24, T.says, X.den, O1.den, O2.den, O3.den, callD, XArg.ev, XArg.dat, Callee'.num, backs, DArg.back, Conds.den, cloArgs, phi_24, pd_62, pd_64, hw]
  (repeat' (first | (with_reducible apply And.intro) | intro _))
  all_goals first | omega | (rw [target, if_pos (by omega), if_neg (by simp_all)]; done) | (rw [target, if_pos (by omega), if_pos (by simp_all)]; exact i3.symm) | (rw [target, if_neg (by omega), if_pos (by omega)]; done) | skip
  · rw [target, if_neg (by omega), if_neg (by omega)]
    exact (int_eta (okL_at (k_s_0 _ (elem_mem (by omega))) (i := 2) rfl)).symm
theorem pd_24 (s e : D) (Q : List D → Prop) (ho : Q [.int (target s e)]) : PC Try.prog 24 [.st [(.sl [(.int .i64), (.int .i64), (.int .i64), (.int .i64), (.int .i64), (.int .i64), (.int .i64), (.int .i64), (.int .i64), (.int .i64), (.int .i64), .bool, .bool]), (.sl [(.int .i64), (.int .i64), .bool]), (.int .i64), (.int .i64)] s, .st [(.int .i64), (.int .i64), (.int .i64), (.int .i64), (.int .i64), (.int .i64), .bool] e] [.sc (.int .i64)] Q := (pc_24 s e).mono fun _ h => h ▸ ho
/- spec.TargetFits -/
def phi_29 : Nat → List D → List D
  | 24, [s, e] => [.int (target s e)]
  | _, _ => []
theorem pc_29 (s n p e : D) : PC Try.prog 29 [.st [(.sl [(.int .i64), (.int .i64), (.int .i64), (.int .i64), (.int .i64), (.int .i64), (.int .i64), (.int .i64), (.int .i64), (.int .i64), (.int .i64), .bool, .bool]), (.sl [(.int .i64), (.int .i64), .bool]), (.int .i64), (.int .i64)] s, .sc (.int .i64) n, .st [(.int .i64), (.int .i64), (.int .i64), (.int .i64), (.int .i64), (.int .i64), (.int .i64)] p, .st [(.int .i64), (.int .i64), (.int .i64), (.int .i64), (.int .i64), (.int .i64), .bool] e] [.sc .bool] fun o => o = [.bool (targetFits s n.toI p e)] := by
  refine PC.of_sig mix sig_29 ⟨rfl, rfl, rfl, rfl, trivial⟩ rfl fun hok => ?_
  have e_s : D.lst [s.fld 0, s.fld 1, s.fld 2, s.fld 3] = s := by simpa [List.range, List.range.loop] using okL_eta (hok _ (.head _))
  have k_s : okL [(.sl [(.int .i64), (.int .i64), (.int .i64), (.int .i64), (.int .i64), (.int .i64), (.int .i64), (.int .i64), (.int .i64), (.int .i64), (.int .i64), .bool, .bool]), (.sl [(.int .i64), (.int .i64), .bool]), (.int .i64), (.int .i64)] s := (hok _ (.head _))
  have e_s_0 : D.lst (s.fld 0).toL = s.fld 0 := sl_eta (okL_at k_s (i := 0) rfl)
  have l_s_0 := sl_len (okL_at k_s (i := 0) rfl)
  have k_s_0 := sl_all (okL_at k_s (i := 0) rfl)
  have E_s_0 : ∀ i, i < (s.fld 0).toL.length → D.lst [((s.fld 0).elem i).fld 0, ((s.fld 0).elem i).fld 1, ((s.fld 0).elem i).fld 2, ((s.fld 0).elem i).fld 3, ((s.fld 0).elem i).fld 4, ((s.fld 0).elem i).fld 5, ((s.fld 0).elem i).fld 6, ((s.fld 0).elem i).fld 7, ((s.fld 0).elem i).fld 8, ((s.fld 0).elem i).fld 9, ((s.fld 0).elem i).fld 10, ((s.fld 0).elem i).fld 11, ((s.fld 0).elem i).fld 12] = (s.fld 0).elem i := fun i hi => by simpa [List.range, List.range.loop] using okL_eta (k_s_0 _ (elem_mem hi))
  have e_s_1 : D.lst (s.fld 1).toL = s.fld 1 := sl_eta (okL_at k_s (i := 1) rfl)
  have l_s_1 := sl_len (okL_at k_s (i := 1) rfl)
  have k_s_1 := sl_all (okL_at k_s (i := 1) rfl)
  have E_s_1 : ∀ i, i < (s.fld 1).toL.length → D.lst [((s.fld 1).elem i).fld 0, ((s.fld 1).elem i).fld 1, ((s.fld 1).elem i).fld 2] = (s.fld 1).elem i := fun i hi => by simpa [List.range, List.range.loop] using okL_eta (k_s_1 _ (elem_mem hi))
  have e_n := int_eta (hok _ (.tail _ (.head _)))
  have b_n := int_range (hok _ (.tail _ (.head _)))
  have e_p : D.lst [p.fld 0, p.fld 1, p.fld 2, p.fld 3, p.fld 4, p.fld 5, p.fld 6] = p := by simpa [List.range, List.range.loop] using okL_eta (hok _ (.tail _ (.tail _ (.head _))))
  have k_p : okL [(.int .i64), (.int .i64), (.int .i64), (.int .i64), (.int .i64), (.int .i64), (.int .i64)] p := (hok _ (.tail _ (.tail _ (.head _))))
  have e_e : D.lst [e.fld 0, e.fld 1, e.fld 2, e.fld 3, e.fld 4, e.fld 5, e.fld 6] = e := by simpa [List.range, List.range.loop] using okL_eta (hok _ (.tail _ (.tail _ (.tail _ (.head _)))))
  have k_e : okL [(.int .i64), (.int .i64), (.int .i64), (.int .i64), (.int .i64), (.int .i64), .bool] e := (hok _ (.tail _ (.tail _ (.tail _ (.head _)))))
  apply says_den (φ := (phi_29))
  simp [e_s_0, E_s_0, e_s_1, E_s_1, e_s, e_n, e_p, e_e, tree_29, T.says, X.den, O1.den, O2.den, O3.den, callD, XArg.ev, XArg.dat, Callee'.num, backs, DArg.back, Conds.den, cloArgs, phi_29, pd_24, targetFits]
  all_goals grind
theorem pd_29 (s n p e : D) (Q : List D → Prop) (ho : Q [.bool (targetFits s n.toI p e)]) : PC Try.prog 29 [.st [(.sl [(.int .i64), (.int .i64), (.int .i64), (.int .i64), (.int .i64), (.int .i64), (.int .i64), (.int .i64), (.int .i64), (.int .i64), (.int .i64), .bool, .bool]), (.sl [(.int .i64), (.int .i64), .bool]), (.int .i64), (.int .i64)] s, .sc (.int .i64) n, .st [(.int .i64), (.int .i64), (.int .i64), (.int .i64), (.int .i64), (.int .i64), (.int .i64)] p, .st [(.int .i64), (.int .i64), (.int .i64), (.int .i64), (.int .i64), (.int .i64), .bool] e] [.sc .bool] Q := (pc_29 s n p e).mono fun _ h => h ▸ ho
/- spec.PatOk -/
def phi_70 : Nat → List D → List D
  | 64, [a, b, c] => [.bool (inR a.toI b.toI c.toI)]
  | _, _ => []
theorem pc_70 (d : D) : PC Try.prog 70 [.st [(.int .i64), (.int .i64), (.int .i64), (.int .i64), (.int .i64), (.int .i64), (.int .i64)] d] [.sc .bool] fun o => o = [.bool (patOk d)] := by
  refine PC.of_sig mix sig_70 ⟨rfl, trivial⟩ rfl fun hok => ?_
  have e_d : D.lst [d.fld 0, d.fld 1, d.fld 2, d.fld 3, d.fld 4, d.fld 5, d.fld 6] = d := by simpa [List.range, List.range.loop] using okL_eta (hok _ (.head _))
  have k_d : okL [(.int .i64), (.int .i64), (.int .i64), (.int .i64), (.int .i64), (.int .i64), (.int .i64)] d := (hok _ (.head _))
  apply says_den (φ := (phi_70))
  simp [e_d, tree_70, T.says, X.den, O1.den, O2.den, O3.den, callD, XArg.ev, XArg.dat, Callee'.num, backs, DArg.back, Conds.den, cloArgs, phi_70, pd_64]
  (repeat' (first | (with_reducible apply And.intro) | intro _)) <;> grind [patOk]
theorem pd_70 (d : D) (Q : List D → Prop) (ho : Q [.bool (patOk d)]) : PC Try.prog 70 [.st [(.int .i64), (.int .i64), (.int .i64), (.int .i64), (.int .i64), (.int .i64), (.int .i64)] d] [.sc .bool] Q := (pc_70 d).mono fun _ h => h ▸ ho
/- spec.EventOk -/
def phi_71 : Nat → List D → List D
  | 64, [a, b, c] => [.bool (inR a.toI b.toI c.toI)]
  | _, _ => []
theorem pc_71 (e : D) : PC Try.prog 71 [.st [(.int .i64), (.int .i64), (.int .i64), (.int .i64), (.int .i64), (.int .i64), .bool] e] [.sc .bool] fun o => o = [.bool (eventOk e)] := by
  refine PC.of_sig mix sig_71 ⟨rfl, trivial⟩ rfl fun hok => ?_
  have e_e : D.lst [e.fld 0, e.fld 1, e.fld 2, e.fld 3, e.fld 4, e.fld 5, e.fld 6] = e := by simpa [List.range, List.range.loop] using okL_eta (hok _ (.head _))
  have k_e : okL [(.int .i64), (.int .i64), (.int .i64), (.int .i64), (.int .i64), (.int .i64), .bool] e := (hok _ (.head _))
  apply says_den (φ := (phi_71))
  simp [e_e, tree_71, T.says, X.den, O1.den, O2.den, O3.den, callD, XArg.ev, XArg.dat, Callee'.num, backs, DArg.back, Conds.den, cloArgs, phi_71, pd_64]
  (repeat' (first | (with_reducible apply And.intro) | intro _)) <;> grind [eventOk, onPiece, onPlayer]
theorem pd_71 (e : D) (Q : List D → Prop) (ho : Q [.bool (eventOk e)]) : PC Try.prog 71 [.st [(.int .i64), (.int .i64), (.int .i64), (.int .i64), (.int .i64), (.int .i64), .bool] e] [.sc .bool] Q := (pc_71 e).mono fun _ h => h ▸ ho
/- spec.PatFits -/
def phi_34 : Nat → List D → List D
  | 26, [s, p, e] => [.bool (sourceFits s p e)]
  | 29, [s, n, p, e] => [.bool (targetFits s n.toI p e)]
  | 70, [d] => [.bool (patOk d)]
  | 71, [e] => [.bool (eventOk e)]
  | _, _ => []
theorem pc_34 (s n p e : D) : PC Try.prog 34 [.st [(.sl [(.int .i64), (.int .i64), (.int .i64), (.int .i64), (.int .i64), (.int .i64), (.int .i64), (.int .i64), (.int .i64), (.int .i64), (.int .i64), .bool, .bool]), (.sl [(.int .i64), (.int .i64), .bool]), (.int .i64), (.int .i64)] s, .sc (.int .i64) n, .st [(.int .i64), (.int .i64), (.int .i64), (.int .i64), (.int .i64), (.int .i64), (.int .i64)] p, .st [(.int .i64), (.int .i64), (.int .i64), (.int .i64), (.int .i64), (.int .i64), .bool] e] [.sc .bool] fun o => o = [.bool (patFits s n.toI p e)] := by
  refine PC.of_sig mix sig_34 ⟨rfl, rfl, rfl, rfl, trivial⟩ rfl fun hok => ?_
  have e_s : D.lst [s.fld 0, s.fld 1, s.fld 2, s.fld 3] = s := by simpa [List.range, List.range.loop] using okL_eta (hok _ (.head _))
  have k_s : okL [(.sl [(.int .i64), (.int .i64), (.int .i64), (.int .i64), (.int .i64), (.int .i64), (.int .i64), (.int .i64), (.int .i64), (.int .i64), (.int .i64), .bool, .bool]), (.sl [(.int .i64), (.int .i64), .bool]), (.int .i64), (.int .i64)] s := (hok _ (.head _))
  have e_s_0 : D.lst (s.fld 0).toL = s.fld 0 := sl_eta (okL_at k_s (i := 0) rfl)
  have l_s_0 := sl_len (okL_at k_s (i := 0) rfl)
  have k_s_0 := sl_all (okL_at k_s (i := 0) rfl)
  have E_s_0 : ∀ i, i < (s.fld 0).toL.length → D.lst [((s.fld 0).elem i).fld 0, ((s.fld 0).elem i).fld 1, ((s.fld 0).elem i).fld 2, ((s.fld 0).elem i).fld 3, ((s.fld 0).elem i).fld 4, ((s.fld 0).elem i).fld 5, ((s.fld 0).elem i).fld 6, ((s.fld 0).elem i).fld 7, ((s.fld 0).elem i).fld 8, ((s.fld 0).elem i).fld 9, ((s.fld 0).elem i).fld 10, ((s.fld 0).elem i).fld 11, ((s.fld 0).elem i).fld 12] = (s.fld 0).elem i := fun i hi => by simpa [List.range, List.range.loop] using okL_eta (k_s_0 _ (elem_mem hi))
  have e_s_1 : D.lst (s.fld 1).toL = s.fld 1 := sl_eta (okL_at k_s (i := 1) rfl)
  have l_s_1 := sl_len (okL_at k_s (i := 1) rfl)
  have k_s_1 := sl_all (okL_at k_s (i := 1) rfl)
  have E_s_1 : ∀ i, i < (s.fld 1).toL.length → D.lst [((s.fld 1).elem i).fld 0, ((s.fld 1).elem i).fld 1, ((s.fld 1).elem i).fld 2] = (s.fld 1).elem i := fun i hi => by simpa [List.range, List.range.loop] using okL_eta (k_s_1 _ (elem_mem hi))
  have e_n := int_eta (hok _ (.tail _ (.head _)))
  have b_n := int_range (hok _ (.tail _ (.head _)))
  have e_p : D.lst [p.fld 0, p.fld 1, p.fld 2, p.fld 3, p.fld 4, p.fld 5, p.fld 6] = p := by simpa [List.range, List.range.loop] using okL_eta (hok _ (.tail _ (.tail _ (.head _))))
  have k_p : okL [(.int .i64), (.int .i64), (.int .i64), (.int .i64), (.int .i64), (.int .i64), (.int .i64)] p := (hok _ (.tail _ (.tail _ (.head _))))
  have e_e : D.lst [e.fld 0, e.fld 1, e.fld 2, e.fld 3, e.fld 4, e.fld 5, e.fld 6] = e := by simpa [List.range, List.range.loop] using okL_eta (hok _ (.tail _ (.tail _ (.tail _ (.head _)))))
  have k_e : okL [(.int .i64), (.int .i64), (.int .i64), (.int .i64), (.int .i64), (.int .i64), .bool] e := (hok _ (.tail _ (.tail _ (.tail _ (.head _)))))
  apply says_den (φ := (phi_34))
  simp [e_s_0, E_s_0, e_s_1, E_s_1, e_s, e_n, e_p, e_e, tree_34, T.says, X.den, O1.den, O2.den, O3.den, callD, XArg.ev, XArg.dat, Callee'.num, backs, DArg.back, Conds.den, cloArgs, phi_34, pd_26, pd_29, pd_70, pd_71, patFits]
  all_goals grind
theorem pd_34 (s n p e : D) (Q : List D → Prop) (ho : Q [.bool (patFits s n.toI p e)]) : PC Try.prog 34 [.st [(.sl [(.int .i64), (.int .i64), (.int .i64), (.int .i64), (.int .i64), (.int .i64), (.int .i64), (.int .i64), (.int .i64), (.int .i64), (.int .i64), .bool, .bool]), (.sl [(.int .i64), (.int .i64), .bool]), (.int .i64), (.int .i64)] s, .sc (.int .i64) n, .st [(.int .i64), (.int .i64), (.int .i64), (.int .i64), (.int .i64), (.int .i64), (.int .i64)] p, .st [(.int .i64), (.int .i64), (.int .i64), (.int .i64), (.int .i64), (.int .i64), .bool] e] [.sc .bool] Q := (pc_34 s n p e).mono fun _ h => h ▸ ho
/- impl.PieceAt$1 -/
theorem pc_98 (e c : D) : PC Try.prog 98 [.st [(.int .i64), (.int .i64), (.int .i64), (.int .i64), (.int .i64), (.int .i64), (.int .i64), (.int .i64), (.int .i64), (.int .i64), (.int .i64), .bool, .bool] e, .bx [(.int .i64)] c] [.sc .bool] fun o => o = [.bool ((e.fld 0).toI == (c.fld 0).toI)] := by
  refine PC.of_sigC («as» := [.st [(.int .i64), (.int .i64), (.int .i64), (.int .i64), (.int .i64), (.int .i64), (.int .i64), (.int .i64), (.int .i64), (.int .i64), (.int .i64), .bool, .bool] e]) [([(.int .i64)], c)] mix sig_98 ⟨rfl, trivial⟩ rfl fun hok => ?_
  have e_e : D.lst [e.fld 0, e.fld 1, e.fld 2, e.fld 3, e.fld 4, e.fld 5, e.fld 6, e.fld 7, e.fld 8, e.fld 9, e.fld 10, e.fld 11, e.fld 12] = e := by simpa [List.range, List.range.loop] using okL_eta (hok _ (.head _))
  have k_e : okL [(.int .i64), (.int .i64), (.int .i64), (.int .i64), (.int .i64), (.int .i64), (.int .i64), (.int .i64), (.int .i64), (.int .i64), (.int .i64), .bool, .bool] e := (hok _ (.head _))
  apply says_den (φ := fun _ _ => [])
  simp [e_e, tree_98, T.says, X.den, O1.den, O2.den, O3.den, callD, XArg.ev, XArg.dat, Callee'.num, backs, DArg.back, Conds.den, cloArgs]
theorem pd_98 (e c : D) (Q : List D → Prop) (ho : Q [.bool ((e.fld 0).toI == (c.fld 0).toI)]) : PC Try.prog 98 [.st [(.int .i64), (.int .i64), (.int .i64), (.int .i64), (.int .i64), (.int .i64), (.int .i64), (.int .i64), (.int .i64), (.int .i64), (.int .i64), .bool, .bool] e, .bx [(.int .i64)] c] [.sc .bool] Q := (pc_98 e c).mono fun _ h => h ▸ ho
/- slices.IndexFunc[[]impl.Piece,impl.Piece] -/
def phi_97 (a c : D) : Nat → List D → List D
  | 98, [e, c] => [.bool ((e.fld 0).toI == (c.fld 0).toI)]
  | 0, [e] => [.bool ((e.fld 0).toI == (c.fld 0).toI)]
  | _, _ => []
theorem pc_97 (a c : D) : PC Try.prog 97 [.sc (.sl [(.int .i64), (.int .i64), (.int .i64), (.int .i64), (.int .i64), (.int .i64), (.int .i64), (.int .i64), (.int .i64), (.int .i64), (.int .i64), .bool, .bool]) a, .clo 98 [([(.int .i64)], c)]] [.sc (.int .i64)] fun o => o = [.int (findR (fun i => ((a.elem i).fld 0).toI == (c.fld 0).toI) a.toL.length)] := by
  refine PC.of_sig mix sig_97 ⟨rfl, trivial, trivial⟩ rfl fun hok => ?_
  have e_a := sl_eta (hok _ (.head _))
  have l_a := sl_len (hok _ (.head _))
  have k_a := sl_all (hok _ (.head _))
  have E_a : ∀ i, i < a.toL.length → D.lst [(a.elem i).fld 0, (a.elem i).fld 1, (a.elem i).fld 2, (a.elem i).fld 3, (a.elem i).fld 4, (a.elem i).fld 5, (a.elem i).fld 6, (a.elem i).fld 7, (a.elem i).fld 8, (a.elem i).fld 9, (a.elem i).fld 10, (a.elem i).fld 11, (a.elem i).fld 12] = a.elem i := fun i hi => by simpa [List.range, List.range.loop] using okL_eta (k_a _ (elem_mem hi))
  apply says_den (φ := (phi_97 a c))
  simp [e_a, E_a, tree_97, T.says, X.den, O1.den, O2.den, O3.den, callD, XArg.ev, XArg.dat, Callee'.num, backs, DArg.back, Conds.den, cloArgs, phi_97, pd_98]
  refine fun _ => ?_
  refine den_for a.toL.length 0 (fun i => [.int i]) (fun i => ∀ j, j < i → (((a.elem j).fld 0).toI == (c.fld 0).toI) = false) (by simp) (by simp [X.den]) (by simp) fun i hi hR => ?_
  apply says_den (φ := (phi_97 a c))
  by_cases hlt : i < a.toL.length
  · simp [e_a, E_a, tree_97, T.says, X.den, O1.den, O2.den, O3.den, callD, XArg.ev, XArg.dat, Callee'.num, backs, DArg.back, Conds.den, cloArgs, phi_97, pd_98, hlt]
    (repeat' (first | (with_reducible apply And.intro) | intro _))
    · exact (findR_some (p := fun i => ((a.elem i).fld 0).toI == (c.fld 0).toI) hlt (by simp_all) hR).symm
    · (first | omega | (simp only [IntKind.wrap_i64, maxL] at *; omega) | (simp [IntKind.wrap_i64, maxL] at *; omega))
    · grind
  · simp [e_a, E_a, tree_97, T.says, X.den, O1.den, O2.den, O3.den, callD, XArg.ev, XArg.dat, Callee'.num, backs, DArg.back, Conds.den, cloArgs, phi_97, pd_98, hlt]
    (repeat' (first | (with_reducible apply And.intro) | intro _))
    · exact (findR_none fun j hj => hR j (by omega)).symm
theorem pd_97 (a c : D) (Q : List D → Prop) (ho : Q [.int (findR (fun i => ((a.elem i).fld 0).toI == (c.fld 0).toI) a.toL.length)]) : PC Try.prog 97 [.sc (.sl [(.int .i64), (.int .i64), (.int .i64), (.int .i64), (.int .i64), (.int .i64), (.int .i64), (.int .i64), (.int .i64), (.int .i64), (.int .i64), .bool, .bool]) a, .clo 98 [([(.int .i64)], c)]] [.sc (.int .i64)] Q := (pc_97 a c).mono fun _ h => h ▸ ho
/- impl.PieceAt -/
def phi_63 (s n : D) : Nat → List D → List D
  | 97, [a, _] => [.int (findR (fun i => ((a.elem i).fld 0).toI == n.toI) a.toL.length)]
  | 98, [e, c] => [.bool ((e.fld 0).toI == (c.fld 0).toI)]
  | _, _ => []
theorem pc_63 (s n : D) : PC Try.prog 63 [.st [(.sl [(.int .i64), (.int .i64), (.int .i64), (.int .i64), (.int .i64), (.int .i64), (.int .i64), (.int .i64), (.int .i64), (.int .i64), (.int .i64), .bool, .bool]), (.sl [(.int .i64), (.int .i64), .bool]), (.int .i64), (.int .i64)] s, .sc (.int .i64) n] [.sc (.int .i64)] fun o => o = [.int (pieceAt s n.toI)] := by
  refine PC.of_sig mix sig_63 ⟨rfl, rfl, trivial⟩ rfl fun hok => ?_
  have e_s : D.lst [s.fld 0, s.fld 1, s.fld 2, s.fld 3] = s := by simpa [List.range, List.range.loop] using okL_eta (hok _ (.head _))
  have k_s : okL [(.sl [(.int .i64), (.int .i64), (.int .i64), (.int .i64), (.int .i64), (.int .i64), (.int .i64), (.int .i64), (.int .i64), (.int .i64), (.int .i64), .bool, .bool]), (.sl [(.int .i64), (.int .i64), .bool]), (.int .i64), (.int .i64)] s := (hok _ (.head _))
  have e_s_0 : D.lst (s.fld 0).toL = s.fld 0 := sl_eta (okL_at k_s (i := 0) rfl)
  have l_s_0 := sl_len (okL_at k_s (i := 0) rfl)
  have k_s_0 := sl_all (okL_at k_s (i := 0) rfl)
  have E_s_0 : ∀ i, i < (s.fld 0).toL.length → D.lst [((s.fld 0).elem i).fld 0, ((s.fld 0).elem i).fld 1, ((s.fld 0).elem i).fld 2, ((s.fld 0).elem i).fld 3, ((s.fld 0).elem i).fld 4, ((s.fld 0).elem i).fld 5, ((s.fld 0).elem i).fld 6, ((s.fld 0).elem i).fld 7, ((s.fld 0).elem i).fld 8, ((s.fld 0).elem i).fld 9, ((s.fld 0).elem i).fld 10, ((s.fld 0).elem i).fld 11, ((s.fld 0).elem i).fld 12] = (s.fld 0).elem i := fun i hi => by simpa [List.range, List.range.loop] using okL_eta (k_s_0 _ (elem_mem hi))
  have e_s_1 : D.lst (s.fld 1).toL = s.fld 1 := sl_eta (okL_at k_s (i := 1) rfl)
  have l_s_1 := sl_len (okL_at k_s (i := 1) rfl)
  have k_s_1 := sl_all (okL_at k_s (i := 1) rfl)
  have E_s_1 : ∀ i, i < (s.fld 1).toL.length → D.lst [((s.fld 1).elem i).fld 0, ((s.fld 1).elem i).fld 1, ((s.fld 1).elem i).fld 2] = (s.fld 1).elem i := fun i hi => by simpa [List.range, List.range.loop] using okL_eta (k_s_1 _ (elem_mem hi))
  have e_n := int_eta (hok _ (.tail _ (.head _)))
  have b_n := int_range (hok _ (.tail _ (.head _)))
  apply says_den (φ := (phi_63 s n))
  simp [e_s_0, E_s_0, e_s_1, E_s_1, e_s, e_n, tree_63, T.says, X.den, O1.den, O2.den, O3.den, callD, XArg.ev, XArg.dat, Callee'.num, backs, DArg.back, Conds.den, cloArgs, phi_63, pd_97, pd_98, pieceAt]
theorem pd_63 (s n : D) (Q : List D → Prop) (ho : Q [.int (pieceAt s n.toI)]) : PC Try.prog 63 [.st [(.sl [(.int .i64), (.int .i64), (.int .i64), (.int .i64), (.int .i64), (.int .i64), (.int .i64), (.int .i64), (.int .i64), (.int .i64), (.int .i64), .bool, .bool]), (.sl [(.int .i64), (.int .i64), .bool]), (.int .i64), (.int .i64)] s, .sc (.int .i64) n] [.sc (.int .i64)] Q := (pc_63 s n).mono fun _ h => h ▸ ho
/- impl.Source -/
def phi_22 : Nat → List D → List D
  | 63, [s, n] => [.int (pieceAt s n.toI)]
  | _, _ => []
theorem pc_22 (s e : D) : PC Try.prog 22 [.st [(.sl [(.int .i64), (.int .i64), (.int .i64), (.int .i64), (.int .i64), (.int .i64), (.int .i64), (.int .i64), (.int .i64), (.int .i64), (.int .i64), .bool, .bool]), (.sl [(.int .i64), (.int .i64), .bool]), (.int .i64), (.int .i64)] s, .st [(.int .i64), (.int .i64), (.int .i64), (.int .i64), (.int .i64), (.int .i64), .bool] e] [.st [(.int .i64), (.int .i64), (.int .i64), (.int .i64), (.int .i64), (.int .i64), (.int .i64), (.int .i64), (.int .i64), (.int .i64), (.int .i64), .bool, .bool]] fun o => o = [source s e] := by
  refine PC.of_sig mix sig_22 ⟨rfl, rfl, trivial⟩ rfl fun hok => ?_
  have e_s : D.lst [s.fld 0, s.fld 1, s.fld 2, s.fld 3] = s := by simpa [List.range, List.range.loop] using okL_eta (hok _ (.head _))
  have k_s : okL [(.sl [(.int .i64), (.int .i64), (.int .i64), (.int .i64), (.int .i64), (.int .i64), (.int .i64), (.int .i64), (.int .i64), (.int .i64), (.int .i64), .bool, .bool]), (.sl [(.int .i64), (.int .i64), .bool]), (.int .i64), (.int .i64)] s := (hok _ (.head _))
  have e_s_0 : D.lst (s.fld 0).toL = s.fld 0 := sl_eta (okL_at k_s (i := 0) rfl)
  have l_s_0 := sl_len (okL_at k_s (i := 0) rfl)
  have k_s_0 := sl_all (okL_at k_s (i := 0) rfl)
  have E_s_0 : ∀ i, i < (s.fld 0).toL.length → D.lst [((s.fld 0).elem i).fld 0, ((s.fld 0).elem i).fld 1, ((s.fld 0).elem i).fld 2, ((s.fld 0).elem i).fld 3, ((s.fld 0).elem i).fld 4, ((s.fld 0).elem i).fld 5, ((s.fld 0).elem i).fld 6, ((s.fld 0).elem i).fld 7, ((s.fld 0).elem i).fld 8, ((s.fld 0).elem i).fld 9, ((s.fld 0).elem i).fld 10, ((s.fld 0).elem i).fld 11, ((s.fld 0).elem i).fld 12] = (s.fld 0).elem i := fun i hi => by simpa [List.range, List.range.loop] using okL_eta (k_s_0 _ (elem_mem hi))
  have e_s_1 : D.lst (s.fld 1).toL = s.fld 1 := sl_eta (okL_at k_s (i := 1) rfl)
  have l_s_1 := sl_len (okL_at k_s (i := 1) rfl)
  have k_s_1 := sl_all (okL_at k_s (i := 1) rfl)
  have E_s_1 : ∀ i, i < (s.fld 1).toL.length → D.lst [((s.fld 1).elem i).fld 0, ((s.fld 1).elem i).fld 1, ((s.fld 1).elem i).fld 2] = (s.fld 1).elem i := fun i hi => by simpa [List.range, List.range.loop] using okL_eta (k_s_1 _ (elem_mem hi))
  have e_e : D.lst [e.fld 0, e.fld 1, e.fld 2, e.fld 3, e.fld 4, e.fld 5, e.fld 6] = e := by simpa [List.range, List.range.loop] using okL_eta (hok _ (.tail _ (.head _)))
  have k_e : okL [(.int .i64), (.int .i64), (.int .i64), (.int .i64), (.int .i64), (.int .i64), .bool] e := (hok _ (.tail _ (.head _)))
  apply says_den (φ := (phi_22))
  have hr := pieceAt_range s (e.fld 1).toI
  simp [e_s_0, E_s_0, e_s_1, E_s_1, e_s, e_e, tree_22, T.says, X.den, O1.den, O2.den, O3.den, callD, XArg.ev, XArg.dat, Callee'.num, backs, DArg.back, Conds.den, cloArgs, phi_22, pd_63]
  (repeat' (first | (with_reducible apply And.intro) | intro _))
  · rw [source, if_pos ‹_›]; rfl
  · omega
  · omega
  · rw [E_s_0 _ (by omega), source, if_neg (by omega)]
theorem pd_22 (s e : D) (Q : List D → Prop) (ho : Q [source s e]) : PC Try.prog 22 [.st [(.sl [(.int .i64), (.int .i64), (.int .i64), (.int .i64), (.int .i64), (.int .i64), (.int .i64), (.int .i64), (.int .i64), (.int .i64), (.int .i64), .bool, .bool]), (.sl [(.int .i64), (.int .i64), .bool]), (.int .i64), (.int .i64)] s, .st [(.int .i64), (.int .i64), (.int .i64), (.int .i64), (.int .i64), (.int .i64), .bool] e] [.st [(.int .i64), (.int .i64), (.int .i64), (.int .i64), (.int .i64), (.int .i64), (.int .i64), (.int .i64), (.int .i64), (.int .i64), (.int .i64), .bool, .bool]] Q := (pc_22 s e).mono fun _ h => h ▸ ho
/- impl.SourceFits -/
def phi_28 : Nat → List D → List D
  | 22, [s, e] => [source s e]
  | _, _ => []
theorem pc_28 (s p e : D) : PC Try.prog 28 [.st [(.sl [(.int .i64), (.int .i64), (.int .i64), (.int .i64), (.int .i64), (.int .i64), (.int .i64), (.int .i64), (.int .i64), (.int .i64), (.int .i64), .bool, .bool]), (.sl [(.int .i64), (.int .i64), .bool]), (.int .i64), (.int .i64)] s, .st [(.int .i64), (.int .i64), (.int .i64), (.int .i64), (.int .i64), (.int .i64), (.int .i64)] p, .st [(.int .i64), (.int .i64), (.int .i64), (.int .i64), (.int .i64), (.int .i64), .bool] e] [.sc .bool] fun o => o = [.bool (sourceFits s p e)] := by
  refine PC.of_sig mix sig_28 ⟨rfl, rfl, rfl, trivial⟩ rfl fun hok => ?_
  have e_s : D.lst [s.fld 0, s.fld 1, s.fld 2, s.fld 3] = s := by simpa [List.range, List.range.loop] using okL_eta (hok _ (.head _))
  have k_s : okL [(.sl [(.int .i64), (.int .i64), (.int .i64), (.int .i64), (.int .i64), (.int .i64), (.int .i64), (.int .i64), (.int .i64), (.int .i64), (.int .i64), .bool, .bool]), (.sl [(.int .i64), (.int .i64), .bool]), (.int .i64), (.int .i64)] s := (hok _ (.head _))
  have e_s_0 : D.lst (s.fld 0).toL = s.fld 0 := sl_eta (okL_at k_s (i := 0) rfl)
  have l_s_0 := sl_len (okL_at k_s (i := 0) rfl)
  have k_s_0 := sl_all (okL_at k_s (i := 0) rfl)
  have E_s_0 : ∀ i, i < (s.fld 0).toL.length → D.lst [((s.fld 0).elem i).fld 0, ((s.fld 0).elem i).fld 1, ((s.fld 0).elem i).fld 2, ((s.fld 0).elem i).fld 3, ((s.fld 0).elem i).fld 4, ((s.fld 0).elem i).fld 5, ((s.fld 0).elem i).fld 6, ((s.fld 0).elem i).fld 7, ((s.fld 0).elem i).fld 8, ((s.fld 0).elem i).fld 9, ((s.fld 0).elem i).fld 10, ((s.fld 0).elem i).fld 11, ((s.fld 0).elem i).fld 12] = (s.fld 0).elem i := fun i hi => by simpa [List.range, List.range.loop] using okL_eta (k_s_0 _ (elem_mem hi))
  have e_s_1 : D.lst (s.fld 1).toL = s.fld 1 := sl_eta (okL_at k_s (i := 1) rfl)
  have l_s_1 := sl_len (okL_at k_s (i := 1) rfl)
  have k_s_1 := sl_all (okL_at k_s (i := 1) rfl)
  have E_s_1 : ∀ i, i < (s.fld 1).toL.length → D.lst [((s.fld 1).elem i).fld 0, ((s.fld 1).elem i).fld 1, ((s.fld 1).elem i).fld 2] = (s.fld 1).elem i := fun i hi => by simpa [List.range, List.range.loop] using okL_eta (k_s_1 _ (elem_mem hi))
  have e_p : D.lst [p.fld 0, p.fld 1, p.fld 2, p.fld 3, p.fld 4, p.fld 5, p.fld 6] = p := by simpa [List.range, List.range.loop] using okL_eta (hok _ (.tail _ (.head _)))
  have k_p : okL [(.int .i64), (.int .i64), (.int .i64), (.int .i64), (.int .i64), (.int .i64), (.int .i64)] p := (hok _ (.tail _ (.head _)))
  have e_e : D.lst [e.fld 0, e.fld 1, e.fld 2, e.fld 3, e.fld 4, e.fld 5, e.fld 6] = e := by simpa [List.range, List.range.loop] using okL_eta (hok _ (.tail _ (.tail _ (.head _))))
  have k_e : okL [(.int .i64), (.int .i64), (.int .i64), (.int .i64), (.int .i64), (.int .i64), .bool] e := (hok _ (.tail _ (.tail _ (.head _))))
  apply says_den (φ := (phi_28))
  simp [e_s_0, E_s_0, e_s_1, E_s_1, e_s, e_p, e_e, tree_28, T.says, X.den, O1.den, O2.den, O3.den, callD, XArg.ev, XArg.dat, Callee'.num, backs, DArg.back, Conds.den, cloArgs, phi_28, pd_22, sourceFits]
  all_goals grind
theorem pd_28 (s p e : D) (Q : List D → Prop) (ho : Q [.bool (sourceFits s p e)]) : PC Try.prog 28 [.st [(.sl [(.int .i64), (.int .i64), (.int .i64), (.int .i64), (.int .i64), (.int .i64), (.int .i64), (.int .i64), (.int .i64), (.int .i64), (.int .i64), .bool, .bool]), (.sl [(.int .i64), (.int .i64), .bool]), (.int .i64), (.int .i64)] s, .st [(.int .i64), (.int .i64), (.int .i64), (.int .i64), (.int .i64), (.int .i64), (.int .i64)] p, .st [(.int .i64), (.int .i64), (.int .i64), (.int .i64), (.int .i64), (.int .i64), .bool] e] [.sc .bool] Q := (pc_28 s p e).mono fun _ h => h ▸ ho
/- impl.from -/
theorem pc_81 (a b c : D) : PC Try.prog 81 [.sc (.int .i64) a, .sc (.int .i64) b, .sc (.int .i64) c] [.sc .bool] fun o => o = [.bool (inR a.toI b.toI c.toI)] := by
  refine PC.of_sig mix sig_81 ⟨rfl, rfl, rfl, trivial⟩ rfl fun hok => ?_
  have e_a := int_eta (hok _ (.head _))
  have b_a := int_range (hok _ (.head _))
  have e_b := int_eta (hok _ (.tail _ (.head _)))
  have b_b := int_range (hok _ (.tail _ (.head _)))
  have e_c := int_eta (hok _ (.tail _ (.tail _ (.head _))))
  have b_c := int_range (hok _ (.tail _ (.tail _ (.head _))))
  apply says_den (φ := fun _ _ => [])
  simp [e_a, e_b, e_c, tree_81, T.says, X.den, O1.den, O2.den, O3.den, callD, XArg.ev, XArg.dat, Callee'.num, backs, DArg.back, Conds.den, cloArgs, inR]
theorem pd_81 (a b c : D) (Q : List D → Prop) (ho : Q [.bool (inR a.toI b.toI c.toI)]) : PC Try.prog 81 [.sc (.int .i64) a, .sc (.int .i64) b, .sc (.int .i64) c] [.sc .bool] Q := (pc_81 a b c).mono fun _ h => h ▸ ho
/- impl.isSide -/
def phi_65 : Nat → List D → List D
  | 81, [a, b, c] => [.bool (inR a.toI b.toI c.toI)]
  | _, _ => []
theorem pc_65 (s n : D) : PC Try.prog 65 [.st [(.sl [(.int .i64), (.int .i64), (.int .i64), (.int .i64), (.int .i64), (.int .i64), (.int .i64), (.int .i64), (.int .i64), (.int .i64), (.int .i64), .bool, .bool]), (.sl [(.int .i64), (.int .i64), .bool]), (.int .i64), (.int .i64)] s, .sc (.int .i64) n] [.sc .bool] fun o => o = [.bool (inR n.toI 0 ((s.fld 1).toL.length - 1))] := by
  refine PC.of_sig mix sig_65 ⟨rfl, rfl, trivial⟩ rfl fun hok => ?_
  have e_s : D.lst [s.fld 0, s.fld 1, s.fld 2, s.fld 3] = s := by simpa [List.range, List.range.loop] using okL_eta (hok _ (.head _))
  have k_s : okL [(.sl [(.int .i64), (.int .i64), (.int .i64), (.int .i64), (.int .i64), (.int .i64), (.int .i64), (.int .i64), (.int .i64), (.int .i64), (.int .i64), .bool, .bool]), (.sl [(.int .i64), (.int .i64), .bool]), (.int .i64), (.int .i64)] s := (hok _ (.head _))
  have e_s_0 : D.lst (s.fld 0).toL = s.fld 0 := sl_eta (okL_at k_s (i := 0) rfl)
  have l_s_0 := sl_len (okL_at k_s (i := 0) rfl)
  have k_s_0 := sl_all (okL_at k_s (i := 0) rfl)
  have E_s_0 : ∀ i, i < (s.fld 0).toL.length → D.lst [((s.fld 0).elem i).fld 0, ((s.fld 0).elem i).fld 1, ((s.fld 0).elem i).fld 2, ((s.fld 0).elem i).fld 3, ((s.fld 0).elem i).fld 4, ((s.fld 0).elem i).fld 5, ((s.fld 0).elem i).fld 6, ((s.fld 0).elem i).fld 7, ((s.fld 0).elem i).fld 8, ((s.fld 0).elem i).fld 9, ((s.fld 0).elem i).fld 10, ((s.fld 0).elem i).fld 11, ((s.fld 0).elem i).fld 12] = (s.fld 0).elem i := fun i hi => by simpa [List.range, List.range.loop] using okL_eta (k_s_0 _ (elem_mem hi))
  have e_s_1 : D.lst (s.fld 1).toL = s.fld 1 := sl_eta (okL_at k_s (i := 1) rfl)
  have l_s_1 := sl_len (okL_at k_s (i := 1) rfl)
  have k_s_1 := sl_all (okL_at k_s (i := 1) rfl)
  have E_s_1 : ∀ i, i < (s.fld 1).toL.length → D.lst [((s.fld 1).elem i).fld 0, ((s.fld 1).elem i).fld 1, ((s.fld 1).elem i).fld 2] = (s.fld 1).elem i := fun i hi => by simpa [List.range, List.range.loop] using okL_eta (k_s_1 _ (elem_mem hi))
  have e_n := int_eta (hok _ (.tail _ (.head _)))
  have b_n := int_range (hok _ (.tail _ (.head _)))
  apply says_den (φ := (phi_65))
  have hw : IntKind.i64.wrap (((s.fld 1).toL.length : Int) - 1) = (s.fld 1).toL.length - 1 := by (first | omega | (simp only [IntKind.wrap_i64, maxL] at *; omega) | (simp [IntKind.wrap_i64, maxL] at *; omega))
  simp [e_s_0, E_s_0, e_s_1, E_s_1, e_s, e_n, tree_65, T.says, X.den, O1.den, O2.den, O3.den, callD, XArg.ev, XArg.dat, Callee'.num, backs, DArg.back, Conds.den, cloArgs, phi_65, pd_81, hw]
theorem pd_65 (s n : D) (Q : List D → Prop) (ho : Q [.bool (inR n.toI 0 ((s.fld 1).toL.length - 1))]) : PC Try.prog 65 [.st [(.sl [(.int .i64), (.int .i64), (.int .i64), (.int .i64), (.int .i64), (.int .i64), (.int .i64), (.int .i64), (.int .i64), (.int .i64), (.int .i64), .bool, .bool]), (.sl [(.int .i64), (.int .i64), .bool]), (.int .i64), (.int .i64)] s, .sc (.int .i64) n] [.sc .bool] Q := (pc_65 s n).mono fun _ h => h ▸ ho
/- impl.Target -/
def phi_25 : Nat → List D → List D
  | 63, [s, n] => [.int (pieceAt s n.toI)]
  | 65, [s, n] => [.bool (inR n.toI 0 ((s.fld 1).toL.length - 1))]
  | _, _ => []
theorem pc_25 (s e : D) : PC Try.prog 25 [.st [(.sl [(.int .i64), (.int .i64), (.int .i64), (.int .i64), (.int .i64), (.int .i64), (.int .i64), (.int .i64), (.int .i64), (.int .i64), (.int .i64), .bool, .bool]), (.sl [(.int .i64), (.int .i64), .bool]), (.int .i64), (.int .i64)] s, .st [(.int .i64), (.int .i64), (.int .i64), (.int .i64), (.int .i64), (.int .i64), .bool] e] [.sc (.int .i64)] fun o => o = [.int (target s e)] := by
  refine PC.of_sig mix sig_25 ⟨rfl, rfl, trivial⟩ rfl fun hok => ?_
  have e_s : D.lst [s.fld 0, s.fld 1, s.fld 2, s.fld 3] = s := by simpa [List.range, List.range.loop] using okL_eta (hok _ (.head _))
  have k_s : okL [(.sl [(.int .i64), (.int .i64), (.int .i64), (.int .i64), (.int .i64), (.int .i64), (.int .i64), (.int .i64), (.int .i64), (.int .i64), (.int .i64), .bool, .bool]), (.sl [(.int .i64), (.int .i64), .bool]), (.int .i64), (.int .i64)] s := (hok _ (.head _))
  have e_s_0 : D.lst (s.fld 0).toL = s.fld 0 := sl_eta (okL_at k_s (i := 0) rfl)
  have l_s_0 := sl_len (okL_at k_s (i := 0) rfl)
  have k_s_0 := sl_all (okL_at k_s (i := 0) rfl)
  have E_s_0 : ∀ i, i < (s.fld 0).toL.length → D.lst [((s.fld 0).elem i).fld 0, ((s.fld 0).elem i).fld 1, ((s.fld 0).elem i).fld 2, ((s.fld 0).elem i).fld 3, ((s.fld 0).elem i).fld 4, ((s.fld 0).elem i).fld 5, ((s.fld 0).elem i).fld 6, ((s.fld 0).elem i).fld 7, ((s.fld 0).elem i).fld 8, ((s.fld 0).elem i).fld 9, ((s.fld 0).elem i).fld 10, ((s.fld 0).elem i).fld 11, ((s.fld 0).elem i).fld 12] = (s.fld 0).elem i := fun i hi => by simpa [List.range, List.range.loop] using okL_eta (k_s_0 _ (elem_mem hi))
  have e_s_1 : D.lst (s.fld 1).toL = s.fld 1 := sl_eta (okL_at k_s (i := 1) rfl)
  have l_s_1 := sl_len (okL_at k_s (i := 1) rfl)
  have k_s_1 := sl_all (okL_at k_s (i := 1) rfl)
  have E_s_1 : ∀ i, i < (s.fld 1).toL.length → D.lst [((s.fld 1).elem i).fld 0, ((s.fld 1).elem i).fld 1, ((s.fld 1).elem i).fld 2] = (s.fld 1).elem i := fun i hi => by simpa [List.range, List.range.loop] using okL_eta (k_s_1 _ (elem_mem hi))
  have e_e : D.lst [e.fld 0, e.fld 1, e.fld 2, e.fld 3, e.fld 4, e.fld 5, e.fld 6] = e := by simpa [List.range, List.range.loop] using okL_eta (hok _ (.tail _ (.head _)))
  have k_e : okL [(.int .i64), (.int .i64), (.int .i64), (.int .i64), (.int .i64), (.int .i64), .bool] e := (hok _ (.tail _ (.head _)))
  apply says_den (φ := (phi_25))
  have hr := pieceAt_range s (e.fld 2).toI
  have i3 := int_eta (okL_at k_e (i := 3) rfl)
  have hw : IntKind.i64.wrap (((s.fld 1).toL.length : Int) - 1) = (s.fld 1).toL.length - 1 := by (first | omega | (simp only [IntKind.wrap_i64, maxL] at *; omega) | (simp [IntKind.wrap_i64, maxL] at *; omega))
  simp [e_s_0, E_s_0, e_s_1, E_s_1, e_s, e_e, tree_25, T.says, X.den, O1.den, O2.den, O3.den, callD, XArg.ev, XArg.dat, Callee'.num, backs, DArg.back, Conds.den, cloArgs, phi_25, pd_63, pd_65, hw]
  (repeat' (first | (with_reducible apply And.intro) | intro _))
  all_goals first | omega | (rw [target, if_pos (by omega), if_neg (by simp_all)]; done) | (rw [target, if_pos (by omega), if_pos (by simp_all)]; exact i3.symm) | (rw [target, if_neg (by omega), if_pos (by omega)]; done) | skip
  · rw [target, if_neg (by omega), if_neg (by omega)]
    exact (int_eta (okL_at (k_s_0 _ (elem_mem (by omega))) (i := 2) rfl)).symm
theorem pd_25 (s e : D) (Q : List D → Prop) (ho : Q [.int (target s e)]) : PC Try.prog 25 [.st [(.sl [(.int .i64), (.int .i64), (.int .i64), (.int .i64), (.int .i64), (.int .i64), (.int .i64), (.int .i64), (.int .i64), (.int .i64), (.int .i64), .bool, .bool]), (.sl [(.int .i64), (.int .i64), .bool]), (.int .i64), (.int .i64)] s, .st [(.int .i64), (.int .i64), (.int .i64), (.int .i64), (.int .i64), (.int .i64), .bool] e] [.sc (.int .i64)] Q := (pc_25 s e).mono fun _ h => h ▸ ho
/- impl.TargetFits -/
def phi_30 : Nat → List D → List D
  | 25, [s, e] => [.int (target s e)]
  | _, _ => []
theorem pc_30 (s n p e : D) : PC Try.prog 30 [.st [(.sl [(.int .i64), (.int .i64), (.int .i64), (.int .i64), (.int .i64), (.int .i64), (.int .i64), (.int .i64), (.int .i64), (.int .i64), (.int .i64), .bool, .bool]), (.sl [(.int .i64), (.int .i64), .bool]), (.int .i64), (.int .i64)] s, .sc (.int .i64) n, .st [(.int .i64), (.int .i64), (.int .i64), (.int .i64), (.int .i64), (.int .i64), (.int .i64)] p, .st [(.int .i64), (.int .i64), (.int .i64), (.int .i64), (.int .i64), (.int .i64), .bool] e] [.sc .bool] fun o => o = [.bool (targetFits s n.toI p e)] := by
  refine PC.of_sig mix sig_30 ⟨rfl, rfl, rfl, rfl, trivial⟩ rfl fun hok => ?_
  have e_s : D.lst [s.fld 0, s.fld 1, s.fld 2, s.fld 3] = s := by simpa [List.range, List.range.loop] using okL_eta (hok _ (.head _))
  have k_s : okL [(.sl [(.int .i64), (.int .i64), (.int .i64), (.int .i64), (.int .i64), (.int .i64), (.int .i64), (.int .i64), (.int .i64), (.int .i64), (.int .i64), .bool, .bool]), (.sl [(.int .i64), (.int .i64), .bool]), (.int .i64), (.int .i64)] s := (hok _ (.head _))
  have e_s_0 : D.lst (s.fld 0).toL = s.fld 0 := sl_eta (okL_at k_s (i := 0) rfl)
  have l_s_0 := sl_len (okL_at k_s (i := 0) rfl)
  have k_s_0 := sl_all (okL_at k_s (i := 0) rfl)
  have E_s_0 : ∀ i, i < (s.fld 0).toL.length → D.lst [((s.fld 0).elem i).fld 0, ((s.fld 0).elem i).fld 1, ((s.fld 0).elem i).fld 2, ((s.fld 0).elem i).fld 3, ((s.fld 0).elem i).fld 4, ((s.fld 0).elem i).fld 5, ((s.fld 0).elem i).fld 6, ((s.fld 0).elem i).fld 7, ((s.fld 0).elem i).fld 8, ((s.fld 0).elem i).fld 9, ((s.fld 0).elem i).fld 10, ((s.fld 0).elem i).fld 11, ((s.fld 0).elem i).fld 12] = (s.fld 0).elem i := fun i hi => by simpa [List.range, List.range.loop] using okL_eta (k_s_0 _ (elem_mem hi))
  have e_s_1 : D.lst (s.fld 1).toL = s.fld 1 := sl_eta (okL_at k_s (i := 1) rfl)
  have l_s_1 := sl_len (okL_at k_s (i := 1) rfl)
  have k_s_1 := sl_all (okL_at k_s (i := 1) rfl)
  have E_s_1 : ∀ i, i < (s.fld 1).toL.length → D.lst [((s.fld 1).elem i).fld 0, ((s.fld 1).elem i).fld 1, ((s.fld 1).elem i).fld 2] = (s.fld 1).elem i := fun i hi => by simpa [List.range, List.range.loop] using okL_eta (k_s_1 _ (elem_mem hi))
  have e_n := int_eta (hok _ (.tail _ (.head _)))
  have b_n := int_range (hok _ (.tail _ (.head _)))
  have e_p : D.lst [p.fld 0, p.fld 1, p.fld 2, p.fld 3, p.fld 4, p.fld 5, p.fld 6] = p := by simpa [List.range, List.range.loop] using okL_eta (hok _ (.tail _ (.tail _ (.head _))))
  have k_p : okL [(.int .i64), (.int .i64), (.int .i64), (.int .i64), (.int .i64), (.int .i64), (.int .i64)] p := (hok _ (.tail _ (.tail _ (.head _))))
  have e_e : D.lst [e.fld 0, e.fld 1, e.fld 2, e.fld 3, e.fld 4, e.fld 5, e.fld 6] = e := by simpa [List.range, List.range.loop] using okL_eta (hok _ (.tail _ (.tail _ (.tail _ (.head _)))))
  have k_e : okL [(.int .i64), (.int .i64), (.int .i64), (.int .i64), (.int .i64), (.int .i64), .bool] e := (hok _ (.tail _ (.tail _ (.tail _ (.head _)))))
  apply says_den (φ := (phi_30))
  simp [e_s_0, E_s_0, e_s_1, E_s_1, e_s, e_n, e_p, e_e, tree_30, T.says, X.den, O1.den, O2.den, O3.den, callD, XArg.ev, XArg.dat, Callee'.num, backs, DArg.back, Conds.den, cloArgs, phi_30, pd_25, targetFits]
  all_goals grind
theorem pd_30 (s n p e : D) (Q : List D → Prop) (ho : Q [.bool (targetFits s n.toI p e)]) : PC Try.prog 30 [.st [(.sl [(.int .i64), (.int .i64), (.int .i64), (.int .i64), (.int .i64), (.int .i64), (.int .i64), (.int .i64), (.int .i64), (.int .i64), (.int .i64), .bool, .bool]), (.sl [(.int .i64), (.int .i64), .bool]), (.int .i64), (.int .i64)] s, .sc (.int .i64) n, .st [(.int .i64), (.int .i64), (.int .i64), (.int .i64), (.int .i64), (.int .i64), (.int .i64)] p, .st [(.int .i64), (.int .i64), (.int .i64), (.int .i64), (.int .i64), (.int .i64), .bool] e] [.sc .bool] Q := (pc_30 s n p e).mono fun _ h => h ▸ ho
/- impl.isKind -/
def phi_100 : Nat → List D → List D
  | 81, [a, b, c] => [.bool (inR a.toI b.toI c.toI)]
  | _, _ => []
theorem pc_100 (a : D) : PC Try.prog 100 [.sc (.int .i64) a] [.sc .bool] fun o => o = [.bool (inR a.toI 1 6)] := by
  refine PC.of_sig mix sig_100 ⟨rfl, trivial⟩ rfl fun hok => ?_
  have e_a := int_eta (hok _ (.head _))
  have b_a := int_range (hok _ (.head _))
  apply says_den (φ := (phi_100))
  simp [e_a, tree_100, T.says, X.den, O1.den, O2.den, O3.den, callD, XArg.ev, XArg.dat, Callee'.num, backs, DArg.back, Conds.den, cloArgs, phi_100, pd_81]
theorem pd_100 (a : D) (Q : List D → Prop) (ho : Q [.bool (inR a.toI 1 6)]) : PC Try.prog 100 [.sc (.int .i64) a] [.sc .bool] Q := (pc_100 a).mono fun _ h => h ▸ ho
/- impl.isTraits -/
def phi_101 : Nat → List D → List D
  | 81, [a, b, c] => [.bool (inR a.toI b.toI c.toI)]
  | _, _ => []
theorem pc_101 (a : D) : PC Try.prog 101 [.sc (.int .i64) a] [.sc .bool] fun o => o = [.bool (inR a.toI 0 63)] := by
  refine PC.of_sig mix sig_101 ⟨rfl, trivial⟩ rfl fun hok => ?_
  have e_a := int_eta (hok _ (.head _))
  have b_a := int_range (hok _ (.head _))
  apply says_den (φ := (phi_101))
  simp [e_a, tree_101, T.says, X.den, O1.den, O2.den, O3.den, callD, XArg.ev, XArg.dat, Callee'.num, backs, DArg.back, Conds.den, cloArgs, phi_101, pd_81]
theorem pd_101 (a : D) (Q : List D → Prop) (ho : Q [.bool (inR a.toI 0 63)]) : PC Try.prog 101 [.sc (.int .i64) a] [.sc .bool] Q := (pc_101 a).mono fun _ h => h ▸ ho
/- impl.isAmount -/
def phi_102 : Nat → List D → List D
  | 81, [a, b, c] => [.bool (inR a.toI b.toI c.toI)]
  | _, _ => []
theorem pc_102 (a : D) : PC Try.prog 102 [.sc (.int .i64) a] [.sc .bool] fun o => o = [.bool (inR a.toI 0 2147483647)] := by
  refine PC.of_sig mix sig_102 ⟨rfl, trivial⟩ rfl fun hok => ?_
  have e_a := int_eta (hok _ (.head _))
  have b_a := int_range (hok _ (.head _))
  apply says_den (φ := (phi_102))
  simp [e_a, tree_102, T.says, X.den, O1.den, O2.den, O3.den, callD, XArg.ev, XArg.dat, Callee'.num, backs, DArg.back, Conds.den, cloArgs, phi_102, pd_81]
theorem pd_102 (a : D) (Q : List D → Prop) (ho : Q [.bool (inR a.toI 0 2147483647)]) : PC Try.prog 102 [.sc (.int .i64) a] [.sc .bool] Q := (pc_102 a).mono fun _ h => h ▸ ho
/- impl.PatOk -/
def phi_72 : Nat → List D → List D
  | 81, [a, b, c] => [.bool (inR a.toI b.toI c.toI)]
  | 100, [a] => [.bool (inR a.toI 1 6)]
  | 101, [a] => [.bool (inR a.toI 0 63)]
  | 102, [a] => [.bool (inR a.toI 0 2147483647)]
  | _, _ => []
theorem pc_72 (d : D) : PC Try.prog 72 [.st [(.int .i64), (.int .i64), (.int .i64), (.int .i64), (.int .i64), (.int .i64), (.int .i64)] d] [.sc .bool] fun o => o = [.bool (patOk d)] := by
  refine PC.of_sig mix sig_72 ⟨rfl, trivial⟩ rfl fun hok => ?_
  have e_d : D.lst [d.fld 0, d.fld 1, d.fld 2, d.fld 3, d.fld 4, d.fld 5, d.fld 6] = d := by simpa [List.range, List.range.loop] using okL_eta (hok _ (.head _))
  have k_d : okL [(.int .i64), (.int .i64), (.int .i64), (.int .i64), (.int .i64), (.int .i64), (.int .i64)] d := (hok _ (.head _))
  apply says_den (φ := (phi_72))
  simp [e_d, tree_72, T.says, X.den, O1.den, O2.den, O3.den, callD, XArg.ev, XArg.dat, Callee'.num, backs, DArg.back, Conds.den, cloArgs, phi_72, pd_81, pd_100, pd_101, pd_102]
  (repeat' (first | (with_reducible apply And.intro) | intro _)) <;> grind [patOk]
theorem pd_72 (d : D) (Q : List D → Prop) (ho : Q [.bool (patOk d)]) : PC Try.prog 72 [.st [(.int .i64), (.int .i64), (.int .i64), (.int .i64), (.int .i64), (.int .i64), (.int .i64)] d] [.sc .bool] Q := (pc_72 d).mono fun _ h => h ▸ ho
/- impl.isId -/
def phi_82 : Nat → List D → List D
  | 81, [a, b, c] => [.bool (inR a.toI b.toI c.toI)]
  | _, _ => []
theorem pc_82 (a : D) : PC Try.prog 82 [.sc (.int .i64) a] [.sc .bool] fun o => o = [.bool (inR a.toI 1 99)] := by
  refine PC.of_sig mix sig_82 ⟨rfl, trivial⟩ rfl fun hok => ?_
  have e_a := int_eta (hok _ (.head _))
  have b_a := int_range (hok _ (.head _))
  apply says_den (φ := (phi_82))
  simp [e_a, tree_82, T.says, X.den, O1.den, O2.den, O3.den, callD, XArg.ev, XArg.dat, Callee'.num, backs, DArg.back, Conds.den, cloArgs, phi_82, pd_81]
theorem pd_82 (a : D) (Q : List D → Prop) (ho : Q [.bool (inR a.toI 1 99)]) : PC Try.prog 82 [.sc (.int .i64) a] [.sc .bool] Q := (pc_82 a).mono fun _ h => h ▸ ho
/- impl.isZone -/
def phi_84 : Nat → List D → List D
  | 81, [a, b, c] => [.bool (inR a.toI b.toI c.toI)]
  | _, _ => []
theorem pc_84 (a : D) : PC Try.prog 84 [.sc (.int .i64) a] [.sc .bool] fun o => o = [.bool (inR a.toI 1 4)] := by
  refine PC.of_sig mix sig_84 ⟨rfl, trivial⟩ rfl fun hok => ?_
  have e_a := int_eta (hok _ (.head _))
  have b_a := int_range (hok _ (.head _))
  apply says_den (φ := (phi_84))
  simp [e_a, tree_84, T.says, X.den, O1.den, O2.den, O3.den, callD, XArg.ev, XArg.dat, Callee'.num, backs, DArg.back, Conds.den, cloArgs, phi_84, pd_81]
theorem pd_84 (a : D) (Q : List D → Prop) (ho : Q [.bool (inR a.toI 1 4)]) : PC Try.prog 84 [.sc (.int .i64) a] [.sc .bool] Q := (pc_84 a).mono fun _ h => h ▸ ho
/- impl.onPiece -/
def phi_103 : Nat → List D → List D
  | 82, [a] => [.bool (inR a.toI 1 99)]
  | _, _ => []
theorem pc_103 (e : D) : PC Try.prog 103 [.st [(.int .i64), (.int .i64), (.int .i64), (.int .i64), (.int .i64), (.int .i64), .bool] e] [.sc .bool] fun o => o = [.bool (onPiece e)] := by
  refine PC.of_sig mix sig_103 ⟨rfl, trivial⟩ rfl fun hok => ?_
  have e_e : D.lst [e.fld 0, e.fld 1, e.fld 2, e.fld 3, e.fld 4, e.fld 5, e.fld 6] = e := by simpa [List.range, List.range.loop] using okL_eta (hok _ (.head _))
  have k_e : okL [(.int .i64), (.int .i64), (.int .i64), (.int .i64), (.int .i64), (.int .i64), .bool] e := (hok _ (.head _))
  apply says_den (φ := (phi_103))
  simp [e_e, tree_103, T.says, X.den, O1.den, O2.den, O3.den, callD, XArg.ev, XArg.dat, Callee'.num, backs, DArg.back, Conds.den, cloArgs, phi_103, pd_82, onPiece]
theorem pd_103 (e : D) (Q : List D → Prop) (ho : Q [.bool (onPiece e)]) : PC Try.prog 103 [.st [(.int .i64), (.int .i64), (.int .i64), (.int .i64), (.int .i64), (.int .i64), .bool] e] [.sc .bool] Q := (pc_103 e).mono fun _ h => h ▸ ho
/- impl.isPlayer -/
def phi_83 : Nat → List D → List D
  | 81, [a, b, c] => [.bool (inR a.toI b.toI c.toI)]
  | _, _ => []
theorem pc_83 (a : D) : PC Try.prog 83 [.sc (.int .i64) a] [.sc .bool] fun o => o = [.bool (inR a.toI 0 2)] := by
  refine PC.of_sig mix sig_83 ⟨rfl, trivial⟩ rfl fun hok => ?_
  have e_a := int_eta (hok _ (.head _))
  have b_a := int_range (hok _ (.head _))
  apply says_den (φ := (phi_83))
  simp [e_a, tree_83, T.says, X.den, O1.den, O2.den, O3.den, callD, XArg.ev, XArg.dat, Callee'.num, backs, DArg.back, Conds.den, cloArgs, phi_83, pd_81]
theorem pd_83 (a : D) (Q : List D → Prop) (ho : Q [.bool (inR a.toI 0 2)]) : PC Try.prog 83 [.sc (.int .i64) a] [.sc .bool] Q := (pc_83 a).mono fun _ h => h ▸ ho
/- impl.onPlayer -/
def phi_104 : Nat → List D → List D
  | 83, [a] => [.bool (inR a.toI 0 2)]
  | _, _ => []
theorem pc_104 (e : D) : PC Try.prog 104 [.st [(.int .i64), (.int .i64), (.int .i64), (.int .i64), (.int .i64), (.int .i64), .bool] e] [.sc .bool] fun o => o = [.bool (onPlayer e)] := by
  refine PC.of_sig mix sig_104 ⟨rfl, trivial⟩ rfl fun hok => ?_
  have e_e : D.lst [e.fld 0, e.fld 1, e.fld 2, e.fld 3, e.fld 4, e.fld 5, e.fld 6] = e := by simpa [List.range, List.range.loop] using okL_eta (hok _ (.head _))
  have k_e : okL [(.int .i64), (.int .i64), (.int .i64), (.int .i64), (.int .i64), (.int .i64), .bool] e := (hok _ (.head _))
  apply says_den (φ := (phi_104))
  simp [e_e, tree_104, T.says, X.den, O1.den, O2.den, O3.den, callD, XArg.ev, XArg.dat, Callee'.num, backs, DArg.back, Conds.den, cloArgs, phi_104, pd_83, onPlayer]
theorem pd_104 (e : D) (Q : List D → Prop) (ho : Q [.bool (onPlayer e)]) : PC Try.prog 104 [.st [(.int .i64), (.int .i64), (.int .i64), (.int .i64), (.int .i64), (.int .i64), .bool] e] [.sc .bool] Q := (pc_104 e).mono fun _ h => h ▸ ho
/- impl.EventOk -/
def phi_73 : Nat → List D → List D
  | 82, [a] => [.bool (inR a.toI 1 99)]
  | 84, [a] => [.bool (inR a.toI 1 4)]
  | 102, [a] => [.bool (inR a.toI 0 2147483647)]
  | 103, [e] => [.bool (onPiece e)]
  | 104, [e] => [.bool (onPlayer e)]
  | _, _ => []
theorem pc_73 (e : D) : PC Try.prog 73 [.st [(.int .i64), (.int .i64), (.int .i64), (.int .i64), (.int .i64), (.int .i64), .bool] e] [.sc .bool] fun o => o = [.bool (eventOk e)] := by
  refine PC.of_sig mix sig_73 ⟨rfl, trivial⟩ rfl fun hok => ?_
  have e_e : D.lst [e.fld 0, e.fld 1, e.fld 2, e.fld 3, e.fld 4, e.fld 5, e.fld 6] = e := by simpa [List.range, List.range.loop] using okL_eta (hok _ (.head _))
  have k_e : okL [(.int .i64), (.int .i64), (.int .i64), (.int .i64), (.int .i64), (.int .i64), .bool] e := (hok _ (.head _))
  apply says_den (φ := (phi_73))
  simp [e_e, tree_73, T.says, X.den, O1.den, O2.den, O3.den, callD, XArg.ev, XArg.dat, Callee'.num, backs, DArg.back, Conds.den, cloArgs, phi_73, pd_82, pd_84, pd_102, pd_103, pd_104]
  (repeat' (first | (with_reducible apply And.intro) | intro _)) <;> grind [eventOk, inR]
theorem pd_73 (e : D) (Q : List D → Prop) (ho : Q [.bool (eventOk e)]) : PC Try.prog 73 [.st [(.int .i64), (.int .i64), (.int .i64), (.int .i64), (.int .i64), (.int .i64), .bool] e] [.sc .bool] Q := (pc_73 e).mono fun _ h => h ▸ ho
/- impl.PatFits -/
def phi_35 : Nat → List D → List D
  | 28, [s, p, e] => [.bool (sourceFits s p e)]
  | 30, [s, n, p, e] => [.bool (targetFits s n.toI p e)]
  | 72, [d] => [.bool (patOk d)]
  | 73, [e] => [.bool (eventOk e)]
  | _, _ => []
theorem pc_35 (s n p e : D) : PC Try.prog 35 [.st [(.sl [(.int .i64), (.int .i64), (.int .i64), (.int .i64), (.int .i64), (.int .i64), (.int .i64), (.int .i64), (.int .i64), (.int .i64), (.int .i64), .bool, .bool]), (.sl [(.int .i64), (.int .i64), .bool]), (.int .i64), (.int .i64)] s, .sc (.int .i64) n, .st [(.int .i64), (.int .i64), (.int .i64), (.int .i64), (.int .i64), (.int .i64), (.int .i64)] p, .st [(.int .i64), (.int .i64), (.int .i64), (.int .i64), (.int .i64), (.int .i64), .bool] e] [.sc .bool] fun o => o = [.bool (patFits s n.toI p e)] := by
  refine PC.of_sig mix sig_35 ⟨rfl, rfl, rfl, rfl, trivial⟩ rfl fun hok => ?_
  have e_s : D.lst [s.fld 0, s.fld 1, s.fld 2, s.fld 3] = s := by simpa [List.range, List.range.loop] using okL_eta (hok _ (.head _))
  have k_s : okL [(.sl [(.int .i64), (.int .i64), (.int .i64), (.int .i64), (.int .i64), (.int .i64), (.int .i64), (.int .i64), (.int .i64), (.int .i64), (.int .i64), .bool, .bool]), (.sl [(.int .i64), (.int .i64), .bool]), (.int .i64), (.int .i64)] s := (hok _ (.head _))
  have e_s_0 : D.lst (s.fld 0).toL = s.fld 0 := sl_eta (okL_at k_s (i := 0) rfl)
  have l_s_0 := sl_len (okL_at k_s (i := 0) rfl)
  have k_s_0 := sl_all (okL_at k_s (i := 0) rfl)
  have E_s_0 : ∀ i, i < (s.fld 0).toL.length → D.lst [((s.fld 0).elem i).fld 0, ((s.fld 0).elem i).fld 1, ((s.fld 0).elem i).fld 2, ((s.fld 0).elem i).fld 3, ((s.fld 0).elem i).fld 4, ((s.fld 0).elem i).fld 5, ((s.fld 0).elem i).fld 6, ((s.fld 0).elem i).fld 7, ((s.fld 0).elem i).fld 8, ((s.fld 0).elem i).fld 9, ((s.fld 0).elem i).fld 10, ((s.fld 0).elem i).fld 11, ((s.fld 0).elem i).fld 12] = (s.fld 0).elem i := fun i hi => by simpa [List.range, List.range.loop] using okL_eta (k_s_0 _ (elem_mem hi))
  have e_s_1 : D.lst (s.fld 1).toL = s.fld 1 := sl_eta (okL_at k_s (i := 1) rfl)
  have l_s_1 := sl_len (okL_at k_s (i := 1) rfl)
  have k_s_1 := sl_all (okL_at k_s (i := 1) rfl)
  have E_s_1 : ∀ i, i < (s.fld 1).toL.length → D.lst [((s.fld 1).elem i).fld 0, ((s.fld 1).elem i).fld 1, ((s.fld 1).elem i).fld 2] = (s.fld 1).elem i := fun i hi => by simpa [List.range, List.range.loop] using okL_eta (k_s_1 _ (elem_mem hi))
  have e_n := int_eta (hok _ (.tail _ (.head _)))
  have b_n := int_range (hok _ (.tail _ (.head _)))
  have e_p : D.lst [p.fld 0, p.fld 1, p.fld 2, p.fld 3, p.fld 4, p.fld 5, p.fld 6] = p := by simpa [List.range, List.range.loop] using okL_eta (hok _ (.tail _ (.tail _ (.head _))))
  have k_p : okL [(.int .i64), (.int .i64), (.int .i64), (.int .i64), (.int .i64), (.int .i64), (.int .i64)] p := (hok _ (.tail _ (.tail _ (.head _))))
  have e_e : D.lst [e.fld 0, e.fld 1, e.fld 2, e.fld 3, e.fld 4, e.fld 5, e.fld 6] = e := by simpa [List.range, List.range.loop] using okL_eta (hok _ (.tail _ (.tail _ (.tail _ (.head _)))))
  have k_e : okL [(.int .i64), (.int .i64), (.int .i64), (.int .i64), (.int .i64), (.int .i64), .bool] e := (hok _ (.tail _ (.tail _ (.tail _ (.head _)))))
  apply says_den (φ := (phi_35))
  simp [e_s_0, E_s_0, e_s_1, E_s_1, e_s, e_n, e_p, e_e, tree_35, T.says, X.den, O1.den, O2.den, O3.den, callD, XArg.ev, XArg.dat, Callee'.num, backs, DArg.back, Conds.den, cloArgs, phi_35, pd_28, pd_30, pd_72, pd_73, patFits]
  all_goals grind
theorem pd_35 (s n p e : D) (Q : List D → Prop) (ho : Q [.bool (patFits s n.toI p e)]) : PC Try.prog 35 [.st [(.sl [(.int .i64), (.int .i64), (.int .i64), (.int .i64), (.int .i64), (.int .i64), (.int .i64), (.int .i64), (.int .i64), (.int .i64), (.int .i64), .bool, .bool]), (.sl [(.int .i64), (.int .i64), .bool]), (.int .i64), (.int .i64)] s, .sc (.int .i64) n, .st [(.int .i64), (.int .i64), (.int .i64), (.int .i64), (.int .i64), (.int .i64), (.int .i64)] p, .st [(.int .i64), (.int .i64), (.int .i64), (.int .i64), (.int .i64), (.int .i64), .bool] e] [.sc .bool] Q := (pc_35 s n p e).mono fun _ h => h ▸ ho
end Go.Proofs.Ytbfhdfpbijpbbaa
