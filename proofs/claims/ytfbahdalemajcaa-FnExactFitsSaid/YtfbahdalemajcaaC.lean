/- The contracts of the functions that this claim reaches: what each hands back, for all data. -/
import Derived.Test.YtfbahdalemajcaaT
import Derived.Test.YtfbahdalemajcaaS
namespace Go.Proofs.Ytfbahdalemajcaa
open Go.Proofs.Ytfbahdalemajcaa.Eng
set_option maxRecDepth 100000
set_option linter.unusedSimpArgs false
set_option linter.unusedVariables false
/- laws.szEventS -/
theorem pc_118 (d n : D) (hn : 0 ≤ n.toI) : PC Try.prog 118 [.sc (.sl [(.int .i64), (.int .i64), (.int .i64), (.int .i64), (.int .i64), (.int .i64), .bool]) d, .sc (.int .i64) n] [.sc (.int .i64)] fun o => o = [.int (szS n.toI d.toL.length)] := by
  refine PC.of_sig mix sig_118 ⟨rfl, rfl, trivial⟩ rfl fun hok => ?_
  have e_d := sl_eta (hok _ (.head _))
  have l_d := sl_len (hok _ (.head _))
  have k_d := sl_all (hok _ (.head _))
  have E_d : ∀ i, i < d.toL.length → D.lst [(d.elem i).fld 0, (d.elem i).fld 1, (d.elem i).fld 2, (d.elem i).fld 3, (d.elem i).fld 4, (d.elem i).fld 5, (d.elem i).fld 6] = d.elem i := fun i hi => by simpa [List.range, List.range.loop] using okL_eta (k_d _ (elem_mem hi))
  have e_n := int_eta (hok _ (.tail _ (.head _)))
  have b_n := int_range (hok _ (.tail _ (.head _)))
  have hw : IntKind.i64.wrap (n.toI - d.toL.length) = n.toI - d.toL.length := by (first | omega | (simp only [IntKind.wrap_i64, maxL] at *; omega) | (simp [IntKind.wrap_i64, maxL] at *; omega))
  apply says_den (φ := fun _ _ => [])
  simp [e_d, e_n, E_d, tree_118, T.says, X.den, O1.den, O2.den, O3.den, callD, XArg.ev, XArg.dat, Callee'.num, backs, DArg.back, Conds.den, cloArgs, hw, szS]
  all_goals grind
theorem pd_118 (d n : D) (hn : 0 ≤ n.toI) (Q : List D → Prop) (ho : Q [.int (szS n.toI d.toL.length)]) : PC Try.prog 118 [.sc (.sl [(.int .i64), (.int .i64), (.int .i64), (.int .i64), (.int .i64), (.int .i64), .bool]) d, .sc (.int .i64) n] [.sc (.int .i64)] Q := (pc_118 d n hn).mono fun _ h => h ▸ ho
/- laws.szAct -/
def phi_58 : Nat → List D → List D
  | 118, [d, n] => [.int (szS n.toI d.toL.length)]
  | _, _ => []
theorem pc_58 (d n : D) (hn : 0 ≤ n.toI) : PC Try.prog 58 [.st [(.int .i64), (.int .i64), (.int .i64), (.int .i64), (.int .i64), .bool, (.sl [(.int .i64), (.int .i64), (.int .i64), (.int .i64), (.int .i64), (.int .i64), .bool])] d, .sc (.int .i64) n] [.sc (.int .i64)] fun o => o = [.int (szS n.toI (d.fld 6).toL.length)] := by
  refine PC.of_sig mix sig_58 ⟨rfl, rfl, trivial⟩ rfl fun hok => ?_
  have e_d : D.lst [d.fld 0, d.fld 1, d.fld 2, d.fld 3, d.fld 4, d.fld 5, d.fld 6] = d := by simpa [List.range, List.range.loop] using okL_eta (hok _ (.head _))
  have k_d : okL [(.int .i64), (.int .i64), (.int .i64), (.int .i64), (.int .i64), .bool, (.sl [(.int .i64), (.int .i64), (.int .i64), (.int .i64), (.int .i64), (.int .i64), .bool])] d := (hok _ (.head _))
  have e_d_6 : D.lst (d.fld 6).toL = d.fld 6 := sl_eta (okL_at k_d (i := 6) rfl)
  have l_d_6 := sl_len (okL_at k_d (i := 6) rfl)
  have k_d_6 := sl_all (okL_at k_d (i := 6) rfl)
  have E_d_6 : ∀ i, i < (d.fld 6).toL.length → D.lst [((d.fld 6).elem i).fld 0, ((d.fld 6).elem i).fld 1, ((d.fld 6).elem i).fld 2, ((d.fld 6).elem i).fld 3, ((d.fld 6).elem i).fld 4, ((d.fld 6).elem i).fld 5, ((d.fld 6).elem i).fld 6] = (d.fld 6).elem i := fun i hi => by simpa [List.range, List.range.loop] using okL_eta (k_d_6 _ (elem_mem hi))
  have e_n := int_eta (hok _ (.tail _ (.head _)))
  have b_n := int_range (hok _ (.tail _ (.head _)))
  apply says_den (φ := (phi_58))
  simp [e_d_6, E_d_6, e_d, e_n, tree_58, T.says, X.den, O1.den, O2.den, O3.den, callD, XArg.ev, XArg.dat, Callee'.num, backs, DArg.back, Conds.den, cloArgs, phi_58, pd_118]
  (repeat' (first | (with_reducible apply And.intro) | intro _)) <;> first | (first | assumption | (first | omega | (simp only [IntKind.wrap_i64, maxL] at *; omega) | (simp [IntKind.wrap_i64, maxL] at *; omega)) | rfl | contradiction | (exact pd_118 _ _ (by first | assumption | omega | (simp; done) | (simp; omega) | (simp [*]; done) | (simp [*] at *; omega) | grind [szS]) _ (by first | rfl | simp | (simp; omega))) | grind) | grind [szS]
theorem pd_58 (d n : D) (hn : 0 ≤ n.toI) (Q : List D → Prop) (ho : Q [.int (szS n.toI (d.fld 6).toL.length)]) : PC Try.prog 58 [.st [(.int .i64), (.int .i64), (.int .i64), (.int .i64), (.int .i64), .bool, (.sl [(.int .i64), (.int .i64), (.int .i64), (.int .i64), (.int .i64), (.int .i64), .bool])] d, .sc (.int .i64) n] [.sc (.int .i64)] Q := (pc_58 d n hn).mono fun _ h => h ▸ ho
/- laws.szEffect -/
def phi_21 : Nat → List D → List D
  | 58, [d, n] => [.int (szS n.toI (d.fld 6).toL.length)]
  | _, _ => []
theorem pc_21 (d n : D) (hn : 0 ≤ n.toI) : PC Try.prog 21 [.st [(.int .i64), (.int .i64), (.int .i64), (.int .i64), (.int .i64), (.int .i64), (.int .i64), (.int .i64), (.int .i64), (.int .i64), (.int .i64), (.int .i64), (.int .i64), (.int .i64), (.int .i64), (.int .i64), (.int .i64), (.int .i64), .bool, (.sl [(.int .i64), (.int .i64), (.int .i64), (.int .i64), (.int .i64), (.int .i64), .bool]), (.int .i64), (.int .i64)] d, .sc (.int .i64) n] [.sc (.int .i64)] fun o => o = [.int (szS n.toI (d.fld 19).toL.length)] := by
  refine PC.of_sig mix sig_21 ⟨rfl, rfl, trivial⟩ rfl fun hok => ?_
  have e_d : D.lst [d.fld 0, d.fld 1, d.fld 2, d.fld 3, d.fld 4, d.fld 5, d.fld 6, d.fld 7, d.fld 8, d.fld 9, d.fld 10, d.fld 11, d.fld 12, d.fld 13, d.fld 14, d.fld 15, d.fld 16, d.fld 17, d.fld 18, d.fld 19, d.fld 20, d.fld 21] = d := by simpa [List.range, List.range.loop] using okL_eta (hok _ (.head _))
  have k_d : okL [(.int .i64), (.int .i64), (.int .i64), (.int .i64), (.int .i64), (.int .i64), (.int .i64), (.int .i64), (.int .i64), (.int .i64), (.int .i64), (.int .i64), (.int .i64), (.int .i64), (.int .i64), (.int .i64), (.int .i64), (.int .i64), .bool, (.sl [(.int .i64), (.int .i64), (.int .i64), (.int .i64), (.int .i64), (.int .i64), .bool]), (.int .i64), (.int .i64)] d := (hok _ (.head _))
  have e_d_19 : D.lst (d.fld 19).toL = d.fld 19 := sl_eta (okL_at k_d (i := 19) rfl)
  have l_d_19 := sl_len (okL_at k_d (i := 19) rfl)
  have k_d_19 := sl_all (okL_at k_d (i := 19) rfl)
  have E_d_19 : ∀ i, i < (d.fld 19).toL.length → D.lst [((d.fld 19).elem i).fld 0, ((d.fld 19).elem i).fld 1, ((d.fld 19).elem i).fld 2, ((d.fld 19).elem i).fld 3, ((d.fld 19).elem i).fld 4, ((d.fld 19).elem i).fld 5, ((d.fld 19).elem i).fld 6] = (d.fld 19).elem i := fun i hi => by simpa [List.range, List.range.loop] using okL_eta (k_d_19 _ (elem_mem hi))
  have e_n := int_eta (hok _ (.tail _ (.head _)))
  have b_n := int_range (hok _ (.tail _ (.head _)))
  apply says_den (φ := (phi_21))
  simp [e_d_19, E_d_19, e_d, e_n, tree_21, T.says, X.den, O1.den, O2.den, O3.den, callD, XArg.ev, XArg.dat, Callee'.num, backs, DArg.back, Conds.den, cloArgs, phi_21, pd_58]
  (repeat' (first | (with_reducible apply And.intro) | intro _)) <;> first | (first | assumption | (first | omega | (simp only [IntKind.wrap_i64, maxL] at *; omega) | (simp [IntKind.wrap_i64, maxL] at *; omega)) | rfl | contradiction | (exact pd_58 _ _ (by first | assumption | omega | (simp; done) | (simp; omega) | (simp [*]; done) | (simp [*] at *; omega) | grind [szS]) _ (by first | rfl | simp | (simp; omega))) | grind) | grind [szS]
theorem pd_21 (d n : D) (hn : 0 ≤ n.toI) (Q : List D → Prop) (ho : Q [.int (szS n.toI (d.fld 19).toL.length)]) : PC Try.prog 21 [.st [(.int .i64), (.int .i64), (.int .i64), (.int .i64), (.int .i64), (.int .i64), (.int .i64), (.int .i64), (.int .i64), (.int .i64), (.int .i64), (.int .i64), (.int .i64), (.int .i64), (.int .i64), (.int .i64), (.int .i64), (.int .i64), .bool, (.sl [(.int .i64), (.int .i64), (.int .i64), (.int .i64), (.int .i64), (.int .i64), .bool]), (.int .i64), (.int .i64)] d, .sc (.int .i64) n] [.sc (.int .i64)] Q := (pc_21 d n hn).mono fun _ h => h ▸ ho
/- laws.toPat -/
theorem pc_62 (d : D) : PC Try.prog 62 [.st [(.int .i64), (.int .i64), (.int .i64), (.int .i64), (.int .i64), (.int .i64), (.int .i64)] d] [.st [(.int .i64), (.int .i64), (.int .i64), (.int .i64), (.int .i64), (.int .i64), (.int .i64)]] fun o => o = [d] := by
  refine PC.of_sig mix sig_62 ⟨rfl, trivial⟩ rfl fun hok => ?_
  have e_d : D.lst [d.fld 0, d.fld 1, d.fld 2, d.fld 3, d.fld 4, d.fld 5, d.fld 6] = d := by simpa [List.range, List.range.loop] using okL_eta (hok _ (.head _))
  have k_d : okL [(.int .i64), (.int .i64), (.int .i64), (.int .i64), (.int .i64), (.int .i64), (.int .i64)] d := (hok _ (.head _))
  apply says_den (φ := fun _ _ => [])
  simp [e_d, tree_62, T.says, X.den, O1.den, O2.den, O3.den, callD, XArg.ev, XArg.dat, Callee'.num, backs, DArg.back, Conds.den, cloArgs]
theorem pd_62 (d : D) (Q : List D → Prop) (ho : Q [d]) : PC Try.prog 62 [.st [(.int .i64), (.int .i64), (.int .i64), (.int .i64), (.int .i64), (.int .i64), (.int .i64)] d] [.st [(.int .i64), (.int .i64), (.int .i64), (.int .i64), (.int .i64), (.int .i64), (.int .i64)]] Q := (pc_62 d).mono fun _ h => h ▸ ho
/- laws.toGuard -/
theorem pc_63 (d : D) : PC Try.prog 63 [.st [(.int .i64), (.int .i64)] d] [.st [(.int .i64), (.int .i64)]] fun o => o = [d] := by
  refine PC.of_sig mix sig_63 ⟨rfl, trivial⟩ rfl fun hok => ?_
  have e_d : D.lst [d.fld 0, d.fld 1] = d := by simpa [List.range, List.range.loop] using okL_eta (hok _ (.head _))
  have k_d : okL [(.int .i64), (.int .i64)] d := (hok _ (.head _))
  apply says_den (φ := fun _ _ => [])
  simp [e_d, tree_63, T.says, X.den, O1.den, O2.den, O3.den, callD, XArg.ev, XArg.dat, Callee'.num, backs, DArg.back, Conds.den, cloArgs]
theorem pd_63 (d : D) (Q : List D → Prop) (ho : Q [d]) : PC Try.prog 63 [.st [(.int .i64), (.int .i64)] d] [.st [(.int .i64), (.int .i64)]] Q := (pc_63 d).mono fun _ h => h ▸ ho
/- laws.toEvent -/
theorem pc_41 (d : D) : PC Try.prog 41 [.st [(.int .i64), (.int .i64), (.int .i64), (.int .i64), (.int .i64), (.int .i64), .bool] d] [.st [(.int .i64), (.int .i64), (.int .i64), (.int .i64), (.int .i64), (.int .i64), .bool]] fun o => o = [d] := by
  refine PC.of_sig mix sig_41 ⟨rfl, trivial⟩ rfl fun hok => ?_
  have e_d : D.lst [d.fld 0, d.fld 1, d.fld 2, d.fld 3, d.fld 4, d.fld 5, d.fld 6] = d := by simpa [List.range, List.range.loop] using okL_eta (hok _ (.head _))
  have k_d : okL [(.int .i64), (.int .i64), (.int .i64), (.int .i64), (.int .i64), (.int .i64), .bool] d := (hok _ (.head _))
  apply says_den (φ := fun _ _ => [])
  simp [e_d, tree_41, T.says, X.den, O1.den, O2.den, O3.den, callD, XArg.ev, XArg.dat, Callee'.num, backs, DArg.back, Conds.den, cloArgs]
theorem pd_41 (d : D) (Q : List D → Prop) (ho : Q [d]) : PC Try.prog 41 [.st [(.int .i64), (.int .i64), (.int .i64), (.int .i64), (.int .i64), (.int .i64), .bool] d] [.st [(.int .i64), (.int .i64), (.int .i64), (.int .i64), (.int .i64), (.int .i64), .bool]] Q := (pc_41 d).mono fun _ h => h ▸ ho
/- laws.toEventS -/
def phi_121 : Nat → List D → List D
  | 41, [d] => [d]
  | _, _ => []
theorem pc_121 (d : D) (h : (d.toL.length : Int) ≤ 1048576) : PC Try.prog 121 [.sc (.sl [(.int .i64), (.int .i64), (.int .i64), (.int .i64), (.int .i64), (.int .i64), .bool]) d] [.sc (.sl [(.int .i64), (.int .i64), (.int .i64), (.int .i64), (.int .i64), (.int .i64), .bool])] fun o => o = [d] := by
  refine PC.of_sig mix sig_121 ⟨rfl, trivial⟩ rfl fun hok => ?_
  have e_d := sl_eta (hok _ (.head _))
  have l_d := sl_len (hok _ (.head _))
  have k_d := sl_all (hok _ (.head _))
  have E_d : ∀ i, i < d.toL.length → D.lst [(d.elem i).fld 0, (d.elem i).fld 1, (d.elem i).fld 2, (d.elem i).fld 3, (d.elem i).fld 4, (d.elem i).fld 5, (d.elem i).fld 6] = d.elem i := fun i hi => by simpa [List.range, List.range.loop] using okL_eta (k_d _ (elem_mem hi))
  apply says_den (φ := (phi_121))
  simp [e_d, E_d, tree_121, T.says, X.den, O1.den, O2.den, O3.den, callD, XArg.ev, XArg.dat, Callee'.num, backs, DArg.back, Conds.den, cloArgs, phi_121, pd_41] at h ⊢
  refine fun _ => ⟨by omega, ?_⟩
  refine den_for d.toL.length 0 (fun i => [.int i, .lst (d.toL.take i ++ List.replicate (d.toL.length - i) (.lst [.int 0, .int 0, .int 0, .int 0, .int 0, .int 0, .bool false]))]) (fun _ => True) (by simp) (by simp [X.den, O1.den, O2.den]) trivial fun i hi _ => ?_
  apply says_den (φ := (phi_121))
  by_cases hlt : i < d.toL.length
  · simp [e_d, E_d, tree_121, T.says, X.den, O1.den, O2.den, O3.den, callD, XArg.ev, XArg.dat, Callee'.num, backs, DArg.back, Conds.den, cloArgs, phi_121, pd_41, hlt]
    (repeat' (first | (with_reducible apply And.intro) | intro _)) <;> first | (exact copy_step hlt rfl) | (exact copy_step hlt (eta1 (k_d _ (elem_mem hlt)))) | (first | assumption | (first | omega | (simp only [IntKind.wrap_i64, maxL] at *; omega) | (simp [IntKind.wrap_i64, maxL] at *; omega)) | rfl | contradiction | (exact pd_41 _ _ (by first | rfl | simp | (simp; omega))) | grind)
  · simp [e_d, E_d, tree_121, T.says, X.den, O1.den, O2.den, O3.den, callD, XArg.ev, XArg.dat, Callee'.num, backs, DArg.back, Conds.den, cloArgs, phi_121, pd_41, hlt]
    (repeat' (first | (with_reducible apply And.intro) | intro _)) <;> first | (rw [copy_end (by omega), e_d]) | (first | assumption | (first | omega | (simp only [IntKind.wrap_i64, maxL] at *; omega) | (simp [IntKind.wrap_i64, maxL] at *; omega)) | rfl | contradiction | (exact pd_41 _ _ (by first | rfl | simp | (simp; omega))) | grind)
theorem pd_121 (d : D) (h : (d.toL.length : Int) ≤ 1048576) (Q : List D → Prop) (ho : Q [d]) : PC Try.prog 121 [.sc (.sl [(.int .i64), (.int .i64), (.int .i64), (.int .i64), (.int .i64), (.int .i64), .bool]) d] [.sc (.sl [(.int .i64), (.int .i64), (.int .i64), (.int .i64), (.int .i64), (.int .i64), .bool])] Q := (pc_121 d h).mono fun _ h => h ▸ ho
/- laws.toAct -/
def phi_64 : Nat → List D → List D
  | 121, [d] => [d]
  | _, _ => []
theorem pc_64 (d : D) (h : ((d.fld 6).toL.length : Int) ≤ 1048576) : PC Try.prog 64 [.st [(.int .i64), (.int .i64), (.int .i64), (.int .i64), (.int .i64), .bool, (.sl [(.int .i64), (.int .i64), (.int .i64), (.int .i64), (.int .i64), (.int .i64), .bool])] d] [.st [(.int .i64), (.int .i64), (.int .i64), (.int .i64), (.int .i64), .bool, (.sl [(.int .i64), (.int .i64), (.int .i64), (.int .i64), (.int .i64), (.int .i64), .bool])]] fun o => o = [d] := by
  refine PC.of_sig mix sig_64 ⟨rfl, trivial⟩ rfl fun hok => ?_
  have e_d : D.lst [d.fld 0, d.fld 1, d.fld 2, d.fld 3, d.fld 4, d.fld 5, d.fld 6] = d := by simpa [List.range, List.range.loop] using okL_eta (hok _ (.head _))
  have k_d : okL [(.int .i64), (.int .i64), (.int .i64), (.int .i64), (.int .i64), .bool, (.sl [(.int .i64), (.int .i64), (.int .i64), (.int .i64), (.int .i64), (.int .i64), .bool])] d := (hok _ (.head _))
  have e_d_6 : D.lst (d.fld 6).toL = d.fld 6 := sl_eta (okL_at k_d (i := 6) rfl)
  have l_d_6 := sl_len (okL_at k_d (i := 6) rfl)
  have k_d_6 := sl_all (okL_at k_d (i := 6) rfl)
  have E_d_6 : ∀ i, i < (d.fld 6).toL.length → D.lst [((d.fld 6).elem i).fld 0, ((d.fld 6).elem i).fld 1, ((d.fld 6).elem i).fld 2, ((d.fld 6).elem i).fld 3, ((d.fld 6).elem i).fld 4, ((d.fld 6).elem i).fld 5, ((d.fld 6).elem i).fld 6] = (d.fld 6).elem i := fun i hi => by simpa [List.range, List.range.loop] using okL_eta (k_d_6 _ (elem_mem hi))
  apply says_den (φ := (phi_64))
  simp [e_d_6, E_d_6, e_d, tree_64, T.says, X.den, O1.den, O2.den, O3.den, callD, XArg.ev, XArg.dat, Callee'.num, backs, DArg.back, Conds.den, cloArgs, phi_64, pd_121]
  (repeat' (first | (with_reducible apply And.intro) | intro _)) <;> (first | assumption | (first | omega | (simp only [IntKind.wrap_i64, maxL] at *; omega) | (simp [IntKind.wrap_i64, maxL] at *; omega)) | rfl | contradiction | (exact pd_121 _ (by first | assumption | omega | (simp; done) | (simp; omega) | (simp [*]; done) | (simp [*] at *; omega) | grind [szS]) _ (by first | rfl | simp | (simp; omega))) | grind)
theorem pd_64 (d : D) (h : ((d.fld 6).toL.length : Int) ≤ 1048576) (Q : List D → Prop) (ho : Q [d]) : PC Try.prog 64 [.st [(.int .i64), (.int .i64), (.int .i64), (.int .i64), (.int .i64), .bool, (.sl [(.int .i64), (.int .i64), (.int .i64), (.int .i64), (.int .i64), (.int .i64), .bool])] d] [.st [(.int .i64), (.int .i64), (.int .i64), (.int .i64), (.int .i64), .bool, (.sl [(.int .i64), (.int .i64), (.int .i64), (.int .i64), (.int .i64), (.int .i64), .bool])]] Q := (pc_64 d h).mono fun _ h => h ▸ ho
/- laws.toEffect -/
def phi_23 : Nat → List D → List D
  | 62, [d] => [d]
  | 63, [d] => [d]
  | 64, [d] => [d]
  | _, _ => []
theorem pc_23 (d : D) (h : ((d.fld 19).toL.length : Int) ≤ 1048576) : PC Try.prog 23 [.st [(.int .i64), (.int .i64), (.int .i64), (.int .i64), (.int .i64), (.int .i64), (.int .i64), (.int .i64), (.int .i64), (.int .i64), (.int .i64), (.int .i64), (.int .i64), (.int .i64), (.int .i64), (.int .i64), (.int .i64), (.int .i64), .bool, (.sl [(.int .i64), (.int .i64), (.int .i64), (.int .i64), (.int .i64), (.int .i64), .bool]), (.int .i64), (.int .i64)] d] [.st [(.int .i64), (.int .i64), (.int .i64), (.int .i64), (.int .i64), (.int .i64), (.int .i64), (.int .i64), (.int .i64), (.int .i64), (.int .i64), (.int .i64), (.int .i64), (.int .i64), (.int .i64), (.int .i64), (.int .i64), (.int .i64), .bool, (.sl [(.int .i64), (.int .i64), (.int .i64), (.int .i64), (.int .i64), (.int .i64), .bool]), (.int .i64), (.int .i64)]] fun o => o = [d] := by
  refine PC.of_sig mix sig_23 ⟨rfl, trivial⟩ rfl fun hok => ?_
  have e_d : D.lst [d.fld 0, d.fld 1, d.fld 2, d.fld 3, d.fld 4, d.fld 5, d.fld 6, d.fld 7, d.fld 8, d.fld 9, d.fld 10, d.fld 11, d.fld 12, d.fld 13, d.fld 14, d.fld 15, d.fld 16, d.fld 17, d.fld 18, d.fld 19, d.fld 20, d.fld 21] = d := by simpa [List.range, List.range.loop] using okL_eta (hok _ (.head _))
  have k_d : okL [(.int .i64), (.int .i64), (.int .i64), (.int .i64), (.int .i64), (.int .i64), (.int .i64), (.int .i64), (.int .i64), (.int .i64), (.int .i64), (.int .i64), (.int .i64), (.int .i64), (.int .i64), (.int .i64), (.int .i64), (.int .i64), .bool, (.sl [(.int .i64), (.int .i64), (.int .i64), (.int .i64), (.int .i64), (.int .i64), .bool]), (.int .i64), (.int .i64)] d := (hok _ (.head _))
  have e_d_19 : D.lst (d.fld 19).toL = d.fld 19 := sl_eta (okL_at k_d (i := 19) rfl)
  have l_d_19 := sl_len (okL_at k_d (i := 19) rfl)
  have k_d_19 := sl_all (okL_at k_d (i := 19) rfl)
  have E_d_19 : ∀ i, i < (d.fld 19).toL.length → D.lst [((d.fld 19).elem i).fld 0, ((d.fld 19).elem i).fld 1, ((d.fld 19).elem i).fld 2, ((d.fld 19).elem i).fld 3, ((d.fld 19).elem i).fld 4, ((d.fld 19).elem i).fld 5, ((d.fld 19).elem i).fld 6] = (d.fld 19).elem i := fun i hi => by simpa [List.range, List.range.loop] using okL_eta (k_d_19 _ (elem_mem hi))
  apply says_den (φ := (phi_23))
  simp [e_d_19, E_d_19, e_d, tree_23, T.says, X.den, O1.den, O2.den, O3.den, callD, XArg.ev, XArg.dat, Callee'.num, backs, DArg.back, Conds.den, cloArgs, phi_23, pd_62, pd_63, pd_64]
  (repeat' (first | (with_reducible apply And.intro) | intro _)) <;> (first | assumption | (first | omega | (simp only [IntKind.wrap_i64, maxL] at *; omega) | (simp [IntKind.wrap_i64, maxL] at *; omega)) | rfl | contradiction | (exact pd_62 _ _ (by first | rfl | simp | (simp; omega))) | (exact pd_63 _ _ (by first | rfl | simp | (simp; omega))) | (exact pd_64 _ (by first | assumption | omega | (simp; done) | (simp; omega) | (simp [*]; done) | (simp [*] at *; omega) | grind [szS]) _ (by first | rfl | simp | (simp; omega))) | grind)
theorem pd_23 (d : D) (h : ((d.fld 19).toL.length : Int) ≤ 1048576) (Q : List D → Prop) (ho : Q [d]) : PC Try.prog 23 [.st [(.int .i64), (.int .i64), (.int .i64), (.int .i64), (.int .i64), (.int .i64), (.int .i64), (.int .i64), (.int .i64), (.int .i64), (.int .i64), (.int .i64), (.int .i64), (.int .i64), (.int .i64), (.int .i64), (.int .i64), (.int .i64), .bool, (.sl [(.int .i64), (.int .i64), (.int .i64), (.int .i64), (.int .i64), (.int .i64), .bool]), (.int .i64), (.int .i64)] d] [.st [(.int .i64), (.int .i64), (.int .i64), (.int .i64), (.int .i64), (.int .i64), (.int .i64), (.int .i64), (.int .i64), (.int .i64), (.int .i64), (.int .i64), (.int .i64), (.int .i64), (.int .i64), (.int .i64), (.int .i64), (.int .i64), .bool, (.sl [(.int .i64), (.int .i64), (.int .i64), (.int .i64), (.int .i64), (.int .i64), .bool]), (.int .i64), (.int .i64)]] Q := (pc_23 d h).mono fun _ h => h ▸ ho
/- laws.eqPat -/
theorem pc_68 (d e : D) (h : d = e) : PC Try.prog 68 [.st [(.int .i64), (.int .i64), (.int .i64), (.int .i64), (.int .i64), (.int .i64), (.int .i64)] d, .st [(.int .i64), (.int .i64), (.int .i64), (.int .i64), (.int .i64), (.int .i64), (.int .i64)] e] [.sc .bool] fun o => o = [.bool true] := by
  refine PC.of_sig mix sig_68 ⟨rfl, rfl, trivial⟩ rfl fun hok => ?_
  have e_d : D.lst [d.fld 0, d.fld 1, d.fld 2, d.fld 3, d.fld 4, d.fld 5, d.fld 6] = d := by simpa [List.range, List.range.loop] using okL_eta (hok _ (.head _))
  have k_d : okL [(.int .i64), (.int .i64), (.int .i64), (.int .i64), (.int .i64), (.int .i64), (.int .i64)] d := (hok _ (.head _))
  have e_e : D.lst [e.fld 0, e.fld 1, e.fld 2, e.fld 3, e.fld 4, e.fld 5, e.fld 6] = e := by simpa [List.range, List.range.loop] using okL_eta (hok _ (.tail _ (.head _)))
  have k_e : okL [(.int .i64), (.int .i64), (.int .i64), (.int .i64), (.int .i64), (.int .i64), (.int .i64)] e := (hok _ (.tail _ (.head _)))
  subst h
  apply says_den (φ := fun _ _ => [])
  simp [e_d, e_e, tree_68, T.says, X.den, O1.den, O2.den, O3.den, callD, XArg.ev, XArg.dat, Callee'.num, backs, DArg.back, Conds.den, cloArgs]
theorem pd_68 (d e : D) (h : d = e) (Q : List D → Prop) (ho : Q [.bool true]) : PC Try.prog 68 [.st [(.int .i64), (.int .i64), (.int .i64), (.int .i64), (.int .i64), (.int .i64), (.int .i64)] d, .st [(.int .i64), (.int .i64), (.int .i64), (.int .i64), (.int .i64), (.int .i64), (.int .i64)] e] [.sc .bool] Q := (pc_68 d e h).mono fun _ h => h ▸ ho
/- laws.eqGuard -/
theorem pc_69 (d e : D) (h : d = e) : PC Try.prog 69 [.st [(.int .i64), (.int .i64)] d, .st [(.int .i64), (.int .i64)] e] [.sc .bool] fun o => o = [.bool true] := by
  refine PC.of_sig mix sig_69 ⟨rfl, rfl, trivial⟩ rfl fun hok => ?_
  have e_d : D.lst [d.fld 0, d.fld 1] = d := by simpa [List.range, List.range.loop] using okL_eta (hok _ (.head _))
  have k_d : okL [(.int .i64), (.int .i64)] d := (hok _ (.head _))
  have e_e : D.lst [e.fld 0, e.fld 1] = e := by simpa [List.range, List.range.loop] using okL_eta (hok _ (.tail _ (.head _)))
  have k_e : okL [(.int .i64), (.int .i64)] e := (hok _ (.tail _ (.head _)))
  subst h
  apply says_den (φ := fun _ _ => [])
  simp [e_d, e_e, tree_69, T.says, X.den, O1.den, O2.den, O3.den, callD, XArg.ev, XArg.dat, Callee'.num, backs, DArg.back, Conds.den, cloArgs]
theorem pd_69 (d e : D) (h : d = e) (Q : List D → Prop) (ho : Q [.bool true]) : PC Try.prog 69 [.st [(.int .i64), (.int .i64)] d, .st [(.int .i64), (.int .i64)] e] [.sc .bool] Q := (pc_69 d e h).mono fun _ h => h ▸ ho
/- laws.eqEvent -/
theorem pc_102 (d e : D) (h : d = e) : PC Try.prog 102 [.st [(.int .i64), (.int .i64), (.int .i64), (.int .i64), (.int .i64), (.int .i64), .bool] d, .st [(.int .i64), (.int .i64), (.int .i64), (.int .i64), (.int .i64), (.int .i64), .bool] e] [.sc .bool] fun o => o = [.bool true] := by
  refine PC.of_sig mix sig_102 ⟨rfl, rfl, trivial⟩ rfl fun hok => ?_
  have e_d : D.lst [d.fld 0, d.fld 1, d.fld 2, d.fld 3, d.fld 4, d.fld 5, d.fld 6] = d := by simpa [List.range, List.range.loop] using okL_eta (hok _ (.head _))
  have k_d : okL [(.int .i64), (.int .i64), (.int .i64), (.int .i64), (.int .i64), (.int .i64), .bool] d := (hok _ (.head _))
  have e_e : D.lst [e.fld 0, e.fld 1, e.fld 2, e.fld 3, e.fld 4, e.fld 5, e.fld 6] = e := by simpa [List.range, List.range.loop] using okL_eta (hok _ (.tail _ (.head _)))
  have k_e : okL [(.int .i64), (.int .i64), (.int .i64), (.int .i64), (.int .i64), (.int .i64), .bool] e := (hok _ (.tail _ (.head _)))
  subst h
  apply says_den (φ := fun _ _ => [])
  simp [e_d, e_e, tree_102, T.says, X.den, O1.den, O2.den, O3.den, callD, XArg.ev, XArg.dat, Callee'.num, backs, DArg.back, Conds.den, cloArgs]
theorem pd_102 (d e : D) (h : d = e) (Q : List D → Prop) (ho : Q [.bool true]) : PC Try.prog 102 [.st [(.int .i64), (.int .i64), (.int .i64), (.int .i64), (.int .i64), (.int .i64), .bool] d, .st [(.int .i64), (.int .i64), (.int .i64), (.int .i64), (.int .i64), (.int .i64), .bool] e] [.sc .bool] Q := (pc_102 d e h).mono fun _ h => h ▸ ho
/- laws.eqEventS -/
def phi_43 : Nat → List D → List D
  | 102, [d, e] => [.bool true]
  | _, _ => []
theorem pc_43 (d e : D) (h : d = e) : PC Try.prog 43 [.sc (.sl [(.int .i64), (.int .i64), (.int .i64), (.int .i64), (.int .i64), (.int .i64), .bool]) d, .sc (.sl [(.int .i64), (.int .i64), (.int .i64), (.int .i64), (.int .i64), (.int .i64), .bool]) e] [.sc .bool] fun o => o = [.bool true] := by
  refine PC.of_sig mix sig_43 ⟨rfl, rfl, trivial⟩ rfl fun hok => ?_
  have e_d := sl_eta (hok _ (.head _))
  have l_d := sl_len (hok _ (.head _))
  have k_d := sl_all (hok _ (.head _))
  have E_d : ∀ i, i < d.toL.length → D.lst [(d.elem i).fld 0, (d.elem i).fld 1, (d.elem i).fld 2, (d.elem i).fld 3, (d.elem i).fld 4, (d.elem i).fld 5, (d.elem i).fld 6] = d.elem i := fun i hi => by simpa [List.range, List.range.loop] using okL_eta (k_d _ (elem_mem hi))
  have e_e := sl_eta (hok _ (.tail _ (.head _)))
  have l_e := sl_len (hok _ (.tail _ (.head _)))
  have k_e := sl_all (hok _ (.tail _ (.head _)))
  have E_e : ∀ i, i < e.toL.length → D.lst [(e.elem i).fld 0, (e.elem i).fld 1, (e.elem i).fld 2, (e.elem i).fld 3, (e.elem i).fld 4, (e.elem i).fld 5, (e.elem i).fld 6] = e.elem i := fun i hi => by simpa [List.range, List.range.loop] using okL_eta (k_e _ (elem_mem hi))
  subst h
  apply says_den (φ := (phi_43))
  simp [e_d, e_e, E_d, E_e, tree_43, T.says, X.den, O1.den, O2.den, O3.den, callD, XArg.ev, XArg.dat, Callee'.num, backs, DArg.back, Conds.den, cloArgs, phi_43, pd_102]
  refine fun _ => ?_
  refine den_for d.toL.length 0 (fun i => [.int i]) (fun _ => True) (by simp) (by simp [X.den]) trivial fun i hi _ => ?_
  apply says_den (φ := (phi_43))
  simp [e_d, e_e, E_d, E_e, tree_43, T.says, X.den, O1.den, O2.den, O3.den, callD, XArg.ev, XArg.dat, Callee'.num, backs, DArg.back, Conds.den, cloArgs, phi_43, pd_102]
  (repeat' (first | (with_reducible apply And.intro) | intro _)) <;> (first | omega | (simp only [IntKind.wrap_i64, maxL] at *; omega) | (simp [IntKind.wrap_i64, maxL] at *; omega))
theorem pd_43 (d e : D) (h : d = e) (Q : List D → Prop) (ho : Q [.bool true]) : PC Try.prog 43 [.sc (.sl [(.int .i64), (.int .i64), (.int .i64), (.int .i64), (.int .i64), (.int .i64), .bool]) d, .sc (.sl [(.int .i64), (.int .i64), (.int .i64), (.int .i64), (.int .i64), (.int .i64), .bool]) e] [.sc .bool] Q := (pc_43 d e h).mono fun _ h => h ▸ ho
/- laws.eqAct -/
def phi_70 : Nat → List D → List D
  | 43, [d, e] => [.bool true]
  | _, _ => []
theorem pc_70 (d e : D) (h : d = e) : PC Try.prog 70 [.st [(.int .i64), (.int .i64), (.int .i64), (.int .i64), (.int .i64), .bool, (.sl [(.int .i64), (.int .i64), (.int .i64), (.int .i64), (.int .i64), (.int .i64), .bool])] d, .st [(.int .i64), (.int .i64), (.int .i64), (.int .i64), (.int .i64), .bool, (.sl [(.int .i64), (.int .i64), (.int .i64), (.int .i64), (.int .i64), (.int .i64), .bool])] e] [.sc .bool] fun o => o = [.bool true] := by
  refine PC.of_sig mix sig_70 ⟨rfl, rfl, trivial⟩ rfl fun hok => ?_
  have e_d : D.lst [d.fld 0, d.fld 1, d.fld 2, d.fld 3, d.fld 4, d.fld 5, d.fld 6] = d := by simpa [List.range, List.range.loop] using okL_eta (hok _ (.head _))
  have k_d : okL [(.int .i64), (.int .i64), (.int .i64), (.int .i64), (.int .i64), .bool, (.sl [(.int .i64), (.int .i64), (.int .i64), (.int .i64), (.int .i64), (.int .i64), .bool])] d := (hok _ (.head _))
  have e_d_6 : D.lst (d.fld 6).toL = d.fld 6 := sl_eta (okL_at k_d (i := 6) rfl)
  have l_d_6 := sl_len (okL_at k_d (i := 6) rfl)
  have k_d_6 := sl_all (okL_at k_d (i := 6) rfl)
  have E_d_6 : ∀ i, i < (d.fld 6).toL.length → D.lst [((d.fld 6).elem i).fld 0, ((d.fld 6).elem i).fld 1, ((d.fld 6).elem i).fld 2, ((d.fld 6).elem i).fld 3, ((d.fld 6).elem i).fld 4, ((d.fld 6).elem i).fld 5, ((d.fld 6).elem i).fld 6] = (d.fld 6).elem i := fun i hi => by simpa [List.range, List.range.loop] using okL_eta (k_d_6 _ (elem_mem hi))
  have e_e : D.lst [e.fld 0, e.fld 1, e.fld 2, e.fld 3, e.fld 4, e.fld 5, e.fld 6] = e := by simpa [List.range, List.range.loop] using okL_eta (hok _ (.tail _ (.head _)))
  have k_e : okL [(.int .i64), (.int .i64), (.int .i64), (.int .i64), (.int .i64), .bool, (.sl [(.int .i64), (.int .i64), (.int .i64), (.int .i64), (.int .i64), (.int .i64), .bool])] e := (hok _ (.tail _ (.head _)))
  have e_e_6 : D.lst (e.fld 6).toL = e.fld 6 := sl_eta (okL_at k_e (i := 6) rfl)
  have l_e_6 := sl_len (okL_at k_e (i := 6) rfl)
  have k_e_6 := sl_all (okL_at k_e (i := 6) rfl)
  have E_e_6 : ∀ i, i < (e.fld 6).toL.length → D.lst [((e.fld 6).elem i).fld 0, ((e.fld 6).elem i).fld 1, ((e.fld 6).elem i).fld 2, ((e.fld 6).elem i).fld 3, ((e.fld 6).elem i).fld 4, ((e.fld 6).elem i).fld 5, ((e.fld 6).elem i).fld 6] = (e.fld 6).elem i := fun i hi => by simpa [List.range, List.range.loop] using okL_eta (k_e_6 _ (elem_mem hi))
  subst h
  apply says_den (φ := (phi_70))
  simp [e_d_6, E_d_6, e_e_6, E_e_6, e_d, e_e, tree_70, T.says, X.den, O1.den, O2.den, O3.den, callD, XArg.ev, XArg.dat, Callee'.num, backs, DArg.back, Conds.den, cloArgs, phi_70, pd_43]
theorem pd_70 (d e : D) (h : d = e) (Q : List D → Prop) (ho : Q [.bool true]) : PC Try.prog 70 [.st [(.int .i64), (.int .i64), (.int .i64), (.int .i64), (.int .i64), .bool, (.sl [(.int .i64), (.int .i64), (.int .i64), (.int .i64), (.int .i64), (.int .i64), .bool])] d, .st [(.int .i64), (.int .i64), (.int .i64), (.int .i64), (.int .i64), .bool, (.sl [(.int .i64), (.int .i64), (.int .i64), (.int .i64), (.int .i64), (.int .i64), .bool])] e] [.sc .bool] Q := (pc_70 d e h).mono fun _ h => h ▸ ho
/- laws.eqEffect -/
def phi_25 : Nat → List D → List D
  | 68, [d, e] => [.bool true]
  | 69, [d, e] => [.bool true]
  | 70, [d, e] => [.bool true]
  | _, _ => []
theorem pc_25 (d e : D) (h : d = e) : PC Try.prog 25 [.st [(.int .i64), (.int .i64), (.int .i64), (.int .i64), (.int .i64), (.int .i64), (.int .i64), (.int .i64), (.int .i64), (.int .i64), (.int .i64), (.int .i64), (.int .i64), (.int .i64), (.int .i64), (.int .i64), (.int .i64), (.int .i64), .bool, (.sl [(.int .i64), (.int .i64), (.int .i64), (.int .i64), (.int .i64), (.int .i64), .bool]), (.int .i64), (.int .i64)] d, .st [(.int .i64), (.int .i64), (.int .i64), (.int .i64), (.int .i64), (.int .i64), (.int .i64), (.int .i64), (.int .i64), (.int .i64), (.int .i64), (.int .i64), (.int .i64), (.int .i64), (.int .i64), (.int .i64), (.int .i64), (.int .i64), .bool, (.sl [(.int .i64), (.int .i64), (.int .i64), (.int .i64), (.int .i64), (.int .i64), .bool]), (.int .i64), (.int .i64)] e] [.sc .bool] fun o => o = [.bool true] := by
  refine PC.of_sig mix sig_25 ⟨rfl, rfl, trivial⟩ rfl fun hok => ?_
  have e_d : D.lst [d.fld 0, d.fld 1, d.fld 2, d.fld 3, d.fld 4, d.fld 5, d.fld 6, d.fld 7, d.fld 8, d.fld 9, d.fld 10, d.fld 11, d.fld 12, d.fld 13, d.fld 14, d.fld 15, d.fld 16, d.fld 17, d.fld 18, d.fld 19, d.fld 20, d.fld 21] = d := by simpa [List.range, List.range.loop] using okL_eta (hok _ (.head _))
  have k_d : okL [(.int .i64), (.int .i64), (.int .i64), (.int .i64), (.int .i64), (.int .i64), (.int .i64), (.int .i64), (.int .i64), (.int .i64), (.int .i64), (.int .i64), (.int .i64), (.int .i64), (.int .i64), (.int .i64), (.int .i64), (.int .i64), .bool, (.sl [(.int .i64), (.int .i64), (.int .i64), (.int .i64), (.int .i64), (.int .i64), .bool]), (.int .i64), (.int .i64)] d := (hok _ (.head _))
  have e_d_19 : D.lst (d.fld 19).toL = d.fld 19 := sl_eta (okL_at k_d (i := 19) rfl)
  have l_d_19 := sl_len (okL_at k_d (i := 19) rfl)
  have k_d_19 := sl_all (okL_at k_d (i := 19) rfl)
  have E_d_19 : ∀ i, i < (d.fld 19).toL.length → D.lst [((d.fld 19).elem i).fld 0, ((d.fld 19).elem i).fld 1, ((d.fld 19).elem i).fld 2, ((d.fld 19).elem i).fld 3, ((d.fld 19).elem i).fld 4, ((d.fld 19).elem i).fld 5, ((d.fld 19).elem i).fld 6] = (d.fld 19).elem i := fun i hi => by simpa [List.range, List.range.loop] using okL_eta (k_d_19 _ (elem_mem hi))
  have e_e : D.lst [e.fld 0, e.fld 1, e.fld 2, e.fld 3, e.fld 4, e.fld 5, e.fld 6, e.fld 7, e.fld 8, e.fld 9, e.fld 10, e.fld 11, e.fld 12, e.fld 13, e.fld 14, e.fld 15, e.fld 16, e.fld 17, e.fld 18, e.fld 19, e.fld 20, e.fld 21] = e := by simpa [List.range, List.range.loop] using okL_eta (hok _ (.tail _ (.head _)))
  have k_e : okL [(.int .i64), (.int .i64), (.int .i64), (.int .i64), (.int .i64), (.int .i64), (.int .i64), (.int .i64), (.int .i64), (.int .i64), (.int .i64), (.int .i64), (.int .i64), (.int .i64), (.int .i64), (.int .i64), (.int .i64), (.int .i64), .bool, (.sl [(.int .i64), (.int .i64), (.int .i64), (.int .i64), (.int .i64), (.int .i64), .bool]), (.int .i64), (.int .i64)] e := (hok _ (.tail _ (.head _)))
  have e_e_19 : D.lst (e.fld 19).toL = e.fld 19 := sl_eta (okL_at k_e (i := 19) rfl)
  have l_e_19 := sl_len (okL_at k_e (i := 19) rfl)
  have k_e_19 := sl_all (okL_at k_e (i := 19) rfl)
  have E_e_19 : ∀ i, i < (e.fld 19).toL.length → D.lst [((e.fld 19).elem i).fld 0, ((e.fld 19).elem i).fld 1, ((e.fld 19).elem i).fld 2, ((e.fld 19).elem i).fld 3, ((e.fld 19).elem i).fld 4, ((e.fld 19).elem i).fld 5, ((e.fld 19).elem i).fld 6] = (e.fld 19).elem i := fun i hi => by simpa [List.range, List.range.loop] using okL_eta (k_e_19 _ (elem_mem hi))
  subst h
  apply says_den (φ := (phi_25))
  simp [e_d_19, E_d_19, e_e_19, E_e_19, e_d, e_e, tree_25, T.says, X.den, O1.den, O2.den, O3.den, callD, XArg.ev, XArg.dat, Callee'.num, backs, DArg.back, Conds.den, cloArgs, phi_25, pd_68, pd_69, pd_70]
theorem pd_25 (d e : D) (h : d = e) (Q : List D → Prop) (ho : Q [.bool true]) : PC Try.prog 25 [.st [(.int .i64), (.int .i64), (.int .i64), (.int .i64), (.int .i64), (.int .i64), (.int .i64), (.int .i64), (.int .i64), (.int .i64), (.int .i64), (.int .i64), (.int .i64), (.int .i64), (.int .i64), (.int .i64), (.int .i64), (.int .i64), .bool, (.sl [(.int .i64), (.int .i64), (.int .i64), (.int .i64), (.int .i64), (.int .i64), .bool]), (.int .i64), (.int .i64)] d, .st [(.int .i64), (.int .i64), (.int .i64), (.int .i64), (.int .i64), (.int .i64), (.int .i64), (.int .i64), (.int .i64), (.int .i64), (.int .i64), (.int .i64), (.int .i64), (.int .i64), (.int .i64), (.int .i64), (.int .i64), (.int .i64), .bool, (.sl [(.int .i64), (.int .i64), (.int .i64), (.int .i64), (.int .i64), (.int .i64), .bool]), (.int .i64), (.int .i64)] e] [.sc .bool] Q := (pc_25 d e h).mono fun _ h => h ▸ ho
/- laws.szPieceS -/
theorem pc_103 (d n : D) (hn : 0 ≤ n.toI) : PC Try.prog 103 [.sc (.sl [(.int .i64), (.int .i64), (.int .i64), (.int .i64), (.int .i64), (.int .i64), (.int .i64), (.int .i64), (.int .i64), (.int .i64), (.int .i64), .bool, .bool]) d, .sc (.int .i64) n] [.sc (.int .i64)] fun o => o = [.int (szS n.toI d.toL.length)] := by
  refine PC.of_sig mix sig_103 ⟨rfl, rfl, trivial⟩ rfl fun hok => ?_
  have e_d := sl_eta (hok _ (.head _))
  have l_d := sl_len (hok _ (.head _))
  have k_d := sl_all (hok _ (.head _))
  have E_d : ∀ i, i < d.toL.length → D.lst [(d.elem i).fld 0, (d.elem i).fld 1, (d.elem i).fld 2, (d.elem i).fld 3, (d.elem i).fld 4, (d.elem i).fld 5, (d.elem i).fld 6, (d.elem i).fld 7, (d.elem i).fld 8, (d.elem i).fld 9, (d.elem i).fld 10, (d.elem i).fld 11, (d.elem i).fld 12] = d.elem i := fun i hi => by simpa [List.range, List.range.loop] using okL_eta (k_d _ (elem_mem hi))
  have e_n := int_eta (hok _ (.tail _ (.head _)))
  have b_n := int_range (hok _ (.tail _ (.head _)))
  have hw : IntKind.i64.wrap (n.toI - d.toL.length) = n.toI - d.toL.length := by (first | omega | (simp only [IntKind.wrap_i64, maxL] at *; omega) | (simp [IntKind.wrap_i64, maxL] at *; omega))
  apply says_den (φ := fun _ _ => [])
  simp [e_d, e_n, E_d, tree_103, T.says, X.den, O1.den, O2.den, O3.den, callD, XArg.ev, XArg.dat, Callee'.num, backs, DArg.back, Conds.den, cloArgs, hw, szS]
  all_goals grind
theorem pd_103 (d n : D) (hn : 0 ≤ n.toI) (Q : List D → Prop) (ho : Q [.int (szS n.toI d.toL.length)]) : PC Try.prog 103 [.sc (.sl [(.int .i64), (.int .i64), (.int .i64), (.int .i64), (.int .i64), (.int .i64), (.int .i64), (.int .i64), (.int .i64), (.int .i64), (.int .i64), .bool, .bool]) d, .sc (.int .i64) n] [.sc (.int .i64)] Q := (pc_103 d n hn).mono fun _ h => h ▸ ho
/- laws.szSideS -/
theorem pc_104 (d n : D) (hn : 0 ≤ n.toI) : PC Try.prog 104 [.sc (.sl [(.int .i64), (.int .i64), .bool]) d, .sc (.int .i64) n] [.sc (.int .i64)] fun o => o = [.int (szS n.toI d.toL.length)] := by
  refine PC.of_sig mix sig_104 ⟨rfl, rfl, trivial⟩ rfl fun hok => ?_
  have e_d := sl_eta (hok _ (.head _))
  have l_d := sl_len (hok _ (.head _))
  have k_d := sl_all (hok _ (.head _))
  have E_d : ∀ i, i < d.toL.length → D.lst [(d.elem i).fld 0, (d.elem i).fld 1, (d.elem i).fld 2] = d.elem i := fun i hi => by simpa [List.range, List.range.loop] using okL_eta (k_d _ (elem_mem hi))
  have e_n := int_eta (hok _ (.tail _ (.head _)))
  have b_n := int_range (hok _ (.tail _ (.head _)))
  have hw : IntKind.i64.wrap (n.toI - d.toL.length) = n.toI - d.toL.length := by (first | omega | (simp only [IntKind.wrap_i64, maxL] at *; omega) | (simp [IntKind.wrap_i64, maxL] at *; omega))
  apply says_den (φ := fun _ _ => [])
  simp [e_d, e_n, E_d, tree_104, T.says, X.den, O1.den, O2.den, O3.den, callD, XArg.ev, XArg.dat, Callee'.num, backs, DArg.back, Conds.den, cloArgs, hw, szS]
  all_goals grind
theorem pd_104 (d n : D) (hn : 0 ≤ n.toI) (Q : List D → Prop) (ho : Q [.int (szS n.toI d.toL.length)]) : PC Try.prog 104 [.sc (.sl [(.int .i64), (.int .i64), .bool]) d, .sc (.int .i64) n] [.sc (.int .i64)] Q := (pc_104 d n hn).mono fun _ h => h ▸ ho
/- laws.szState -/
def phi_46 : Nat → List D → List D
  | 103, [d, n] => [.int (szS n.toI d.toL.length)]
  | 104, [d, n] => [.int (szS n.toI d.toL.length)]
  | _, _ => []
theorem pc_46 (d n : D) (hn : 0 ≤ n.toI) : PC Try.prog 46 [.st [(.sl [(.int .i64), (.int .i64), (.int .i64), (.int .i64), (.int .i64), (.int .i64), (.int .i64), (.int .i64), (.int .i64), (.int .i64), (.int .i64), .bool, .bool]), (.sl [(.int .i64), (.int .i64), .bool]), (.int .i64), (.int .i64)] d, .sc (.int .i64) n] [.sc (.int .i64)] fun o => o = [.int (szS (szS n.toI (d.fld 0).toL.length) (d.fld 1).toL.length)] := by
  refine PC.of_sig mix sig_46 ⟨rfl, rfl, trivial⟩ rfl fun hok => ?_
  have e_d : D.lst [d.fld 0, d.fld 1, d.fld 2, d.fld 3] = d := by simpa [List.range, List.range.loop] using okL_eta (hok _ (.head _))
  have k_d : okL [(.sl [(.int .i64), (.int .i64), (.int .i64), (.int .i64), (.int .i64), (.int .i64), (.int .i64), (.int .i64), (.int .i64), (.int .i64), (.int .i64), .bool, .bool]), (.sl [(.int .i64), (.int .i64), .bool]), (.int .i64), (.int .i64)] d := (hok _ (.head _))
  have e_d_0 : D.lst (d.fld 0).toL = d.fld 0 := sl_eta (okL_at k_d (i := 0) rfl)
  have l_d_0 := sl_len (okL_at k_d (i := 0) rfl)
  have k_d_0 := sl_all (okL_at k_d (i := 0) rfl)
  have E_d_0 : ∀ i, i < (d.fld 0).toL.length → D.lst [((d.fld 0).elem i).fld 0, ((d.fld 0).elem i).fld 1, ((d.fld 0).elem i).fld 2, ((d.fld 0).elem i).fld 3, ((d.fld 0).elem i).fld 4, ((d.fld 0).elem i).fld 5, ((d.fld 0).elem i).fld 6, ((d.fld 0).elem i).fld 7, ((d.fld 0).elem i).fld 8, ((d.fld 0).elem i).fld 9, ((d.fld 0).elem i).fld 10, ((d.fld 0).elem i).fld 11, ((d.fld 0).elem i).fld 12] = (d.fld 0).elem i := fun i hi => by simpa [List.range, List.range.loop] using okL_eta (k_d_0 _ (elem_mem hi))
  have e_d_1 : D.lst (d.fld 1).toL = d.fld 1 := sl_eta (okL_at k_d (i := 1) rfl)
  have l_d_1 := sl_len (okL_at k_d (i := 1) rfl)
  have k_d_1 := sl_all (okL_at k_d (i := 1) rfl)
  have E_d_1 : ∀ i, i < (d.fld 1).toL.length → D.lst [((d.fld 1).elem i).fld 0, ((d.fld 1).elem i).fld 1, ((d.fld 1).elem i).fld 2] = (d.fld 1).elem i := fun i hi => by simpa [List.range, List.range.loop] using okL_eta (k_d_1 _ (elem_mem hi))
  have e_n := int_eta (hok _ (.tail _ (.head _)))
  have b_n := int_range (hok _ (.tail _ (.head _)))
  apply says_den (φ := (phi_46))
  simp [e_d_0, E_d_0, e_d_1, E_d_1, e_d, e_n, tree_46, T.says, X.den, O1.den, O2.den, O3.den, callD, XArg.ev, XArg.dat, Callee'.num, backs, DArg.back, Conds.den, cloArgs, phi_46, pd_103, pd_104]
  (repeat' (first | (with_reducible apply And.intro) | intro _)) <;> first | (first | assumption | (first | omega | (simp only [IntKind.wrap_i64, maxL] at *; omega) | (simp [IntKind.wrap_i64, maxL] at *; omega)) | rfl | contradiction | (exact pd_103 _ _ (by first | assumption | omega | (simp; done) | (simp; omega) | (simp [*]; done) | (simp [*] at *; omega) | grind [szS]) _ (by first | rfl | simp | (simp; omega))) | (exact pd_104 _ _ (by first | assumption | omega | (simp; done) | (simp; omega) | (simp [*]; done) | (simp [*] at *; omega) | grind [szS]) _ (by first | rfl | simp | (simp; omega))) | grind) | grind [szS]
theorem pd_46 (d n : D) (hn : 0 ≤ n.toI) (Q : List D → Prop) (ho : Q [.int (szS (szS n.toI (d.fld 0).toL.length) (d.fld 1).toL.length)]) : PC Try.prog 46 [.st [(.sl [(.int .i64), (.int .i64), (.int .i64), (.int .i64), (.int .i64), (.int .i64), (.int .i64), (.int .i64), (.int .i64), (.int .i64), (.int .i64), .bool, .bool]), (.sl [(.int .i64), (.int .i64), .bool]), (.int .i64), (.int .i64)] d, .sc (.int .i64) n] [.sc (.int .i64)] Q := (pc_46 d n hn).mono fun _ h => h ▸ ho
/- spec.l1In -/
theorem pc_73 (a b c : D) : PC Try.prog 73 [.sc (.int .i64) a, .sc (.int .i64) b, .sc (.int .i64) c] [.sc .bool] fun o => o = [.bool (inR a.toI b.toI c.toI)] := by
  refine PC.of_sig mix sig_73 ⟨rfl, rfl, rfl, trivial⟩ rfl fun hok => ?_
  have e_a := int_eta (hok _ (.head _))
  have b_a := int_range (hok _ (.head _))
  have e_b := int_eta (hok _ (.tail _ (.head _)))
  have b_b := int_range (hok _ (.tail _ (.head _)))
  have e_c := int_eta (hok _ (.tail _ (.tail _ (.head _))))
  have b_c := int_range (hok _ (.tail _ (.tail _ (.head _))))
  apply says_den (φ := fun _ _ => [])
  simp [e_a, e_b, e_c, tree_73, T.says, X.den, O1.den, O2.den, O3.den, callD, XArg.ev, XArg.dat, Callee'.num, backs, DArg.back, Conds.den, cloArgs, inR]
theorem pd_73 (a b c : D) (Q : List D → Prop) (ho : Q [.bool (inR a.toI b.toI c.toI)]) : PC Try.prog 73 [.sc (.int .i64) a, .sc (.int .i64) b, .sc (.int .i64) c] [.sc .bool] Q := (pc_73 a b c).mono fun _ h => h ▸ ho
/- spec.PatOk -/
def phi_74 : Nat → List D → List D
  | 73, [a, b, c] => [.bool (inR a.toI b.toI c.toI)]
  | _, _ => []
theorem pc_74 (d : D) : PC Try.prog 74 [.st [(.int .i64), (.int .i64), (.int .i64), (.int .i64), (.int .i64), (.int .i64), (.int .i64)] d] [.sc .bool] fun o => o = [.bool (patOk d)] := by
  refine PC.of_sig mix sig_74 ⟨rfl, trivial⟩ rfl fun hok => ?_
  have e_d : D.lst [d.fld 0, d.fld 1, d.fld 2, d.fld 3, d.fld 4, d.fld 5, d.fld 6] = d := by simpa [List.range, List.range.loop] using okL_eta (hok _ (.head _))
  have k_d : okL [(.int .i64), (.int .i64), (.int .i64), (.int .i64), (.int .i64), (.int .i64), (.int .i64)] d := (hok _ (.head _))
  apply says_den (φ := (phi_74))
  simp [e_d, tree_74, T.says, X.den, O1.den, O2.den, O3.den, callD, XArg.ev, XArg.dat, Callee'.num, backs, DArg.back, Conds.den, cloArgs, phi_74, pd_73]
  (repeat' (first | (with_reducible apply And.intro) | intro _)) <;> grind [patOk]
theorem pd_74 (d : D) (Q : List D → Prop) (ho : Q [.bool (patOk d)]) : PC Try.prog 74 [.st [(.int .i64), (.int .i64), (.int .i64), (.int .i64), (.int .i64), (.int .i64), (.int .i64)] d] [.sc .bool] Q := (pc_74 d).mono fun _ h => h ▸ ho
/- spec.GuardOk -/
def phi_75 : Nat → List D → List D
  | 73, [a, b, c] => [.bool (inR a.toI b.toI c.toI)]
  | _, _ => []
theorem pc_75 (d : D) : PC Try.prog 75 [.st [(.int .i64), (.int .i64)] d] [.sc .bool] fun o => o = [.bool (guardOk d)] := by
  refine PC.of_sig mix sig_75 ⟨rfl, trivial⟩ rfl fun hok => ?_
  have e_d : D.lst [d.fld 0, d.fld 1] = d := by simpa [List.range, List.range.loop] using okL_eta (hok _ (.head _))
  have k_d : okL [(.int .i64), (.int .i64)] d := (hok _ (.head _))
  apply says_den (φ := (phi_75))
  simp [e_d, tree_75, T.says, X.den, O1.den, O2.den, O3.den, callD, XArg.ev, XArg.dat, Callee'.num, backs, DArg.back, Conds.den, cloArgs, phi_75, pd_73]
  (repeat' (first | (with_reducible apply And.intro) | intro _)) <;> grind [guardOk]
theorem pd_75 (d : D) (Q : List D → Prop) (ho : Q [.bool (guardOk d)]) : PC Try.prog 75 [.st [(.int .i64), (.int .i64)] d] [.sc .bool] Q := (pc_75 d).mono fun _ h => h ▸ ho
/- spec.l9Plain -/
theorem pc_124 (a : D) : PC Try.prog 124 [.st [(.int .i64), (.int .i64), (.int .i64), (.int .i64), (.int .i64), .bool, (.sl [(.int .i64), (.int .i64), (.int .i64), (.int .i64), (.int .i64), (.int .i64), .bool])] a] [.sc .bool] fun o => o = [.bool (plain a)] := by
  refine PC.of_sig mix sig_124 ⟨rfl, trivial⟩ rfl fun hok => ?_
  have e_a : D.lst [a.fld 0, a.fld 1, a.fld 2, a.fld 3, a.fld 4, a.fld 5, a.fld 6] = a := by simpa [List.range, List.range.loop] using okL_eta (hok _ (.head _))
  have k_a : okL [(.int .i64), (.int .i64), (.int .i64), (.int .i64), (.int .i64), .bool, (.sl [(.int .i64), (.int .i64), (.int .i64), (.int .i64), (.int .i64), (.int .i64), .bool])] a := (hok _ (.head _))
  have e_a_6 : D.lst (a.fld 6).toL = a.fld 6 := sl_eta (okL_at k_a (i := 6) rfl)
  have l_a_6 := sl_len (okL_at k_a (i := 6) rfl)
  have k_a_6 := sl_all (okL_at k_a (i := 6) rfl)
  have E_a_6 : ∀ i, i < (a.fld 6).toL.length → D.lst [((a.fld 6).elem i).fld 0, ((a.fld 6).elem i).fld 1, ((a.fld 6).elem i).fld 2, ((a.fld 6).elem i).fld 3, ((a.fld 6).elem i).fld 4, ((a.fld 6).elem i).fld 5, ((a.fld 6).elem i).fld 6] = (a.fld 6).elem i := fun i hi => by simpa [List.range, List.range.loop] using okL_eta (k_a_6 _ (elem_mem hi))
  apply says_den (φ := fun _ _ => [])
  simp [e_a_6, E_a_6, e_a, tree_124, T.says, X.den, O1.den, O2.den, O3.den, callD, XArg.ev, XArg.dat, Callee'.num, backs, DArg.back, Conds.den, cloArgs, plain]
theorem pd_124 (a : D) (Q : List D → Prop) (ho : Q [.bool (plain a)]) : PC Try.prog 124 [.st [(.int .i64), (.int .i64), (.int .i64), (.int .i64), (.int .i64), .bool, (.sl [(.int .i64), (.int .i64), (.int .i64), (.int .i64), (.int .i64), (.int .i64), .bool])] a] [.sc .bool] Q := (pc_124 a).mono fun _ h => h ▸ ho
/- spec.EventOk -/
def phi_92 : Nat → List D → List D
  | 73, [a, b, c] => [.bool (inR a.toI b.toI c.toI)]
  | _, _ => []
theorem pc_92 (e : D) : PC Try.prog 92 [.st [(.int .i64), (.int .i64), (.int .i64), (.int .i64), (.int .i64), (.int .i64), .bool] e] [.sc .bool] fun o => o = [.bool (eventOk e)] := by
  refine PC.of_sig mix sig_92 ⟨rfl, trivial⟩ rfl fun hok => ?_
  have e_e : D.lst [e.fld 0, e.fld 1, e.fld 2, e.fld 3, e.fld 4, e.fld 5, e.fld 6] = e := by simpa [List.range, List.range.loop] using okL_eta (hok _ (.head _))
  have k_e : okL [(.int .i64), (.int .i64), (.int .i64), (.int .i64), (.int .i64), (.int .i64), .bool] e := (hok _ (.head _))
  apply says_den (φ := (phi_92))
  simp [e_e, tree_92, T.says, X.den, O1.den, O2.den, O3.den, callD, XArg.ev, XArg.dat, Callee'.num, backs, DArg.back, Conds.den, cloArgs, phi_92, pd_73]
  (repeat' (first | (with_reducible apply And.intro) | intro _)) <;> grind [eventOk, onPiece, onPlayer]
theorem pd_92 (e : D) (Q : List D → Prop) (ho : Q [.bool (eventOk e)]) : PC Try.prog 92 [.st [(.int .i64), (.int .i64), (.int .i64), (.int .i64), (.int .i64), (.int .i64), .bool] e] [.sc .bool] Q := (pc_92 e).mono fun _ h => h ▸ ho
/- spec.l9Part -/
def phi_125 : Nat → List D → List D
  | 92, [e] => [.bool (eventOk e)]
  | _, _ => []
theorem pc_125 (e : D) : PC Try.prog 125 [.st [(.int .i64), (.int .i64), (.int .i64), (.int .i64), (.int .i64), (.int .i64), .bool] e] [.sc .bool] fun o => o = [.bool (partOk e)] := by
  refine PC.of_sig mix sig_125 ⟨rfl, trivial⟩ rfl fun hok => ?_
  have e_e : D.lst [e.fld 0, e.fld 1, e.fld 2, e.fld 3, e.fld 4, e.fld 5, e.fld 6] = e := by simpa [List.range, List.range.loop] using okL_eta (hok _ (.head _))
  have k_e : okL [(.int .i64), (.int .i64), (.int .i64), (.int .i64), (.int .i64), (.int .i64), .bool] e := (hok _ (.head _))
  apply says_den (φ := (phi_125))
  simp [e_e, tree_125, T.says, X.den, O1.den, O2.den, O3.den, callD, XArg.ev, XArg.dat, Callee'.num, backs, DArg.back, Conds.den, cloArgs, phi_125, pd_92, partOk, ev0]
  all_goals grind
theorem pd_125 (e : D) (Q : List D → Prop) (ho : Q [.bool (partOk e)]) : PC Try.prog 125 [.st [(.int .i64), (.int .i64), (.int .i64), (.int .i64), (.int .i64), (.int .i64), .bool] e] [.sc .bool] Q := (pc_125 e).mono fun _ h => h ▸ ho
/- spec.ActOk -/
def phi_76 : Nat → List D → List D
  | 73, [a, b, c] => [.bool (inR a.toI b.toI c.toI)]
  | 124, [a] => [.bool (plain a)]
  | 125, [e] => [.bool (partOk e)]
  | _, _ => []
theorem pc_76 (a : D) : PC Try.prog 76 [.st [(.int .i64), (.int .i64), (.int .i64), (.int .i64), (.int .i64), .bool, (.sl [(.int .i64), (.int .i64), (.int .i64), (.int .i64), (.int .i64), (.int .i64), .bool])] a] [.sc .bool] fun o => o = [.bool (actOk a)] := by
  refine PC.of_sig mix sig_76 ⟨rfl, trivial⟩ rfl fun hok => ?_
  have e_a : D.lst [a.fld 0, a.fld 1, a.fld 2, a.fld 3, a.fld 4, a.fld 5, a.fld 6] = a := by simpa [List.range, List.range.loop] using okL_eta (hok _ (.head _))
  have k_a : okL [(.int .i64), (.int .i64), (.int .i64), (.int .i64), (.int .i64), .bool, (.sl [(.int .i64), (.int .i64), (.int .i64), (.int .i64), (.int .i64), (.int .i64), .bool])] a := (hok _ (.head _))
  have e_a_6 : D.lst (a.fld 6).toL = a.fld 6 := sl_eta (okL_at k_a (i := 6) rfl)
  have l_a_6 := sl_len (okL_at k_a (i := 6) rfl)
  have k_a_6 := sl_all (okL_at k_a (i := 6) rfl)
  have E_a_6 : ∀ i, i < (a.fld 6).toL.length → D.lst [((a.fld 6).elem i).fld 0, ((a.fld 6).elem i).fld 1, ((a.fld 6).elem i).fld 2, ((a.fld 6).elem i).fld 3, ((a.fld 6).elem i).fld 4, ((a.fld 6).elem i).fld 5, ((a.fld 6).elem i).fld 6] = (a.fld 6).elem i := fun i hi => by simpa [List.range, List.range.loop] using okL_eta (k_a_6 _ (elem_mem hi))
  apply says_den (φ := (phi_76))
  simp [e_a_6, E_a_6, e_a, tree_76, T.says, X.den, O1.den, O2.den, O3.den, callD, XArg.ev, XArg.dat, Callee'.num, backs, DArg.back, Conds.den, cloArgs, phi_76, pd_73, pd_124, pd_125]
  (repeat' (first | (with_reducible apply And.intro) | intro _))
  all_goals first | (exfalso; omega) | (grind [actOk, plain]) | skip
  refine den_for (a.fld 6).toL.length 0 (fun i => [.int i]) (fun i => ∀ j, j < i → partOk ((a.fld 6).elem j) = true) (by simp) (by simp [X.den]) (by simp) fun i hi hR => ?_
  have hs : actOk a = ((a.fld 1).toI == 0 && (a.fld 2).toI == 0 && (a.fld 3).toI == -1 && (a.fld 4).toI == 0 && !(a.fld 5).toB && inR (a.fld 6).toL.length 1 3 && allR (fun i => partOk ((a.fld 6).elem i)) (a.fld 6).toL.length) := by
    simp [actOk, *]
  rw [hs]
  apply says_den (φ := (phi_76))
  by_cases hlt : i < (a.fld 6).toL.length
  · simp [e_a_6, E_a_6, e_a, tree_76, T.says, X.den, O1.den, O2.den, O3.den, callD, XArg.ev, XArg.dat, Callee'.num, backs, DArg.back, Conds.den, cloArgs, phi_76, pd_73, pd_124, pd_125, hlt]
    (repeat' (first | (with_reducible apply And.intro) | intro _))
    · rw [allR_false (p := fun i => partOk ((a.fld 6).elem i)) hlt ‹_›]
    · (first | omega | (simp only [IntKind.wrap_i64, maxL] at *; omega) | (simp [IntKind.wrap_i64, maxL] at *; omega))
    · grind
  · have ht := allR_true (p := fun i => partOk ((a.fld 6).elem i)) (n := (a.fld 6).toL.length) (fun j hj => hR j (by omega))
    simp [e_a_6, E_a_6, e_a, tree_76, T.says, X.den, O1.den, O2.den, O3.den, callD, XArg.ev, XArg.dat, Callee'.num, backs, DArg.back, Conds.den, cloArgs, phi_76, pd_73, pd_124, pd_125, hlt, ht]
    all_goals grind
theorem pd_76 (a : D) (Q : List D → Prop) (ho : Q [.bool (actOk a)]) : PC Try.prog 76 [.st [(.int .i64), (.int .i64), (.int .i64), (.int .i64), (.int .i64), .bool, (.sl [(.int .i64), (.int .i64), (.int .i64), (.int .i64), (.int .i64), (.int .i64), .bool])] a] [.sc .bool] Q := (pc_76 a).mono fun _ h => h ▸ ho
/- spec.ActFits -/
def phi_77 : Nat → List D → List D
  | 73, [a, b, c] => [.bool (inR a.toI b.toI c.toI)]
  | _, _ => []
theorem pc_77 (a n : D) : PC Try.prog 77 [.st [(.int .i64), (.int .i64), (.int .i64), (.int .i64), (.int .i64), .bool, (.sl [(.int .i64), (.int .i64), (.int .i64), (.int .i64), (.int .i64), (.int .i64), .bool])] a, .sc (.int .i64) n] [.sc .bool] fun o => o = [.bool (actFits a n.toI)] := by
  refine PC.of_sig mix sig_77 ⟨rfl, rfl, trivial⟩ rfl fun hok => ?_
  have e_a : D.lst [a.fld 0, a.fld 1, a.fld 2, a.fld 3, a.fld 4, a.fld 5, a.fld 6] = a := by simpa [List.range, List.range.loop] using okL_eta (hok _ (.head _))
  have k_a : okL [(.int .i64), (.int .i64), (.int .i64), (.int .i64), (.int .i64), .bool, (.sl [(.int .i64), (.int .i64), (.int .i64), (.int .i64), (.int .i64), (.int .i64), .bool])] a := (hok _ (.head _))
  have e_a_6 : D.lst (a.fld 6).toL = a.fld 6 := sl_eta (okL_at k_a (i := 6) rfl)
  have l_a_6 := sl_len (okL_at k_a (i := 6) rfl)
  have k_a_6 := sl_all (okL_at k_a (i := 6) rfl)
  have E_a_6 : ∀ i, i < (a.fld 6).toL.length → D.lst [((a.fld 6).elem i).fld 0, ((a.fld 6).elem i).fld 1, ((a.fld 6).elem i).fld 2, ((a.fld 6).elem i).fld 3, ((a.fld 6).elem i).fld 4, ((a.fld 6).elem i).fld 5, ((a.fld 6).elem i).fld 6] = (a.fld 6).elem i := fun i hi => by simpa [List.range, List.range.loop] using okL_eta (k_a_6 _ (elem_mem hi))
  have e_n := int_eta (hok _ (.tail _ (.head _)))
  have b_n := int_range (hok _ (.tail _ (.head _)))
  apply says_den (φ := (phi_77))
  simp [e_a_6, E_a_6, e_a, e_n, tree_77, T.says, X.den, O1.den, O2.den, O3.den, callD, XArg.ev, XArg.dat, Callee'.num, backs, DArg.back, Conds.den, cloArgs, phi_77, pd_73]
  (repeat' (first | (with_reducible apply And.intro) | intro _)) <;> grind [actFits]
theorem pd_77 (a n : D) (Q : List D → Prop) (ho : Q [.bool (actFits a n.toI)]) : PC Try.prog 77 [.st [(.int .i64), (.int .i64), (.int .i64), (.int .i64), (.int .i64), .bool, (.sl [(.int .i64), (.int .i64), (.int .i64), (.int .i64), (.int .i64), (.int .i64), .bool])] a, .sc (.int .i64) n] [.sc .bool] Q := (pc_77 a n).mono fun _ h => h ▸ ho
/- spec.EffectOk -/
def phi_28 : Nat → List D → List D
  | 73, [a, b, c] => [.bool (inR a.toI b.toI c.toI)]
  | 74, [d] => [.bool (patOk d)]
  | 75, [d] => [.bool (guardOk d)]
  | 76, [a] => [.bool (actOk a)]
  | 77, [a, n] => [.bool (actFits a n.toI)]
  | _, _ => []
theorem pc_28 (e : D) : PC Try.prog 28 [.st [(.int .i64), (.int .i64), (.int .i64), (.int .i64), (.int .i64), (.int .i64), (.int .i64), (.int .i64), (.int .i64), (.int .i64), (.int .i64), (.int .i64), (.int .i64), (.int .i64), (.int .i64), (.int .i64), (.int .i64), (.int .i64), .bool, (.sl [(.int .i64), (.int .i64), (.int .i64), (.int .i64), (.int .i64), (.int .i64), .bool]), (.int .i64), (.int .i64)] e] [.sc .bool] fun o => o = [.bool (effectOk e)] := by
  refine PC.of_sig mix sig_28 ⟨rfl, trivial⟩ rfl fun hok => ?_
  have e_e : D.lst [e.fld 0, e.fld 1, e.fld 2, e.fld 3, e.fld 4, e.fld 5, e.fld 6, e.fld 7, e.fld 8, e.fld 9, e.fld 10, e.fld 11, e.fld 12, e.fld 13, e.fld 14, e.fld 15, e.fld 16, e.fld 17, e.fld 18, e.fld 19, e.fld 20, e.fld 21] = e := by simpa [List.range, List.range.loop] using okL_eta (hok _ (.head _))
  have k_e : okL [(.int .i64), (.int .i64), (.int .i64), (.int .i64), (.int .i64), (.int .i64), (.int .i64), (.int .i64), (.int .i64), (.int .i64), (.int .i64), (.int .i64), (.int .i64), (.int .i64), (.int .i64), (.int .i64), (.int .i64), (.int .i64), .bool, (.sl [(.int .i64), (.int .i64), (.int .i64), (.int .i64), (.int .i64), (.int .i64), .bool]), (.int .i64), (.int .i64)] e := (hok _ (.head _))
  have e_e_19 : D.lst (e.fld 19).toL = e.fld 19 := sl_eta (okL_at k_e (i := 19) rfl)
  have l_e_19 := sl_len (okL_at k_e (i := 19) rfl)
  have k_e_19 := sl_all (okL_at k_e (i := 19) rfl)
  have E_e_19 : ∀ i, i < (e.fld 19).toL.length → D.lst [((e.fld 19).elem i).fld 0, ((e.fld 19).elem i).fld 1, ((e.fld 19).elem i).fld 2, ((e.fld 19).elem i).fld 3, ((e.fld 19).elem i).fld 4, ((e.fld 19).elem i).fld 5, ((e.fld 19).elem i).fld 6] = (e.fld 19).elem i := fun i hi => by simpa [List.range, List.range.loop] using okL_eta (k_e_19 _ (elem_mem hi))
  apply says_den (φ := (phi_28))
  simp [e_e_19, E_e_19, e_e, tree_28, T.says, X.den, O1.den, O2.den, O3.den, callD, XArg.ev, XArg.dat, Callee'.num, backs, DArg.back, Conds.den, cloArgs, phi_28, pd_73, pd_74, pd_75, pd_76, pd_77, effectOk, patOf, grdOf, actOf]
  all_goals grind
theorem pd_28 (e : D) (Q : List D → Prop) (ho : Q [.bool (effectOk e)]) : PC Try.prog 28 [.st [(.int .i64), (.int .i64), (.int .i64), (.int .i64), (.int .i64), (.int .i64), (.int .i64), (.int .i64), (.int .i64), (.int .i64), (.int .i64), (.int .i64), (.int .i64), (.int .i64), (.int .i64), (.int .i64), (.int .i64), (.int .i64), .bool, (.sl [(.int .i64), (.int .i64), (.int .i64), (.int .i64), (.int .i64), (.int .i64), .bool]), (.int .i64), (.int .i64)] e] [.sc .bool] Q := (pc_28 e).mono fun _ h => h ▸ ho
/- spec.Lives -/
theorem pc_85 (e n : D) : PC Try.prog 85 [.st [(.int .i64), (.int .i64), (.int .i64), (.int .i64), (.int .i64), (.int .i64), (.int .i64), (.int .i64), (.int .i64), (.int .i64), (.int .i64), (.int .i64), (.int .i64), (.int .i64), (.int .i64), (.int .i64), (.int .i64), (.int .i64), .bool, (.sl [(.int .i64), (.int .i64), (.int .i64), (.int .i64), (.int .i64), (.int .i64), .bool]), (.int .i64), (.int .i64)] e, .sc (.int .i64) n] [.sc .bool] fun o => o = [.bool (lives e n.toI)] := by
  refine PC.of_sig mix sig_85 ⟨rfl, rfl, trivial⟩ rfl fun hok => ?_
  have e_e : D.lst [e.fld 0, e.fld 1, e.fld 2, e.fld 3, e.fld 4, e.fld 5, e.fld 6, e.fld 7, e.fld 8, e.fld 9, e.fld 10, e.fld 11, e.fld 12, e.fld 13, e.fld 14, e.fld 15, e.fld 16, e.fld 17, e.fld 18, e.fld 19, e.fld 20, e.fld 21] = e := by simpa [List.range, List.range.loop] using okL_eta (hok _ (.head _))
  have k_e : okL [(.int .i64), (.int .i64), (.int .i64), (.int .i64), (.int .i64), (.int .i64), (.int .i64), (.int .i64), (.int .i64), (.int .i64), (.int .i64), (.int .i64), (.int .i64), (.int .i64), (.int .i64), (.int .i64), (.int .i64), (.int .i64), .bool, (.sl [(.int .i64), (.int .i64), (.int .i64), (.int .i64), (.int .i64), (.int .i64), .bool]), (.int .i64), (.int .i64)] e := (hok _ (.head _))
  have e_e_19 : D.lst (e.fld 19).toL = e.fld 19 := sl_eta (okL_at k_e (i := 19) rfl)
  have l_e_19 := sl_len (okL_at k_e (i := 19) rfl)
  have k_e_19 := sl_all (okL_at k_e (i := 19) rfl)
  have E_e_19 : ∀ i, i < (e.fld 19).toL.length → D.lst [((e.fld 19).elem i).fld 0, ((e.fld 19).elem i).fld 1, ((e.fld 19).elem i).fld 2, ((e.fld 19).elem i).fld 3, ((e.fld 19).elem i).fld 4, ((e.fld 19).elem i).fld 5, ((e.fld 19).elem i).fld 6] = (e.fld 19).elem i := fun i hi => by simpa [List.range, List.range.loop] using okL_eta (k_e_19 _ (elem_mem hi))
  have e_n := int_eta (hok _ (.tail _ (.head _)))
  have b_n := int_range (hok _ (.tail _ (.head _)))
  apply says_den (φ := fun _ _ => [])
  simp [e_e_19, E_e_19, e_e, e_n, tree_85, T.says, X.den, O1.den, O2.den, O3.den, callD, XArg.ev, XArg.dat, Callee'.num, backs, DArg.back, Conds.den, cloArgs, lives]
theorem pd_85 (e n : D) (Q : List D → Prop) (ho : Q [.bool (lives e n.toI)]) : PC Try.prog 85 [.st [(.int .i64), (.int .i64), (.int .i64), (.int .i64), (.int .i64), (.int .i64), (.int .i64), (.int .i64), (.int .i64), (.int .i64), (.int .i64), (.int .i64), (.int .i64), (.int .i64), (.int .i64), (.int .i64), (.int .i64), (.int .i64), .bool, (.sl [(.int .i64), (.int .i64), (.int .i64), (.int .i64), (.int .i64), (.int .i64), .bool]), (.int .i64), (.int .i64)] e, .sc (.int .i64) n] [.sc .bool] Q := (pc_85 e n).mono fun _ h => h ▸ ho
/- spec.Near -/
theorem pc_105 (e v : D) : PC Try.prog 105 [.st [(.int .i64), (.int .i64), (.int .i64), (.int .i64), (.int .i64), (.int .i64), (.int .i64), (.int .i64), (.int .i64), (.int .i64), (.int .i64), (.int .i64), (.int .i64), (.int .i64), (.int .i64), (.int .i64), (.int .i64), (.int .i64), .bool, (.sl [(.int .i64), (.int .i64), (.int .i64), (.int .i64), (.int .i64), (.int .i64), .bool]), (.int .i64), (.int .i64)] e, .st [(.int .i64), (.int .i64), (.int .i64), (.int .i64), (.int .i64), (.int .i64), .bool] v] [.sc .bool] fun o => o = [.bool (near e v)] := by
  refine PC.of_sig mix sig_105 ⟨rfl, rfl, trivial⟩ rfl fun hok => ?_
  have e_e : D.lst [e.fld 0, e.fld 1, e.fld 2, e.fld 3, e.fld 4, e.fld 5, e.fld 6, e.fld 7, e.fld 8, e.fld 9, e.fld 10, e.fld 11, e.fld 12, e.fld 13, e.fld 14, e.fld 15, e.fld 16, e.fld 17, e.fld 18, e.fld 19, e.fld 20, e.fld 21] = e := by simpa [List.range, List.range.loop] using okL_eta (hok _ (.head _))
  have k_e : okL [(.int .i64), (.int .i64), (.int .i64), (.int .i64), (.int .i64), (.int .i64), (.int .i64), (.int .i64), (.int .i64), (.int .i64), (.int .i64), (.int .i64), (.int .i64), (.int .i64), (.int .i64), (.int .i64), (.int .i64), (.int .i64), .bool, (.sl [(.int .i64), (.int .i64), (.int .i64), (.int .i64), (.int .i64), (.int .i64), .bool]), (.int .i64), (.int .i64)] e := (hok _ (.head _))
  have e_e_19 : D.lst (e.fld 19).toL = e.fld 19 := sl_eta (okL_at k_e (i := 19) rfl)
  have l_e_19 := sl_len (okL_at k_e (i := 19) rfl)
  have k_e_19 := sl_all (okL_at k_e (i := 19) rfl)
  have E_e_19 : ∀ i, i < (e.fld 19).toL.length → D.lst [((e.fld 19).elem i).fld 0, ((e.fld 19).elem i).fld 1, ((e.fld 19).elem i).fld 2, ((e.fld 19).elem i).fld 3, ((e.fld 19).elem i).fld 4, ((e.fld 19).elem i).fld 5, ((e.fld 19).elem i).fld 6] = (e.fld 19).elem i := fun i hi => by simpa [List.range, List.range.loop] using okL_eta (k_e_19 _ (elem_mem hi))
  have e_v : D.lst [v.fld 0, v.fld 1, v.fld 2, v.fld 3, v.fld 4, v.fld 5, v.fld 6] = v := by simpa [List.range, List.range.loop] using okL_eta (hok _ (.tail _ (.head _)))
  have k_v : okL [(.int .i64), (.int .i64), (.int .i64), (.int .i64), (.int .i64), (.int .i64), .bool] v := (hok _ (.tail _ (.head _)))
  apply says_den (φ := fun _ _ => [])
  simp [e_e_19, E_e_19, e_e, e_v, tree_105, T.says, X.den, O1.den, O2.den, O3.den, callD, XArg.ev, XArg.dat, Callee'.num, backs, DArg.back, Conds.den, cloArgs, near]
theorem pd_105 (e v : D) (Q : List D → Prop) (ho : Q [.bool (near e v)]) : PC Try.prog 105 [.st [(.int .i64), (.int .i64), (.int .i64), (.int .i64), (.int .i64), (.int .i64), (.int .i64), (.int .i64), (.int .i64), (.int .i64), (.int .i64), (.int .i64), (.int .i64), (.int .i64), (.int .i64), (.int .i64), (.int .i64), (.int .i64), .bool, (.sl [(.int .i64), (.int .i64), (.int .i64), (.int .i64), (.int .i64), (.int .i64), .bool]), (.int .i64), (.int .i64)] e, .st [(.int .i64), (.int .i64), (.int .i64), (.int .i64), (.int .i64), (.int .i64), .bool] v] [.sc .bool] Q := (pc_105 e v).mono fun _ h => h ▸ ho
/- spec.l8Many -/
theorem pc_140 (s n : D) : PC Try.prog 140 [.st [(.sl [(.int .i64), (.int .i64), (.int .i64), (.int .i64), (.int .i64), (.int .i64), (.int .i64), (.int .i64), (.int .i64), (.int .i64), (.int .i64), .bool, .bool]), (.sl [(.int .i64), (.int .i64), .bool]), (.int .i64), (.int .i64)] s, .sc (.int .i64) n] [.sc (.int .i64)] fun o => o = [.int (many s n.toI)] := by
  refine PC.of_sig mix sig_140 ⟨rfl, rfl, trivial⟩ rfl fun hok => ?_
  have e_s : D.lst [s.fld 0, s.fld 1, s.fld 2, s.fld 3] = s := by simpa [List.range, List.range.loop] using okL_eta (hok _ (.head _))
  have k_s : okL [(.sl [(.int .i64), (.int .i64), (.int .i64), (.int .i64), (.int .i64), (.int .i64), (.int .i64), (.int .i64), (.int .i64), (.int .i64), (.int .i64), .bool, .bool]), (.sl [(.int .i64), (.int .i64), .bool]), (.int .i64), (.int .i64)] s := (hok _ (.head _))
  have e_s_0 : D.lst (s.fld 0).toL = s.fld 0 := sl_eta (okL_at k_s (i := 0) rfl)
  have l_s_0 := sl_len (okL_at k_s (i := 0) rfl)
  have k_s_0 := sl_all (okL_at k_s (i := 0) rfl)
  have E_s_0 : ∀ i, i < (s.fld 0).toL.length → D.lst [((s.fld 0).elem i).fld 0, ((s.fld 0).elem i).fld 1, ((s.fld 0).elem i).fld 2, ((s.fld 0).elem i).fld 3, ((s.fld 0).elem i).fld 4, ((s.fld 0).elem i).fld 5, ((s.fld 0).elem i).fld 6, ((s.fld 0).elem i).fld 7, ((s.fld 0).elem i).fld 8, ((s.fld 0).elem i).fld 9, ((s.fld 0).elem i).fld 10, ((s.fld 0).elem i).fld 11, ((s.fld 0).elem i).fld 12] = (s.fld 0).elem i := fun i hi => by simpa [List.range, List.range.loop] using okL_eta (k_s_0 _ (elem_mem hi))
  have e_s_1 : D.lst (s.fld 1).toL = s.fld 1 := sl_eta (okL_at k_s (i := 1) rfl)
  have l_s_1 := sl_len (okL_at k_s (i := 1) rfl)
  have k_s_1 := sl_all (okL_at k_s (i := 1) rfl)
  have E_s_1 : ∀ i, i < (s.fld 1).toL.length → D.lst [((s.fld 1).elem i).fld 0, ((s.fld 1).elem i).fld 1, ((s.fld 1).elem i).fld 2] = (s.fld 1).elem i := fun i hi => by simpa [List.range, List.range.loop] using okL_eta (k_s_1 _ (elem_mem hi))
  have e_n := int_eta (hok _ (.tail _ (.head _)))
  have b_n := int_range (hok _ (.tail _ (.head _)))
  apply says_den (φ := fun _ _ => [])
  simp [e_s_0, E_s_0, e_s_1, E_s_1, e_s, e_n, tree_140, T.says, X.den, O1.den, O2.den, O3.den, callD, XArg.ev, XArg.dat, Callee'.num, backs, DArg.back, Conds.den, cloArgs]
  refine den_for (s.fld 0).toL.length 1 (fun i => [.int (countR (manyP s n.toI) i), .int i]) (fun _ => True) (by simp) (by simp [X.den]) trivial fun i hi _ => ?_
  have hc := countR_le (manyP s n.toI) i
  apply says_den (φ := fun _ _ => [])
  by_cases hlt : i < (s.fld 0).toL.length
  · simp [e_s_0, E_s_0, e_s_1, E_s_1, e_s, e_n, tree_140, T.says, X.den, O1.den, O2.den, O3.den, callD, XArg.ev, XArg.dat, Callee'.num, backs, DArg.back, Conds.den, cloArgs, hlt]
    (repeat' (first | (with_reducible apply And.intro) | intro _)) <;> first | omega | (first | omega | (simp only [IntKind.wrap_i64, maxL] at *; omega) | (simp [IntKind.wrap_i64, maxL] at *; omega)) | (rw [countR_succ, if_pos (by grind [manyP])]; (first | omega | (simp only [IntKind.wrap_i64, maxL] at *; omega) | (simp [IntKind.wrap_i64, maxL] at *; omega))) | (rw [countR_succ, if_neg (by grind [manyP])]; simp)
  · simp [e_s_0, E_s_0, e_s_1, E_s_1, e_s, e_n, tree_140, T.says, X.den, O1.den, O2.den, O3.den, callD, XArg.ev, XArg.dat, Callee'.num, backs, DArg.back, Conds.den, cloArgs, hlt]
    (repeat' (first | (with_reducible apply And.intro) | intro _)) <;> first | omega | (rw [show i = (s.fld 0).toL.length by omega]; rfl)
theorem pd_140 (s n : D) (Q : List D → Prop) (ho : Q [.int (many s n.toI)]) : PC Try.prog 140 [.st [(.sl [(.int .i64), (.int .i64), (.int .i64), (.int .i64), (.int .i64), (.int .i64), (.int .i64), (.int .i64), (.int .i64), (.int .i64), (.int .i64), .bool, .bool]), (.sl [(.int .i64), (.int .i64), .bool]), (.int .i64), (.int .i64)] s, .sc (.int .i64) n] [.sc (.int .i64)] Q := (pc_140 s n).mono fun _ h => h ▸ ho
/- spec.BentOf -/
theorem pc_141 (s n : D) : PC Try.prog 141 [.st [(.sl [(.int .i64), (.int .i64), (.int .i64), (.int .i64), (.int .i64), (.int .i64), (.int .i64), (.int .i64), (.int .i64), (.int .i64), (.int .i64), .bool, .bool]), (.sl [(.int .i64), (.int .i64), .bool]), (.int .i64), (.int .i64)] s, .sc (.int .i64) n] [.sc (.int .i64)] fun o => o = [.int (bentOf s n.toI)] := by
  refine PC.of_sig mix sig_141 ⟨rfl, rfl, trivial⟩ rfl fun hok => ?_
  have e_s : D.lst [s.fld 0, s.fld 1, s.fld 2, s.fld 3] = s := by simpa [List.range, List.range.loop] using okL_eta (hok _ (.head _))
  have k_s : okL [(.sl [(.int .i64), (.int .i64), (.int .i64), (.int .i64), (.int .i64), (.int .i64), (.int .i64), (.int .i64), (.int .i64), (.int .i64), (.int .i64), .bool, .bool]), (.sl [(.int .i64), (.int .i64), .bool]), (.int .i64), (.int .i64)] s := (hok _ (.head _))
  have e_s_0 : D.lst (s.fld 0).toL = s.fld 0 := sl_eta (okL_at k_s (i := 0) rfl)
  have l_s_0 := sl_len (okL_at k_s (i := 0) rfl)
  have k_s_0 := sl_all (okL_at k_s (i := 0) rfl)
  have E_s_0 : ∀ i, i < (s.fld 0).toL.length → D.lst [((s.fld 0).elem i).fld 0, ((s.fld 0).elem i).fld 1, ((s.fld 0).elem i).fld 2, ((s.fld 0).elem i).fld 3, ((s.fld 0).elem i).fld 4, ((s.fld 0).elem i).fld 5, ((s.fld 0).elem i).fld 6, ((s.fld 0).elem i).fld 7, ((s.fld 0).elem i).fld 8, ((s.fld 0).elem i).fld 9, ((s.fld 0).elem i).fld 10, ((s.fld 0).elem i).fld 11, ((s.fld 0).elem i).fld 12] = (s.fld 0).elem i := fun i hi => by simpa [List.range, List.range.loop] using okL_eta (k_s_0 _ (elem_mem hi))
  have e_s_1 : D.lst (s.fld 1).toL = s.fld 1 := sl_eta (okL_at k_s (i := 1) rfl)
  have l_s_1 := sl_len (okL_at k_s (i := 1) rfl)
  have k_s_1 := sl_all (okL_at k_s (i := 1) rfl)
  have E_s_1 : ∀ i, i < (s.fld 1).toL.length → D.lst [((s.fld 1).elem i).fld 0, ((s.fld 1).elem i).fld 1, ((s.fld 1).elem i).fld 2] = (s.fld 1).elem i := fun i hi => by simpa [List.range, List.range.loop] using okL_eta (k_s_1 _ (elem_mem hi))
  have e_n := int_eta (hok _ (.tail _ (.head _)))
  have b_n := int_range (hok _ (.tail _ (.head _)))
  apply says_den (φ := fun _ _ => [])
  simp [e_s_0, E_s_0, e_s_1, E_s_1, e_s, e_n, tree_141, T.says, X.den, O1.den, O2.den, O3.den, callD, XArg.ev, XArg.dat, Callee'.num, backs, DArg.back, Conds.den, cloArgs]
  refine den_for (s.fld 0).toL.length 1 (fun i => [.int (countR (bentP s n.toI) i), .int i]) (fun _ => True) (by simp) (by simp [X.den]) trivial fun i hi _ => ?_
  have hc := countR_le (bentP s n.toI) i
  apply says_den (φ := fun _ _ => [])
  by_cases hlt : i < (s.fld 0).toL.length
  · simp [e_s_0, E_s_0, e_s_1, E_s_1, e_s, e_n, tree_141, T.says, X.den, O1.den, O2.den, O3.den, callD, XArg.ev, XArg.dat, Callee'.num, backs, DArg.back, Conds.den, cloArgs, hlt]
    (repeat' (first | (with_reducible apply And.intro) | intro _)) <;> first | omega | (first | omega | (simp only [IntKind.wrap_i64, maxL] at *; omega) | (simp [IntKind.wrap_i64, maxL] at *; omega)) | (rw [countR_succ, if_pos (by grind [bentP])]; (first | omega | (simp only [IntKind.wrap_i64, maxL] at *; omega) | (simp [IntKind.wrap_i64, maxL] at *; omega))) | (rw [countR_succ, if_neg (by grind [bentP])]; simp)
  · simp [e_s_0, E_s_0, e_s_1, E_s_1, e_s, e_n, tree_141, T.says, X.den, O1.den, O2.den, O3.den, callD, XArg.ev, XArg.dat, Callee'.num, backs, DArg.back, Conds.den, cloArgs, hlt]
    (repeat' (first | (with_reducible apply And.intro) | intro _)) <;> first | omega | (rw [show i = (s.fld 0).toL.length by omega]; rfl)
theorem pd_141 (s n : D) (Q : List D → Prop) (ho : Q [.int (bentOf s n.toI)]) : PC Try.prog 141 [.st [(.sl [(.int .i64), (.int .i64), (.int .i64), (.int .i64), (.int .i64), (.int .i64), (.int .i64), (.int .i64), (.int .i64), (.int .i64), (.int .i64), .bool, .bool]), (.sl [(.int .i64), (.int .i64), .bool]), (.int .i64), (.int .i64)] s, .sc (.int .i64) n] [.sc (.int .i64)] Q := (pc_141 s n).mono fun _ h => h ▸ ho
/- spec.Holds -/
def phi_106 : Nat → List D → List D
  | 73, [a, b, c] => [.bool (inR a.toI b.toI c.toI)]
  | 75, [d] => [.bool (guardOk d)]
  | 140, [s, n] => [.int (many s n.toI)]
  | 141, [s, n] => [.int (bentOf s n.toI)]
  | _, _ => []
theorem pc_106 (s n g : D) : PC Try.prog 106 [.st [(.sl [(.int .i64), (.int .i64), (.int .i64), (.int .i64), (.int .i64), (.int .i64), (.int .i64), (.int .i64), (.int .i64), (.int .i64), (.int .i64), .bool, .bool]), (.sl [(.int .i64), (.int .i64), .bool]), (.int .i64), (.int .i64)] s, .sc (.int .i64) n, .st [(.int .i64), (.int .i64)] g] [.sc .bool] fun o => o = [.bool (holds s n.toI g)] := by
  refine PC.of_sig mix sig_106 ⟨rfl, rfl, rfl, trivial⟩ rfl fun hok => ?_
  have e_s : D.lst [s.fld 0, s.fld 1, s.fld 2, s.fld 3] = s := by simpa [List.range, List.range.loop] using okL_eta (hok _ (.head _))
  have k_s : okL [(.sl [(.int .i64), (.int .i64), (.int .i64), (.int .i64), (.int .i64), (.int .i64), (.int .i64), (.int .i64), (.int .i64), (.int .i64), (.int .i64), .bool, .bool]), (.sl [(.int .i64), (.int .i64), .bool]), (.int .i64), (.int .i64)] s := (hok _ (.head _))
  have e_s_0 : D.lst (s.fld 0).toL = s.fld 0 := sl_eta (okL_at k_s (i := 0) rfl)
  have l_s_0 := sl_len (okL_at k_s (i := 0) rfl)
  have k_s_0 := sl_all (okL_at k_s (i := 0) rfl)
  have E_s_0 : ∀ i, i < (s.fld 0).toL.length → D.lst [((s.fld 0).elem i).fld 0, ((s.fld 0).elem i).fld 1, ((s.fld 0).elem i).fld 2, ((s.fld 0).elem i).fld 3, ((s.fld 0).elem i).fld 4, ((s.fld 0).elem i).fld 5, ((s.fld 0).elem i).fld 6, ((s.fld 0).elem i).fld 7, ((s.fld 0).elem i).fld 8, ((s.fld 0).elem i).fld 9, ((s.fld 0).elem i).fld 10, ((s.fld 0).elem i).fld 11, ((s.fld 0).elem i).fld 12] = (s.fld 0).elem i := fun i hi => by simpa [List.range, List.range.loop] using okL_eta (k_s_0 _ (elem_mem hi))
  have e_s_1 : D.lst (s.fld 1).toL = s.fld 1 := sl_eta (okL_at k_s (i := 1) rfl)
  have l_s_1 := sl_len (okL_at k_s (i := 1) rfl)
  have k_s_1 := sl_all (okL_at k_s (i := 1) rfl)
  have E_s_1 : ∀ i, i < (s.fld 1).toL.length → D.lst [((s.fld 1).elem i).fld 0, ((s.fld 1).elem i).fld 1, ((s.fld 1).elem i).fld 2] = (s.fld 1).elem i := fun i hi => by simpa [List.range, List.range.loop] using okL_eta (k_s_1 _ (elem_mem hi))
  have e_n := int_eta (hok _ (.tail _ (.head _)))
  have b_n := int_range (hok _ (.tail _ (.head _)))
  have e_g : D.lst [g.fld 0, g.fld 1] = g := by simpa [List.range, List.range.loop] using okL_eta (hok _ (.tail _ (.tail _ (.head _))))
  have k_g : okL [(.int .i64), (.int .i64)] g := (hok _ (.tail _ (.tail _ (.head _))))
  have hw : IntKind.i64.wrap (((s.fld 1).toL.length : Int) - 1) = (s.fld 1).toL.length - 1 := by (first | omega | (simp only [IntKind.wrap_i64, maxL] at *; omega) | (simp [IntKind.wrap_i64, maxL] at *; omega))
  apply says_den (φ := (phi_106))
  simp [e_s_0, E_s_0, e_s_1, E_s_1, e_s, e_n, e_g, tree_106, T.says, X.den, O1.den, O2.den, O3.den, callD, XArg.ev, XArg.dat, Callee'.num, backs, DArg.back, Conds.den, cloArgs, phi_106, pd_73, pd_75, pd_140, pd_141, hw, holds]
  have hin : inR n.toI 0 (((s.fld 1).toL.length : Int) - 1) = true → 0 ≤ n.toI ∧ n.toI < (s.fld 1).toL.length := by simp only [inR, Bool.and_eq_true, decide_eq_true_eq]; omega
  (repeat' (first | (with_reducible apply And.intro) | intro _)) <;> first | (have := hin ‹_›; omega) | (first | assumption | (first | omega | (simp only [IntKind.wrap_i64, maxL] at *; omega) | (simp [IntKind.wrap_i64, maxL] at *; omega)) | rfl | contradiction | (exact pd_73 _ _ _ _ (by first | rfl | simp | (simp; omega))) | (exact pd_75 _ _ (by first | rfl | simp | (simp; omega))) | (exact pd_140 _ _ _ (by first | rfl | simp | (simp; omega))) | (exact pd_141 _ _ _ (by first | rfl | simp | (simp; omega))) | grind) | skip
  all_goals
    have h1 := hin ‹_›
    have h2 := onField_many (s := s) h1.1 (s.fld 0).toL.length
    rw [h2]
    simp [*, many]
    try exact decide_eq_decide.mpr Iff.rfl
theorem pd_106 (s n g : D) (Q : List D → Prop) (ho : Q [.bool (holds s n.toI g)]) : PC Try.prog 106 [.st [(.sl [(.int .i64), (.int .i64), (.int .i64), (.int .i64), (.int .i64), (.int .i64), (.int .i64), (.int .i64), (.int .i64), (.int .i64), (.int .i64), .bool, .bool]), (.sl [(.int .i64), (.int .i64), .bool]), (.int .i64), (.int .i64)] s, .sc (.int .i64) n, .st [(.int .i64), (.int .i64)] g] [.sc .bool] Q := (pc_106 s n g).mono fun _ h => h ▸ ho
/- spec.PieceAt -/
theorem pc_167 (s n : D) : PC Try.prog 167 [.st [(.sl [(.int .i64), (.int .i64), (.int .i64), (.int .i64), (.int .i64), (.int .i64), (.int .i64), (.int .i64), (.int .i64), (.int .i64), (.int .i64), .bool, .bool]), (.sl [(.int .i64), (.int .i64), .bool]), (.int .i64), (.int .i64)] s, .sc (.int .i64) n] [.sc (.int .i64)] fun o => o = [.int (pieceAt s n.toI)] := by
  refine PC.of_sig mix sig_167 ⟨rfl, rfl, trivial⟩ rfl fun hok => ?_
  have e_s : D.lst [s.fld 0, s.fld 1, s.fld 2, s.fld 3] = s := by simpa [List.range, List.range.loop] using okL_eta (hok _ (.head _))
  have k_s : okL [(.sl [(.int .i64), (.int .i64), (.int .i64), (.int .i64), (.int .i64), (.int .i64), (.int .i64), (.int .i64), (.int .i64), (.int .i64), (.int .i64), .bool, .bool]), (.sl [(.int .i64), (.int .i64), .bool]), (.int .i64), (.int .i64)] s := (hok _ (.head _))
  have e_s_0 : D.lst (s.fld 0).toL = s.fld 0 := sl_eta (okL_at k_s (i := 0) rfl)
  have l_s_0 := sl_len (okL_at k_s (i := 0) rfl)
  have k_s_0 := sl_all (okL_at k_s (i := 0) rfl)
  have E_s_0 : ∀ i, i < (s.fld 0).toL.length → D.lst [((s.fld 0).elem i).fld 0, ((s.fld 0).elem i).fld 1, ((s.fld 0).elem i).fld 2, ((s.fld 0).elem i).fld 3, ((s.fld 0).elem i).fld 4, ((s.fld 0).elem i).fld 5, ((s.fld 0).elem i).fld 6, ((s.fld 0).elem i).fld 7, ((s.fld 0).elem i).fld 8, ((s.fld 0).elem i).fld 9, ((s.fld 0).elem i).fld 10, ((s.fld 0).elem i).fld 11, ((s.fld 0).elem i).fld 12] = (s.fld 0).elem i := fun i hi => by simpa [List.range, List.range.loop] using okL_eta (k_s_0 _ (elem_mem hi))
  have e_s_1 : D.lst (s.fld 1).toL = s.fld 1 := sl_eta (okL_at k_s (i := 1) rfl)
  have l_s_1 := sl_len (okL_at k_s (i := 1) rfl)
  have k_s_1 := sl_all (okL_at k_s (i := 1) rfl)
  have E_s_1 : ∀ i, i < (s.fld 1).toL.length → D.lst [((s.fld 1).elem i).fld 0, ((s.fld 1).elem i).fld 1, ((s.fld 1).elem i).fld 2] = (s.fld 1).elem i := fun i hi => by simpa [List.range, List.range.loop] using okL_eta (k_s_1 _ (elem_mem hi))
  have e_n := int_eta (hok _ (.tail _ (.head _)))
  have b_n := int_range (hok _ (.tail _ (.head _)))
  apply says_den (φ := fun _ _ => [])
  simp [e_s_0, E_s_0, e_s_1, E_s_1, e_s, e_n, tree_167, T.says, X.den, O1.den, O2.den, O3.den, callD, XArg.ev, XArg.dat, Callee'.num, backs, DArg.back, Conds.den, cloArgs, pieceAt]
  refine den_for (s.fld 0).toL.length 0 (fun i => [.int i]) (fun i => ∀ j, j < i → ((((s.fld 0).elem j).fld 0).toI == n.toI) = false) (by simp) (by simp [X.den]) (by simp) fun i hi hR => ?_
  apply says_den (φ := fun _ _ => [])
  by_cases hlt : i < (s.fld 0).toL.length
  · simp [e_s_0, E_s_0, e_s_1, E_s_1, e_s, e_n, tree_167, T.says, X.den, O1.den, O2.den, O3.den, callD, XArg.ev, XArg.dat, Callee'.num, backs, DArg.back, Conds.den, cloArgs, hlt]
    (repeat' (first | (with_reducible apply And.intro) | intro _))
    · exact (findR_some (p := fun i => (((s.fld 0).elem i).fld 0).toI == n.toI) hlt (by simp_all) hR).symm
    · (first | omega | (simp only [IntKind.wrap_i64, maxL] at *; omega) | (simp [IntKind.wrap_i64, maxL] at *; omega))
    · grind
  · simp [e_s_0, E_s_0, e_s_1, E_s_1, e_s, e_n, tree_167, T.says, X.den, O1.den, O2.den, O3.den, callD, XArg.ev, XArg.dat, Callee'.num, backs, DArg.back, Conds.den, cloArgs, hlt]
    (repeat' (first | (with_reducible apply And.intro) | intro _))
    · exact (findR_none fun j hj => hR j (by omega)).symm
theorem pd_167 (s n : D) (Q : List D → Prop) (ho : Q [.int (pieceAt s n.toI)]) : PC Try.prog 167 [.st [(.sl [(.int .i64), (.int .i64), (.int .i64), (.int .i64), (.int .i64), (.int .i64), (.int .i64), (.int .i64), (.int .i64), (.int .i64), (.int .i64), .bool, .bool]), (.sl [(.int .i64), (.int .i64), .bool]), (.int .i64), (.int .i64)] s, .sc (.int .i64) n] [.sc (.int .i64)] Q := (pc_167 s n).mono fun _ h => h ▸ ho
/- spec.Target -/
def phi_162 : Nat → List D → List D
  | 73, [a, b, c] => [.bool (inR a.toI b.toI c.toI)]
  | 167, [s, n] => [.int (pieceAt s n.toI)]
  | _, _ => []
theorem pc_162 (s e : D) : PC Try.prog 162 [.st [(.sl [(.int .i64), (.int .i64), (.int .i64), (.int .i64), (.int .i64), (.int .i64), (.int .i64), (.int .i64), (.int .i64), (.int .i64), (.int .i64), .bool, .bool]), (.sl [(.int .i64), (.int .i64), .bool]), (.int .i64), (.int .i64)] s, .st [(.int .i64), (.int .i64), (.int .i64), (.int .i64), (.int .i64), (.int .i64), .bool] e] [.sc (.int .i64)] fun o => o = [.int (target s e)] := by
  refine PC.of_sig mix sig_162 ⟨rfl, rfl, trivial⟩ rfl fun hok => ?_
  have e_s : D.lst [s.fld 0, s.fld 1, s.fld 2, s.fld 3] = s := by simpa [List.range, List.range.loop] using okL_eta (hok _ (.head _))
  have k_s : okL [(.sl [(.int .i64), (.int .i64), (.int .i64), (.int .i64), (.int .i64), (.int .i64), (.int .i64), (.int .i64), (.int .i64), (.int .i64), (.int .i64), .bool, .bool]), (.sl [(.int .i64), (.int .i64), .bool]), (.int .i64), (.int .i64)] s := (hok _ (.head _))
  have e_s_0 : D.lst (s.fld 0).toL = s.fld 0 := sl_eta (okL_at k_s (i := 0) rfl)
  have l_s_0 := sl_len (okL_at k_s (i := 0) rfl)
  have k_s_0 := sl_all (okL_at k_s (i := 0) rfl)
  have E_s_0 : ∀ i, i < (s.fld 0).toL.length → D.lst [((s.fld 0).elem i).fld 0, ((s.fld 0).elem i).fld 1, ((s.fld 0).elem i).fld 2, ((s.fld 0).elem i).fld 3, ((s.fld 0).elem i).fld 4, ((s.fld 0).elem i).fld 5, ((s.fld 0).elem i).fld 6, ((s.fld 0).elem i).fld 7, ((s.fld 0).elem i).fld 8, ((s.fld 0).elem i).fld 9, ((s.fld 0).elem i).fld 10, ((s.fld 0).elem i).fld 11, ((s.fld 0).elem i).fld 12] = (s.fld 0).elem i := fun i hi => by simpa [List.range, List.range.loop] using okL_eta (k_s_0 _ (elem_mem hi))
  have e_s_1 : D.lst (s.fld 1).toL = s.fld 1 := sl_eta (okL_at k_s (i := 1) rfl)
  have l_s_1 := sl_len (okL_at k_s (i := 1) rfl)
  have k_s_1 := sl_all (okL_at k_s (i := 1) rfl)
  have E_s_1 : ∀ i, i < (s.fld 1).toL.length → D.lst [((s.fld 1).elem i).fld 0, ((s.fld 1).elem i).fld 1, ((s.fld 1).elem i).fld 2] = (s.fld 1).elem i := fun i hi => by simpa [List.range, List.range.loop] using okL_eta (k_s_1 _ (elem_mem hi))
  have e_e : D.lst [e.fld 0, e.fld 1, e.fld 2, e.fld 3, e.fld 4, e.fld 5, e.fld 6] = e := by simpa [List.range, List.range.loop] using okL_eta (hok _ (.tail _ (.head _)))
  have k_e : okL [(.int .i64), (.int .i64), (.int .i64), (.int .i64), (.int .i64), (.int .i64), .bool] e := (hok _ (.tail _ (.head _)))
  apply says_den (φ := (phi_162))
  have hr := pieceAt_range s (e.fld 2).toI
  have i3 := int_eta (okL_at k_e (i := 3) rfl)
  have hw : IntKind.i64.wrap (((s.fld 1).toL.length : Int) - 1) = (s.fld 1).toL.length - 1 := by (first | omega | (simp only [IntKind.wrap_i64, maxL] at *; omega) | (simp [IntKind.wrap_i64, maxL] at *; omega))
  simp [e_s_0, E_s_0, e_s_1, E_s_1, e_s, e_e, tree_162, T.says, X.den, O1.den, O2.den, O3.den, callD, XArg.ev, XArg.dat, Callee'.num, backs, DArg.back, Conds.den, cloArgs, phi_162, pd_73, pd_167, hw]
  (repeat' (first | (with_reducible apply And.intro) | intro _))
  all_goals first | omega | (rw [target, if_pos (by omega), if_neg (by simp_all)]; done) | (rw [target, if_pos (by omega), if_pos (by simp_all)]; exact i3.symm) | (rw [target, if_neg (by omega), if_pos (by omega)]; done) | skip
  · rw [target, if_neg (by omega), if_neg (by omega)]
    exact (int_eta (okL_at (k_s_0 _ (elem_mem (by omega))) (i := 2) rfl)).symm
theorem pd_162 (s e : D) (Q : List D → Prop) (ho : Q [.int (target s e)]) : PC Try.prog 162 [.st [(.sl [(.int .i64), (.int .i64), (.int .i64), (.int .i64), (.int .i64), (.int .i64), (.int .i64), (.int .i64), (.int .i64), (.int .i64), (.int .i64), .bool, .bool]), (.sl [(.int .i64), (.int .i64), .bool]), (.int .i64), (.int .i64)] s, .st [(.int .i64), (.int .i64), (.int .i64), (.int .i64), (.int .i64), (.int .i64), .bool] e] [.sc (.int .i64)] Q := (pc_162 s e).mono fun _ h => h ▸ ho
/- spec.TargetFits -/
def phi_142 : Nat → List D → List D
  | 162, [s, e] => [.int (target s e)]
  | _, _ => []
theorem pc_142 (s n p e : D) : PC Try.prog 142 [.st [(.sl [(.int .i64), (.int .i64), (.int .i64), (.int .i64), (.int .i64), (.int .i64), (.int .i64), (.int .i64), (.int .i64), (.int .i64), (.int .i64), .bool, .bool]), (.sl [(.int .i64), (.int .i64), .bool]), (.int .i64), (.int .i64)] s, .sc (.int .i64) n, .st [(.int .i64), (.int .i64), (.int .i64), (.int .i64), (.int .i64), (.int .i64), (.int .i64)] p, .st [(.int .i64), (.int .i64), (.int .i64), (.int .i64), (.int .i64), (.int .i64), .bool] e] [.sc .bool] fun o => o = [.bool (targetFits s n.toI p e)] := by
  refine PC.of_sig mix sig_142 ⟨rfl, rfl, rfl, rfl, trivial⟩ rfl fun hok => ?_
  have e_s : D.lst [s.fld 0, s.fld 1, s.fld 2, s.fld 3] = s := by simpa [List.range, List.range.loop] using okL_eta (hok _ (.head _))
  have k_s : okL [(.sl [(.int .i64), (.int .i64), (.int .i64), (.int .i64), (.int .i64), (.int .i64), (.int .i64), (.int .i64), (.int .i64), (.int .i64), (.int .i64), .bool, .bool]), (.sl [(.int .i64), (.int .i64), .bool]), (.int .i64), (.int .i64)] s := (hok _ (.head _))
  have e_s_0 : D.lst (s.fld 0).toL = s.fld 0 := sl_eta (okL_at k_s (i := 0) rfl)
  have l_s_0 := sl_len (okL_at k_s (i := 0) rfl)
  have k_s_0 := sl_all (okL_at k_s (i := 0) rfl)
  have E_s_0 : ∀ i, i < (s.fld 0).toL.length → D.lst [((s.fld 0).elem i).fld 0, ((s.fld 0).elem i).fld 1, ((s.fld 0).elem i).fld 2, ((s.fld 0).elem i).fld 3, ((s.fld 0).elem i).fld 4, ((s.fld 0).elem i).fld 5, ((s.fld 0).elem i).fld 6, ((s.fld 0).elem i).fld 7, ((s.fld 0).elem i).fld 8, ((s.fld 0).elem i).fld 9, ((s.fld 0).elem i).fld 10, ((s.fld 0).elem i).fld 11, ((s.fld 0).elem i).fld 12] = (s.fld 0).elem i := fun i hi => by simpa [List.range, List.range.loop] using okL_eta (k_s_0 _ (elem_mem hi))
  have e_s_1 : D.lst (s.fld 1).toL = s.fld 1 := sl_eta (okL_at k_s (i := 1) rfl)
  have l_s_1 := sl_len (okL_at k_s (i := 1) rfl)
  have k_s_1 := sl_all (okL_at k_s (i := 1) rfl)
  have E_s_1 : ∀ i, i < (s.fld 1).toL.length → D.lst [((s.fld 1).elem i).fld 0, ((s.fld 1).elem i).fld 1, ((s.fld 1).elem i).fld 2] = (s.fld 1).elem i := fun i hi => by simpa [List.range, List.range.loop] using okL_eta (k_s_1 _ (elem_mem hi))
  have e_n := int_eta (hok _ (.tail _ (.head _)))
  have b_n := int_range (hok _ (.tail _ (.head _)))
  have e_p : D.lst [p.fld 0, p.fld 1, p.fld 2, p.fld 3, p.fld 4, p.fld 5, p.fld 6] = p := by simpa [List.range, List.range.loop] using okL_eta (hok _ (.tail _ (.tail _ (.head _))))
  have k_p : okL [(.int .i64), (.int .i64), (.int .i64), (.int .i64), (.int .i64), (.int .i64), (.int .i64)] p := (hok _ (.tail _ (.tail _ (.head _))))
  have e_e : D.lst [e.fld 0, e.fld 1, e.fld 2, e.fld 3, e.fld 4, e.fld 5, e.fld 6] = e := by simpa [List.range, List.range.loop] using okL_eta (hok _ (.tail _ (.tail _ (.tail _ (.head _)))))
  have k_e : okL [(.int .i64), (.int .i64), (.int .i64), (.int .i64), (.int .i64), (.int .i64), .bool] e := (hok _ (.tail _ (.tail _ (.tail _ (.head _)))))
  apply says_den (φ := (phi_142))
  simp [e_s_0, E_s_0, e_s_1, E_s_1, e_s, e_n, e_p, e_e, tree_142, T.says, X.den, O1.den, O2.den, O3.den, callD, XArg.ev, XArg.dat, Callee'.num, backs, DArg.back, Conds.den, cloArgs, phi_142, pd_162, targetFits]
  all_goals grind
theorem pd_142 (s n p e : D) (Q : List D → Prop) (ho : Q [.bool (targetFits s n.toI p e)]) : PC Try.prog 142 [.st [(.sl [(.int .i64), (.int .i64), (.int .i64), (.int .i64), (.int .i64), (.int .i64), (.int .i64), (.int .i64), (.int .i64), (.int .i64), (.int .i64), .bool, .bool]), (.sl [(.int .i64), (.int .i64), .bool]), (.int .i64), (.int .i64)] s, .sc (.int .i64) n, .st [(.int .i64), (.int .i64), (.int .i64), (.int .i64), (.int .i64), (.int .i64), (.int .i64)] p, .st [(.int .i64), (.int .i64), (.int .i64), (.int .i64), (.int .i64), (.int .i64), .bool] e] [.sc .bool] Q := (pc_142 s n p e).mono fun _ h => h ▸ ho
/- spec.Source -/
def phi_163 : Nat → List D → List D
  | 167, [s, n] => [.int (pieceAt s n.toI)]
  | _, _ => []
theorem pc_163 (s e : D) : PC Try.prog 163 [.st [(.sl [(.int .i64), (.int .i64), (.int .i64), (.int .i64), (.int .i64), (.int .i64), (.int .i64), (.int .i64), (.int .i64), (.int .i64), (.int .i64), .bool, .bool]), (.sl [(.int .i64), (.int .i64), .bool]), (.int .i64), (.int .i64)] s, .st [(.int .i64), (.int .i64), (.int .i64), (.int .i64), (.int .i64), (.int .i64), .bool] e] [.st [(.int .i64), (.int .i64), (.int .i64), (.int .i64), (.int .i64), (.int .i64), (.int .i64), (.int .i64), (.int .i64), (.int .i64), (.int .i64), .bool, .bool]] fun o => o = [source s e] := by
  refine PC.of_sig mix sig_163 ⟨rfl, rfl, trivial⟩ rfl fun hok => ?_
  have e_s : D.lst [s.fld 0, s.fld 1, s.fld 2, s.fld 3] = s := by simpa [List.range, List.range.loop] using okL_eta (hok _ (.head _))
  have k_s : okL [(.sl [(.int .i64), (.int .i64), (.int .i64), (.int .i64), (.int .i64), (.int .i64), (.int .i64), (.int .i64), (.int .i64), (.int .i64), (.int .i64), .bool, .bool]), (.sl [(.int .i64), (.int .i64), .bool]), (.int .i64), (.int .i64)] s := (hok _ (.head _))
  have e_s_0 : D.lst (s.fld 0).toL = s.fld 0 := sl_eta (okL_at k_s (i := 0) rfl)
  have l_s_0 := sl_len (okL_at k_s (i := 0) rfl)
  have k_s_0 := sl_all (okL_at k_s (i := 0) rfl)
  have E_s_0 : ∀ i, i < (s.fld 0).toL.length → D.lst [((s.fld 0).elem i).fld 0, ((s.fld 0).elem i).fld 1, ((s.fld 0).elem i).fld 2, ((s.fld 0).elem i).fld 3, ((s.fld 0).elem i).fld 4, ((s.fld 0).elem i).fld 5, ((s.fld 0).elem i).fld 6, ((s.fld 0).elem i).fld 7, ((s.fld 0).elem i).fld 8, ((s.fld 0).elem i).fld 9, ((s.fld 0).elem i).fld 10, ((s.fld 0).elem i).fld 11, ((s.fld 0).elem i).fld 12] = (s.fld 0).elem i := fun i hi => by simpa [List.range, List.range.loop] using okL_eta (k_s_0 _ (elem_mem hi))
  have e_s_1 : D.lst (s.fld 1).toL = s.fld 1 := sl_eta (okL_at k_s (i := 1) rfl)
  have l_s_1 := sl_len (okL_at k_s (i := 1) rfl)
  have k_s_1 := sl_all (okL_at k_s (i := 1) rfl)
  have E_s_1 : ∀ i, i < (s.fld 1).toL.length → D.lst [((s.fld 1).elem i).fld 0, ((s.fld 1).elem i).fld 1, ((s.fld 1).elem i).fld 2] = (s.fld 1).elem i := fun i hi => by simpa [List.range, List.range.loop] using okL_eta (k_s_1 _ (elem_mem hi))
  have e_e : D.lst [e.fld 0, e.fld 1, e.fld 2, e.fld 3, e.fld 4, e.fld 5, e.fld 6] = e := by simpa [List.range, List.range.loop] using okL_eta (hok _ (.tail _ (.head _)))
  have k_e : okL [(.int .i64), (.int .i64), (.int .i64), (.int .i64), (.int .i64), (.int .i64), .bool] e := (hok _ (.tail _ (.head _)))
  apply says_den (φ := (phi_163))
  have hr := pieceAt_range s (e.fld 1).toI
  simp [e_s_0, E_s_0, e_s_1, E_s_1, e_s, e_e, tree_163, T.says, X.den, O1.den, O2.den, O3.den, callD, XArg.ev, XArg.dat, Callee'.num, backs, DArg.back, Conds.den, cloArgs, phi_163, pd_167]
  (repeat' (first | (with_reducible apply And.intro) | intro _))
  · rw [source, if_pos ‹_›]; rfl
  · omega
  · omega
  · rw [E_s_0 _ (by omega), source, if_neg (by omega)]
theorem pd_163 (s e : D) (Q : List D → Prop) (ho : Q [source s e]) : PC Try.prog 163 [.st [(.sl [(.int .i64), (.int .i64), (.int .i64), (.int .i64), (.int .i64), (.int .i64), (.int .i64), (.int .i64), (.int .i64), (.int .i64), (.int .i64), .bool, .bool]), (.sl [(.int .i64), (.int .i64), .bool]), (.int .i64), (.int .i64)] s, .st [(.int .i64), (.int .i64), (.int .i64), (.int .i64), (.int .i64), (.int .i64), .bool] e] [.st [(.int .i64), (.int .i64), (.int .i64), (.int .i64), (.int .i64), (.int .i64), (.int .i64), (.int .i64), (.int .i64), (.int .i64), (.int .i64), .bool, .bool]] Q := (pc_163 s e).mono fun _ h => h ▸ ho
/- spec.SourceFits -/
def phi_143 : Nat → List D → List D
  | 163, [s, e] => [source s e]
  | _, _ => []
theorem pc_143 (s p e : D) : PC Try.prog 143 [.st [(.sl [(.int .i64), (.int .i64), (.int .i64), (.int .i64), (.int .i64), (.int .i64), (.int .i64), (.int .i64), (.int .i64), (.int .i64), (.int .i64), .bool, .bool]), (.sl [(.int .i64), (.int .i64), .bool]), (.int .i64), (.int .i64)] s, .st [(.int .i64), (.int .i64), (.int .i64), (.int .i64), (.int .i64), (.int .i64), (.int .i64)] p, .st [(.int .i64), (.int .i64), (.int .i64), (.int .i64), (.int .i64), (.int .i64), .bool] e] [.sc .bool] fun o => o = [.bool (sourceFits s p e)] := by
  refine PC.of_sig mix sig_143 ⟨rfl, rfl, rfl, trivial⟩ rfl fun hok => ?_
  have e_s : D.lst [s.fld 0, s.fld 1, s.fld 2, s.fld 3] = s := by simpa [List.range, List.range.loop] using okL_eta (hok _ (.head _))
  have k_s : okL [(.sl [(.int .i64), (.int .i64), (.int .i64), (.int .i64), (.int .i64), (.int .i64), (.int .i64), (.int .i64), (.int .i64), (.int .i64), (.int .i64), .bool, .bool]), (.sl [(.int .i64), (.int .i64), .bool]), (.int .i64), (.int .i64)] s := (hok _ (.head _))
  have e_s_0 : D.lst (s.fld 0).toL = s.fld 0 := sl_eta (okL_at k_s (i := 0) rfl)
  have l_s_0 := sl_len (okL_at k_s (i := 0) rfl)
  have k_s_0 := sl_all (okL_at k_s (i := 0) rfl)
  have E_s_0 : ∀ i, i < (s.fld 0).toL.length → D.lst [((s.fld 0).elem i).fld 0, ((s.fld 0).elem i).fld 1, ((s.fld 0).elem i).fld 2, ((s.fld 0).elem i).fld 3, ((s.fld 0).elem i).fld 4, ((s.fld 0).elem i).fld 5, ((s.fld 0).elem i).fld 6, ((s.fld 0).elem i).fld 7, ((s.fld 0).elem i).fld 8, ((s.fld 0).elem i).fld 9, ((s.fld 0).elem i).fld 10, ((s.fld 0).elem i).fld 11, ((s.fld 0).elem i).fld 12] = (s.fld 0).elem i := fun i hi => by simpa [List.range, List.range.loop] using okL_eta (k_s_0 _ (elem_mem hi))
  have e_s_1 : D.lst (s.fld 1).toL = s.fld 1 := sl_eta (okL_at k_s (i := 1) rfl)
  have l_s_1 := sl_len (okL_at k_s (i := 1) rfl)
  have k_s_1 := sl_all (okL_at k_s (i := 1) rfl)
  have E_s_1 : ∀ i, i < (s.fld 1).toL.length → D.lst [((s.fld 1).elem i).fld 0, ((s.fld 1).elem i).fld 1, ((s.fld 1).elem i).fld 2] = (s.fld 1).elem i := fun i hi => by simpa [List.range, List.range.loop] using okL_eta (k_s_1 _ (elem_mem hi))
  have e_p : D.lst [p.fld 0, p.fld 1, p.fld 2, p.fld 3, p.fld 4, p.fld 5, p.fld 6] = p := by simpa [List.range, List.range.loop] using okL_eta (hok _ (.tail _ (.head _)))
  have k_p : okL [(.int .i64), (.int .i64), (.int .i64), (.int .i64), (.int .i64), (.int .i64), (.int .i64)] p := (hok _ (.tail _ (.head _)))
  have e_e : D.lst [e.fld 0, e.fld 1, e.fld 2, e.fld 3, e.fld 4, e.fld 5, e.fld 6] = e := by simpa [List.range, List.range.loop] using okL_eta (hok _ (.tail _ (.tail _ (.head _))))
  have k_e : okL [(.int .i64), (.int .i64), (.int .i64), (.int .i64), (.int .i64), (.int .i64), .bool] e := (hok _ (.tail _ (.tail _ (.head _))))
  apply says_den (φ := (phi_143))
  simp [e_s_0, E_s_0, e_s_1, E_s_1, e_s, e_p, e_e, tree_143, T.says, X.den, O1.den, O2.den, O3.den, callD, XArg.ev, XArg.dat, Callee'.num, backs, DArg.back, Conds.den, cloArgs, phi_143, pd_163, sourceFits]
  all_goals grind
theorem pd_143 (s p e : D) (Q : List D → Prop) (ho : Q [.bool (sourceFits s p e)]) : PC Try.prog 143 [.st [(.sl [(.int .i64), (.int .i64), (.int .i64), (.int .i64), (.int .i64), (.int .i64), (.int .i64), (.int .i64), (.int .i64), (.int .i64), (.int .i64), .bool, .bool]), (.sl [(.int .i64), (.int .i64), .bool]), (.int .i64), (.int .i64)] s, .st [(.int .i64), (.int .i64), (.int .i64), (.int .i64), (.int .i64), (.int .i64), (.int .i64)] p, .st [(.int .i64), (.int .i64), (.int .i64), (.int .i64), (.int .i64), (.int .i64), .bool] e] [.sc .bool] Q := (pc_143 s p e).mono fun _ h => h ▸ ho
/- spec.PatFits -/
def phi_107 : Nat → List D → List D
  | 74, [d] => [.bool (patOk d)]
  | 92, [e] => [.bool (eventOk e)]
  | 142, [s, n, p, e] => [.bool (targetFits s n.toI p e)]
  | 143, [s, p, e] => [.bool (sourceFits s p e)]
  | _, _ => []
theorem pc_107 (s n p e : D) : PC Try.prog 107 [.st [(.sl [(.int .i64), (.int .i64), (.int .i64), (.int .i64), (.int .i64), (.int .i64), (.int .i64), (.int .i64), (.int .i64), (.int .i64), (.int .i64), .bool, .bool]), (.sl [(.int .i64), (.int .i64), .bool]), (.int .i64), (.int .i64)] s, .sc (.int .i64) n, .st [(.int .i64), (.int .i64), (.int .i64), (.int .i64), (.int .i64), (.int .i64), (.int .i64)] p, .st [(.int .i64), (.int .i64), (.int .i64), (.int .i64), (.int .i64), (.int .i64), .bool] e] [.sc .bool] fun o => o = [.bool (patFits s n.toI p e)] := by
  refine PC.of_sig mix sig_107 ⟨rfl, rfl, rfl, rfl, trivial⟩ rfl fun hok => ?_
  have e_s : D.lst [s.fld 0, s.fld 1, s.fld 2, s.fld 3] = s := by simpa [List.range, List.range.loop] using okL_eta (hok _ (.head _))
  have k_s : okL [(.sl [(.int .i64), (.int .i64), (.int .i64), (.int .i64), (.int .i64), (.int .i64), (.int .i64), (.int .i64), (.int .i64), (.int .i64), (.int .i64), .bool, .bool]), (.sl [(.int .i64), (.int .i64), .bool]), (.int .i64), (.int .i64)] s := (hok _ (.head _))
  have e_s_0 : D.lst (s.fld 0).toL = s.fld 0 := sl_eta (okL_at k_s (i := 0) rfl)
  have l_s_0 := sl_len (okL_at k_s (i := 0) rfl)
  have k_s_0 := sl_all (okL_at k_s (i := 0) rfl)
  have E_s_0 : ∀ i, i < (s.fld 0).toL.length → D.lst [((s.fld 0).elem i).fld 0, ((s.fld 0).elem i).fld 1, ((s.fld 0).elem i).fld 2, ((s.fld 0).elem i).fld 3, ((s.fld 0).elem i).fld 4, ((s.fld 0).elem i).fld 5, ((s.fld 0).elem i).fld 6, ((s.fld 0).elem i).fld 7, ((s.fld 0).elem i).fld 8, ((s.fld 0).elem i).fld 9, ((s.fld 0).elem i).fld 10, ((s.fld 0).elem i).fld 11, ((s.fld 0).elem i).fld 12] = (s.fld 0).elem i := fun i hi => by simpa [List.range, List.range.loop] using okL_eta (k_s_0 _ (elem_mem hi))
  have e_s_1 : D.lst (s.fld 1).toL = s.fld 1 := sl_eta (okL_at k_s (i := 1) rfl)
  have l_s_1 := sl_len (okL_at k_s (i := 1) rfl)
  have k_s_1 := sl_all (okL_at k_s (i := 1) rfl)
  have E_s_1 : ∀ i, i < (s.fld 1).toL.length → D.lst [((s.fld 1).elem i).fld 0, ((s.fld 1).elem i).fld 1, ((s.fld 1).elem i).fld 2] = (s.fld 1).elem i := fun i hi => by simpa [List.range, List.range.loop] using okL_eta (k_s_1 _ (elem_mem hi))
  have e_n := int_eta (hok _ (.tail _ (.head _)))
  have b_n := int_range (hok _ (.tail _ (.head _)))
  have e_p : D.lst [p.fld 0, p.fld 1, p.fld 2, p.fld 3, p.fld 4, p.fld 5, p.fld 6] = p := by simpa [List.range, List.range.loop] using okL_eta (hok _ (.tail _ (.tail _ (.head _))))
  have k_p : okL [(.int .i64), (.int .i64), (.int .i64), (.int .i64), (.int .i64), (.int .i64), (.int .i64)] p := (hok _ (.tail _ (.tail _ (.head _))))
  have e_e : D.lst [e.fld 0, e.fld 1, e.fld 2, e.fld 3, e.fld 4, e.fld 5, e.fld 6] = e := by simpa [List.range, List.range.loop] using okL_eta (hok _ (.tail _ (.tail _ (.tail _ (.head _)))))
  have k_e : okL [(.int .i64), (.int .i64), (.int .i64), (.int .i64), (.int .i64), (.int .i64), .bool] e := (hok _ (.tail _ (.tail _ (.tail _ (.head _)))))
  apply says_den (φ := (phi_107))
  simp [e_s_0, E_s_0, e_s_1, E_s_1, e_s, e_n, e_p, e_e, tree_107, T.says, X.den, O1.den, O2.den, O3.den, callD, XArg.ev, XArg.dat, Callee'.num, backs, DArg.back, Conds.den, cloArgs, phi_107, pd_74, pd_92, pd_142, pd_143, patFits]
  all_goals grind
theorem pd_107 (s n p e : D) (Q : List D → Prop) (ho : Q [.bool (patFits s n.toI p e)]) : PC Try.prog 107 [.st [(.sl [(.int .i64), (.int .i64), (.int .i64), (.int .i64), (.int .i64), (.int .i64), (.int .i64), (.int .i64), (.int .i64), (.int .i64), (.int .i64), .bool, .bool]), (.sl [(.int .i64), (.int .i64), .bool]), (.int .i64), (.int .i64)] s, .sc (.int .i64) n, .st [(.int .i64), (.int .i64), (.int .i64), (.int .i64), (.int .i64), (.int .i64), (.int .i64)] p, .st [(.int .i64), (.int .i64), (.int .i64), (.int .i64), (.int .i64), (.int .i64), .bool] e] [.sc .bool] Q := (pc_107 s n p e).mono fun _ h => h ▸ ho
/- spec.Fits -/
def phi_47 : Nat → List D → List D
  | 28, [e] => [.bool (effectOk e)]
  | 85, [e, n] => [.bool (lives e n.toI)]
  | 105, [e, v] => [.bool (near e v)]
  | 106, [s, n, g] => [.bool (holds s n.toI g)]
  | 107, [s, n, p, e] => [.bool (patFits s n.toI p e)]
  | _, _ => []
theorem pc_47 (s e v : D) : PC Try.prog 47 [.st [(.sl [(.int .i64), (.int .i64), (.int .i64), (.int .i64), (.int .i64), (.int .i64), (.int .i64), (.int .i64), (.int .i64), (.int .i64), (.int .i64), .bool, .bool]), (.sl [(.int .i64), (.int .i64), .bool]), (.int .i64), (.int .i64)] s, .st [(.int .i64), (.int .i64), (.int .i64), (.int .i64), (.int .i64), (.int .i64), (.int .i64), (.int .i64), (.int .i64), (.int .i64), (.int .i64), (.int .i64), (.int .i64), (.int .i64), (.int .i64), (.int .i64), (.int .i64), (.int .i64), .bool, (.sl [(.int .i64), (.int .i64), (.int .i64), (.int .i64), (.int .i64), (.int .i64), .bool]), (.int .i64), (.int .i64)] e, .st [(.int .i64), (.int .i64), (.int .i64), (.int .i64), (.int .i64), (.int .i64), .bool] v] [.sc .bool] fun o => o = [.bool (fitsE s e v)] := by
  refine PC.of_sig mix sig_47 ⟨rfl, rfl, rfl, trivial⟩ rfl fun hok => ?_
  have e_s : D.lst [s.fld 0, s.fld 1, s.fld 2, s.fld 3] = s := by simpa [List.range, List.range.loop] using okL_eta (hok _ (.head _))
  have k_s : okL [(.sl [(.int .i64), (.int .i64), (.int .i64), (.int .i64), (.int .i64), (.int .i64), (.int .i64), (.int .i64), (.int .i64), (.int .i64), (.int .i64), .bool, .bool]), (.sl [(.int .i64), (.int .i64), .bool]), (.int .i64), (.int .i64)] s := (hok _ (.head _))
  have e_s_0 : D.lst (s.fld 0).toL = s.fld 0 := sl_eta (okL_at k_s (i := 0) rfl)
  have l_s_0 := sl_len (okL_at k_s (i := 0) rfl)
  have k_s_0 := sl_all (okL_at k_s (i := 0) rfl)
  have E_s_0 : ∀ i, i < (s.fld 0).toL.length → D.lst [((s.fld 0).elem i).fld 0, ((s.fld 0).elem i).fld 1, ((s.fld 0).elem i).fld 2, ((s.fld 0).elem i).fld 3, ((s.fld 0).elem i).fld 4, ((s.fld 0).elem i).fld 5, ((s.fld 0).elem i).fld 6, ((s.fld 0).elem i).fld 7, ((s.fld 0).elem i).fld 8, ((s.fld 0).elem i).fld 9, ((s.fld 0).elem i).fld 10, ((s.fld 0).elem i).fld 11, ((s.fld 0).elem i).fld 12] = (s.fld 0).elem i := fun i hi => by simpa [List.range, List.range.loop] using okL_eta (k_s_0 _ (elem_mem hi))
  have e_s_1 : D.lst (s.fld 1).toL = s.fld 1 := sl_eta (okL_at k_s (i := 1) rfl)
  have l_s_1 := sl_len (okL_at k_s (i := 1) rfl)
  have k_s_1 := sl_all (okL_at k_s (i := 1) rfl)
  have E_s_1 : ∀ i, i < (s.fld 1).toL.length → D.lst [((s.fld 1).elem i).fld 0, ((s.fld 1).elem i).fld 1, ((s.fld 1).elem i).fld 2] = (s.fld 1).elem i := fun i hi => by simpa [List.range, List.range.loop] using okL_eta (k_s_1 _ (elem_mem hi))
  have e_e : D.lst [e.fld 0, e.fld 1, e.fld 2, e.fld 3, e.fld 4, e.fld 5, e.fld 6, e.fld 7, e.fld 8, e.fld 9, e.fld 10, e.fld 11, e.fld 12, e.fld 13, e.fld 14, e.fld 15, e.fld 16, e.fld 17, e.fld 18, e.fld 19, e.fld 20, e.fld 21] = e := by simpa [List.range, List.range.loop] using okL_eta (hok _ (.tail _ (.head _)))
  have k_e : okL [(.int .i64), (.int .i64), (.int .i64), (.int .i64), (.int .i64), (.int .i64), (.int .i64), (.int .i64), (.int .i64), (.int .i64), (.int .i64), (.int .i64), (.int .i64), (.int .i64), (.int .i64), (.int .i64), (.int .i64), (.int .i64), .bool, (.sl [(.int .i64), (.int .i64), (.int .i64), (.int .i64), (.int .i64), (.int .i64), .bool]), (.int .i64), (.int .i64)] e := (hok _ (.tail _ (.head _)))
  have e_e_19 : D.lst (e.fld 19).toL = e.fld 19 := sl_eta (okL_at k_e (i := 19) rfl)
  have l_e_19 := sl_len (okL_at k_e (i := 19) rfl)
  have k_e_19 := sl_all (okL_at k_e (i := 19) rfl)
  have E_e_19 : ∀ i, i < (e.fld 19).toL.length → D.lst [((e.fld 19).elem i).fld 0, ((e.fld 19).elem i).fld 1, ((e.fld 19).elem i).fld 2, ((e.fld 19).elem i).fld 3, ((e.fld 19).elem i).fld 4, ((e.fld 19).elem i).fld 5, ((e.fld 19).elem i).fld 6] = (e.fld 19).elem i := fun i hi => by simpa [List.range, List.range.loop] using okL_eta (k_e_19 _ (elem_mem hi))
  have e_v : D.lst [v.fld 0, v.fld 1, v.fld 2, v.fld 3, v.fld 4, v.fld 5, v.fld 6] = v := by simpa [List.range, List.range.loop] using okL_eta (hok _ (.tail _ (.tail _ (.head _))))
  have k_v : okL [(.int .i64), (.int .i64), (.int .i64), (.int .i64), (.int .i64), (.int .i64), .bool] v := (hok _ (.tail _ (.tail _ (.head _))))
  apply says_den (φ := (phi_47))
  simp [e_s_0, E_s_0, e_s_1, E_s_1, e_e_19, E_e_19, e_s, e_e, e_v, tree_47, T.says, X.den, O1.den, O2.den, O3.den, callD, XArg.ev, XArg.dat, Callee'.num, backs, DArg.back, Conds.den, cloArgs, phi_47, pd_28, pd_85, pd_105, pd_106, pd_107, fitsE, patOf, grdOf]
theorem pd_47 (s e v : D) (Q : List D → Prop) (ho : Q [.bool (fitsE s e v)]) : PC Try.prog 47 [.st [(.sl [(.int .i64), (.int .i64), (.int .i64), (.int .i64), (.int .i64), (.int .i64), (.int .i64), (.int .i64), (.int .i64), (.int .i64), (.int .i64), .bool, .bool]), (.sl [(.int .i64), (.int .i64), .bool]), (.int .i64), (.int .i64)] s, .st [(.int .i64), (.int .i64), (.int .i64), (.int .i64), (.int .i64), (.int .i64), (.int .i64), (.int .i64), (.int .i64), (.int .i64), (.int .i64), (.int .i64), (.int .i64), (.int .i64), (.int .i64), (.int .i64), (.int .i64), (.int .i64), .bool, (.sl [(.int .i64), (.int .i64), (.int .i64), (.int .i64), (.int .i64), (.int .i64), .bool]), (.int .i64), (.int .i64)] e, .st [(.int .i64), (.int .i64), (.int .i64), (.int .i64), (.int .i64), (.int .i64), .bool] v] [.sc .bool] Q := (pc_47 s e v).mono fun _ h => h ▸ ho
/- laws.toPiece -/
theorem pc_144 (d : D) : PC Try.prog 144 [.st [(.int .i64), (.int .i64), (.int .i64), (.int .i64), (.int .i64), (.int .i64), (.int .i64), (.int .i64), (.int .i64), (.int .i64), (.int .i64), .bool, .bool] d] [.st [(.int .i64), (.int .i64), (.int .i64), (.int .i64), (.int .i64), (.int .i64), (.int .i64), (.int .i64), (.int .i64), (.int .i64), (.int .i64), .bool, .bool]] fun o => o = [d] := by
  refine PC.of_sig mix sig_144 ⟨rfl, trivial⟩ rfl fun hok => ?_
  have e_d : D.lst [d.fld 0, d.fld 1, d.fld 2, d.fld 3, d.fld 4, d.fld 5, d.fld 6, d.fld 7, d.fld 8, d.fld 9, d.fld 10, d.fld 11, d.fld 12] = d := by simpa [List.range, List.range.loop] using okL_eta (hok _ (.head _))
  have k_d : okL [(.int .i64), (.int .i64), (.int .i64), (.int .i64), (.int .i64), (.int .i64), (.int .i64), (.int .i64), (.int .i64), (.int .i64), (.int .i64), .bool, .bool] d := (hok _ (.head _))
  apply says_den (φ := fun _ _ => [])
  simp [e_d, tree_144, T.says, X.den, O1.den, O2.den, O3.den, callD, XArg.ev, XArg.dat, Callee'.num, backs, DArg.back, Conds.den, cloArgs]
theorem pd_144 (d : D) (Q : List D → Prop) (ho : Q [d]) : PC Try.prog 144 [.st [(.int .i64), (.int .i64), (.int .i64), (.int .i64), (.int .i64), (.int .i64), (.int .i64), (.int .i64), (.int .i64), (.int .i64), (.int .i64), .bool, .bool] d] [.st [(.int .i64), (.int .i64), (.int .i64), (.int .i64), (.int .i64), (.int .i64), (.int .i64), (.int .i64), (.int .i64), (.int .i64), (.int .i64), .bool, .bool]] Q := (pc_144 d).mono fun _ h => h ▸ ho
/- laws.toPieceS -/
def phi_108 : Nat → List D → List D
  | 144, [d] => [d]
  | _, _ => []
theorem pc_108 (d : D) (h : (d.toL.length : Int) ≤ 1048576) : PC Try.prog 108 [.sc (.sl [(.int .i64), (.int .i64), (.int .i64), (.int .i64), (.int .i64), (.int .i64), (.int .i64), (.int .i64), (.int .i64), (.int .i64), (.int .i64), .bool, .bool]) d] [.sc (.sl [(.int .i64), (.int .i64), (.int .i64), (.int .i64), (.int .i64), (.int .i64), (.int .i64), (.int .i64), (.int .i64), (.int .i64), (.int .i64), .bool, .bool])] fun o => o = [d] := by
  refine PC.of_sig mix sig_108 ⟨rfl, trivial⟩ rfl fun hok => ?_
  have e_d := sl_eta (hok _ (.head _))
  have l_d := sl_len (hok _ (.head _))
  have k_d := sl_all (hok _ (.head _))
  have E_d : ∀ i, i < d.toL.length → D.lst [(d.elem i).fld 0, (d.elem i).fld 1, (d.elem i).fld 2, (d.elem i).fld 3, (d.elem i).fld 4, (d.elem i).fld 5, (d.elem i).fld 6, (d.elem i).fld 7, (d.elem i).fld 8, (d.elem i).fld 9, (d.elem i).fld 10, (d.elem i).fld 11, (d.elem i).fld 12] = d.elem i := fun i hi => by simpa [List.range, List.range.loop] using okL_eta (k_d _ (elem_mem hi))
  apply says_den (φ := (phi_108))
  simp [e_d, E_d, tree_108, T.says, X.den, O1.den, O2.den, O3.den, callD, XArg.ev, XArg.dat, Callee'.num, backs, DArg.back, Conds.den, cloArgs, phi_108, pd_144] at h ⊢
  refine fun _ => ⟨by omega, ?_⟩
  refine den_for d.toL.length 0 (fun i => [.int i, .lst (d.toL.take i ++ List.replicate (d.toL.length - i) (.lst [.int 0, .int 0, .int 0, .int 0, .int 0, .int 0, .int 0, .int 0, .int 0, .int 0, .int 0, .bool false, .bool false]))]) (fun _ => True) (by simp) (by simp [X.den, O1.den, O2.den]) trivial fun i hi _ => ?_
  apply says_den (φ := (phi_108))
  by_cases hlt : i < d.toL.length
  · simp [e_d, E_d, tree_108, T.says, X.den, O1.den, O2.den, O3.den, callD, XArg.ev, XArg.dat, Callee'.num, backs, DArg.back, Conds.den, cloArgs, phi_108, pd_144, hlt]
    (repeat' (first | (with_reducible apply And.intro) | intro _)) <;> first | (exact copy_step hlt rfl) | (exact copy_step hlt (eta1 (k_d _ (elem_mem hlt)))) | (first | assumption | (first | omega | (simp only [IntKind.wrap_i64, maxL] at *; omega) | (simp [IntKind.wrap_i64, maxL] at *; omega)) | rfl | contradiction | (exact pd_144 _ _ (by first | rfl | simp | (simp; omega))) | grind)
  · simp [e_d, E_d, tree_108, T.says, X.den, O1.den, O2.den, O3.den, callD, XArg.ev, XArg.dat, Callee'.num, backs, DArg.back, Conds.den, cloArgs, phi_108, pd_144, hlt]
    (repeat' (first | (with_reducible apply And.intro) | intro _)) <;> first | (rw [copy_end (by omega), e_d]) | (first | assumption | (first | omega | (simp only [IntKind.wrap_i64, maxL] at *; omega) | (simp [IntKind.wrap_i64, maxL] at *; omega)) | rfl | contradiction | (exact pd_144 _ _ (by first | rfl | simp | (simp; omega))) | grind)
theorem pd_108 (d : D) (h : (d.toL.length : Int) ≤ 1048576) (Q : List D → Prop) (ho : Q [d]) : PC Try.prog 108 [.sc (.sl [(.int .i64), (.int .i64), (.int .i64), (.int .i64), (.int .i64), (.int .i64), (.int .i64), (.int .i64), (.int .i64), (.int .i64), (.int .i64), .bool, .bool]) d] [.sc (.sl [(.int .i64), (.int .i64), (.int .i64), (.int .i64), (.int .i64), (.int .i64), (.int .i64), (.int .i64), (.int .i64), (.int .i64), (.int .i64), .bool, .bool])] Q := (pc_108 d h).mono fun _ h => h ▸ ho
/- laws.toSide -/
theorem pc_145 (d : D) : PC Try.prog 145 [.st [(.int .i64), (.int .i64), .bool] d] [.st [(.int .i64), (.int .i64), .bool]] fun o => o = [d] := by
  refine PC.of_sig mix sig_145 ⟨rfl, trivial⟩ rfl fun hok => ?_
  have e_d : D.lst [d.fld 0, d.fld 1, d.fld 2] = d := by simpa [List.range, List.range.loop] using okL_eta (hok _ (.head _))
  have k_d : okL [(.int .i64), (.int .i64), .bool] d := (hok _ (.head _))
  apply says_den (φ := fun _ _ => [])
  simp [e_d, tree_145, T.says, X.den, O1.den, O2.den, O3.den, callD, XArg.ev, XArg.dat, Callee'.num, backs, DArg.back, Conds.den, cloArgs]
theorem pd_145 (d : D) (Q : List D → Prop) (ho : Q [d]) : PC Try.prog 145 [.st [(.int .i64), (.int .i64), .bool] d] [.st [(.int .i64), (.int .i64), .bool]] Q := (pc_145 d).mono fun _ h => h ▸ ho
/- laws.toSideS -/
def phi_109 : Nat → List D → List D
  | 145, [d] => [d]
  | _, _ => []
theorem pc_109 (d : D) (h : (d.toL.length : Int) ≤ 1048576) : PC Try.prog 109 [.sc (.sl [(.int .i64), (.int .i64), .bool]) d] [.sc (.sl [(.int .i64), (.int .i64), .bool])] fun o => o = [d] := by
  refine PC.of_sig mix sig_109 ⟨rfl, trivial⟩ rfl fun hok => ?_
  have e_d := sl_eta (hok _ (.head _))
  have l_d := sl_len (hok _ (.head _))
  have k_d := sl_all (hok _ (.head _))
  have E_d : ∀ i, i < d.toL.length → D.lst [(d.elem i).fld 0, (d.elem i).fld 1, (d.elem i).fld 2] = d.elem i := fun i hi => by simpa [List.range, List.range.loop] using okL_eta (k_d _ (elem_mem hi))
  apply says_den (φ := (phi_109))
  simp [e_d, E_d, tree_109, T.says, X.den, O1.den, O2.den, O3.den, callD, XArg.ev, XArg.dat, Callee'.num, backs, DArg.back, Conds.den, cloArgs, phi_109, pd_145] at h ⊢
  refine fun _ => ⟨by omega, ?_⟩
  refine den_for d.toL.length 0 (fun i => [.int i, .lst (d.toL.take i ++ List.replicate (d.toL.length - i) (.lst [.int 0, .int 0, .bool false]))]) (fun _ => True) (by simp) (by simp [X.den, O1.den, O2.den]) trivial fun i hi _ => ?_
  apply says_den (φ := (phi_109))
  by_cases hlt : i < d.toL.length
  · simp [e_d, E_d, tree_109, T.says, X.den, O1.den, O2.den, O3.den, callD, XArg.ev, XArg.dat, Callee'.num, backs, DArg.back, Conds.den, cloArgs, phi_109, pd_145, hlt]
    (repeat' (first | (with_reducible apply And.intro) | intro _)) <;> first | (exact copy_step hlt rfl) | (exact copy_step hlt (eta1 (k_d _ (elem_mem hlt)))) | (first | assumption | (first | omega | (simp only [IntKind.wrap_i64, maxL] at *; omega) | (simp [IntKind.wrap_i64, maxL] at *; omega)) | rfl | contradiction | (exact pd_145 _ _ (by first | rfl | simp | (simp; omega))) | grind)
  · simp [e_d, E_d, tree_109, T.says, X.den, O1.den, O2.den, O3.den, callD, XArg.ev, XArg.dat, Callee'.num, backs, DArg.back, Conds.den, cloArgs, phi_109, pd_145, hlt]
    (repeat' (first | (with_reducible apply And.intro) | intro _)) <;> first | (rw [copy_end (by omega), e_d]) | (first | assumption | (first | omega | (simp only [IntKind.wrap_i64, maxL] at *; omega) | (simp [IntKind.wrap_i64, maxL] at *; omega)) | rfl | contradiction | (exact pd_145 _ _ (by first | rfl | simp | (simp; omega))) | grind)
theorem pd_109 (d : D) (h : (d.toL.length : Int) ≤ 1048576) (Q : List D → Prop) (ho : Q [d]) : PC Try.prog 109 [.sc (.sl [(.int .i64), (.int .i64), .bool]) d] [.sc (.sl [(.int .i64), (.int .i64), .bool])] Q := (pc_109 d h).mono fun _ h => h ▸ ho
/- laws.toState -/
def phi_48 : Nat → List D → List D
  | 108, [d] => [d]
  | 109, [d] => [d]
  | _, _ => []
theorem pc_48 (d : D) (h : ((d.fld 0).toL.length : Int) ≤ 1048576 ∧ ((d.fld 1).toL.length : Int) ≤ 1048576) : PC Try.prog 48 [.st [(.sl [(.int .i64), (.int .i64), (.int .i64), (.int .i64), (.int .i64), (.int .i64), (.int .i64), (.int .i64), (.int .i64), (.int .i64), (.int .i64), .bool, .bool]), (.sl [(.int .i64), (.int .i64), .bool]), (.int .i64), (.int .i64)] d] [.st [(.sl [(.int .i64), (.int .i64), (.int .i64), (.int .i64), (.int .i64), (.int .i64), (.int .i64), (.int .i64), (.int .i64), (.int .i64), (.int .i64), .bool, .bool]), (.sl [(.int .i64), (.int .i64), .bool]), (.int .i64), (.int .i64)]] fun o => o = [d] := by
  refine PC.of_sig mix sig_48 ⟨rfl, trivial⟩ rfl fun hok => ?_
  have e_d : D.lst [d.fld 0, d.fld 1, d.fld 2, d.fld 3] = d := by simpa [List.range, List.range.loop] using okL_eta (hok _ (.head _))
  have k_d : okL [(.sl [(.int .i64), (.int .i64), (.int .i64), (.int .i64), (.int .i64), (.int .i64), (.int .i64), (.int .i64), (.int .i64), (.int .i64), (.int .i64), .bool, .bool]), (.sl [(.int .i64), (.int .i64), .bool]), (.int .i64), (.int .i64)] d := (hok _ (.head _))
  have e_d_0 : D.lst (d.fld 0).toL = d.fld 0 := sl_eta (okL_at k_d (i := 0) rfl)
  have l_d_0 := sl_len (okL_at k_d (i := 0) rfl)
  have k_d_0 := sl_all (okL_at k_d (i := 0) rfl)
  have E_d_0 : ∀ i, i < (d.fld 0).toL.length → D.lst [((d.fld 0).elem i).fld 0, ((d.fld 0).elem i).fld 1, ((d.fld 0).elem i).fld 2, ((d.fld 0).elem i).fld 3, ((d.fld 0).elem i).fld 4, ((d.fld 0).elem i).fld 5, ((d.fld 0).elem i).fld 6, ((d.fld 0).elem i).fld 7, ((d.fld 0).elem i).fld 8, ((d.fld 0).elem i).fld 9, ((d.fld 0).elem i).fld 10, ((d.fld 0).elem i).fld 11, ((d.fld 0).elem i).fld 12] = (d.fld 0).elem i := fun i hi => by simpa [List.range, List.range.loop] using okL_eta (k_d_0 _ (elem_mem hi))
  have e_d_1 : D.lst (d.fld 1).toL = d.fld 1 := sl_eta (okL_at k_d (i := 1) rfl)
  have l_d_1 := sl_len (okL_at k_d (i := 1) rfl)
  have k_d_1 := sl_all (okL_at k_d (i := 1) rfl)
  have E_d_1 : ∀ i, i < (d.fld 1).toL.length → D.lst [((d.fld 1).elem i).fld 0, ((d.fld 1).elem i).fld 1, ((d.fld 1).elem i).fld 2] = (d.fld 1).elem i := fun i hi => by simpa [List.range, List.range.loop] using okL_eta (k_d_1 _ (elem_mem hi))
  apply says_den (φ := (phi_48))
  simp [e_d_0, E_d_0, e_d_1, E_d_1, e_d, tree_48, T.says, X.den, O1.den, O2.den, O3.den, callD, XArg.ev, XArg.dat, Callee'.num, backs, DArg.back, Conds.den, cloArgs, phi_48, pd_108, pd_109, h.1, h.2]
theorem pd_48 (d : D) (h : ((d.fld 0).toL.length : Int) ≤ 1048576 ∧ ((d.fld 1).toL.length : Int) ≤ 1048576) (Q : List D → Prop) (ho : Q [d]) : PC Try.prog 48 [.st [(.sl [(.int .i64), (.int .i64), (.int .i64), (.int .i64), (.int .i64), (.int .i64), (.int .i64), (.int .i64), (.int .i64), (.int .i64), (.int .i64), .bool, .bool]), (.sl [(.int .i64), (.int .i64), .bool]), (.int .i64), (.int .i64)] d] [.st [(.sl [(.int .i64), (.int .i64), (.int .i64), (.int .i64), (.int .i64), (.int .i64), (.int .i64), (.int .i64), (.int .i64), (.int .i64), (.int .i64), .bool, .bool]), (.sl [(.int .i64), (.int .i64), .bool]), (.int .i64), (.int .i64)]] Q := (pc_48 d h).mono fun _ h => h ▸ ho
/- impl.from -/
theorem pc_80 (a b c : D) : PC Try.prog 80 [.sc (.int .i64) a, .sc (.int .i64) b, .sc (.int .i64) c] [.sc .bool] fun o => o = [.bool (inR a.toI b.toI c.toI)] := by
  refine PC.of_sig mix sig_80 ⟨rfl, rfl, rfl, trivial⟩ rfl fun hok => ?_
  have e_a := int_eta (hok _ (.head _))
  have b_a := int_range (hok _ (.head _))
  have e_b := int_eta (hok _ (.tail _ (.head _)))
  have b_b := int_range (hok _ (.tail _ (.head _)))
  have e_c := int_eta (hok _ (.tail _ (.tail _ (.head _))))
  have b_c := int_range (hok _ (.tail _ (.tail _ (.head _))))
  apply says_den (φ := fun _ _ => [])
  simp [e_a, e_b, e_c, tree_80, T.says, X.den, O1.den, O2.den, O3.den, callD, XArg.ev, XArg.dat, Callee'.num, backs, DArg.back, Conds.den, cloArgs, inR]
theorem pd_80 (a b c : D) (Q : List D → Prop) (ho : Q [.bool (inR a.toI b.toI c.toI)]) : PC Try.prog 80 [.sc (.int .i64) a, .sc (.int .i64) b, .sc (.int .i64) c] [.sc .bool] Q := (pc_80 a b c).mono fun _ h => h ▸ ho
/- impl.isId -/
def phi_78 : Nat → List D → List D
  | 80, [a, b, c] => [.bool (inR a.toI b.toI c.toI)]
  | _, _ => []
theorem pc_78 (a : D) : PC Try.prog 78 [.sc (.int .i64) a] [.sc .bool] fun o => o = [.bool (inR a.toI 1 99)] := by
  refine PC.of_sig mix sig_78 ⟨rfl, trivial⟩ rfl fun hok => ?_
  have e_a := int_eta (hok _ (.head _))
  have b_a := int_range (hok _ (.head _))
  apply says_den (φ := (phi_78))
  simp [e_a, tree_78, T.says, X.den, O1.den, O2.den, O3.den, callD, XArg.ev, XArg.dat, Callee'.num, backs, DArg.back, Conds.den, cloArgs, phi_78, pd_80]
theorem pd_78 (a : D) (Q : List D → Prop) (ho : Q [.bool (inR a.toI 1 99)]) : PC Try.prog 78 [.sc (.int .i64) a] [.sc .bool] Q := (pc_78 a).mono fun _ h => h ▸ ho
/- impl.isPlayer -/
def phi_79 : Nat → List D → List D
  | 80, [a, b, c] => [.bool (inR a.toI b.toI c.toI)]
  | _, _ => []
theorem pc_79 (a : D) : PC Try.prog 79 [.sc (.int .i64) a] [.sc .bool] fun o => o = [.bool (inR a.toI 0 2)] := by
  refine PC.of_sig mix sig_79 ⟨rfl, trivial⟩ rfl fun hok => ?_
  have e_a := int_eta (hok _ (.head _))
  have b_a := int_range (hok _ (.head _))
  apply says_den (φ := (phi_79))
  simp [e_a, tree_79, T.says, X.den, O1.den, O2.den, O3.den, callD, XArg.ev, XArg.dat, Callee'.num, backs, DArg.back, Conds.den, cloArgs, phi_79, pd_80]
theorem pd_79 (a : D) (Q : List D → Prop) (ho : Q [.bool (inR a.toI 0 2)]) : PC Try.prog 79 [.sc (.int .i64) a] [.sc .bool] Q := (pc_79 a).mono fun _ h => h ▸ ho
/- impl.isKind -/
def phi_126 : Nat → List D → List D
  | 80, [a, b, c] => [.bool (inR a.toI b.toI c.toI)]
  | _, _ => []
theorem pc_126 (a : D) : PC Try.prog 126 [.sc (.int .i64) a] [.sc .bool] fun o => o = [.bool (inR a.toI 1 6)] := by
  refine PC.of_sig mix sig_126 ⟨rfl, trivial⟩ rfl fun hok => ?_
  have e_a := int_eta (hok _ (.head _))
  have b_a := int_range (hok _ (.head _))
  apply says_den (φ := (phi_126))
  simp [e_a, tree_126, T.says, X.den, O1.den, O2.den, O3.den, callD, XArg.ev, XArg.dat, Callee'.num, backs, DArg.back, Conds.den, cloArgs, phi_126, pd_80]
theorem pd_126 (a : D) (Q : List D → Prop) (ho : Q [.bool (inR a.toI 1 6)]) : PC Try.prog 126 [.sc (.int .i64) a] [.sc .bool] Q := (pc_126 a).mono fun _ h => h ▸ ho
/- impl.isTraits -/
def phi_127 : Nat → List D → List D
  | 80, [a, b, c] => [.bool (inR a.toI b.toI c.toI)]
  | _, _ => []
theorem pc_127 (a : D) : PC Try.prog 127 [.sc (.int .i64) a] [.sc .bool] fun o => o = [.bool (inR a.toI 0 63)] := by
  refine PC.of_sig mix sig_127 ⟨rfl, trivial⟩ rfl fun hok => ?_
  have e_a := int_eta (hok _ (.head _))
  have b_a := int_range (hok _ (.head _))
  apply says_den (φ := (phi_127))
  simp [e_a, tree_127, T.says, X.den, O1.den, O2.den, O3.den, callD, XArg.ev, XArg.dat, Callee'.num, backs, DArg.back, Conds.den, cloArgs, phi_127, pd_80]
theorem pd_127 (a : D) (Q : List D → Prop) (ho : Q [.bool (inR a.toI 0 63)]) : PC Try.prog 127 [.sc (.int .i64) a] [.sc .bool] Q := (pc_127 a).mono fun _ h => h ▸ ho
/- impl.isAmount -/
def phi_128 : Nat → List D → List D
  | 80, [a, b, c] => [.bool (inR a.toI b.toI c.toI)]
  | _, _ => []
theorem pc_128 (a : D) : PC Try.prog 128 [.sc (.int .i64) a] [.sc .bool] fun o => o = [.bool (inR a.toI 0 2147483647)] := by
  refine PC.of_sig mix sig_128 ⟨rfl, trivial⟩ rfl fun hok => ?_
  have e_a := int_eta (hok _ (.head _))
  have b_a := int_range (hok _ (.head _))
  apply says_den (φ := (phi_128))
  simp [e_a, tree_128, T.says, X.den, O1.den, O2.den, O3.den, callD, XArg.ev, XArg.dat, Callee'.num, backs, DArg.back, Conds.den, cloArgs, phi_128, pd_80]
theorem pd_128 (a : D) (Q : List D → Prop) (ho : Q [.bool (inR a.toI 0 2147483647)]) : PC Try.prog 128 [.sc (.int .i64) a] [.sc .bool] Q := (pc_128 a).mono fun _ h => h ▸ ho
/- impl.PatOk -/
def phi_81 : Nat → List D → List D
  | 80, [a, b, c] => [.bool (inR a.toI b.toI c.toI)]
  | 126, [a] => [.bool (inR a.toI 1 6)]
  | 127, [a] => [.bool (inR a.toI 0 63)]
  | 128, [a] => [.bool (inR a.toI 0 2147483647)]
  | _, _ => []
theorem pc_81 (d : D) : PC Try.prog 81 [.st [(.int .i64), (.int .i64), (.int .i64), (.int .i64), (.int .i64), (.int .i64), (.int .i64)] d] [.sc .bool] fun o => o = [.bool (patOk d)] := by
  refine PC.of_sig mix sig_81 ⟨rfl, trivial⟩ rfl fun hok => ?_
  have e_d : D.lst [d.fld 0, d.fld 1, d.fld 2, d.fld 3, d.fld 4, d.fld 5, d.fld 6] = d := by simpa [List.range, List.range.loop] using okL_eta (hok _ (.head _))
  have k_d : okL [(.int .i64), (.int .i64), (.int .i64), (.int .i64), (.int .i64), (.int .i64), (.int .i64)] d := (hok _ (.head _))
  apply says_den (φ := (phi_81))
  simp [e_d, tree_81, T.says, X.den, O1.den, O2.den, O3.den, callD, XArg.ev, XArg.dat, Callee'.num, backs, DArg.back, Conds.den, cloArgs, phi_81, pd_80, pd_126, pd_127, pd_128]
  (repeat' (first | (with_reducible apply And.intro) | intro _)) <;> grind [patOk]
theorem pd_81 (d : D) (Q : List D → Prop) (ho : Q [.bool (patOk d)]) : PC Try.prog 81 [.st [(.int .i64), (.int .i64), (.int .i64), (.int .i64), (.int .i64), (.int .i64), (.int .i64)] d] [.sc .bool] Q := (pc_81 d).mono fun _ h => h ▸ ho
/- impl.Bound -/
theorem pc_123 (a : D) : PC Try.prog 123 [.sc (.int .i64) a] [.sc (.int .i64)] fun o => o = [.int (bound a.toI)] := by
  refine PC.of_sig mix sig_123 ⟨rfl, trivial⟩ rfl fun hok => ?_
  have e_a := int_eta (hok _ (.head _))
  have b_a := int_range (hok _ (.head _))
  apply says_den (φ := fun _ _ => [])
  simp [e_a, tree_123, T.says, X.den, O1.den, O2.den, O3.den, callD, XArg.ev, XArg.dat, Callee'.num, backs, DArg.back, Conds.den, cloArgs]
  (repeat' (first | (with_reducible apply And.intro) | intro _)) <;> grind [bound]
theorem pd_123 (a : D) (Q : List D → Prop) (ho : Q [.int (bound a.toI)]) : PC Try.prog 123 [.sc (.int .i64) a] [.sc (.int .i64)] Q := (pc_123 a).mono fun _ h => h ▸ ho
/- impl.GuardOk -/
def phi_82 : Nat → List D → List D
  | 80, [a, b, c] => [.bool (inR a.toI b.toI c.toI)]
  | 123, [a] => [.int (bound a.toI)]
  | _, _ => []
theorem pc_82 (d : D) : PC Try.prog 82 [.st [(.int .i64), (.int .i64)] d] [.sc .bool] fun o => o = [.bool (guardOk d)] := by
  refine PC.of_sig mix sig_82 ⟨rfl, trivial⟩ rfl fun hok => ?_
  have e_d : D.lst [d.fld 0, d.fld 1] = d := by simpa [List.range, List.range.loop] using okL_eta (hok _ (.head _))
  have k_d : okL [(.int .i64), (.int .i64)] d := (hok _ (.head _))
  apply says_den (φ := (phi_82))
  simp [e_d, tree_82, T.says, X.den, O1.den, O2.den, O3.den, callD, XArg.ev, XArg.dat, Callee'.num, backs, DArg.back, Conds.den, cloArgs, phi_82, pd_80, pd_123]
  (repeat' (first | (with_reducible apply And.intro) | intro _)) <;> grind [guardOk, inR, bound]
theorem pd_82 (d : D) (Q : List D → Prop) (ho : Q [.bool (guardOk d)]) : PC Try.prog 82 [.st [(.int .i64), (.int .i64)] d] [.sc .bool] Q := (pc_82 d).mono fun _ h => h ▸ ho
/- impl.isZone -/
def phi_129 : Nat → List D → List D
  | 80, [a, b, c] => [.bool (inR a.toI b.toI c.toI)]
  | _, _ => []
theorem pc_129 (a : D) : PC Try.prog 129 [.sc (.int .i64) a] [.sc .bool] fun o => o = [.bool (inR a.toI 1 4)] := by
  refine PC.of_sig mix sig_129 ⟨rfl, trivial⟩ rfl fun hok => ?_
  have e_a := int_eta (hok _ (.head _))
  have b_a := int_range (hok _ (.head _))
  apply says_den (φ := (phi_129))
  simp [e_a, tree_129, T.says, X.den, O1.den, O2.den, O3.den, callD, XArg.ev, XArg.dat, Callee'.num, backs, DArg.back, Conds.den, cloArgs, phi_129, pd_80]
theorem pd_129 (a : D) (Q : List D → Prop) (ho : Q [.bool (inR a.toI 1 4)]) : PC Try.prog 129 [.sc (.int .i64) a] [.sc .bool] Q := (pc_129 a).mono fun _ h => h ▸ ho
/- impl.onPiece -/
def phi_134 : Nat → List D → List D
  | 78, [a] => [.bool (inR a.toI 1 99)]
  | _, _ => []
theorem pc_134 (e : D) : PC Try.prog 134 [.st [(.int .i64), (.int .i64), (.int .i64), (.int .i64), (.int .i64), (.int .i64), .bool] e] [.sc .bool] fun o => o = [.bool (onPiece e)] := by
  refine PC.of_sig mix sig_134 ⟨rfl, trivial⟩ rfl fun hok => ?_
  have e_e : D.lst [e.fld 0, e.fld 1, e.fld 2, e.fld 3, e.fld 4, e.fld 5, e.fld 6] = e := by simpa [List.range, List.range.loop] using okL_eta (hok _ (.head _))
  have k_e : okL [(.int .i64), (.int .i64), (.int .i64), (.int .i64), (.int .i64), (.int .i64), .bool] e := (hok _ (.head _))
  apply says_den (φ := (phi_134))
  simp [e_e, tree_134, T.says, X.den, O1.den, O2.den, O3.den, callD, XArg.ev, XArg.dat, Callee'.num, backs, DArg.back, Conds.den, cloArgs, phi_134, pd_78, onPiece]
theorem pd_134 (e : D) (Q : List D → Prop) (ho : Q [.bool (onPiece e)]) : PC Try.prog 134 [.st [(.int .i64), (.int .i64), (.int .i64), (.int .i64), (.int .i64), (.int .i64), .bool] e] [.sc .bool] Q := (pc_134 e).mono fun _ h => h ▸ ho
/- impl.onPlayer -/
def phi_135 : Nat → List D → List D
  | 79, [a] => [.bool (inR a.toI 0 2)]
  | _, _ => []
theorem pc_135 (e : D) : PC Try.prog 135 [.st [(.int .i64), (.int .i64), (.int .i64), (.int .i64), (.int .i64), (.int .i64), .bool] e] [.sc .bool] fun o => o = [.bool (onPlayer e)] := by
  refine PC.of_sig mix sig_135 ⟨rfl, trivial⟩ rfl fun hok => ?_
  have e_e : D.lst [e.fld 0, e.fld 1, e.fld 2, e.fld 3, e.fld 4, e.fld 5, e.fld 6] = e := by simpa [List.range, List.range.loop] using okL_eta (hok _ (.head _))
  have k_e : okL [(.int .i64), (.int .i64), (.int .i64), (.int .i64), (.int .i64), (.int .i64), .bool] e := (hok _ (.head _))
  apply says_den (φ := (phi_135))
  simp [e_e, tree_135, T.says, X.den, O1.den, O2.den, O3.den, callD, XArg.ev, XArg.dat, Callee'.num, backs, DArg.back, Conds.den, cloArgs, phi_135, pd_79, onPlayer]
theorem pd_135 (e : D) (Q : List D → Prop) (ho : Q [.bool (onPlayer e)]) : PC Try.prog 135 [.st [(.int .i64), (.int .i64), (.int .i64), (.int .i64), (.int .i64), (.int .i64), .bool] e] [.sc .bool] Q := (pc_135 e).mono fun _ h => h ▸ ho
/- impl.EventOk -/
def phi_97 : Nat → List D → List D
  | 78, [a] => [.bool (inR a.toI 1 99)]
  | 128, [a] => [.bool (inR a.toI 0 2147483647)]
  | 129, [a] => [.bool (inR a.toI 1 4)]
  | 134, [e] => [.bool (onPiece e)]
  | 135, [e] => [.bool (onPlayer e)]
  | _, _ => []
theorem pc_97 (e : D) : PC Try.prog 97 [.st [(.int .i64), (.int .i64), (.int .i64), (.int .i64), (.int .i64), (.int .i64), .bool] e] [.sc .bool] fun o => o = [.bool (eventOk e)] := by
  refine PC.of_sig mix sig_97 ⟨rfl, trivial⟩ rfl fun hok => ?_
  have e_e : D.lst [e.fld 0, e.fld 1, e.fld 2, e.fld 3, e.fld 4, e.fld 5, e.fld 6] = e := by simpa [List.range, List.range.loop] using okL_eta (hok _ (.head _))
  have k_e : okL [(.int .i64), (.int .i64), (.int .i64), (.int .i64), (.int .i64), (.int .i64), .bool] e := (hok _ (.head _))
  apply says_den (φ := (phi_97))
  simp [e_e, tree_97, T.says, X.den, O1.den, O2.den, O3.den, callD, XArg.ev, XArg.dat, Callee'.num, backs, DArg.back, Conds.den, cloArgs, phi_97, pd_78, pd_128, pd_129, pd_134, pd_135]
  (repeat' (first | (with_reducible apply And.intro) | intro _)) <;> grind [eventOk, inR]
theorem pd_97 (e : D) (Q : List D → Prop) (ho : Q [.bool (eventOk e)]) : PC Try.prog 97 [.st [(.int .i64), (.int .i64), (.int .i64), (.int .i64), (.int .i64), (.int .i64), .bool] e] [.sc .bool] Q := (pc_97 e).mono fun _ h => h ▸ ho
/- impl.partOk -/
def phi_132 : Nat → List D → List D
  | 97, [e] => [.bool (eventOk e)]
  | _, _ => []
theorem pc_132 (e : D) : PC Try.prog 132 [.st [(.int .i64), (.int .i64), (.int .i64), (.int .i64), (.int .i64), (.int .i64), .bool] e] [.sc .bool] fun o => o = [.bool (partOk e)] := by
  refine PC.of_sig mix sig_132 ⟨rfl, trivial⟩ rfl fun hok => ?_
  have e_e : D.lst [e.fld 0, e.fld 1, e.fld 2, e.fld 3, e.fld 4, e.fld 5, e.fld 6] = e := by simpa [List.range, List.range.loop] using okL_eta (hok _ (.head _))
  have k_e : okL [(.int .i64), (.int .i64), (.int .i64), (.int .i64), (.int .i64), (.int .i64), .bool] e := (hok _ (.head _))
  apply says_den (φ := (phi_132))
  have hneg : (e.fld 4).toI = -1 → eventOk e = false := by intro h; simp [eventOk, inR, h]
  simp [e_e, tree_132, T.says, X.den, O1.den, O2.den, O3.den, callD, XArg.ev, XArg.dat, Callee'.num, backs, DArg.back, Conds.den, cloArgs, phi_132, pd_97, partOk, ev0]
  all_goals grind
theorem pd_132 (e : D) (Q : List D → Prop) (ho : Q [.bool (partOk e)]) : PC Try.prog 132 [.st [(.int .i64), (.int .i64), (.int .i64), (.int .i64), (.int .i64), (.int .i64), .bool] e] [.sc .bool] Q := (pc_132 e).mono fun _ h => h ▸ ho
/- impl.ActOk$1 -/
def phi_131 : Nat → List D → List D
  | 132, [e] => [.bool (partOk e)]
  | _, _ => []
theorem pc_131 (e : D) : PC Try.prog 131 [.st [(.int .i64), (.int .i64), (.int .i64), (.int .i64), (.int .i64), (.int .i64), .bool] e] [.sc .bool] fun o => o = [.bool (!partOk e)] := by
  refine PC.of_sig mix sig_131 ⟨rfl, trivial⟩ rfl fun hok => ?_
  have e_e : D.lst [e.fld 0, e.fld 1, e.fld 2, e.fld 3, e.fld 4, e.fld 5, e.fld 6] = e := by simpa [List.range, List.range.loop] using okL_eta (hok _ (.head _))
  have k_e : okL [(.int .i64), (.int .i64), (.int .i64), (.int .i64), (.int .i64), (.int .i64), .bool] e := (hok _ (.head _))
  apply says_den (φ := (phi_131))
  simp [e_e, tree_131, T.says, X.den, O1.den, O2.den, O3.den, callD, XArg.ev, XArg.dat, Callee'.num, backs, DArg.back, Conds.den, cloArgs, phi_131, pd_132]
theorem pd_131 (e : D) (Q : List D → Prop) (ho : Q [.bool (!partOk e)]) : PC Try.prog 131 [.st [(.int .i64), (.int .i64), (.int .i64), (.int .i64), (.int .i64), (.int .i64), .bool] e] [.sc .bool] Q := (pc_131 e).mono fun _ h => h ▸ ho
/- slices.IndexFunc[[]impl.Event,impl.Event] -/
def phi_139 : Nat → List D → List D
  | 131, [e] => [.bool (!partOk e)]
  | 0, [e] => [.bool (!partOk e)]
  | _, _ => []
theorem pc_139 (a : D) : PC Try.prog 139 [.sc (.sl [(.int .i64), (.int .i64), (.int .i64), (.int .i64), (.int .i64), (.int .i64), .bool]) a, .clo 131 []] [.sc (.int .i64)] fun o => o = [.int (findR (fun i => !partOk (a.elem i)) a.toL.length)] := by
  refine PC.of_sig mix sig_139 ⟨rfl, trivial, trivial⟩ rfl fun hok => ?_
  have e_a := sl_eta (hok _ (.head _))
  have l_a := sl_len (hok _ (.head _))
  have k_a := sl_all (hok _ (.head _))
  have E_a : ∀ i, i < a.toL.length → D.lst [(a.elem i).fld 0, (a.elem i).fld 1, (a.elem i).fld 2, (a.elem i).fld 3, (a.elem i).fld 4, (a.elem i).fld 5, (a.elem i).fld 6] = a.elem i := fun i hi => by simpa [List.range, List.range.loop] using okL_eta (k_a _ (elem_mem hi))
  apply says_den (φ := (phi_139))
  simp [e_a, E_a, tree_139, T.says, X.den, O1.den, O2.den, O3.den, callD, XArg.ev, XArg.dat, Callee'.num, backs, DArg.back, Conds.den, cloArgs, phi_139, pd_131]
  refine fun _ => ?_
  refine den_for a.toL.length 0 (fun i => [.int i]) (fun i => ∀ j, j < i → (!partOk (a.elem j)) = false) (by simp) (by simp [X.den]) (by simp) fun i hi hR => ?_
  apply says_den (φ := (phi_139))
  by_cases hlt : i < a.toL.length
  · simp [e_a, E_a, tree_139, T.says, X.den, O1.den, O2.den, O3.den, callD, XArg.ev, XArg.dat, Callee'.num, backs, DArg.back, Conds.den, cloArgs, phi_139, pd_131, hlt]
    (repeat' (first | (with_reducible apply And.intro) | intro _))
    · exact (findR_some (p := fun i => !partOk (a.elem i)) hlt (by simp_all) hR).symm
    · (first | omega | (simp only [IntKind.wrap_i64, maxL] at *; omega) | (simp [IntKind.wrap_i64, maxL] at *; omega))
    · grind
  · simp [e_a, E_a, tree_139, T.says, X.den, O1.den, O2.den, O3.den, callD, XArg.ev, XArg.dat, Callee'.num, backs, DArg.back, Conds.den, cloArgs, phi_139, pd_131, hlt]
    (repeat' (first | (with_reducible apply And.intro) | intro _))
    · exact (findR_none fun j hj => hR j (by omega)).symm
theorem pd_139 (a : D) (Q : List D → Prop) (ho : Q [.int (findR (fun i => !partOk (a.elem i)) a.toL.length)]) : PC Try.prog 139 [.sc (.sl [(.int .i64), (.int .i64), (.int .i64), (.int .i64), (.int .i64), (.int .i64), .bool]) a, .clo 131 []] [.sc (.int .i64)] Q := (pc_139 a).mono fun _ h => h ▸ ho
/- slices.ContainsFunc[[]impl.Event,impl.Event] -/
def phi_130 : Nat → List D → List D
  | 131, [e] => [.bool (!partOk e)]
  | 139, [a, _] => [.int (findR (fun i => !partOk (a.elem i)) a.toL.length)]
  | 0, [e] => [.bool (!partOk e)]
  | _, _ => []
theorem pc_130 (a : D) : PC Try.prog 130 [.sc (.sl [(.int .i64), (.int .i64), (.int .i64), (.int .i64), (.int .i64), (.int .i64), .bool]) a, .clo 131 []] [.sc .bool] fun o => o = [.bool (!allR (fun i => partOk (a.elem i)) a.toL.length)] := by
  refine PC.of_sig mix sig_130 ⟨rfl, trivial, trivial⟩ rfl fun hok => ?_
  have e_a := sl_eta (hok _ (.head _))
  have l_a := sl_len (hok _ (.head _))
  have k_a := sl_all (hok _ (.head _))
  have E_a : ∀ i, i < a.toL.length → D.lst [(a.elem i).fld 0, (a.elem i).fld 1, (a.elem i).fld 2, (a.elem i).fld 3, (a.elem i).fld 4, (a.elem i).fld 5, (a.elem i).fld 6] = a.elem i := fun i hi => by simpa [List.range, List.range.loop] using okL_eta (k_a _ (elem_mem hi))
  apply says_den (φ := (phi_130))
  simp [e_a, E_a, tree_130, T.says, X.den, O1.den, O2.den, O3.den, callD, XArg.ev, XArg.dat, Callee'.num, backs, DArg.back, Conds.den, cloArgs, phi_130, pd_131, pd_139, findR_nn]
theorem pd_130 (a : D) (Q : List D → Prop) (ho : Q [.bool (!allR (fun i => partOk (a.elem i)) a.toL.length)]) : PC Try.prog 130 [.sc (.sl [(.int .i64), (.int .i64), (.int .i64), (.int .i64), (.int .i64), (.int .i64), .bool]) a, .clo 131 []] [.sc .bool] Q := (pc_130 a).mono fun _ h => h ▸ ho
/- impl.ActOk -/
def phi_83 : Nat → List D → List D
  | 78, [a] => [.bool (inR a.toI 1 99)]
  | 79, [a] => [.bool (inR a.toI 0 2)]
  | 80, [a, b, c] => [.bool (inR a.toI b.toI c.toI)]
  | 129, [a] => [.bool (inR a.toI 1 4)]
  | 130, [a, _] => [.bool (!allR (fun i => partOk (a.elem i)) a.toL.length)]
  | 131, [e] => [.bool (!partOk e)]
  | _, _ => []
theorem pc_83 (a : D) : PC Try.prog 83 [.st [(.int .i64), (.int .i64), (.int .i64), (.int .i64), (.int .i64), .bool, (.sl [(.int .i64), (.int .i64), (.int .i64), (.int .i64), (.int .i64), (.int .i64), .bool])] a] [.sc .bool] fun o => o = [.bool (actOk a)] := by
  refine PC.of_sig mix sig_83 ⟨rfl, trivial⟩ rfl fun hok => ?_
  have e_a : D.lst [a.fld 0, a.fld 1, a.fld 2, a.fld 3, a.fld 4, a.fld 5, a.fld 6] = a := by simpa [List.range, List.range.loop] using okL_eta (hok _ (.head _))
  have k_a : okL [(.int .i64), (.int .i64), (.int .i64), (.int .i64), (.int .i64), .bool, (.sl [(.int .i64), (.int .i64), (.int .i64), (.int .i64), (.int .i64), (.int .i64), .bool])] a := (hok _ (.head _))
  have e_a_6 : D.lst (a.fld 6).toL = a.fld 6 := sl_eta (okL_at k_a (i := 6) rfl)
  have l_a_6 := sl_len (okL_at k_a (i := 6) rfl)
  have k_a_6 := sl_all (okL_at k_a (i := 6) rfl)
  have E_a_6 : ∀ i, i < (a.fld 6).toL.length → D.lst [((a.fld 6).elem i).fld 0, ((a.fld 6).elem i).fld 1, ((a.fld 6).elem i).fld 2, ((a.fld 6).elem i).fld 3, ((a.fld 6).elem i).fld 4, ((a.fld 6).elem i).fld 5, ((a.fld 6).elem i).fld 6] = (a.fld 6).elem i := fun i hi => by simpa [List.range, List.range.loop] using okL_eta (k_a_6 _ (elem_mem hi))
  apply says_den (φ := (phi_83))
  simp [e_a_6, E_a_6, e_a, tree_83, T.says, X.den, O1.den, O2.den, O3.den, callD, XArg.ev, XArg.dat, Callee'.num, backs, DArg.back, Conds.den, cloArgs, phi_83, pd_78, pd_79, pd_80, pd_129, pd_130, pd_131]
  (repeat' (first | (with_reducible apply And.intro) | intro _))
  all_goals first | (exfalso; omega) | (grind [actOk, plain, inR]) | skip
theorem pd_83 (a : D) (Q : List D → Prop) (ho : Q [.bool (actOk a)]) : PC Try.prog 83 [.st [(.int .i64), (.int .i64), (.int .i64), (.int .i64), (.int .i64), .bool, (.sl [(.int .i64), (.int .i64), (.int .i64), (.int .i64), (.int .i64), (.int .i64), .bool])] a] [.sc .bool] Q := (pc_83 a).mono fun _ h => h ▸ ho
/- impl.ActFits -/
def phi_84 : Nat → List D → List D
  | 126, [a] => [.bool (inR a.toI 1 6)]
  | _, _ => []
theorem pc_84 (a n : D) : PC Try.prog 84 [.st [(.int .i64), (.int .i64), (.int .i64), (.int .i64), (.int .i64), .bool, (.sl [(.int .i64), (.int .i64), (.int .i64), (.int .i64), (.int .i64), (.int .i64), .bool])] a, .sc (.int .i64) n] [.sc .bool] fun o => o = [.bool (actFits a n.toI)] := by
  refine PC.of_sig mix sig_84 ⟨rfl, rfl, trivial⟩ rfl fun hok => ?_
  have e_a : D.lst [a.fld 0, a.fld 1, a.fld 2, a.fld 3, a.fld 4, a.fld 5, a.fld 6] = a := by simpa [List.range, List.range.loop] using okL_eta (hok _ (.head _))
  have k_a : okL [(.int .i64), (.int .i64), (.int .i64), (.int .i64), (.int .i64), .bool, (.sl [(.int .i64), (.int .i64), (.int .i64), (.int .i64), (.int .i64), (.int .i64), .bool])] a := (hok _ (.head _))
  have e_a_6 : D.lst (a.fld 6).toL = a.fld 6 := sl_eta (okL_at k_a (i := 6) rfl)
  have l_a_6 := sl_len (okL_at k_a (i := 6) rfl)
  have k_a_6 := sl_all (okL_at k_a (i := 6) rfl)
  have E_a_6 : ∀ i, i < (a.fld 6).toL.length → D.lst [((a.fld 6).elem i).fld 0, ((a.fld 6).elem i).fld 1, ((a.fld 6).elem i).fld 2, ((a.fld 6).elem i).fld 3, ((a.fld 6).elem i).fld 4, ((a.fld 6).elem i).fld 5, ((a.fld 6).elem i).fld 6] = (a.fld 6).elem i := fun i hi => by simpa [List.range, List.range.loop] using okL_eta (k_a_6 _ (elem_mem hi))
  have e_n := int_eta (hok _ (.tail _ (.head _)))
  have b_n := int_range (hok _ (.tail _ (.head _)))
  apply says_den (φ := (phi_84))
  simp [e_a_6, E_a_6, e_a, e_n, tree_84, T.says, X.den, O1.den, O2.den, O3.den, callD, XArg.ev, XArg.dat, Callee'.num, backs, DArg.back, Conds.den, cloArgs, phi_84, pd_126]
  (repeat' (first | (with_reducible apply And.intro) | intro _)) <;> grind [actFits]
theorem pd_84 (a n : D) (Q : List D → Prop) (ho : Q [.bool (actFits a n.toI)]) : PC Try.prog 84 [.st [(.int .i64), (.int .i64), (.int .i64), (.int .i64), (.int .i64), .bool, (.sl [(.int .i64), (.int .i64), (.int .i64), (.int .i64), (.int .i64), (.int .i64), .bool])] a, .sc (.int .i64) n] [.sc .bool] Q := (pc_84 a n).mono fun _ h => h ▸ ho
/- impl.EffectOk -/
def phi_29 : Nat → List D → List D
  | 78, [a] => [.bool (inR a.toI 1 99)]
  | 79, [a] => [.bool (inR a.toI 0 2)]
  | 80, [a, b, c] => [.bool (inR a.toI b.toI c.toI)]
  | 81, [d] => [.bool (patOk d)]
  | 82, [d] => [.bool (guardOk d)]
  | 83, [a] => [.bool (actOk a)]
  | 84, [a, n] => [.bool (actFits a n.toI)]
  | _, _ => []
theorem pc_29 (e : D) : PC Try.prog 29 [.st [(.int .i64), (.int .i64), (.int .i64), (.int .i64), (.int .i64), (.int .i64), (.int .i64), (.int .i64), (.int .i64), (.int .i64), (.int .i64), (.int .i64), (.int .i64), (.int .i64), (.int .i64), (.int .i64), (.int .i64), (.int .i64), .bool, (.sl [(.int .i64), (.int .i64), (.int .i64), (.int .i64), (.int .i64), (.int .i64), .bool]), (.int .i64), (.int .i64)] e] [.sc .bool] fun o => o = [.bool (effectOk e)] := by
  refine PC.of_sig mix sig_29 ⟨rfl, trivial⟩ rfl fun hok => ?_
  have e_e : D.lst [e.fld 0, e.fld 1, e.fld 2, e.fld 3, e.fld 4, e.fld 5, e.fld 6, e.fld 7, e.fld 8, e.fld 9, e.fld 10, e.fld 11, e.fld 12, e.fld 13, e.fld 14, e.fld 15, e.fld 16, e.fld 17, e.fld 18, e.fld 19, e.fld 20, e.fld 21] = e := by simpa [List.range, List.range.loop] using okL_eta (hok _ (.head _))
  have k_e : okL [(.int .i64), (.int .i64), (.int .i64), (.int .i64), (.int .i64), (.int .i64), (.int .i64), (.int .i64), (.int .i64), (.int .i64), (.int .i64), (.int .i64), (.int .i64), (.int .i64), (.int .i64), (.int .i64), (.int .i64), (.int .i64), .bool, (.sl [(.int .i64), (.int .i64), (.int .i64), (.int .i64), (.int .i64), (.int .i64), .bool]), (.int .i64), (.int .i64)] e := (hok _ (.head _))
  have e_e_19 : D.lst (e.fld 19).toL = e.fld 19 := sl_eta (okL_at k_e (i := 19) rfl)
  have l_e_19 := sl_len (okL_at k_e (i := 19) rfl)
  have k_e_19 := sl_all (okL_at k_e (i := 19) rfl)
  have E_e_19 : ∀ i, i < (e.fld 19).toL.length → D.lst [((e.fld 19).elem i).fld 0, ((e.fld 19).elem i).fld 1, ((e.fld 19).elem i).fld 2, ((e.fld 19).elem i).fld 3, ((e.fld 19).elem i).fld 4, ((e.fld 19).elem i).fld 5, ((e.fld 19).elem i).fld 6] = (e.fld 19).elem i := fun i hi => by simpa [List.range, List.range.loop] using okL_eta (k_e_19 _ (elem_mem hi))
  apply says_den (φ := (phi_29))
  simp [e_e_19, E_e_19, e_e, tree_29, T.says, X.den, O1.den, O2.den, O3.den, callD, XArg.ev, XArg.dat, Callee'.num, backs, DArg.back, Conds.den, cloArgs, phi_29, pd_78, pd_79, pd_80, pd_81, pd_82, pd_83, pd_84, effectOk, patOf, grdOf, actOf]
  all_goals grind [inR]
theorem pd_29 (e : D) (Q : List D → Prop) (ho : Q [.bool (effectOk e)]) : PC Try.prog 29 [.st [(.int .i64), (.int .i64), (.int .i64), (.int .i64), (.int .i64), (.int .i64), (.int .i64), (.int .i64), (.int .i64), (.int .i64), (.int .i64), (.int .i64), (.int .i64), (.int .i64), (.int .i64), (.int .i64), (.int .i64), (.int .i64), .bool, (.sl [(.int .i64), (.int .i64), (.int .i64), (.int .i64), (.int .i64), (.int .i64), .bool]), (.int .i64), (.int .i64)] e] [.sc .bool] Q := (pc_29 e).mono fun _ h => h ▸ ho
/- impl.Lives -/
theorem pc_89 (e n : D) : PC Try.prog 89 [.st [(.int .i64), (.int .i64), (.int .i64), (.int .i64), (.int .i64), (.int .i64), (.int .i64), (.int .i64), (.int .i64), (.int .i64), (.int .i64), (.int .i64), (.int .i64), (.int .i64), (.int .i64), (.int .i64), (.int .i64), (.int .i64), .bool, (.sl [(.int .i64), (.int .i64), (.int .i64), (.int .i64), (.int .i64), (.int .i64), .bool]), (.int .i64), (.int .i64)] e, .sc (.int .i64) n] [.sc .bool] fun o => o = [.bool (lives e n.toI)] := by
  refine PC.of_sig mix sig_89 ⟨rfl, rfl, trivial⟩ rfl fun hok => ?_
  have e_e : D.lst [e.fld 0, e.fld 1, e.fld 2, e.fld 3, e.fld 4, e.fld 5, e.fld 6, e.fld 7, e.fld 8, e.fld 9, e.fld 10, e.fld 11, e.fld 12, e.fld 13, e.fld 14, e.fld 15, e.fld 16, e.fld 17, e.fld 18, e.fld 19, e.fld 20, e.fld 21] = e := by simpa [List.range, List.range.loop] using okL_eta (hok _ (.head _))
  have k_e : okL [(.int .i64), (.int .i64), (.int .i64), (.int .i64), (.int .i64), (.int .i64), (.int .i64), (.int .i64), (.int .i64), (.int .i64), (.int .i64), (.int .i64), (.int .i64), (.int .i64), (.int .i64), (.int .i64), (.int .i64), (.int .i64), .bool, (.sl [(.int .i64), (.int .i64), (.int .i64), (.int .i64), (.int .i64), (.int .i64), .bool]), (.int .i64), (.int .i64)] e := (hok _ (.head _))
  have e_e_19 : D.lst (e.fld 19).toL = e.fld 19 := sl_eta (okL_at k_e (i := 19) rfl)
  have l_e_19 := sl_len (okL_at k_e (i := 19) rfl)
  have k_e_19 := sl_all (okL_at k_e (i := 19) rfl)
  have E_e_19 : ∀ i, i < (e.fld 19).toL.length → D.lst [((e.fld 19).elem i).fld 0, ((e.fld 19).elem i).fld 1, ((e.fld 19).elem i).fld 2, ((e.fld 19).elem i).fld 3, ((e.fld 19).elem i).fld 4, ((e.fld 19).elem i).fld 5, ((e.fld 19).elem i).fld 6] = (e.fld 19).elem i := fun i hi => by simpa [List.range, List.range.loop] using okL_eta (k_e_19 _ (elem_mem hi))
  have e_n := int_eta (hok _ (.tail _ (.head _)))
  have b_n := int_range (hok _ (.tail _ (.head _)))
  apply says_den (φ := fun _ _ => [])
  simp [e_e_19, E_e_19, e_e, e_n, tree_89, T.says, X.den, O1.den, O2.den, O3.den, callD, XArg.ev, XArg.dat, Callee'.num, backs, DArg.back, Conds.den, cloArgs, lives]
theorem pd_89 (e n : D) (Q : List D → Prop) (ho : Q [.bool (lives e n.toI)]) : PC Try.prog 89 [.st [(.int .i64), (.int .i64), (.int .i64), (.int .i64), (.int .i64), (.int .i64), (.int .i64), (.int .i64), (.int .i64), (.int .i64), (.int .i64), (.int .i64), (.int .i64), (.int .i64), (.int .i64), (.int .i64), (.int .i64), (.int .i64), .bool, (.sl [(.int .i64), (.int .i64), (.int .i64), (.int .i64), (.int .i64), (.int .i64), .bool]), (.int .i64), (.int .i64)] e, .sc (.int .i64) n] [.sc .bool] Q := (pc_89 e n).mono fun _ h => h ▸ ho
/- impl.Near -/
theorem pc_110 (e v : D) : PC Try.prog 110 [.st [(.int .i64), (.int .i64), (.int .i64), (.int .i64), (.int .i64), (.int .i64), (.int .i64), (.int .i64), (.int .i64), (.int .i64), (.int .i64), (.int .i64), (.int .i64), (.int .i64), (.int .i64), (.int .i64), (.int .i64), (.int .i64), .bool, (.sl [(.int .i64), (.int .i64), (.int .i64), (.int .i64), (.int .i64), (.int .i64), .bool]), (.int .i64), (.int .i64)] e, .st [(.int .i64), (.int .i64), (.int .i64), (.int .i64), (.int .i64), (.int .i64), .bool] v] [.sc .bool] fun o => o = [.bool (near e v)] := by
  refine PC.of_sig mix sig_110 ⟨rfl, rfl, trivial⟩ rfl fun hok => ?_
  have e_e : D.lst [e.fld 0, e.fld 1, e.fld 2, e.fld 3, e.fld 4, e.fld 5, e.fld 6, e.fld 7, e.fld 8, e.fld 9, e.fld 10, e.fld 11, e.fld 12, e.fld 13, e.fld 14, e.fld 15, e.fld 16, e.fld 17, e.fld 18, e.fld 19, e.fld 20, e.fld 21] = e := by simpa [List.range, List.range.loop] using okL_eta (hok _ (.head _))
  have k_e : okL [(.int .i64), (.int .i64), (.int .i64), (.int .i64), (.int .i64), (.int .i64), (.int .i64), (.int .i64), (.int .i64), (.int .i64), (.int .i64), (.int .i64), (.int .i64), (.int .i64), (.int .i64), (.int .i64), (.int .i64), (.int .i64), .bool, (.sl [(.int .i64), (.int .i64), (.int .i64), (.int .i64), (.int .i64), (.int .i64), .bool]), (.int .i64), (.int .i64)] e := (hok _ (.head _))
  have e_e_19 : D.lst (e.fld 19).toL = e.fld 19 := sl_eta (okL_at k_e (i := 19) rfl)
  have l_e_19 := sl_len (okL_at k_e (i := 19) rfl)
  have k_e_19 := sl_all (okL_at k_e (i := 19) rfl)
  have E_e_19 : ∀ i, i < (e.fld 19).toL.length → D.lst [((e.fld 19).elem i).fld 0, ((e.fld 19).elem i).fld 1, ((e.fld 19).elem i).fld 2, ((e.fld 19).elem i).fld 3, ((e.fld 19).elem i).fld 4, ((e.fld 19).elem i).fld 5, ((e.fld 19).elem i).fld 6] = (e.fld 19).elem i := fun i hi => by simpa [List.range, List.range.loop] using okL_eta (k_e_19 _ (elem_mem hi))
  have e_v : D.lst [v.fld 0, v.fld 1, v.fld 2, v.fld 3, v.fld 4, v.fld 5, v.fld 6] = v := by simpa [List.range, List.range.loop] using okL_eta (hok _ (.tail _ (.head _)))
  have k_v : okL [(.int .i64), (.int .i64), (.int .i64), (.int .i64), (.int .i64), (.int .i64), .bool] v := (hok _ (.tail _ (.head _)))
  apply says_den (φ := fun _ _ => [])
  simp [e_e_19, E_e_19, e_e, e_v, tree_110, T.says, X.den, O1.den, O2.den, O3.den, callD, XArg.ev, XArg.dat, Callee'.num, backs, DArg.back, Conds.den, cloArgs, near]
theorem pd_110 (e v : D) (Q : List D → Prop) (ho : Q [.bool (near e v)]) : PC Try.prog 110 [.st [(.int .i64), (.int .i64), (.int .i64), (.int .i64), (.int .i64), (.int .i64), (.int .i64), (.int .i64), (.int .i64), (.int .i64), (.int .i64), (.int .i64), (.int .i64), (.int .i64), (.int .i64), (.int .i64), (.int .i64), (.int .i64), .bool, (.sl [(.int .i64), (.int .i64), (.int .i64), (.int .i64), (.int .i64), (.int .i64), .bool]), (.int .i64), (.int .i64)] e, .st [(.int .i64), (.int .i64), (.int .i64), (.int .i64), (.int .i64), (.int .i64), .bool] v] [.sc .bool] Q := (pc_110 e v).mono fun _ h => h ▸ ho
/- impl.isSide -/
def phi_146 : Nat → List D → List D
  | 80, [a, b, c] => [.bool (inR a.toI b.toI c.toI)]
  | _, _ => []
theorem pc_146 (s n : D) : PC Try.prog 146 [.st [(.sl [(.int .i64), (.int .i64), (.int .i64), (.int .i64), (.int .i64), (.int .i64), (.int .i64), (.int .i64), (.int .i64), (.int .i64), (.int .i64), .bool, .bool]), (.sl [(.int .i64), (.int .i64), .bool]), (.int .i64), (.int .i64)] s, .sc (.int .i64) n] [.sc .bool] fun o => o = [.bool (inR n.toI 0 ((s.fld 1).toL.length - 1))] := by
  refine PC.of_sig mix sig_146 ⟨rfl, rfl, trivial⟩ rfl fun hok => ?_
  have e_s : D.lst [s.fld 0, s.fld 1, s.fld 2, s.fld 3] = s := by simpa [List.range, List.range.loop] using okL_eta (hok _ (.head _))
  have k_s : okL [(.sl [(.int .i64), (.int .i64), (.int .i64), (.int .i64), (.int .i64), (.int .i64), (.int .i64), (.int .i64), (.int .i64), (.int .i64), (.int .i64), .bool, .bool]), (.sl [(.int .i64), (.int .i64), .bool]), (.int .i64), (.int .i64)] s := (hok _ (.head _))
  have e_s_0 : D.lst (s.fld 0).toL = s.fld 0 := sl_eta (okL_at k_s (i := 0) rfl)
  have l_s_0 := sl_len (okL_at k_s (i := 0) rfl)
  have k_s_0 := sl_all (okL_at k_s (i := 0) rfl)
  have E_s_0 : ∀ i, i < (s.fld 0).toL.length → D.lst [((s.fld 0).elem i).fld 0, ((s.fld 0).elem i).fld 1, ((s.fld 0).elem i).fld 2, ((s.fld 0).elem i).fld 3, ((s.fld 0).elem i).fld 4, ((s.fld 0).elem i).fld 5, ((s.fld 0).elem i).fld 6, ((s.fld 0).elem i).fld 7, ((s.fld 0).elem i).fld 8, ((s.fld 0).elem i).fld 9, ((s.fld 0).elem i).fld 10, ((s.fld 0).elem i).fld 11, ((s.fld 0).elem i).fld 12] = (s.fld 0).elem i := fun i hi => by simpa [List.range, List.range.loop] using okL_eta (k_s_0 _ (elem_mem hi))
  have e_s_1 : D.lst (s.fld 1).toL = s.fld 1 := sl_eta (okL_at k_s (i := 1) rfl)
  have l_s_1 := sl_len (okL_at k_s (i := 1) rfl)
  have k_s_1 := sl_all (okL_at k_s (i := 1) rfl)
  have E_s_1 : ∀ i, i < (s.fld 1).toL.length → D.lst [((s.fld 1).elem i).fld 0, ((s.fld 1).elem i).fld 1, ((s.fld 1).elem i).fld 2] = (s.fld 1).elem i := fun i hi => by simpa [List.range, List.range.loop] using okL_eta (k_s_1 _ (elem_mem hi))
  have e_n := int_eta (hok _ (.tail _ (.head _)))
  have b_n := int_range (hok _ (.tail _ (.head _)))
  apply says_den (φ := (phi_146))
  have hw : IntKind.i64.wrap (((s.fld 1).toL.length : Int) - 1) = (s.fld 1).toL.length - 1 := by (first | omega | (simp only [IntKind.wrap_i64, maxL] at *; omega) | (simp [IntKind.wrap_i64, maxL] at *; omega))
  simp [e_s_0, E_s_0, e_s_1, E_s_1, e_s, e_n, tree_146, T.says, X.den, O1.den, O2.den, O3.den, callD, XArg.ev, XArg.dat, Callee'.num, backs, DArg.back, Conds.den, cloArgs, phi_146, pd_80, hw]
theorem pd_146 (s n : D) (Q : List D → Prop) (ho : Q [.bool (inR n.toI 0 ((s.fld 1).toL.length - 1))]) : PC Try.prog 146 [.st [(.sl [(.int .i64), (.int .i64), (.int .i64), (.int .i64), (.int .i64), (.int .i64), (.int .i64), (.int .i64), (.int .i64), (.int .i64), (.int .i64), .bool, .bool]), (.sl [(.int .i64), (.int .i64), .bool]), (.int .i64), (.int .i64)] s, .sc (.int .i64) n] [.sc .bool] Q := (pc_146 s n).mono fun _ h => h ▸ ho
/- impl.OnField -/
theorem pc_147 (s n : D) (h : ((s.fld 0).toL.length : Int) ≤ 1048576) : PC Try.prog 147 [.st [(.sl [(.int .i64), (.int .i64), (.int .i64), (.int .i64), (.int .i64), (.int .i64), (.int .i64), (.int .i64), (.int .i64), (.int .i64), (.int .i64), .bool, .bool]), (.sl [(.int .i64), (.int .i64), .bool]), (.int .i64), (.int .i64)] s, .sc (.int .i64) n] [.sc (.sl [(.int .i64)])] fun o => o = [.lst (onField s n.toI (s.fld 0).toL.length)] := by
  refine PC.of_sig mix sig_147 ⟨rfl, rfl, trivial⟩ rfl fun hok => ?_
  have e_s : D.lst [s.fld 0, s.fld 1, s.fld 2, s.fld 3] = s := by simpa [List.range, List.range.loop] using okL_eta (hok _ (.head _))
  have k_s : okL [(.sl [(.int .i64), (.int .i64), (.int .i64), (.int .i64), (.int .i64), (.int .i64), (.int .i64), (.int .i64), (.int .i64), (.int .i64), (.int .i64), .bool, .bool]), (.sl [(.int .i64), (.int .i64), .bool]), (.int .i64), (.int .i64)] s := (hok _ (.head _))
  have e_s_0 : D.lst (s.fld 0).toL = s.fld 0 := sl_eta (okL_at k_s (i := 0) rfl)
  have l_s_0 := sl_len (okL_at k_s (i := 0) rfl)
  have k_s_0 := sl_all (okL_at k_s (i := 0) rfl)
  have E_s_0 : ∀ i, i < (s.fld 0).toL.length → D.lst [((s.fld 0).elem i).fld 0, ((s.fld 0).elem i).fld 1, ((s.fld 0).elem i).fld 2, ((s.fld 0).elem i).fld 3, ((s.fld 0).elem i).fld 4, ((s.fld 0).elem i).fld 5, ((s.fld 0).elem i).fld 6, ((s.fld 0).elem i).fld 7, ((s.fld 0).elem i).fld 8, ((s.fld 0).elem i).fld 9, ((s.fld 0).elem i).fld 10, ((s.fld 0).elem i).fld 11, ((s.fld 0).elem i).fld 12] = (s.fld 0).elem i := fun i hi => by simpa [List.range, List.range.loop] using okL_eta (k_s_0 _ (elem_mem hi))
  have e_s_1 : D.lst (s.fld 1).toL = s.fld 1 := sl_eta (okL_at k_s (i := 1) rfl)
  have l_s_1 := sl_len (okL_at k_s (i := 1) rfl)
  have k_s_1 := sl_all (okL_at k_s (i := 1) rfl)
  have E_s_1 : ∀ i, i < (s.fld 1).toL.length → D.lst [((s.fld 1).elem i).fld 0, ((s.fld 1).elem i).fld 1, ((s.fld 1).elem i).fld 2] = (s.fld 1).elem i := fun i hi => by simpa [List.range, List.range.loop] using okL_eta (k_s_1 _ (elem_mem hi))
  have e_n := int_eta (hok _ (.tail _ (.head _)))
  have b_n := int_range (hok _ (.tail _ (.head _)))
  apply says_den (φ := fun _ _ => [])
  simp [e_s_0, E_s_0, e_s_1, E_s_1, e_s, e_n, tree_147, T.says, X.den, O1.den, O2.den, O3.den, callD, XArg.ev, XArg.dat, Callee'.num, backs, DArg.back, Conds.den, cloArgs] at h ⊢
  refine fun _ => ?_
  refine den_for (s.fld 0).toL.length 0 (fun i => [.int i, .lst (onField s n.toI i)]) (fun _ => True) (by simp) (by simp [X.den, onField]) trivial fun i hi _ => ?_
  have hc := countR_le (onFieldP s n.toI) i
  rw [← onField_length] at hc
  apply says_den (φ := fun _ _ => [])
  by_cases hlt : i < (s.fld 0).toL.length
  · simp [e_s_0, E_s_0, e_s_1, E_s_1, e_s, e_n, tree_147, T.says, X.den, O1.den, O2.den, O3.den, callD, XArg.ev, XArg.dat, Callee'.num, backs, DArg.back, Conds.den, cloArgs, hlt]
    (repeat' (first | (with_reducible apply And.intro) | intro _)) <;> first | omega | (first | omega | (simp only [IntKind.wrap_i64, maxL] at *; omega) | (simp [IntKind.wrap_i64, maxL] at *; omega)) | (rw [onField_succ, if_pos (by grind [onFieldP])]; done) | (rw [onField_succ, if_neg (by grind [onFieldP])]; simp)
  · simp [e_s_0, E_s_0, e_s_1, E_s_1, e_s, e_n, tree_147, T.says, X.den, O1.den, O2.den, O3.den, callD, XArg.ev, XArg.dat, Callee'.num, backs, DArg.back, Conds.den, cloArgs, hlt]
    (repeat' (first | (with_reducible apply And.intro) | intro _)) <;> first | omega | (rw [show i = (s.fld 0).toL.length by omega])
theorem pd_147 (s n : D) (h : ((s.fld 0).toL.length : Int) ≤ 1048576) (Q : List D → Prop) (ho : Q [.lst (onField s n.toI (s.fld 0).toL.length)]) : PC Try.prog 147 [.st [(.sl [(.int .i64), (.int .i64), (.int .i64), (.int .i64), (.int .i64), (.int .i64), (.int .i64), (.int .i64), (.int .i64), (.int .i64), (.int .i64), .bool, .bool]), (.sl [(.int .i64), (.int .i64), .bool]), (.int .i64), (.int .i64)] s, .sc (.int .i64) n] [.sc (.sl [(.int .i64)])] Q := (pc_147 s n h).mono fun _ h => h ▸ ho
/- impl.BentOf -/
theorem pc_148 (s n : D) : PC Try.prog 148 [.st [(.sl [(.int .i64), (.int .i64), (.int .i64), (.int .i64), (.int .i64), (.int .i64), (.int .i64), (.int .i64), (.int .i64), (.int .i64), (.int .i64), .bool, .bool]), (.sl [(.int .i64), (.int .i64), .bool]), (.int .i64), (.int .i64)] s, .sc (.int .i64) n] [.sc (.int .i64)] fun o => o = [.int (bentOf s n.toI)] := by
  refine PC.of_sig mix sig_148 ⟨rfl, rfl, trivial⟩ rfl fun hok => ?_
  have e_s : D.lst [s.fld 0, s.fld 1, s.fld 2, s.fld 3] = s := by simpa [List.range, List.range.loop] using okL_eta (hok _ (.head _))
  have k_s : okL [(.sl [(.int .i64), (.int .i64), (.int .i64), (.int .i64), (.int .i64), (.int .i64), (.int .i64), (.int .i64), (.int .i64), (.int .i64), (.int .i64), .bool, .bool]), (.sl [(.int .i64), (.int .i64), .bool]), (.int .i64), (.int .i64)] s := (hok _ (.head _))
  have e_s_0 : D.lst (s.fld 0).toL = s.fld 0 := sl_eta (okL_at k_s (i := 0) rfl)
  have l_s_0 := sl_len (okL_at k_s (i := 0) rfl)
  have k_s_0 := sl_all (okL_at k_s (i := 0) rfl)
  have E_s_0 : ∀ i, i < (s.fld 0).toL.length → D.lst [((s.fld 0).elem i).fld 0, ((s.fld 0).elem i).fld 1, ((s.fld 0).elem i).fld 2, ((s.fld 0).elem i).fld 3, ((s.fld 0).elem i).fld 4, ((s.fld 0).elem i).fld 5, ((s.fld 0).elem i).fld 6, ((s.fld 0).elem i).fld 7, ((s.fld 0).elem i).fld 8, ((s.fld 0).elem i).fld 9, ((s.fld 0).elem i).fld 10, ((s.fld 0).elem i).fld 11, ((s.fld 0).elem i).fld 12] = (s.fld 0).elem i := fun i hi => by simpa [List.range, List.range.loop] using okL_eta (k_s_0 _ (elem_mem hi))
  have e_s_1 : D.lst (s.fld 1).toL = s.fld 1 := sl_eta (okL_at k_s (i := 1) rfl)
  have l_s_1 := sl_len (okL_at k_s (i := 1) rfl)
  have k_s_1 := sl_all (okL_at k_s (i := 1) rfl)
  have E_s_1 : ∀ i, i < (s.fld 1).toL.length → D.lst [((s.fld 1).elem i).fld 0, ((s.fld 1).elem i).fld 1, ((s.fld 1).elem i).fld 2] = (s.fld 1).elem i := fun i hi => by simpa [List.range, List.range.loop] using okL_eta (k_s_1 _ (elem_mem hi))
  have e_n := int_eta (hok _ (.tail _ (.head _)))
  have b_n := int_range (hok _ (.tail _ (.head _)))
  apply says_den (φ := fun _ _ => [])
  simp [e_s_0, E_s_0, e_s_1, E_s_1, e_s, e_n, tree_148, T.says, X.den, O1.den, O2.den, O3.den, callD, XArg.ev, XArg.dat, Callee'.num, backs, DArg.back, Conds.den, cloArgs]
  refine fun _ => ?_
  refine den_for (s.fld 0).toL.length 1 (fun i => [.int (countR (bentP s n.toI) i), .int i]) (fun _ => True) (by simp) (by simp [X.den]) trivial fun i hi _ => ?_
  have hc := countR_le (bentP s n.toI) i
  apply says_den (φ := fun _ _ => [])
  by_cases hlt : i < (s.fld 0).toL.length
  · simp [e_s_0, E_s_0, e_s_1, E_s_1, e_s, e_n, tree_148, T.says, X.den, O1.den, O2.den, O3.den, callD, XArg.ev, XArg.dat, Callee'.num, backs, DArg.back, Conds.den, cloArgs, hlt]
    (repeat' (first | (with_reducible apply And.intro) | intro _)) <;> first | omega | (first | omega | (simp only [IntKind.wrap_i64, maxL] at *; omega) | (simp [IntKind.wrap_i64, maxL] at *; omega)) | (rw [countR_succ, if_pos (by grind [bentP])]; (first | omega | (simp only [IntKind.wrap_i64, maxL] at *; omega) | (simp [IntKind.wrap_i64, maxL] at *; omega))) | (rw [countR_succ, if_neg (by grind [bentP])]; simp)
  · simp [e_s_0, E_s_0, e_s_1, E_s_1, e_s, e_n, tree_148, T.says, X.den, O1.den, O2.den, O3.den, callD, XArg.ev, XArg.dat, Callee'.num, backs, DArg.back, Conds.den, cloArgs, hlt]
    (repeat' (first | (with_reducible apply And.intro) | intro _)) <;> first | omega | (rw [show i = (s.fld 0).toL.length by omega]; rfl)
theorem pd_148 (s n : D) (Q : List D → Prop) (ho : Q [.int (bentOf s n.toI)]) : PC Try.prog 148 [.st [(.sl [(.int .i64), (.int .i64), (.int .i64), (.int .i64), (.int .i64), (.int .i64), (.int .i64), (.int .i64), (.int .i64), (.int .i64), (.int .i64), .bool, .bool]), (.sl [(.int .i64), (.int .i64), .bool]), (.int .i64), (.int .i64)] s, .sc (.int .i64) n] [.sc (.int .i64)] Q := (pc_148 s n).mono fun _ h => h ▸ ho
/- impl.Holds -/
def phi_111 : Nat → List D → List D
  | 82, [d] => [.bool (guardOk d)]
  | 146, [s, n] => [.bool (inR n.toI 0 ((s.fld 1).toL.length - 1))]
  | 147, [s, n] => [.lst (onField s n.toI (s.fld 0).toL.length)]
  | 148, [s, n] => [.int (bentOf s n.toI)]
  | _, _ => []
theorem pc_111 (s n g : D) (h : ((s.fld 0).toL.length : Int) ≤ 1048576) : PC Try.prog 111 [.st [(.sl [(.int .i64), (.int .i64), (.int .i64), (.int .i64), (.int .i64), (.int .i64), (.int .i64), (.int .i64), (.int .i64), (.int .i64), (.int .i64), .bool, .bool]), (.sl [(.int .i64), (.int .i64), .bool]), (.int .i64), (.int .i64)] s, .sc (.int .i64) n, .st [(.int .i64), (.int .i64)] g] [.sc .bool] fun o => o = [.bool (holds s n.toI g)] := by
  refine PC.of_sig mix sig_111 ⟨rfl, rfl, rfl, trivial⟩ rfl fun hok => ?_
  have e_s : D.lst [s.fld 0, s.fld 1, s.fld 2, s.fld 3] = s := by simpa [List.range, List.range.loop] using okL_eta (hok _ (.head _))
  have k_s : okL [(.sl [(.int .i64), (.int .i64), (.int .i64), (.int .i64), (.int .i64), (.int .i64), (.int .i64), (.int .i64), (.int .i64), (.int .i64), (.int .i64), .bool, .bool]), (.sl [(.int .i64), (.int .i64), .bool]), (.int .i64), (.int .i64)] s := (hok _ (.head _))
  have e_s_0 : D.lst (s.fld 0).toL = s.fld 0 := sl_eta (okL_at k_s (i := 0) rfl)
  have l_s_0 := sl_len (okL_at k_s (i := 0) rfl)
  have k_s_0 := sl_all (okL_at k_s (i := 0) rfl)
  have E_s_0 : ∀ i, i < (s.fld 0).toL.length → D.lst [((s.fld 0).elem i).fld 0, ((s.fld 0).elem i).fld 1, ((s.fld 0).elem i).fld 2, ((s.fld 0).elem i).fld 3, ((s.fld 0).elem i).fld 4, ((s.fld 0).elem i).fld 5, ((s.fld 0).elem i).fld 6, ((s.fld 0).elem i).fld 7, ((s.fld 0).elem i).fld 8, ((s.fld 0).elem i).fld 9, ((s.fld 0).elem i).fld 10, ((s.fld 0).elem i).fld 11, ((s.fld 0).elem i).fld 12] = (s.fld 0).elem i := fun i hi => by simpa [List.range, List.range.loop] using okL_eta (k_s_0 _ (elem_mem hi))
  have e_s_1 : D.lst (s.fld 1).toL = s.fld 1 := sl_eta (okL_at k_s (i := 1) rfl)
  have l_s_1 := sl_len (okL_at k_s (i := 1) rfl)
  have k_s_1 := sl_all (okL_at k_s (i := 1) rfl)
  have E_s_1 : ∀ i, i < (s.fld 1).toL.length → D.lst [((s.fld 1).elem i).fld 0, ((s.fld 1).elem i).fld 1, ((s.fld 1).elem i).fld 2] = (s.fld 1).elem i := fun i hi => by simpa [List.range, List.range.loop] using okL_eta (k_s_1 _ (elem_mem hi))
  have e_n := int_eta (hok _ (.tail _ (.head _)))
  have b_n := int_range (hok _ (.tail _ (.head _)))
  have e_g : D.lst [g.fld 0, g.fld 1] = g := by simpa [List.range, List.range.loop] using okL_eta (hok _ (.tail _ (.tail _ (.head _))))
  have k_g : okL [(.int .i64), (.int .i64)] g := (hok _ (.tail _ (.tail _ (.head _))))
  have hw : IntKind.i64.wrap (((s.fld 1).toL.length : Int) - 1) = (s.fld 1).toL.length - 1 := by (first | omega | (simp only [IntKind.wrap_i64, maxL] at *; omega) | (simp [IntKind.wrap_i64, maxL] at *; omega))
  apply says_den (φ := (phi_111))
  simp [e_s_0, E_s_0, e_s_1, E_s_1, e_s, e_n, e_g, tree_111, T.says, X.den, O1.den, O2.den, O3.den, callD, XArg.ev, XArg.dat, Callee'.num, backs, DArg.back, Conds.den, cloArgs, phi_111, pd_82, pd_146, pd_147, pd_148, hw, holds]
  have hin : inR n.toI 0 (((s.fld 1).toL.length : Int) - 1) = true → 0 ≤ n.toI ∧ n.toI < (s.fld 1).toL.length := by simp only [inR, Bool.and_eq_true, decide_eq_true_eq]; omega
  (repeat' (first | (with_reducible apply And.intro) | intro _)) <;> first | (have := hin ‹_›; omega) | (first | assumption | (first | omega | (simp only [IntKind.wrap_i64, maxL] at *; omega) | (simp [IntKind.wrap_i64, maxL] at *; omega)) | rfl | contradiction | (exact pd_82 _ _ (by first | rfl | simp | (simp; omega))) | (exact pd_146 _ _ _ (by first | rfl | simp | (simp; omega))) | (exact pd_147 _ _ (by first | assumption | omega | (simp; done) | (simp; omega) | (simp [*]; done) | (simp [*] at *; omega) | grind [szS]) _ (by first | rfl | simp | (simp; omega))) | (exact pd_148 _ _ _ (by first | rfl | simp | (simp; omega))) | grind) | skip
  all_goals
    have h1 := hin ‹_›
    have h2 := onField_many (s := s) h1.1 (s.fld 0).toL.length
    rw [h2]
    simp [*, many]
    try exact decide_eq_decide.mpr Iff.rfl
theorem pd_111 (s n g : D) (h : ((s.fld 0).toL.length : Int) ≤ 1048576) (Q : List D → Prop) (ho : Q [.bool (holds s n.toI g)]) : PC Try.prog 111 [.st [(.sl [(.int .i64), (.int .i64), (.int .i64), (.int .i64), (.int .i64), (.int .i64), (.int .i64), (.int .i64), (.int .i64), (.int .i64), (.int .i64), .bool, .bool]), (.sl [(.int .i64), (.int .i64), .bool]), (.int .i64), (.int .i64)] s, .sc (.int .i64) n, .st [(.int .i64), (.int .i64)] g] [.sc .bool] Q := (pc_111 s n g h).mono fun _ h => h ▸ ho
/- impl.PieceAt$1 -/
theorem pc_171 (e c : D) : PC Try.prog 171 [.st [(.int .i64), (.int .i64), (.int .i64), (.int .i64), (.int .i64), (.int .i64), (.int .i64), (.int .i64), (.int .i64), (.int .i64), (.int .i64), .bool, .bool] e, .bx [(.int .i64)] c] [.sc .bool] fun o => o = [.bool ((e.fld 0).toI == (c.fld 0).toI)] := by
  refine PC.of_sigC («as» := [.st [(.int .i64), (.int .i64), (.int .i64), (.int .i64), (.int .i64), (.int .i64), (.int .i64), (.int .i64), (.int .i64), (.int .i64), (.int .i64), .bool, .bool] e]) [([(.int .i64)], c)] mix sig_171 ⟨rfl, trivial⟩ rfl fun hok => ?_
  have e_e : D.lst [e.fld 0, e.fld 1, e.fld 2, e.fld 3, e.fld 4, e.fld 5, e.fld 6, e.fld 7, e.fld 8, e.fld 9, e.fld 10, e.fld 11, e.fld 12] = e := by simpa [List.range, List.range.loop] using okL_eta (hok _ (.head _))
  have k_e : okL [(.int .i64), (.int .i64), (.int .i64), (.int .i64), (.int .i64), (.int .i64), (.int .i64), (.int .i64), (.int .i64), (.int .i64), (.int .i64), .bool, .bool] e := (hok _ (.head _))
  apply says_den (φ := fun _ _ => [])
  simp [e_e, tree_171, T.says, X.den, O1.den, O2.den, O3.den, callD, XArg.ev, XArg.dat, Callee'.num, backs, DArg.back, Conds.den, cloArgs]
theorem pd_171 (e c : D) (Q : List D → Prop) (ho : Q [.bool ((e.fld 0).toI == (c.fld 0).toI)]) : PC Try.prog 171 [.st [(.int .i64), (.int .i64), (.int .i64), (.int .i64), (.int .i64), (.int .i64), (.int .i64), (.int .i64), (.int .i64), (.int .i64), (.int .i64), .bool, .bool] e, .bx [(.int .i64)] c] [.sc .bool] Q := (pc_171 e c).mono fun _ h => h ▸ ho
/- slices.IndexFunc[[]impl.Piece,impl.Piece] -/
def phi_170 (a c : D) : Nat → List D → List D
  | 171, [e, c] => [.bool ((e.fld 0).toI == (c.fld 0).toI)]
  | 0, [e] => [.bool ((e.fld 0).toI == (c.fld 0).toI)]
  | _, _ => []
theorem pc_170 (a c : D) : PC Try.prog 170 [.sc (.sl [(.int .i64), (.int .i64), (.int .i64), (.int .i64), (.int .i64), (.int .i64), (.int .i64), (.int .i64), (.int .i64), (.int .i64), (.int .i64), .bool, .bool]) a, .clo 171 [([(.int .i64)], c)]] [.sc (.int .i64)] fun o => o = [.int (findR (fun i => ((a.elem i).fld 0).toI == (c.fld 0).toI) a.toL.length)] := by
  refine PC.of_sig mix sig_170 ⟨rfl, trivial, trivial⟩ rfl fun hok => ?_
  have e_a := sl_eta (hok _ (.head _))
  have l_a := sl_len (hok _ (.head _))
  have k_a := sl_all (hok _ (.head _))
  have E_a : ∀ i, i < a.toL.length → D.lst [(a.elem i).fld 0, (a.elem i).fld 1, (a.elem i).fld 2, (a.elem i).fld 3, (a.elem i).fld 4, (a.elem i).fld 5, (a.elem i).fld 6, (a.elem i).fld 7, (a.elem i).fld 8, (a.elem i).fld 9, (a.elem i).fld 10, (a.elem i).fld 11, (a.elem i).fld 12] = a.elem i := fun i hi => by simpa [List.range, List.range.loop] using okL_eta (k_a _ (elem_mem hi))
  apply says_den (φ := (phi_170 a c))
  simp [e_a, E_a, tree_170, T.says, X.den, O1.den, O2.den, O3.den, callD, XArg.ev, XArg.dat, Callee'.num, backs, DArg.back, Conds.den, cloArgs, phi_170, pd_171]
  refine fun _ => ?_
  refine den_for a.toL.length 0 (fun i => [.int i]) (fun i => ∀ j, j < i → (((a.elem j).fld 0).toI == (c.fld 0).toI) = false) (by simp) (by simp [X.den]) (by simp) fun i hi hR => ?_
  apply says_den (φ := (phi_170 a c))
  by_cases hlt : i < a.toL.length
  · simp [e_a, E_a, tree_170, T.says, X.den, O1.den, O2.den, O3.den, callD, XArg.ev, XArg.dat, Callee'.num, backs, DArg.back, Conds.den, cloArgs, phi_170, pd_171, hlt]
    (repeat' (first | (with_reducible apply And.intro) | intro _))
    · exact (findR_some (p := fun i => ((a.elem i).fld 0).toI == (c.fld 0).toI) hlt (by simp_all) hR).symm
    · (first | omega | (simp only [IntKind.wrap_i64, maxL] at *; omega) | (simp [IntKind.wrap_i64, maxL] at *; omega))
    · grind
  · simp [e_a, E_a, tree_170, T.says, X.den, O1.den, O2.den, O3.den, callD, XArg.ev, XArg.dat, Callee'.num, backs, DArg.back, Conds.den, cloArgs, phi_170, pd_171, hlt]
    (repeat' (first | (with_reducible apply And.intro) | intro _))
    · exact (findR_none fun j hj => hR j (by omega)).symm
theorem pd_170 (a c : D) (Q : List D → Prop) (ho : Q [.int (findR (fun i => ((a.elem i).fld 0).toI == (c.fld 0).toI) a.toL.length)]) : PC Try.prog 170 [.sc (.sl [(.int .i64), (.int .i64), (.int .i64), (.int .i64), (.int .i64), (.int .i64), (.int .i64), (.int .i64), (.int .i64), (.int .i64), (.int .i64), .bool, .bool]) a, .clo 171 [([(.int .i64)], c)]] [.sc (.int .i64)] Q := (pc_170 a c).mono fun _ h => h ▸ ho
/- impl.PieceAt -/
def phi_168 (s n : D) : Nat → List D → List D
  | 170, [a, _] => [.int (findR (fun i => ((a.elem i).fld 0).toI == n.toI) a.toL.length)]
  | 171, [e, c] => [.bool ((e.fld 0).toI == (c.fld 0).toI)]
  | _, _ => []
theorem pc_168 (s n : D) : PC Try.prog 168 [.st [(.sl [(.int .i64), (.int .i64), (.int .i64), (.int .i64), (.int .i64), (.int .i64), (.int .i64), (.int .i64), (.int .i64), (.int .i64), (.int .i64), .bool, .bool]), (.sl [(.int .i64), (.int .i64), .bool]), (.int .i64), (.int .i64)] s, .sc (.int .i64) n] [.sc (.int .i64)] fun o => o = [.int (pieceAt s n.toI)] := by
  refine PC.of_sig mix sig_168 ⟨rfl, rfl, trivial⟩ rfl fun hok => ?_
  have e_s : D.lst [s.fld 0, s.fld 1, s.fld 2, s.fld 3] = s := by simpa [List.range, List.range.loop] using okL_eta (hok _ (.head _))
  have k_s : okL [(.sl [(.int .i64), (.int .i64), (.int .i64), (.int .i64), (.int .i64), (.int .i64), (.int .i64), (.int .i64), (.int .i64), (.int .i64), (.int .i64), .bool, .bool]), (.sl [(.int .i64), (.int .i64), .bool]), (.int .i64), (.int .i64)] s := (hok _ (.head _))
  have e_s_0 : D.lst (s.fld 0).toL = s.fld 0 := sl_eta (okL_at k_s (i := 0) rfl)
  have l_s_0 := sl_len (okL_at k_s (i := 0) rfl)
  have k_s_0 := sl_all (okL_at k_s (i := 0) rfl)
  have E_s_0 : ∀ i, i < (s.fld 0).toL.length → D.lst [((s.fld 0).elem i).fld 0, ((s.fld 0).elem i).fld 1, ((s.fld 0).elem i).fld 2, ((s.fld 0).elem i).fld 3, ((s.fld 0).elem i).fld 4, ((s.fld 0).elem i).fld 5, ((s.fld 0).elem i).fld 6, ((s.fld 0).elem i).fld 7, ((s.fld 0).elem i).fld 8, ((s.fld 0).elem i).fld 9, ((s.fld 0).elem i).fld 10, ((s.fld 0).elem i).fld 11, ((s.fld 0).elem i).fld 12] = (s.fld 0).elem i := fun i hi => by simpa [List.range, List.range.loop] using okL_eta (k_s_0 _ (elem_mem hi))
  have e_s_1 : D.lst (s.fld 1).toL = s.fld 1 := sl_eta (okL_at k_s (i := 1) rfl)
  have l_s_1 := sl_len (okL_at k_s (i := 1) rfl)
  have k_s_1 := sl_all (okL_at k_s (i := 1) rfl)
  have E_s_1 : ∀ i, i < (s.fld 1).toL.length → D.lst [((s.fld 1).elem i).fld 0, ((s.fld 1).elem i).fld 1, ((s.fld 1).elem i).fld 2] = (s.fld 1).elem i := fun i hi => by simpa [List.range, List.range.loop] using okL_eta (k_s_1 _ (elem_mem hi))
  have e_n := int_eta (hok _ (.tail _ (.head _)))
  have b_n := int_range (hok _ (.tail _ (.head _)))
  apply says_den (φ := (phi_168 s n))
  simp [e_s_0, E_s_0, e_s_1, E_s_1, e_s, e_n, tree_168, T.says, X.den, O1.den, O2.den, O3.den, callD, XArg.ev, XArg.dat, Callee'.num, backs, DArg.back, Conds.den, cloArgs, phi_168, pd_170, pd_171, pieceAt]
theorem pd_168 (s n : D) (Q : List D → Prop) (ho : Q [.int (pieceAt s n.toI)]) : PC Try.prog 168 [.st [(.sl [(.int .i64), (.int .i64), (.int .i64), (.int .i64), (.int .i64), (.int .i64), (.int .i64), (.int .i64), (.int .i64), (.int .i64), (.int .i64), .bool, .bool]), (.sl [(.int .i64), (.int .i64), .bool]), (.int .i64), (.int .i64)] s, .sc (.int .i64) n] [.sc (.int .i64)] Q := (pc_168 s n).mono fun _ h => h ▸ ho
/- impl.Target -/
def phi_164 : Nat → List D → List D
  | 146, [s, n] => [.bool (inR n.toI 0 ((s.fld 1).toL.length - 1))]
  | 168, [s, n] => [.int (pieceAt s n.toI)]
  | _, _ => []
theorem pc_164 (s e : D) : PC Try.prog 164 [.st [(.sl [(.int .i64), (.int .i64), (.int .i64), (.int .i64), (.int .i64), (.int .i64), (.int .i64), (.int .i64), (.int .i64), (.int .i64), (.int .i64), .bool, .bool]), (.sl [(.int .i64), (.int .i64), .bool]), (.int .i64), (.int .i64)] s, .st [(.int .i64), (.int .i64), (.int .i64), (.int .i64), (.int .i64), (.int .i64), .bool] e] [.sc (.int .i64)] fun o => o = [.int (target s e)] := by
  refine PC.of_sig mix sig_164 ⟨rfl, rfl, trivial⟩ rfl fun hok => ?_
  have e_s : D.lst [s.fld 0, s.fld 1, s.fld 2, s.fld 3] = s := by simpa [List.range, List.range.loop] using okL_eta (hok _ (.head _))
  have k_s : okL [(.sl [(.int .i64), (.int .i64), (.int .i64), (.int .i64), (.int .i64), (.int .i64), (.int .i64), (.int .i64), (.int .i64), (.int .i64), (.int .i64), .bool, .bool]), (.sl [(.int .i64), (.int .i64), .bool]), (.int .i64), (.int .i64)] s := (hok _ (.head _))
  have e_s_0 : D.lst (s.fld 0).toL = s.fld 0 := sl_eta (okL_at k_s (i := 0) rfl)
  have l_s_0 := sl_len (okL_at k_s (i := 0) rfl)
  have k_s_0 := sl_all (okL_at k_s (i := 0) rfl)
  have E_s_0 : ∀ i, i < (s.fld 0).toL.length → D.lst [((s.fld 0).elem i).fld 0, ((s.fld 0).elem i).fld 1, ((s.fld 0).elem i).fld 2, ((s.fld 0).elem i).fld 3, ((s.fld 0).elem i).fld 4, ((s.fld 0).elem i).fld 5, ((s.fld 0).elem i).fld 6, ((s.fld 0).elem i).fld 7, ((s.fld 0).elem i).fld 8, ((s.fld 0).elem i).fld 9, ((s.fld 0).elem i).fld 10, ((s.fld 0).elem i).fld 11, ((s.fld 0).elem i).fld 12] = (s.fld 0).elem i := fun i hi => by simpa [List.range, List.range.loop] using okL_eta (k_s_0 _ (elem_mem hi))
  have e_s_1 : D.lst (s.fld 1).toL = s.fld 1 := sl_eta (okL_at k_s (i := 1) rfl)
  have l_s_1 := sl_len (okL_at k_s (i := 1) rfl)
  have k_s_1 := sl_all (okL_at k_s (i := 1) rfl)
  have E_s_1 : ∀ i, i < (s.fld 1).toL.length → D.lst [((s.fld 1).elem i).fld 0, ((s.fld 1).elem i).fld 1, ((s.fld 1).elem i).fld 2] = (s.fld 1).elem i := fun i hi => by simpa [List.range, List.range.loop] using okL_eta (k_s_1 _ (elem_mem hi))
  have e_e : D.lst [e.fld 0, e.fld 1, e.fld 2, e.fld 3, e.fld 4, e.fld 5, e.fld 6] = e := by simpa [List.range, List.range.loop] using okL_eta (hok _ (.tail _ (.head _)))
  have k_e : okL [(.int .i64), (.int .i64), (.int .i64), (.int .i64), (.int .i64), (.int .i64), .bool] e := (hok _ (.tail _ (.head _)))
  apply says_den (φ := (phi_164))
  have hr := pieceAt_range s (e.fld 2).toI
  have i3 := int_eta (okL_at k_e (i := 3) rfl)
  have hw : IntKind.i64.wrap (((s.fld 1).toL.length : Int) - 1) = (s.fld 1).toL.length - 1 := by (first | omega | (simp only [IntKind.wrap_i64, maxL] at *; omega) | (simp [IntKind.wrap_i64, maxL] at *; omega))
  simp [e_s_0, E_s_0, e_s_1, E_s_1, e_s, e_e, tree_164, T.says, X.den, O1.den, O2.den, O3.den, callD, XArg.ev, XArg.dat, Callee'.num, backs, DArg.back, Conds.den, cloArgs, phi_164, pd_146, pd_168, hw]
  (repeat' (first | (with_reducible apply And.intro) | intro _))
  all_goals first | omega | (rw [target, if_pos (by omega), if_neg (by simp_all)]; done) | (rw [target, if_pos (by omega), if_pos (by simp_all)]; exact i3.symm) | (rw [target, if_neg (by omega), if_pos (by omega)]; done) | skip
  · rw [target, if_neg (by omega), if_neg (by omega)]
    exact (int_eta (okL_at (k_s_0 _ (elem_mem (by omega))) (i := 2) rfl)).symm
theorem pd_164 (s e : D) (Q : List D → Prop) (ho : Q [.int (target s e)]) : PC Try.prog 164 [.st [(.sl [(.int .i64), (.int .i64), (.int .i64), (.int .i64), (.int .i64), (.int .i64), (.int .i64), (.int .i64), (.int .i64), (.int .i64), (.int .i64), .bool, .bool]), (.sl [(.int .i64), (.int .i64), .bool]), (.int .i64), (.int .i64)] s, .st [(.int .i64), (.int .i64), (.int .i64), (.int .i64), (.int .i64), (.int .i64), .bool] e] [.sc (.int .i64)] Q := (pc_164 s e).mono fun _ h => h ▸ ho
/- impl.TargetFits -/
def phi_149 : Nat → List D → List D
  | 164, [s, e] => [.int (target s e)]
  | _, _ => []
theorem pc_149 (s n p e : D) : PC Try.prog 149 [.st [(.sl [(.int .i64), (.int .i64), (.int .i64), (.int .i64), (.int .i64), (.int .i64), (.int .i64), (.int .i64), (.int .i64), (.int .i64), (.int .i64), .bool, .bool]), (.sl [(.int .i64), (.int .i64), .bool]), (.int .i64), (.int .i64)] s, .sc (.int .i64) n, .st [(.int .i64), (.int .i64), (.int .i64), (.int .i64), (.int .i64), (.int .i64), (.int .i64)] p, .st [(.int .i64), (.int .i64), (.int .i64), (.int .i64), (.int .i64), (.int .i64), .bool] e] [.sc .bool] fun o => o = [.bool (targetFits s n.toI p e)] := by
  refine PC.of_sig mix sig_149 ⟨rfl, rfl, rfl, rfl, trivial⟩ rfl fun hok => ?_
  have e_s : D.lst [s.fld 0, s.fld 1, s.fld 2, s.fld 3] = s := by simpa [List.range, List.range.loop] using okL_eta (hok _ (.head _))
  have k_s : okL [(.sl [(.int .i64), (.int .i64), (.int .i64), (.int .i64), (.int .i64), (.int .i64), (.int .i64), (.int .i64), (.int .i64), (.int .i64), (.int .i64), .bool, .bool]), (.sl [(.int .i64), (.int .i64), .bool]), (.int .i64), (.int .i64)] s := (hok _ (.head _))
  have e_s_0 : D.lst (s.fld 0).toL = s.fld 0 := sl_eta (okL_at k_s (i := 0) rfl)
  have l_s_0 := sl_len (okL_at k_s (i := 0) rfl)
  have k_s_0 := sl_all (okL_at k_s (i := 0) rfl)
  have E_s_0 : ∀ i, i < (s.fld 0).toL.length → D.lst [((s.fld 0).elem i).fld 0, ((s.fld 0).elem i).fld 1, ((s.fld 0).elem i).fld 2, ((s.fld 0).elem i).fld 3, ((s.fld 0).elem i).fld 4, ((s.fld 0).elem i).fld 5, ((s.fld 0).elem i).fld 6, ((s.fld 0).elem i).fld 7, ((s.fld 0).elem i).fld 8, ((s.fld 0).elem i).fld 9, ((s.fld 0).elem i).fld 10, ((s.fld 0).elem i).fld 11, ((s.fld 0).elem i).fld 12] = (s.fld 0).elem i := fun i hi => by simpa [List.range, List.range.loop] using okL_eta (k_s_0 _ (elem_mem hi))
  have e_s_1 : D.lst (s.fld 1).toL = s.fld 1 := sl_eta (okL_at k_s (i := 1) rfl)
  have l_s_1 := sl_len (okL_at k_s (i := 1) rfl)
  have k_s_1 := sl_all (okL_at k_s (i := 1) rfl)
  have E_s_1 : ∀ i, i < (s.fld 1).toL.length → D.lst [((s.fld 1).elem i).fld 0, ((s.fld 1).elem i).fld 1, ((s.fld 1).elem i).fld 2] = (s.fld 1).elem i := fun i hi => by simpa [List.range, List.range.loop] using okL_eta (k_s_1 _ (elem_mem hi))
  have e_n := int_eta (hok _ (.tail _ (.head _)))
  have b_n := int_range (hok _ (.tail _ (.head _)))
  have e_p : D.lst [p.fld 0, p.fld 1, p.fld 2, p.fld 3, p.fld 4, p.fld 5, p.fld 6] = p := by simpa [List.range, List.range.loop] using okL_eta (hok _ (.tail _ (.tail _ (.head _))))
  have k_p : okL [(.int .i64), (.int .i64), (.int .i64), (.int .i64), (.int .i64), (.int .i64), (.int .i64)] p := (hok _ (.tail _ (.tail _ (.head _))))
  have e_e : D.lst [e.fld 0, e.fld 1, e.fld 2, e.fld 3, e.fld 4, e.fld 5, e.fld 6] = e := by simpa [List.range, List.range.loop] using okL_eta (hok _ (.tail _ (.tail _ (.tail _ (.head _)))))
  have k_e : okL [(.int .i64), (.int .i64), (.int .i64), (.int .i64), (.int .i64), (.int .i64), .bool] e := (hok _ (.tail _ (.tail _ (.tail _ (.head _)))))
  apply says_den (φ := (phi_149))
  simp [e_s_0, E_s_0, e_s_1, E_s_1, e_s, e_n, e_p, e_e, tree_149, T.says, X.den, O1.den, O2.den, O3.den, callD, XArg.ev, XArg.dat, Callee'.num, backs, DArg.back, Conds.den, cloArgs, phi_149, pd_164, targetFits]
  all_goals grind
theorem pd_149 (s n p e : D) (Q : List D → Prop) (ho : Q [.bool (targetFits s n.toI p e)]) : PC Try.prog 149 [.st [(.sl [(.int .i64), (.int .i64), (.int .i64), (.int .i64), (.int .i64), (.int .i64), (.int .i64), (.int .i64), (.int .i64), (.int .i64), (.int .i64), .bool, .bool]), (.sl [(.int .i64), (.int .i64), .bool]), (.int .i64), (.int .i64)] s, .sc (.int .i64) n, .st [(.int .i64), (.int .i64), (.int .i64), (.int .i64), (.int .i64), (.int .i64), (.int .i64)] p, .st [(.int .i64), (.int .i64), (.int .i64), (.int .i64), (.int .i64), (.int .i64), .bool] e] [.sc .bool] Q := (pc_149 s n p e).mono fun _ h => h ▸ ho
/- impl.Source -/
def phi_165 : Nat → List D → List D
  | 168, [s, n] => [.int (pieceAt s n.toI)]
  | _, _ => []
theorem pc_165 (s e : D) : PC Try.prog 165 [.st [(.sl [(.int .i64), (.int .i64), (.int .i64), (.int .i64), (.int .i64), (.int .i64), (.int .i64), (.int .i64), (.int .i64), (.int .i64), (.int .i64), .bool, .bool]), (.sl [(.int .i64), (.int .i64), .bool]), (.int .i64), (.int .i64)] s, .st [(.int .i64), (.int .i64), (.int .i64), (.int .i64), (.int .i64), (.int .i64), .bool] e] [.st [(.int .i64), (.int .i64), (.int .i64), (.int .i64), (.int .i64), (.int .i64), (.int .i64), (.int .i64), (.int .i64), (.int .i64), (.int .i64), .bool, .bool]] fun o => o = [source s e] := by
  refine PC.of_sig mix sig_165 ⟨rfl, rfl, trivial⟩ rfl fun hok => ?_
  have e_s : D.lst [s.fld 0, s.fld 1, s.fld 2, s.fld 3] = s := by simpa [List.range, List.range.loop] using okL_eta (hok _ (.head _))
  have k_s : okL [(.sl [(.int .i64), (.int .i64), (.int .i64), (.int .i64), (.int .i64), (.int .i64), (.int .i64), (.int .i64), (.int .i64), (.int .i64), (.int .i64), .bool, .bool]), (.sl [(.int .i64), (.int .i64), .bool]), (.int .i64), (.int .i64)] s := (hok _ (.head _))
  have e_s_0 : D.lst (s.fld 0).toL = s.fld 0 := sl_eta (okL_at k_s (i := 0) rfl)
  have l_s_0 := sl_len (okL_at k_s (i := 0) rfl)
  have k_s_0 := sl_all (okL_at k_s (i := 0) rfl)
  have E_s_0 : ∀ i, i < (s.fld 0).toL.length → D.lst [((s.fld 0).elem i).fld 0, ((s.fld 0).elem i).fld 1, ((s.fld 0).elem i).fld 2, ((s.fld 0).elem i).fld 3, ((s.fld 0).elem i).fld 4, ((s.fld 0).elem i).fld 5, ((s.fld 0).elem i).fld 6, ((s.fld 0).elem i).fld 7, ((s.fld 0).elem i).fld 8, ((s.fld 0).elem i).fld 9, ((s.fld 0).elem i).fld 10, ((s.fld 0).elem i).fld 11, ((s.fld 0).elem i).fld 12] = (s.fld 0).elem i := fun i hi => by simpa [List.range, List.range.loop] using okL_eta (k_s_0 _ (elem_mem hi))
  have e_s_1 : D.lst (s.fld 1).toL = s.fld 1 := sl_eta (okL_at k_s (i := 1) rfl)
  have l_s_1 := sl_len (okL_at k_s (i := 1) rfl)
  have k_s_1 := sl_all (okL_at k_s (i := 1) rfl)
  have E_s_1 : ∀ i, i < (s.fld 1).toL.length → D.lst [((s.fld 1).elem i).fld 0, ((s.fld 1).elem i).fld 1, ((s.fld 1).elem i).fld 2] = (s.fld 1).elem i := fun i hi => by simpa [List.range, List.range.loop] using okL_eta (k_s_1 _ (elem_mem hi))
  have e_e : D.lst [e.fld 0, e.fld 1, e.fld 2, e.fld 3, e.fld 4, e.fld 5, e.fld 6] = e := by simpa [List.range, List.range.loop] using okL_eta (hok _ (.tail _ (.head _)))
  have k_e : okL [(.int .i64), (.int .i64), (.int .i64), (.int .i64), (.int .i64), (.int .i64), .bool] e := (hok _ (.tail _ (.head _)))
  apply says_den (φ := (phi_165))
  have hr := pieceAt_range s (e.fld 1).toI
  simp [e_s_0, E_s_0, e_s_1, E_s_1, e_s, e_e, tree_165, T.says, X.den, O1.den, O2.den, O3.den, callD, XArg.ev, XArg.dat, Callee'.num, backs, DArg.back, Conds.den, cloArgs, phi_165, pd_168]
  (repeat' (first | (with_reducible apply And.intro) | intro _))
  · rw [source, if_pos ‹_›]; rfl
  · omega
  · omega
  · rw [E_s_0 _ (by omega), source, if_neg (by omega)]
theorem pd_165 (s e : D) (Q : List D → Prop) (ho : Q [source s e]) : PC Try.prog 165 [.st [(.sl [(.int .i64), (.int .i64), (.int .i64), (.int .i64), (.int .i64), (.int .i64), (.int .i64), (.int .i64), (.int .i64), (.int .i64), (.int .i64), .bool, .bool]), (.sl [(.int .i64), (.int .i64), .bool]), (.int .i64), (.int .i64)] s, .st [(.int .i64), (.int .i64), (.int .i64), (.int .i64), (.int .i64), (.int .i64), .bool] e] [.st [(.int .i64), (.int .i64), (.int .i64), (.int .i64), (.int .i64), (.int .i64), (.int .i64), (.int .i64), (.int .i64), (.int .i64), (.int .i64), .bool, .bool]] Q := (pc_165 s e).mono fun _ h => h ▸ ho
/- impl.SourceFits -/
def phi_150 : Nat → List D → List D
  | 165, [s, e] => [source s e]
  | _, _ => []
theorem pc_150 (s p e : D) : PC Try.prog 150 [.st [(.sl [(.int .i64), (.int .i64), (.int .i64), (.int .i64), (.int .i64), (.int .i64), (.int .i64), (.int .i64), (.int .i64), (.int .i64), (.int .i64), .bool, .bool]), (.sl [(.int .i64), (.int .i64), .bool]), (.int .i64), (.int .i64)] s, .st [(.int .i64), (.int .i64), (.int .i64), (.int .i64), (.int .i64), (.int .i64), (.int .i64)] p, .st [(.int .i64), (.int .i64), (.int .i64), (.int .i64), (.int .i64), (.int .i64), .bool] e] [.sc .bool] fun o => o = [.bool (sourceFits s p e)] := by
  refine PC.of_sig mix sig_150 ⟨rfl, rfl, rfl, trivial⟩ rfl fun hok => ?_
  have e_s : D.lst [s.fld 0, s.fld 1, s.fld 2, s.fld 3] = s := by simpa [List.range, List.range.loop] using okL_eta (hok _ (.head _))
  have k_s : okL [(.sl [(.int .i64), (.int .i64), (.int .i64), (.int .i64), (.int .i64), (.int .i64), (.int .i64), (.int .i64), (.int .i64), (.int .i64), (.int .i64), .bool, .bool]), (.sl [(.int .i64), (.int .i64), .bool]), (.int .i64), (.int .i64)] s := (hok _ (.head _))
  have e_s_0 : D.lst (s.fld 0).toL = s.fld 0 := sl_eta (okL_at k_s (i := 0) rfl)
  have l_s_0 := sl_len (okL_at k_s (i := 0) rfl)
  have k_s_0 := sl_all (okL_at k_s (i := 0) rfl)
  have E_s_0 : ∀ i, i < (s.fld 0).toL.length → D.lst [((s.fld 0).elem i).fld 0, ((s.fld 0).elem i).fld 1, ((s.fld 0).elem i).fld 2, ((s.fld 0).elem i).fld 3, ((s.fld 0).elem i).fld 4, ((s.fld 0).elem i).fld 5, ((s.fld 0).elem i).fld 6, ((s.fld 0).elem i).fld 7, ((s.fld 0).elem i).fld 8, ((s.fld 0).elem i).fld 9, ((s.fld 0).elem i).fld 10, ((s.fld 0).elem i).fld 11, ((s.fld 0).elem i).fld 12] = (s.fld 0).elem i := fun i hi => by simpa [List.range, List.range.loop] using okL_eta (k_s_0 _ (elem_mem hi))
  have e_s_1 : D.lst (s.fld 1).toL = s.fld 1 := sl_eta (okL_at k_s (i := 1) rfl)
  have l_s_1 := sl_len (okL_at k_s (i := 1) rfl)
  have k_s_1 := sl_all (okL_at k_s (i := 1) rfl)
  have E_s_1 : ∀ i, i < (s.fld 1).toL.length → D.lst [((s.fld 1).elem i).fld 0, ((s.fld 1).elem i).fld 1, ((s.fld 1).elem i).fld 2] = (s.fld 1).elem i := fun i hi => by simpa [List.range, List.range.loop] using okL_eta (k_s_1 _ (elem_mem hi))
  have e_p : D.lst [p.fld 0, p.fld 1, p.fld 2, p.fld 3, p.fld 4, p.fld 5, p.fld 6] = p := by simpa [List.range, List.range.loop] using okL_eta (hok _ (.tail _ (.head _)))
  have k_p : okL [(.int .i64), (.int .i64), (.int .i64), (.int .i64), (.int .i64), (.int .i64), (.int .i64)] p := (hok _ (.tail _ (.head _)))
  have e_e : D.lst [e.fld 0, e.fld 1, e.fld 2, e.fld 3, e.fld 4, e.fld 5, e.fld 6] = e := by simpa [List.range, List.range.loop] using okL_eta (hok _ (.tail _ (.tail _ (.head _))))
  have k_e : okL [(.int .i64), (.int .i64), (.int .i64), (.int .i64), (.int .i64), (.int .i64), .bool] e := (hok _ (.tail _ (.tail _ (.head _))))
  apply says_den (φ := (phi_150))
  simp [e_s_0, E_s_0, e_s_1, E_s_1, e_s, e_p, e_e, tree_150, T.says, X.den, O1.den, O2.den, O3.den, callD, XArg.ev, XArg.dat, Callee'.num, backs, DArg.back, Conds.den, cloArgs, phi_150, pd_165, sourceFits]
  all_goals grind
theorem pd_150 (s p e : D) (Q : List D → Prop) (ho : Q [.bool (sourceFits s p e)]) : PC Try.prog 150 [.st [(.sl [(.int .i64), (.int .i64), (.int .i64), (.int .i64), (.int .i64), (.int .i64), (.int .i64), (.int .i64), (.int .i64), (.int .i64), (.int .i64), .bool, .bool]), (.sl [(.int .i64), (.int .i64), .bool]), (.int .i64), (.int .i64)] s, .st [(.int .i64), (.int .i64), (.int .i64), (.int .i64), (.int .i64), (.int .i64), (.int .i64)] p, .st [(.int .i64), (.int .i64), (.int .i64), (.int .i64), (.int .i64), (.int .i64), .bool] e] [.sc .bool] Q := (pc_150 s p e).mono fun _ h => h ▸ ho
/- impl.PatFits -/
def phi_112 : Nat → List D → List D
  | 81, [d] => [.bool (patOk d)]
  | 97, [e] => [.bool (eventOk e)]
  | 149, [s, n, p, e] => [.bool (targetFits s n.toI p e)]
  | 150, [s, p, e] => [.bool (sourceFits s p e)]
  | _, _ => []
theorem pc_112 (s n p e : D) : PC Try.prog 112 [.st [(.sl [(.int .i64), (.int .i64), (.int .i64), (.int .i64), (.int .i64), (.int .i64), (.int .i64), (.int .i64), (.int .i64), (.int .i64), (.int .i64), .bool, .bool]), (.sl [(.int .i64), (.int .i64), .bool]), (.int .i64), (.int .i64)] s, .sc (.int .i64) n, .st [(.int .i64), (.int .i64), (.int .i64), (.int .i64), (.int .i64), (.int .i64), (.int .i64)] p, .st [(.int .i64), (.int .i64), (.int .i64), (.int .i64), (.int .i64), (.int .i64), .bool] e] [.sc .bool] fun o => o = [.bool (patFits s n.toI p e)] := by
  refine PC.of_sig mix sig_112 ⟨rfl, rfl, rfl, rfl, trivial⟩ rfl fun hok => ?_
  have e_s : D.lst [s.fld 0, s.fld 1, s.fld 2, s.fld 3] = s := by simpa [List.range, List.range.loop] using okL_eta (hok _ (.head _))
  have k_s : okL [(.sl [(.int .i64), (.int .i64), (.int .i64), (.int .i64), (.int .i64), (.int .i64), (.int .i64), (.int .i64), (.int .i64), (.int .i64), (.int .i64), .bool, .bool]), (.sl [(.int .i64), (.int .i64), .bool]), (.int .i64), (.int .i64)] s := (hok _ (.head _))
  have e_s_0 : D.lst (s.fld 0).toL = s.fld 0 := sl_eta (okL_at k_s (i := 0) rfl)
  have l_s_0 := sl_len (okL_at k_s (i := 0) rfl)
  have k_s_0 := sl_all (okL_at k_s (i := 0) rfl)
  have E_s_0 : ∀ i, i < (s.fld 0).toL.length → D.lst [((s.fld 0).elem i).fld 0, ((s.fld 0).elem i).fld 1, ((s.fld 0).elem i).fld 2, ((s.fld 0).elem i).fld 3, ((s.fld 0).elem i).fld 4, ((s.fld 0).elem i).fld 5, ((s.fld 0).elem i).fld 6, ((s.fld 0).elem i).fld 7, ((s.fld 0).elem i).fld 8, ((s.fld 0).elem i).fld 9, ((s.fld 0).elem i).fld 10, ((s.fld 0).elem i).fld 11, ((s.fld 0).elem i).fld 12] = (s.fld 0).elem i := fun i hi => by simpa [List.range, List.range.loop] using okL_eta (k_s_0 _ (elem_mem hi))
  have e_s_1 : D.lst (s.fld 1).toL = s.fld 1 := sl_eta (okL_at k_s (i := 1) rfl)
  have l_s_1 := sl_len (okL_at k_s (i := 1) rfl)
  have k_s_1 := sl_all (okL_at k_s (i := 1) rfl)
  have E_s_1 : ∀ i, i < (s.fld 1).toL.length → D.lst [((s.fld 1).elem i).fld 0, ((s.fld 1).elem i).fld 1, ((s.fld 1).elem i).fld 2] = (s.fld 1).elem i := fun i hi => by simpa [List.range, List.range.loop] using okL_eta (k_s_1 _ (elem_mem hi))
  have e_n := int_eta (hok _ (.tail _ (.head _)))
  have b_n := int_range (hok _ (.tail _ (.head _)))
  have e_p : D.lst [p.fld 0, p.fld 1, p.fld 2, p.fld 3, p.fld 4, p.fld 5, p.fld 6] = p := by simpa [List.range, List.range.loop] using okL_eta (hok _ (.tail _ (.tail _ (.head _))))
  have k_p : okL [(.int .i64), (.int .i64), (.int .i64), (.int .i64), (.int .i64), (.int .i64), (.int .i64)] p := (hok _ (.tail _ (.tail _ (.head _))))
  have e_e : D.lst [e.fld 0, e.fld 1, e.fld 2, e.fld 3, e.fld 4, e.fld 5, e.fld 6] = e := by simpa [List.range, List.range.loop] using okL_eta (hok _ (.tail _ (.tail _ (.tail _ (.head _)))))
  have k_e : okL [(.int .i64), (.int .i64), (.int .i64), (.int .i64), (.int .i64), (.int .i64), .bool] e := (hok _ (.tail _ (.tail _ (.tail _ (.head _)))))
  apply says_den (φ := (phi_112))
  simp [e_s_0, E_s_0, e_s_1, E_s_1, e_s, e_n, e_p, e_e, tree_112, T.says, X.den, O1.den, O2.den, O3.den, callD, XArg.ev, XArg.dat, Callee'.num, backs, DArg.back, Conds.den, cloArgs, phi_112, pd_81, pd_97, pd_149, pd_150, patFits]
  all_goals grind
theorem pd_112 (s n p e : D) (Q : List D → Prop) (ho : Q [.bool (patFits s n.toI p e)]) : PC Try.prog 112 [.st [(.sl [(.int .i64), (.int .i64), (.int .i64), (.int .i64), (.int .i64), (.int .i64), (.int .i64), (.int .i64), (.int .i64), (.int .i64), (.int .i64), .bool, .bool]), (.sl [(.int .i64), (.int .i64), .bool]), (.int .i64), (.int .i64)] s, .sc (.int .i64) n, .st [(.int .i64), (.int .i64), (.int .i64), (.int .i64), (.int .i64), (.int .i64), (.int .i64)] p, .st [(.int .i64), (.int .i64), (.int .i64), (.int .i64), (.int .i64), (.int .i64), .bool] e] [.sc .bool] Q := (pc_112 s n p e).mono fun _ h => h ▸ ho
/- impl.Fits -/
def phi_49 : Nat → List D → List D
  | 29, [e] => [.bool (effectOk e)]
  | 89, [e, n] => [.bool (lives e n.toI)]
  | 110, [e, v] => [.bool (near e v)]
  | 111, [s, n, g] => [.bool (holds s n.toI g)]
  | 112, [s, n, p, e] => [.bool (patFits s n.toI p e)]
  | _, _ => []
theorem pc_49 (s e v : D) (h : ((s.fld 0).toL.length : Int) ≤ 1048576) : PC Try.prog 49 [.st [(.sl [(.int .i64), (.int .i64), (.int .i64), (.int .i64), (.int .i64), (.int .i64), (.int .i64), (.int .i64), (.int .i64), (.int .i64), (.int .i64), .bool, .bool]), (.sl [(.int .i64), (.int .i64), .bool]), (.int .i64), (.int .i64)] s, .st [(.int .i64), (.int .i64), (.int .i64), (.int .i64), (.int .i64), (.int .i64), (.int .i64), (.int .i64), (.int .i64), (.int .i64), (.int .i64), (.int .i64), (.int .i64), (.int .i64), (.int .i64), (.int .i64), (.int .i64), (.int .i64), .bool, (.sl [(.int .i64), (.int .i64), (.int .i64), (.int .i64), (.int .i64), (.int .i64), .bool]), (.int .i64), (.int .i64)] e, .st [(.int .i64), (.int .i64), (.int .i64), (.int .i64), (.int .i64), (.int .i64), .bool] v] [.sc .bool] fun o => o = [.bool (fitsE s e v)] := by
  refine PC.of_sig mix sig_49 ⟨rfl, rfl, rfl, trivial⟩ rfl fun hok => ?_
  have e_s : D.lst [s.fld 0, s.fld 1, s.fld 2, s.fld 3] = s := by simpa [List.range, List.range.loop] using okL_eta (hok _ (.head _))
  have k_s : okL [(.sl [(.int .i64), (.int .i64), (.int .i64), (.int .i64), (.int .i64), (.int .i64), (.int .i64), (.int .i64), (.int .i64), (.int .i64), (.int .i64), .bool, .bool]), (.sl [(.int .i64), (.int .i64), .bool]), (.int .i64), (.int .i64)] s := (hok _ (.head _))
  have e_s_0 : D.lst (s.fld 0).toL = s.fld 0 := sl_eta (okL_at k_s (i := 0) rfl)
  have l_s_0 := sl_len (okL_at k_s (i := 0) rfl)
  have k_s_0 := sl_all (okL_at k_s (i := 0) rfl)
  have E_s_0 : ∀ i, i < (s.fld 0).toL.length → D.lst [((s.fld 0).elem i).fld 0, ((s.fld 0).elem i).fld 1, ((s.fld 0).elem i).fld 2, ((s.fld 0).elem i).fld 3, ((s.fld 0).elem i).fld 4, ((s.fld 0).elem i).fld 5, ((s.fld 0).elem i).fld 6, ((s.fld 0).elem i).fld 7, ((s.fld 0).elem i).fld 8, ((s.fld 0).elem i).fld 9, ((s.fld 0).elem i).fld 10, ((s.fld 0).elem i).fld 11, ((s.fld 0).elem i).fld 12] = (s.fld 0).elem i := fun i hi => by simpa [List.range, List.range.loop] using okL_eta (k_s_0 _ (elem_mem hi))
  have e_s_1 : D.lst (s.fld 1).toL = s.fld 1 := sl_eta (okL_at k_s (i := 1) rfl)
  have l_s_1 := sl_len (okL_at k_s (i := 1) rfl)
  have k_s_1 := sl_all (okL_at k_s (i := 1) rfl)
  have E_s_1 : ∀ i, i < (s.fld 1).toL.length → D.lst [((s.fld 1).elem i).fld 0, ((s.fld 1).elem i).fld 1, ((s.fld 1).elem i).fld 2] = (s.fld 1).elem i := fun i hi => by simpa [List.range, List.range.loop] using okL_eta (k_s_1 _ (elem_mem hi))
  have e_e : D.lst [e.fld 0, e.fld 1, e.fld 2, e.fld 3, e.fld 4, e.fld 5, e.fld 6, e.fld 7, e.fld 8, e.fld 9, e.fld 10, e.fld 11, e.fld 12, e.fld 13, e.fld 14, e.fld 15, e.fld 16, e.fld 17, e.fld 18, e.fld 19, e.fld 20, e.fld 21] = e := by simpa [List.range, List.range.loop] using okL_eta (hok _ (.tail _ (.head _)))
  have k_e : okL [(.int .i64), (.int .i64), (.int .i64), (.int .i64), (.int .i64), (.int .i64), (.int .i64), (.int .i64), (.int .i64), (.int .i64), (.int .i64), (.int .i64), (.int .i64), (.int .i64), (.int .i64), (.int .i64), (.int .i64), (.int .i64), .bool, (.sl [(.int .i64), (.int .i64), (.int .i64), (.int .i64), (.int .i64), (.int .i64), .bool]), (.int .i64), (.int .i64)] e := (hok _ (.tail _ (.head _)))
  have e_e_19 : D.lst (e.fld 19).toL = e.fld 19 := sl_eta (okL_at k_e (i := 19) rfl)
  have l_e_19 := sl_len (okL_at k_e (i := 19) rfl)
  have k_e_19 := sl_all (okL_at k_e (i := 19) rfl)
  have E_e_19 : ∀ i, i < (e.fld 19).toL.length → D.lst [((e.fld 19).elem i).fld 0, ((e.fld 19).elem i).fld 1, ((e.fld 19).elem i).fld 2, ((e.fld 19).elem i).fld 3, ((e.fld 19).elem i).fld 4, ((e.fld 19).elem i).fld 5, ((e.fld 19).elem i).fld 6] = (e.fld 19).elem i := fun i hi => by simpa [List.range, List.range.loop] using okL_eta (k_e_19 _ (elem_mem hi))
  have e_v : D.lst [v.fld 0, v.fld 1, v.fld 2, v.fld 3, v.fld 4, v.fld 5, v.fld 6] = v := by simpa [List.range, List.range.loop] using okL_eta (hok _ (.tail _ (.tail _ (.head _))))
  have k_v : okL [(.int .i64), (.int .i64), (.int .i64), (.int .i64), (.int .i64), (.int .i64), .bool] v := (hok _ (.tail _ (.tail _ (.head _))))
  apply says_den (φ := (phi_49))
  simp [e_s_0, E_s_0, e_s_1, E_s_1, e_e_19, E_e_19, e_s, e_e, e_v, tree_49, T.says, X.den, O1.den, O2.den, O3.den, callD, XArg.ev, XArg.dat, Callee'.num, backs, DArg.back, Conds.den, cloArgs, phi_49, pd_29, pd_89, pd_110, pd_111, pd_112, h, fitsE, patOf, grdOf]
theorem pd_49 (s e v : D) (h : ((s.fld 0).toL.length : Int) ≤ 1048576) (Q : List D → Prop) (ho : Q [.bool (fitsE s e v)]) : PC Try.prog 49 [.st [(.sl [(.int .i64), (.int .i64), (.int .i64), (.int .i64), (.int .i64), (.int .i64), (.int .i64), (.int .i64), (.int .i64), (.int .i64), (.int .i64), .bool, .bool]), (.sl [(.int .i64), (.int .i64), .bool]), (.int .i64), (.int .i64)] s, .st [(.int .i64), (.int .i64), (.int .i64), (.int .i64), (.int .i64), (.int .i64), (.int .i64), (.int .i64), (.int .i64), (.int .i64), (.int .i64), (.int .i64), (.int .i64), (.int .i64), (.int .i64), (.int .i64), (.int .i64), (.int .i64), .bool, (.sl [(.int .i64), (.int .i64), (.int .i64), (.int .i64), (.int .i64), (.int .i64), .bool]), (.int .i64), (.int .i64)] e, .st [(.int .i64), (.int .i64), (.int .i64), (.int .i64), (.int .i64), (.int .i64), .bool] v] [.sc .bool] Q := (pc_49 s e v h).mono fun _ h => h ▸ ho
/- laws.eqPiece -/
theorem pc_151 (d e : D) (h : d = e) : PC Try.prog 151 [.st [(.int .i64), (.int .i64), (.int .i64), (.int .i64), (.int .i64), (.int .i64), (.int .i64), (.int .i64), (.int .i64), (.int .i64), (.int .i64), .bool, .bool] d, .st [(.int .i64), (.int .i64), (.int .i64), (.int .i64), (.int .i64), (.int .i64), (.int .i64), (.int .i64), (.int .i64), (.int .i64), (.int .i64), .bool, .bool] e] [.sc .bool] fun o => o = [.bool true] := by
  refine PC.of_sig mix sig_151 ⟨rfl, rfl, trivial⟩ rfl fun hok => ?_
  have e_d : D.lst [d.fld 0, d.fld 1, d.fld 2, d.fld 3, d.fld 4, d.fld 5, d.fld 6, d.fld 7, d.fld 8, d.fld 9, d.fld 10, d.fld 11, d.fld 12] = d := by simpa [List.range, List.range.loop] using okL_eta (hok _ (.head _))
  have k_d : okL [(.int .i64), (.int .i64), (.int .i64), (.int .i64), (.int .i64), (.int .i64), (.int .i64), (.int .i64), (.int .i64), (.int .i64), (.int .i64), .bool, .bool] d := (hok _ (.head _))
  have e_e : D.lst [e.fld 0, e.fld 1, e.fld 2, e.fld 3, e.fld 4, e.fld 5, e.fld 6, e.fld 7, e.fld 8, e.fld 9, e.fld 10, e.fld 11, e.fld 12] = e := by simpa [List.range, List.range.loop] using okL_eta (hok _ (.tail _ (.head _)))
  have k_e : okL [(.int .i64), (.int .i64), (.int .i64), (.int .i64), (.int .i64), (.int .i64), (.int .i64), (.int .i64), (.int .i64), (.int .i64), (.int .i64), .bool, .bool] e := (hok _ (.tail _ (.head _)))
  subst h
  apply says_den (φ := fun _ _ => [])
  simp [e_d, e_e, tree_151, T.says, X.den, O1.den, O2.den, O3.den, callD, XArg.ev, XArg.dat, Callee'.num, backs, DArg.back, Conds.den, cloArgs]
theorem pd_151 (d e : D) (h : d = e) (Q : List D → Prop) (ho : Q [.bool true]) : PC Try.prog 151 [.st [(.int .i64), (.int .i64), (.int .i64), (.int .i64), (.int .i64), (.int .i64), (.int .i64), (.int .i64), (.int .i64), (.int .i64), (.int .i64), .bool, .bool] d, .st [(.int .i64), (.int .i64), (.int .i64), (.int .i64), (.int .i64), (.int .i64), (.int .i64), (.int .i64), (.int .i64), (.int .i64), (.int .i64), .bool, .bool] e] [.sc .bool] Q := (pc_151 d e h).mono fun _ h => h ▸ ho
/- laws.eqPieceS -/
def phi_113 : Nat → List D → List D
  | 151, [d, e] => [.bool true]
  | _, _ => []
theorem pc_113 (d e : D) (h : d = e) : PC Try.prog 113 [.sc (.sl [(.int .i64), (.int .i64), (.int .i64), (.int .i64), (.int .i64), (.int .i64), (.int .i64), (.int .i64), (.int .i64), (.int .i64), (.int .i64), .bool, .bool]) d, .sc (.sl [(.int .i64), (.int .i64), (.int .i64), (.int .i64), (.int .i64), (.int .i64), (.int .i64), (.int .i64), (.int .i64), (.int .i64), (.int .i64), .bool, .bool]) e] [.sc .bool] fun o => o = [.bool true] := by
  refine PC.of_sig mix sig_113 ⟨rfl, rfl, trivial⟩ rfl fun hok => ?_
  have e_d := sl_eta (hok _ (.head _))
  have l_d := sl_len (hok _ (.head _))
  have k_d := sl_all (hok _ (.head _))
  have E_d : ∀ i, i < d.toL.length → D.lst [(d.elem i).fld 0, (d.elem i).fld 1, (d.elem i).fld 2, (d.elem i).fld 3, (d.elem i).fld 4, (d.elem i).fld 5, (d.elem i).fld 6, (d.elem i).fld 7, (d.elem i).fld 8, (d.elem i).fld 9, (d.elem i).fld 10, (d.elem i).fld 11, (d.elem i).fld 12] = d.elem i := fun i hi => by simpa [List.range, List.range.loop] using okL_eta (k_d _ (elem_mem hi))
  have e_e := sl_eta (hok _ (.tail _ (.head _)))
  have l_e := sl_len (hok _ (.tail _ (.head _)))
  have k_e := sl_all (hok _ (.tail _ (.head _)))
  have E_e : ∀ i, i < e.toL.length → D.lst [(e.elem i).fld 0, (e.elem i).fld 1, (e.elem i).fld 2, (e.elem i).fld 3, (e.elem i).fld 4, (e.elem i).fld 5, (e.elem i).fld 6, (e.elem i).fld 7, (e.elem i).fld 8, (e.elem i).fld 9, (e.elem i).fld 10, (e.elem i).fld 11, (e.elem i).fld 12] = e.elem i := fun i hi => by simpa [List.range, List.range.loop] using okL_eta (k_e _ (elem_mem hi))
  subst h
  apply says_den (φ := (phi_113))
  simp [e_d, e_e, E_d, E_e, tree_113, T.says, X.den, O1.den, O2.den, O3.den, callD, XArg.ev, XArg.dat, Callee'.num, backs, DArg.back, Conds.den, cloArgs, phi_113, pd_151]
  refine fun _ => ?_
  refine den_for d.toL.length 0 (fun i => [.int i]) (fun _ => True) (by simp) (by simp [X.den]) trivial fun i hi _ => ?_
  apply says_den (φ := (phi_113))
  simp [e_d, e_e, E_d, E_e, tree_113, T.says, X.den, O1.den, O2.den, O3.den, callD, XArg.ev, XArg.dat, Callee'.num, backs, DArg.back, Conds.den, cloArgs, phi_113, pd_151]
  (repeat' (first | (with_reducible apply And.intro) | intro _)) <;> (first | omega | (simp only [IntKind.wrap_i64, maxL] at *; omega) | (simp [IntKind.wrap_i64, maxL] at *; omega))
theorem pd_113 (d e : D) (h : d = e) (Q : List D → Prop) (ho : Q [.bool true]) : PC Try.prog 113 [.sc (.sl [(.int .i64), (.int .i64), (.int .i64), (.int .i64), (.int .i64), (.int .i64), (.int .i64), (.int .i64), (.int .i64), (.int .i64), (.int .i64), .bool, .bool]) d, .sc (.sl [(.int .i64), (.int .i64), (.int .i64), (.int .i64), (.int .i64), (.int .i64), (.int .i64), (.int .i64), (.int .i64), (.int .i64), (.int .i64), .bool, .bool]) e] [.sc .bool] Q := (pc_113 d e h).mono fun _ h => h ▸ ho
/- laws.eqSide -/
theorem pc_152 (d e : D) (h : d = e) : PC Try.prog 152 [.st [(.int .i64), (.int .i64), .bool] d, .st [(.int .i64), (.int .i64), .bool] e] [.sc .bool] fun o => o = [.bool true] := by
  refine PC.of_sig mix sig_152 ⟨rfl, rfl, trivial⟩ rfl fun hok => ?_
  have e_d : D.lst [d.fld 0, d.fld 1, d.fld 2] = d := by simpa [List.range, List.range.loop] using okL_eta (hok _ (.head _))
  have k_d : okL [(.int .i64), (.int .i64), .bool] d := (hok _ (.head _))
  have e_e : D.lst [e.fld 0, e.fld 1, e.fld 2] = e := by simpa [List.range, List.range.loop] using okL_eta (hok _ (.tail _ (.head _)))
  have k_e : okL [(.int .i64), (.int .i64), .bool] e := (hok _ (.tail _ (.head _)))
  subst h
  apply says_den (φ := fun _ _ => [])
  simp [e_d, e_e, tree_152, T.says, X.den, O1.den, O2.den, O3.den, callD, XArg.ev, XArg.dat, Callee'.num, backs, DArg.back, Conds.den, cloArgs]
theorem pd_152 (d e : D) (h : d = e) (Q : List D → Prop) (ho : Q [.bool true]) : PC Try.prog 152 [.st [(.int .i64), (.int .i64), .bool] d, .st [(.int .i64), (.int .i64), .bool] e] [.sc .bool] Q := (pc_152 d e h).mono fun _ h => h ▸ ho
/- laws.eqSideS -/
def phi_114 : Nat → List D → List D
  | 152, [d, e] => [.bool true]
  | _, _ => []
theorem pc_114 (d e : D) (h : d = e) : PC Try.prog 114 [.sc (.sl [(.int .i64), (.int .i64), .bool]) d, .sc (.sl [(.int .i64), (.int .i64), .bool]) e] [.sc .bool] fun o => o = [.bool true] := by
  refine PC.of_sig mix sig_114 ⟨rfl, rfl, trivial⟩ rfl fun hok => ?_
  have e_d := sl_eta (hok _ (.head _))
  have l_d := sl_len (hok _ (.head _))
  have k_d := sl_all (hok _ (.head _))
  have E_d : ∀ i, i < d.toL.length → D.lst [(d.elem i).fld 0, (d.elem i).fld 1, (d.elem i).fld 2] = d.elem i := fun i hi => by simpa [List.range, List.range.loop] using okL_eta (k_d _ (elem_mem hi))
  have e_e := sl_eta (hok _ (.tail _ (.head _)))
  have l_e := sl_len (hok _ (.tail _ (.head _)))
  have k_e := sl_all (hok _ (.tail _ (.head _)))
  have E_e : ∀ i, i < e.toL.length → D.lst [(e.elem i).fld 0, (e.elem i).fld 1, (e.elem i).fld 2] = e.elem i := fun i hi => by simpa [List.range, List.range.loop] using okL_eta (k_e _ (elem_mem hi))
  subst h
  apply says_den (φ := (phi_114))
  simp [e_d, e_e, E_d, E_e, tree_114, T.says, X.den, O1.den, O2.den, O3.den, callD, XArg.ev, XArg.dat, Callee'.num, backs, DArg.back, Conds.den, cloArgs, phi_114, pd_152]
  refine fun _ => ?_
  refine den_for d.toL.length 0 (fun i => [.int i]) (fun _ => True) (by simp) (by simp [X.den]) trivial fun i hi _ => ?_
  apply says_den (φ := (phi_114))
  simp [e_d, e_e, E_d, E_e, tree_114, T.says, X.den, O1.den, O2.den, O3.den, callD, XArg.ev, XArg.dat, Callee'.num, backs, DArg.back, Conds.den, cloArgs, phi_114, pd_152]
  (repeat' (first | (with_reducible apply And.intro) | intro _)) <;> (first | omega | (simp only [IntKind.wrap_i64, maxL] at *; omega) | (simp [IntKind.wrap_i64, maxL] at *; omega))
theorem pd_114 (d e : D) (h : d = e) (Q : List D → Prop) (ho : Q [.bool true]) : PC Try.prog 114 [.sc (.sl [(.int .i64), (.int .i64), .bool]) d, .sc (.sl [(.int .i64), (.int .i64), .bool]) e] [.sc .bool] Q := (pc_114 d e h).mono fun _ h => h ▸ ho
/- laws.eqState -/
def phi_50 : Nat → List D → List D
  | 113, [d, e] => [.bool true]
  | 114, [d, e] => [.bool true]
  | _, _ => []
theorem pc_50 (d e : D) (h : d = e) : PC Try.prog 50 [.st [(.sl [(.int .i64), (.int .i64), (.int .i64), (.int .i64), (.int .i64), (.int .i64), (.int .i64), (.int .i64), (.int .i64), (.int .i64), (.int .i64), .bool, .bool]), (.sl [(.int .i64), (.int .i64), .bool]), (.int .i64), (.int .i64)] d, .st [(.sl [(.int .i64), (.int .i64), (.int .i64), (.int .i64), (.int .i64), (.int .i64), (.int .i64), (.int .i64), (.int .i64), (.int .i64), (.int .i64), .bool, .bool]), (.sl [(.int .i64), (.int .i64), .bool]), (.int .i64), (.int .i64)] e] [.sc .bool] fun o => o = [.bool true] := by
  refine PC.of_sig mix sig_50 ⟨rfl, rfl, trivial⟩ rfl fun hok => ?_
  have e_d : D.lst [d.fld 0, d.fld 1, d.fld 2, d.fld 3] = d := by simpa [List.range, List.range.loop] using okL_eta (hok _ (.head _))
  have k_d : okL [(.sl [(.int .i64), (.int .i64), (.int .i64), (.int .i64), (.int .i64), (.int .i64), (.int .i64), (.int .i64), (.int .i64), (.int .i64), (.int .i64), .bool, .bool]), (.sl [(.int .i64), (.int .i64), .bool]), (.int .i64), (.int .i64)] d := (hok _ (.head _))
  have e_d_0 : D.lst (d.fld 0).toL = d.fld 0 := sl_eta (okL_at k_d (i := 0) rfl)
  have l_d_0 := sl_len (okL_at k_d (i := 0) rfl)
  have k_d_0 := sl_all (okL_at k_d (i := 0) rfl)
  have E_d_0 : ∀ i, i < (d.fld 0).toL.length → D.lst [((d.fld 0).elem i).fld 0, ((d.fld 0).elem i).fld 1, ((d.fld 0).elem i).fld 2, ((d.fld 0).elem i).fld 3, ((d.fld 0).elem i).fld 4, ((d.fld 0).elem i).fld 5, ((d.fld 0).elem i).fld 6, ((d.fld 0).elem i).fld 7, ((d.fld 0).elem i).fld 8, ((d.fld 0).elem i).fld 9, ((d.fld 0).elem i).fld 10, ((d.fld 0).elem i).fld 11, ((d.fld 0).elem i).fld 12] = (d.fld 0).elem i := fun i hi => by simpa [List.range, List.range.loop] using okL_eta (k_d_0 _ (elem_mem hi))
  have e_d_1 : D.lst (d.fld 1).toL = d.fld 1 := sl_eta (okL_at k_d (i := 1) rfl)
  have l_d_1 := sl_len (okL_at k_d (i := 1) rfl)
  have k_d_1 := sl_all (okL_at k_d (i := 1) rfl)
  have E_d_1 : ∀ i, i < (d.fld 1).toL.length → D.lst [((d.fld 1).elem i).fld 0, ((d.fld 1).elem i).fld 1, ((d.fld 1).elem i).fld 2] = (d.fld 1).elem i := fun i hi => by simpa [List.range, List.range.loop] using okL_eta (k_d_1 _ (elem_mem hi))
  have e_e : D.lst [e.fld 0, e.fld 1, e.fld 2, e.fld 3] = e := by simpa [List.range, List.range.loop] using okL_eta (hok _ (.tail _ (.head _)))
  have k_e : okL [(.sl [(.int .i64), (.int .i64), (.int .i64), (.int .i64), (.int .i64), (.int .i64), (.int .i64), (.int .i64), (.int .i64), (.int .i64), (.int .i64), .bool, .bool]), (.sl [(.int .i64), (.int .i64), .bool]), (.int .i64), (.int .i64)] e := (hok _ (.tail _ (.head _)))
  have e_e_0 : D.lst (e.fld 0).toL = e.fld 0 := sl_eta (okL_at k_e (i := 0) rfl)
  have l_e_0 := sl_len (okL_at k_e (i := 0) rfl)
  have k_e_0 := sl_all (okL_at k_e (i := 0) rfl)
  have E_e_0 : ∀ i, i < (e.fld 0).toL.length → D.lst [((e.fld 0).elem i).fld 0, ((e.fld 0).elem i).fld 1, ((e.fld 0).elem i).fld 2, ((e.fld 0).elem i).fld 3, ((e.fld 0).elem i).fld 4, ((e.fld 0).elem i).fld 5, ((e.fld 0).elem i).fld 6, ((e.fld 0).elem i).fld 7, ((e.fld 0).elem i).fld 8, ((e.fld 0).elem i).fld 9, ((e.fld 0).elem i).fld 10, ((e.fld 0).elem i).fld 11, ((e.fld 0).elem i).fld 12] = (e.fld 0).elem i := fun i hi => by simpa [List.range, List.range.loop] using okL_eta (k_e_0 _ (elem_mem hi))
  have e_e_1 : D.lst (e.fld 1).toL = e.fld 1 := sl_eta (okL_at k_e (i := 1) rfl)
  have l_e_1 := sl_len (okL_at k_e (i := 1) rfl)
  have k_e_1 := sl_all (okL_at k_e (i := 1) rfl)
  have E_e_1 : ∀ i, i < (e.fld 1).toL.length → D.lst [((e.fld 1).elem i).fld 0, ((e.fld 1).elem i).fld 1, ((e.fld 1).elem i).fld 2] = (e.fld 1).elem i := fun i hi => by simpa [List.range, List.range.loop] using okL_eta (k_e_1 _ (elem_mem hi))
  subst h
  apply says_den (φ := (phi_50))
  simp [e_d_0, E_d_0, e_d_1, E_d_1, e_e_0, E_e_0, e_e_1, E_e_1, e_d, e_e, tree_50, T.says, X.den, O1.den, O2.den, O3.den, callD, XArg.ev, XArg.dat, Callee'.num, backs, DArg.back, Conds.den, cloArgs, phi_50, pd_113, pd_114]
theorem pd_50 (d e : D) (h : d = e) (Q : List D → Prop) (ho : Q [.bool true]) : PC Try.prog 50 [.st [(.sl [(.int .i64), (.int .i64), (.int .i64), (.int .i64), (.int .i64), (.int .i64), (.int .i64), (.int .i64), (.int .i64), (.int .i64), (.int .i64), .bool, .bool]), (.sl [(.int .i64), (.int .i64), .bool]), (.int .i64), (.int .i64)] d, .st [(.sl [(.int .i64), (.int .i64), (.int .i64), (.int .i64), (.int .i64), (.int .i64), (.int .i64), (.int .i64), (.int .i64), (.int .i64), (.int .i64), .bool, .bool]), (.sl [(.int .i64), (.int .i64), .bool]), (.int .i64), (.int .i64)] e] [.sc .bool] Q := (pc_50 d e h).mono fun _ h => h ▸ ho
end Go.Proofs.Ytfbahdalemajcaa
