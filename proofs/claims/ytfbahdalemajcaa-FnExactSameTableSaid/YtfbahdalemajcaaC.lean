/- The contracts of the functions that this claim reaches: what each hands back, for all data. -/
import Derived.Test.YtfbahdalemajcaaT
import Derived.Test.YtfbahdalemajcaaS
namespace Go.Proofs.Ytfbahdalemajcaa
open Go.Proofs.Ytfbahdalemajcaa.Eng
set_option maxRecDepth 100000
set_option maxHeartbeats 2000000
set_option linter.unusedSimpArgs false
set_option linter.unusedVariables false
/- laws.szEventS -/
theorem pc_118 (d n : D) (hn : 0 ≤ n.toI) : PC Try.prog 118 [.sc (.sl [(.int .i64), (.int .i64), (.int .i64), (.int .i64), (.int .i64), (.int .i64), .bool]) d, .sc (.int .i64) n] [.sc (.int .i64)] fun o => o = [.int (szS n.toI d.toL.length)] := by
  refine PC.of_sig mix sig_118 ⟨rfl, rfl, trivial⟩ rfl fun hok => ?_
  have e_d := sl_eta (hok _ (.head _))
  have l_d := sl_len (hok _ (.head _))
  have k_d := sl_all (hok _ (.head _))
  have E_d : ∀ i, i < d.toL.length → D.lst [(d.elem i).fld 0, (d.elem i).fld 1, (d.elem i).fld 2, (d.elem i).fld 3, (d.elem i).fld 4, (d.elem i).fld 5, (d.elem i).fld 6] = d.elem i := fun i hi => by simpa [List.range, List.range.loop] using okL_eta (k_d _ (elem_mem hi))
  have e_n := int_eta (hok _ (.tail _ (.head _)))
  have b_n := int_range (hok _ (.tail _ (.head _)))
  have hw : IntKind.i64.wrap (n.toI - d.toL.length) = n.toI - d.toL.length := by (first | omega | (simp only [IntKind.wrap_i64, maxL] at *; omega) | (simp [IntKind.wrap_i64, maxL] at *; omega))
  apply says_den (φ := fun _ _ => [])
  simp [e_d, e_n, E_d, tree_118, T.says, X.den, O1.den, O2.den, O3.den, callD, XArg.ev, XArg.dat, Callee'.num, backs, DArg.back, Conds.den, cloArgs, hw, szS]
  all_goals grind
theorem pd_118 (d n : D) (hn : 0 ≤ n.toI) (Q : List D → Prop) (ho : Q [.int (szS n.toI d.toL.length)]) : PC Try.prog 118 [.sc (.sl [(.int .i64), (.int .i64), (.int .i64), (.int .i64), (.int .i64), (.int .i64), .bool]) d, .sc (.int .i64) n] [.sc (.int .i64)] Q := (pc_118 d n hn).mono fun _ h => h ▸ ho
/- laws.szAct -/
def phi_58 : Nat → List D → List D
  | 118, [d, n] => [.int (szS n.toI d.toL.length)]
  | _, _ => []
theorem pc_58 (d n : D) (hn : 0 ≤ n.toI) : PC Try.prog 58 [.st [(.int .i64), (.int .i64), (.int .i64), (.int .i64), (.int .i64), .bool, (.sl [(.int .i64), (.int .i64), (.int .i64), (.int .i64), (.int .i64), (.int .i64), .bool])] d, .sc (.int .i64) n] [.sc (.int .i64)] fun o => o = [.int (szS n.toI (d.fld 6).toL.length)] := by
  refine PC.of_sig mix sig_58 ⟨rfl, rfl, trivial⟩ rfl fun hok => ?_
  have e_d : D.lst [d.fld 0, d.fld 1, d.fld 2, d.fld 3, d.fld 4, d.fld 5, d.fld 6] = d := by simpa [List.range, List.range.loop] using okL_eta (hok _ (.head _))
  have k_d : okL [(.int .i64), (.int .i64), (.int .i64), (.int .i64), (.int .i64), .bool, (.sl [(.int .i64), (.int .i64), (.int .i64), (.int .i64), (.int .i64), (.int .i64), .bool])] d := (hok _ (.head _))
  have e_d_6 : D.lst (d.fld 6).toL = d.fld 6 := sl_eta (okL_at k_d (i := 6) rfl)
  have l_d_6 := sl_len (okL_at k_d (i := 6) rfl)
  have k_d_6 := sl_all (okL_at k_d (i := 6) rfl)
  have E_d_6 : ∀ i, i < (d.fld 6).toL.length → D.lst [((d.fld 6).elem i).fld 0, ((d.fld 6).elem i).fld 1, ((d.fld 6).elem i).fld 2, ((d.fld 6).elem i).fld 3, ((d.fld 6).elem i).fld 4, ((d.fld 6).elem i).fld 5, ((d.fld 6).elem i).fld 6] = (d.fld 6).elem i := fun i hi => by simpa [List.range, List.range.loop] using okL_eta (k_d_6 _ (elem_mem hi))
  have e_n := int_eta (hok _ (.tail _ (.head _)))
  have b_n := int_range (hok _ (.tail _ (.head _)))
  apply says_den (φ := (phi_58))
  simp [e_d_6, E_d_6, e_d, e_n, tree_58, T.says, X.den, O1.den, O2.den, O3.den, callD, XArg.ev, XArg.dat, Callee'.num, backs, DArg.back, Conds.den, cloArgs, phi_58, pd_118]
  (repeat' (first | (with_reducible apply And.intro) | intro _)) <;> first | (first | assumption | (exact pd_118 _ _ (by first | assumption | omega | (simp; done) | (simp; omega) | (simp [*]; done) | exact smallE_of (n := 1048576) (by omega) (by omega) | (simp [*] at *; omega) | grind [szS]) _ (by first | rfl | simp | (simp; omega))) | (first | omega | (simp only [IntKind.wrap_i64, maxL] at *; omega) | (simp [IntKind.wrap_i64, maxL] at *; omega)) | rfl | contradiction | grind) | grind [szS]
theorem pd_58 (d n : D) (hn : 0 ≤ n.toI) (Q : List D → Prop) (ho : Q [.int (szS n.toI (d.fld 6).toL.length)]) : PC Try.prog 58 [.st [(.int .i64), (.int .i64), (.int .i64), (.int .i64), (.int .i64), .bool, (.sl [(.int .i64), (.int .i64), (.int .i64), (.int .i64), (.int .i64), (.int .i64), .bool])] d, .sc (.int .i64) n] [.sc (.int .i64)] Q := (pc_58 d n hn).mono fun _ h => h ▸ ho
/- laws.szEffect -/
def phi_21 : Nat → List D → List D
  | 58, [d, n] => [.int (szS n.toI (d.fld 6).toL.length)]
  | _, _ => []
theorem pc_21 (d n : D) (hn : 0 ≤ n.toI) : PC Try.prog 21 [.st [(.int .i64), (.int .i64), (.int .i64), (.int .i64), (.int .i64), (.int .i64), (.int .i64), (.int .i64), (.int .i64), (.int .i64), (.int .i64), (.int .i64), (.int .i64), (.int .i64), (.int .i64), (.int .i64), (.int .i64), (.int .i64), .bool, (.sl [(.int .i64), (.int .i64), (.int .i64), (.int .i64), (.int .i64), (.int .i64), .bool]), (.int .i64), (.int .i64)] d, .sc (.int .i64) n] [.sc (.int .i64)] fun o => o = [.int (szS n.toI (d.fld 19).toL.length)] := by
  refine PC.of_sig mix sig_21 ⟨rfl, rfl, trivial⟩ rfl fun hok => ?_
  have e_d : D.lst [d.fld 0, d.fld 1, d.fld 2, d.fld 3, d.fld 4, d.fld 5, d.fld 6, d.fld 7, d.fld 8, d.fld 9, d.fld 10, d.fld 11, d.fld 12, d.fld 13, d.fld 14, d.fld 15, d.fld 16, d.fld 17, d.fld 18, d.fld 19, d.fld 20, d.fld 21] = d := by simpa [List.range, List.range.loop] using okL_eta (hok _ (.head _))
  have k_d : okL [(.int .i64), (.int .i64), (.int .i64), (.int .i64), (.int .i64), (.int .i64), (.int .i64), (.int .i64), (.int .i64), (.int .i64), (.int .i64), (.int .i64), (.int .i64), (.int .i64), (.int .i64), (.int .i64), (.int .i64), (.int .i64), .bool, (.sl [(.int .i64), (.int .i64), (.int .i64), (.int .i64), (.int .i64), (.int .i64), .bool]), (.int .i64), (.int .i64)] d := (hok _ (.head _))
  have e_d_19 : D.lst (d.fld 19).toL = d.fld 19 := sl_eta (okL_at k_d (i := 19) rfl)
  have l_d_19 := sl_len (okL_at k_d (i := 19) rfl)
  have k_d_19 := sl_all (okL_at k_d (i := 19) rfl)
  have E_d_19 : ∀ i, i < (d.fld 19).toL.length → D.lst [((d.fld 19).elem i).fld 0, ((d.fld 19).elem i).fld 1, ((d.fld 19).elem i).fld 2, ((d.fld 19).elem i).fld 3, ((d.fld 19).elem i).fld 4, ((d.fld 19).elem i).fld 5, ((d.fld 19).elem i).fld 6] = (d.fld 19).elem i := fun i hi => by simpa [List.range, List.range.loop] using okL_eta (k_d_19 _ (elem_mem hi))
  have e_n := int_eta (hok _ (.tail _ (.head _)))
  have b_n := int_range (hok _ (.tail _ (.head _)))
  apply says_den (φ := (phi_21))
  simp [e_d_19, E_d_19, e_d, e_n, tree_21, T.says, X.den, O1.den, O2.den, O3.den, callD, XArg.ev, XArg.dat, Callee'.num, backs, DArg.back, Conds.den, cloArgs, phi_21, pd_58]
  (repeat' (first | (with_reducible apply And.intro) | intro _)) <;> first | (first | assumption | (exact pd_58 _ _ (by first | assumption | omega | (simp; done) | (simp; omega) | (simp [*]; done) | exact smallE_of (n := 1048576) (by omega) (by omega) | (simp [*] at *; omega) | grind [szS]) _ (by first | rfl | simp | (simp; omega))) | (first | omega | (simp only [IntKind.wrap_i64, maxL] at *; omega) | (simp [IntKind.wrap_i64, maxL] at *; omega)) | rfl | contradiction | grind) | grind [szS]
theorem pd_21 (d n : D) (hn : 0 ≤ n.toI) (Q : List D → Prop) (ho : Q [.int (szS n.toI (d.fld 19).toL.length)]) : PC Try.prog 21 [.st [(.int .i64), (.int .i64), (.int .i64), (.int .i64), (.int .i64), (.int .i64), (.int .i64), (.int .i64), (.int .i64), (.int .i64), (.int .i64), (.int .i64), (.int .i64), (.int .i64), (.int .i64), (.int .i64), (.int .i64), (.int .i64), .bool, (.sl [(.int .i64), (.int .i64), (.int .i64), (.int .i64), (.int .i64), (.int .i64), .bool]), (.int .i64), (.int .i64)] d, .sc (.int .i64) n] [.sc (.int .i64)] Q := (pc_21 d n hn).mono fun _ h => h ▸ ho
/- laws.szEffectS -/
def phi_14 : Nat → List D → List D
  | 21, [d, n] => [.int (szS n.toI (d.fld 19).toL.length)]
  | _, _ => []
theorem pc_14 (d n : D) (hn : 0 ≤ n.toI) : PC Try.prog 14 [.sc (.sl [(.int .i64), (.int .i64), (.int .i64), (.int .i64), (.int .i64), (.int .i64), (.int .i64), (.int .i64), (.int .i64), (.int .i64), (.int .i64), (.int .i64), (.int .i64), (.int .i64), (.int .i64), (.int .i64), (.int .i64), (.int .i64), .bool, (.sl [(.int .i64), (.int .i64), (.int .i64), (.int .i64), (.int .i64), (.int .i64), .bool]), (.int .i64), (.int .i64)]) d, .sc (.int .i64) n] [.sc (.int .i64)] fun o => o = [.int (szEs n.toI d)] := by
  refine PC.of_sig mix sig_14 ⟨rfl, rfl, trivial⟩ rfl fun hok => ?_
  have e_d := sl_eta (hok _ (.head _))
  have l_d := sl_len (hok _ (.head _))
  have k_d := sl_all (hok _ (.head _))
  have E_d : ∀ i, i < d.toL.length → D.lst [(d.elem i).fld 0, (d.elem i).fld 1, (d.elem i).fld 2, (d.elem i).fld 3, (d.elem i).fld 4, (d.elem i).fld 5, (d.elem i).fld 6, (d.elem i).fld 7, (d.elem i).fld 8, (d.elem i).fld 9, (d.elem i).fld 10, (d.elem i).fld 11, (d.elem i).fld 12, (d.elem i).fld 13, (d.elem i).fld 14, (d.elem i).fld 15, (d.elem i).fld 16, (d.elem i).fld 17, (d.elem i).fld 18, (d.elem i).fld 19, (d.elem i).fld 20, (d.elem i).fld 21] = d.elem i := fun i hi => by simpa [List.range, List.range.loop] using okL_eta (k_d _ (elem_mem hi))
  have e_n := int_eta (hok _ (.tail _ (.head _)))
  have b_n := int_range (hok _ (.tail _ (.head _)))
  have hw : IntKind.i64.wrap (n.toI - d.toL.length) = n.toI - d.toL.length := by (first | omega | (simp only [IntKind.wrap_i64, maxL] at *; omega) | (simp [IntKind.wrap_i64, maxL] at *; omega))
  apply says_den (φ := (phi_14))
  simp [e_d, e_n, E_d, tree_14, T.says, X.den, O1.den, O2.den, O3.den, callD, XArg.ev, XArg.dat, Callee'.num, backs, DArg.back, Conds.den, cloArgs, phi_14, pd_21, hw]
  refine fun _ => ⟨fun hneg => ?_, fun hpos => ?_⟩
  · rw [szEs, if_pos (by omega)]
  refine den_for d.toL.length 1 (fun i => [.int (n.toI - d.toL.length - sumR (innerE d) i), .int i]) (fun i => 0 ≤ n.toI - d.toL.length - sumR (innerE d) i) (by simp) (by simp [X.den, O1.den, O2.den, hw, sumR]) (by simp [sumR]; omega) fun i hi hR => ?_
  apply says_den (φ := (phi_14))
  by_cases hlt : i < d.toL.length
  · have hm := sumR_mono (innerE d) (show i + 1 ≤ d.toL.length from hlt)
    simp only [sumR] at hm
    have hi' : innerE d i = ((d.elem i).fld 19).toL.length := rfl
    simp [e_d, e_n, E_d, tree_14, T.says, X.den, O1.den, O2.den, O3.den, callD, XArg.ev, XArg.dat, Callee'.num, backs, DArg.back, Conds.den, cloArgs, phi_14, pd_21, hlt, hR]
    (repeat' (first | (with_reducible apply And.intro) | intro _)) <;> first | (rw [szEs, if_pos (by omega)]; done) | (first | omega | (simp only [IntKind.wrap_i64, maxL] at *; omega) | (simp [IntKind.wrap_i64, maxL] at *; omega)) | (simp only [sumR]; omega) | (rw [szS, if_neg (by omega)]; simp only [sumR]; omega) | (first | assumption | (exact pd_21 _ _ (by first | assumption | omega | (simp; done) | (simp; omega) | (simp [*]; done) | exact smallE_of (n := 1048576) (by omega) (by omega) | (simp [*] at *; omega) | grind [szS]) _ (by first | rfl | simp | (simp; omega))) | (first | omega | (simp only [IntKind.wrap_i64, maxL] at *; omega) | (simp [IntKind.wrap_i64, maxL] at *; omega)) | rfl | contradiction | grind)
  · have : i = d.toL.length := by omega
    subst this
    simp [e_d, e_n, E_d, tree_14, T.says, X.den, O1.den, O2.den, O3.den, callD, XArg.ev, XArg.dat, Callee'.num, backs, DArg.back, Conds.den, cloArgs, phi_14, pd_21]
    (repeat' (first | (with_reducible apply And.intro) | intro _))
    · rw [szEs, if_neg (by omega)]
theorem pd_14 (d n : D) (hn : 0 ≤ n.toI) (Q : List D → Prop) (ho : Q [.int (szEs n.toI d)]) : PC Try.prog 14 [.sc (.sl [(.int .i64), (.int .i64), (.int .i64), (.int .i64), (.int .i64), (.int .i64), (.int .i64), (.int .i64), (.int .i64), (.int .i64), (.int .i64), (.int .i64), (.int .i64), (.int .i64), (.int .i64), (.int .i64), (.int .i64), (.int .i64), .bool, (.sl [(.int .i64), (.int .i64), (.int .i64), (.int .i64), (.int .i64), (.int .i64), .bool]), (.int .i64), (.int .i64)]) d, .sc (.int .i64) n] [.sc (.int .i64)] Q := (pc_14 d n hn).mono fun _ h => h ▸ ho
/- laws.toPat -/
theorem pc_62 (d : D) : PC Try.prog 62 [.st [(.int .i64), (.int .i64), (.int .i64), (.int .i64), (.int .i64), (.int .i64), (.int .i64)] d] [.st [(.int .i64), (.int .i64), (.int .i64), (.int .i64), (.int .i64), (.int .i64), (.int .i64)]] fun o => o = [d] := by
  refine PC.of_sig mix sig_62 ⟨rfl, trivial⟩ rfl fun hok => ?_
  have e_d : D.lst [d.fld 0, d.fld 1, d.fld 2, d.fld 3, d.fld 4, d.fld 5, d.fld 6] = d := by simpa [List.range, List.range.loop] using okL_eta (hok _ (.head _))
  have k_d : okL [(.int .i64), (.int .i64), (.int .i64), (.int .i64), (.int .i64), (.int .i64), (.int .i64)] d := (hok _ (.head _))
  apply says_den (φ := fun _ _ => [])
  simp [e_d, tree_62, T.says, X.den, O1.den, O2.den, O3.den, callD, XArg.ev, XArg.dat, Callee'.num, backs, DArg.back, Conds.den, cloArgs]
theorem pd_62 (d : D) (Q : List D → Prop) (ho : Q [d]) : PC Try.prog 62 [.st [(.int .i64), (.int .i64), (.int .i64), (.int .i64), (.int .i64), (.int .i64), (.int .i64)] d] [.st [(.int .i64), (.int .i64), (.int .i64), (.int .i64), (.int .i64), (.int .i64), (.int .i64)]] Q := (pc_62 d).mono fun _ h => h ▸ ho
/- laws.toGuard -/
theorem pc_63 (d : D) : PC Try.prog 63 [.st [(.int .i64), (.int .i64)] d] [.st [(.int .i64), (.int .i64)]] fun o => o = [d] := by
  refine PC.of_sig mix sig_63 ⟨rfl, trivial⟩ rfl fun hok => ?_
  have e_d : D.lst [d.fld 0, d.fld 1] = d := by simpa [List.range, List.range.loop] using okL_eta (hok _ (.head _))
  have k_d : okL [(.int .i64), (.int .i64)] d := (hok _ (.head _))
  apply says_den (φ := fun _ _ => [])
  simp [e_d, tree_63, T.says, X.den, O1.den, O2.den, O3.den, callD, XArg.ev, XArg.dat, Callee'.num, backs, DArg.back, Conds.den, cloArgs]
theorem pd_63 (d : D) (Q : List D → Prop) (ho : Q [d]) : PC Try.prog 63 [.st [(.int .i64), (.int .i64)] d] [.st [(.int .i64), (.int .i64)]] Q := (pc_63 d).mono fun _ h => h ▸ ho
/- laws.toEvent -/
theorem pc_41 (d : D) : PC Try.prog 41 [.st [(.int .i64), (.int .i64), (.int .i64), (.int .i64), (.int .i64), (.int .i64), .bool] d] [.st [(.int .i64), (.int .i64), (.int .i64), (.int .i64), (.int .i64), (.int .i64), .bool]] fun o => o = [d] := by
  refine PC.of_sig mix sig_41 ⟨rfl, trivial⟩ rfl fun hok => ?_
  have e_d : D.lst [d.fld 0, d.fld 1, d.fld 2, d.fld 3, d.fld 4, d.fld 5, d.fld 6] = d := by simpa [List.range, List.range.loop] using okL_eta (hok _ (.head _))
  have k_d : okL [(.int .i64), (.int .i64), (.int .i64), (.int .i64), (.int .i64), (.int .i64), .bool] d := (hok _ (.head _))
  apply says_den (φ := fun _ _ => [])
  simp [e_d, tree_41, T.says, X.den, O1.den, O2.den, O3.den, callD, XArg.ev, XArg.dat, Callee'.num, backs, DArg.back, Conds.den, cloArgs]
theorem pd_41 (d : D) (Q : List D → Prop) (ho : Q [d]) : PC Try.prog 41 [.st [(.int .i64), (.int .i64), (.int .i64), (.int .i64), (.int .i64), (.int .i64), .bool] d] [.st [(.int .i64), (.int .i64), (.int .i64), (.int .i64), (.int .i64), (.int .i64), .bool]] Q := (pc_41 d).mono fun _ h => h ▸ ho
/- laws.toEventS -/
def phi_121 : Nat → List D → List D
  | 41, [d] => [d]
  | _, _ => []
theorem pc_121 (d : D) (h : (d.toL.length : Int) ≤ 1048576) : PC Try.prog 121 [.sc (.sl [(.int .i64), (.int .i64), (.int .i64), (.int .i64), (.int .i64), (.int .i64), .bool]) d] [.sc (.sl [(.int .i64), (.int .i64), (.int .i64), (.int .i64), (.int .i64), (.int .i64), .bool])] fun o => o = [d] := by
  refine PC.of_sig mix sig_121 ⟨rfl, trivial⟩ rfl fun hok => ?_
  have e_d := sl_eta (hok _ (.head _))
  have l_d := sl_len (hok _ (.head _))
  have k_d := sl_all (hok _ (.head _))
  have E_d : ∀ i, i < d.toL.length → D.lst [(d.elem i).fld 0, (d.elem i).fld 1, (d.elem i).fld 2, (d.elem i).fld 3, (d.elem i).fld 4, (d.elem i).fld 5, (d.elem i).fld 6] = d.elem i := fun i hi => by simpa [List.range, List.range.loop] using okL_eta (k_d _ (elem_mem hi))
  apply says_den (φ := (phi_121))
  simp [e_d, E_d, tree_121, T.says, X.den, O1.den, O2.den, O3.den, callD, XArg.ev, XArg.dat, Callee'.num, backs, DArg.back, Conds.den, cloArgs, phi_121, pd_41] at h ⊢
  refine fun _ => ⟨by omega, ?_⟩
  refine den_for d.toL.length 0 (fun i => [.int i, .lst (d.toL.take i ++ List.replicate (d.toL.length - i) (.lst [.int 0, .int 0, .int 0, .int 0, .int 0, .int 0, .bool false]))]) (fun _ => True) (by simp) (by simp [X.den, O1.den, O2.den]) trivial fun i hi _ => ?_
  apply says_den (φ := (phi_121))
  by_cases hlt : i < d.toL.length
  · simp [e_d, E_d, tree_121, T.says, X.den, O1.den, O2.den, O3.den, callD, XArg.ev, XArg.dat, Callee'.num, backs, DArg.back, Conds.den, cloArgs, phi_121, pd_41, hlt]
    (repeat' (first | (with_reducible apply And.intro) | intro _)) <;> first | (exact copy_step hlt rfl) | (exact copy_step hlt (eta1 (k_d _ (elem_mem hlt)))) | (first | assumption | (exact pd_41 _ _ (by first | rfl | simp | (simp; omega))) | (first | omega | (simp only [IntKind.wrap_i64, maxL] at *; omega) | (simp [IntKind.wrap_i64, maxL] at *; omega)) | rfl | contradiction | grind)
  · simp [e_d, E_d, tree_121, T.says, X.den, O1.den, O2.den, O3.den, callD, XArg.ev, XArg.dat, Callee'.num, backs, DArg.back, Conds.den, cloArgs, phi_121, pd_41, hlt]
    (repeat' (first | (with_reducible apply And.intro) | intro _)) <;> first | (rw [copy_end (by omega), e_d]) | (first | assumption | (exact pd_41 _ _ (by first | rfl | simp | (simp; omega))) | (first | omega | (simp only [IntKind.wrap_i64, maxL] at *; omega) | (simp [IntKind.wrap_i64, maxL] at *; omega)) | rfl | contradiction | grind)
theorem pd_121 (d : D) (h : (d.toL.length : Int) ≤ 1048576) (Q : List D → Prop) (ho : Q [d]) : PC Try.prog 121 [.sc (.sl [(.int .i64), (.int .i64), (.int .i64), (.int .i64), (.int .i64), (.int .i64), .bool]) d] [.sc (.sl [(.int .i64), (.int .i64), (.int .i64), (.int .i64), (.int .i64), (.int .i64), .bool])] Q := (pc_121 d h).mono fun _ h => h ▸ ho
/- laws.toAct -/
def phi_64 : Nat → List D → List D
  | 121, [d] => [d]
  | _, _ => []
theorem pc_64 (d : D) (h : ((d.fld 6).toL.length : Int) ≤ 1048576) : PC Try.prog 64 [.st [(.int .i64), (.int .i64), (.int .i64), (.int .i64), (.int .i64), .bool, (.sl [(.int .i64), (.int .i64), (.int .i64), (.int .i64), (.int .i64), (.int .i64), .bool])] d] [.st [(.int .i64), (.int .i64), (.int .i64), (.int .i64), (.int .i64), .bool, (.sl [(.int .i64), (.int .i64), (.int .i64), (.int .i64), (.int .i64), (.int .i64), .bool])]] fun o => o = [d] := by
  refine PC.of_sig mix sig_64 ⟨rfl, trivial⟩ rfl fun hok => ?_
  have e_d : D.lst [d.fld 0, d.fld 1, d.fld 2, d.fld 3, d.fld 4, d.fld 5, d.fld 6] = d := by simpa [List.range, List.range.loop] using okL_eta (hok _ (.head _))
  have k_d : okL [(.int .i64), (.int .i64), (.int .i64), (.int .i64), (.int .i64), .bool, (.sl [(.int .i64), (.int .i64), (.int .i64), (.int .i64), (.int .i64), (.int .i64), .bool])] d := (hok _ (.head _))
  have e_d_6 : D.lst (d.fld 6).toL = d.fld 6 := sl_eta (okL_at k_d (i := 6) rfl)
  have l_d_6 := sl_len (okL_at k_d (i := 6) rfl)
  have k_d_6 := sl_all (okL_at k_d (i := 6) rfl)
  have E_d_6 : ∀ i, i < (d.fld 6).toL.length → D.lst [((d.fld 6).elem i).fld 0, ((d.fld 6).elem i).fld 1, ((d.fld 6).elem i).fld 2, ((d.fld 6).elem i).fld 3, ((d.fld 6).elem i).fld 4, ((d.fld 6).elem i).fld 5, ((d.fld 6).elem i).fld 6] = (d.fld 6).elem i := fun i hi => by simpa [List.range, List.range.loop] using okL_eta (k_d_6 _ (elem_mem hi))
  apply says_den (φ := (phi_64))
  simp [e_d_6, E_d_6, e_d, tree_64, T.says, X.den, O1.den, O2.den, O3.den, callD, XArg.ev, XArg.dat, Callee'.num, backs, DArg.back, Conds.den, cloArgs, phi_64, pd_121]
  (repeat' (first | (with_reducible apply And.intro) | intro _)) <;> (first | assumption | (exact pd_121 _ (by first | assumption | omega | (simp; done) | (simp; omega) | (simp [*]; done) | exact smallE_of (n := 1048576) (by omega) (by omega) | (simp [*] at *; omega) | grind [szS]) _ (by first | rfl | simp | (simp; omega))) | (first | omega | (simp only [IntKind.wrap_i64, maxL] at *; omega) | (simp [IntKind.wrap_i64, maxL] at *; omega)) | rfl | contradiction | grind)
theorem pd_64 (d : D) (h : ((d.fld 6).toL.length : Int) ≤ 1048576) (Q : List D → Prop) (ho : Q [d]) : PC Try.prog 64 [.st [(.int .i64), (.int .i64), (.int .i64), (.int .i64), (.int .i64), .bool, (.sl [(.int .i64), (.int .i64), (.int .i64), (.int .i64), (.int .i64), (.int .i64), .bool])] d] [.st [(.int .i64), (.int .i64), (.int .i64), (.int .i64), (.int .i64), .bool, (.sl [(.int .i64), (.int .i64), (.int .i64), (.int .i64), (.int .i64), (.int .i64), .bool])]] Q := (pc_64 d h).mono fun _ h => h ▸ ho
/- laws.toEffect -/
def phi_23 : Nat → List D → List D
  | 62, [d] => [d]
  | 63, [d] => [d]
  | 64, [d] => [d]
  | _, _ => []
theorem pc_23 (d : D) (h : ((d.fld 19).toL.length : Int) ≤ 1048576) : PC Try.prog 23 [.st [(.int .i64), (.int .i64), (.int .i64), (.int .i64), (.int .i64), (.int .i64), (.int .i64), (.int .i64), (.int .i64), (.int .i64), (.int .i64), (.int .i64), (.int .i64), (.int .i64), (.int .i64), (.int .i64), (.int .i64), (.int .i64), .bool, (.sl [(.int .i64), (.int .i64), (.int .i64), (.int .i64), (.int .i64), (.int .i64), .bool]), (.int .i64), (.int .i64)] d] [.st [(.int .i64), (.int .i64), (.int .i64), (.int .i64), (.int .i64), (.int .i64), (.int .i64), (.int .i64), (.int .i64), (.int .i64), (.int .i64), (.int .i64), (.int .i64), (.int .i64), (.int .i64), (.int .i64), (.int .i64), (.int .i64), .bool, (.sl [(.int .i64), (.int .i64), (.int .i64), (.int .i64), (.int .i64), (.int .i64), .bool]), (.int .i64), (.int .i64)]] fun o => o = [d] := by
  refine PC.of_sig mix sig_23 ⟨rfl, trivial⟩ rfl fun hok => ?_
  have e_d : D.lst [d.fld 0, d.fld 1, d.fld 2, d.fld 3, d.fld 4, d.fld 5, d.fld 6, d.fld 7, d.fld 8, d.fld 9, d.fld 10, d.fld 11, d.fld 12, d.fld 13, d.fld 14, d.fld 15, d.fld 16, d.fld 17, d.fld 18, d.fld 19, d.fld 20, d.fld 21] = d := by simpa [List.range, List.range.loop] using okL_eta (hok _ (.head _))
  have k_d : okL [(.int .i64), (.int .i64), (.int .i64), (.int .i64), (.int .i64), (.int .i64), (.int .i64), (.int .i64), (.int .i64), (.int .i64), (.int .i64), (.int .i64), (.int .i64), (.int .i64), (.int .i64), (.int .i64), (.int .i64), (.int .i64), .bool, (.sl [(.int .i64), (.int .i64), (.int .i64), (.int .i64), (.int .i64), (.int .i64), .bool]), (.int .i64), (.int .i64)] d := (hok _ (.head _))
  have e_d_19 : D.lst (d.fld 19).toL = d.fld 19 := sl_eta (okL_at k_d (i := 19) rfl)
  have l_d_19 := sl_len (okL_at k_d (i := 19) rfl)
  have k_d_19 := sl_all (okL_at k_d (i := 19) rfl)
  have E_d_19 : ∀ i, i < (d.fld 19).toL.length → D.lst [((d.fld 19).elem i).fld 0, ((d.fld 19).elem i).fld 1, ((d.fld 19).elem i).fld 2, ((d.fld 19).elem i).fld 3, ((d.fld 19).elem i).fld 4, ((d.fld 19).elem i).fld 5, ((d.fld 19).elem i).fld 6] = (d.fld 19).elem i := fun i hi => by simpa [List.range, List.range.loop] using okL_eta (k_d_19 _ (elem_mem hi))
  apply says_den (φ := (phi_23))
  simp [e_d_19, E_d_19, e_d, tree_23, T.says, X.den, O1.den, O2.den, O3.den, callD, XArg.ev, XArg.dat, Callee'.num, backs, DArg.back, Conds.den, cloArgs, phi_23, pd_62, pd_63, pd_64]
  (repeat' (first | (with_reducible apply And.intro) | intro _)) <;> (first | assumption | (exact pd_62 _ _ (by first | rfl | simp | (simp; omega))) | (exact pd_63 _ _ (by first | rfl | simp | (simp; omega))) | (exact pd_64 _ (by first | assumption | omega | (simp; done) | (simp; omega) | (simp [*]; done) | exact smallE_of (n := 1048576) (by omega) (by omega) | (simp [*] at *; omega) | grind [szS]) _ (by first | rfl | simp | (simp; omega))) | (first | omega | (simp only [IntKind.wrap_i64, maxL] at *; omega) | (simp [IntKind.wrap_i64, maxL] at *; omega)) | rfl | contradiction | grind)
theorem pd_23 (d : D) (h : ((d.fld 19).toL.length : Int) ≤ 1048576) (Q : List D → Prop) (ho : Q [d]) : PC Try.prog 23 [.st [(.int .i64), (.int .i64), (.int .i64), (.int .i64), (.int .i64), (.int .i64), (.int .i64), (.int .i64), (.int .i64), (.int .i64), (.int .i64), (.int .i64), (.int .i64), (.int .i64), (.int .i64), (.int .i64), (.int .i64), (.int .i64), .bool, (.sl [(.int .i64), (.int .i64), (.int .i64), (.int .i64), (.int .i64), (.int .i64), .bool]), (.int .i64), (.int .i64)] d] [.st [(.int .i64), (.int .i64), (.int .i64), (.int .i64), (.int .i64), (.int .i64), (.int .i64), (.int .i64), (.int .i64), (.int .i64), (.int .i64), (.int .i64), (.int .i64), (.int .i64), (.int .i64), (.int .i64), (.int .i64), (.int .i64), .bool, (.sl [(.int .i64), (.int .i64), (.int .i64), (.int .i64), (.int .i64), (.int .i64), .bool]), (.int .i64), (.int .i64)]] Q := (pc_23 d h).mono fun _ h => h ▸ ho
/- laws.toEffectS -/
def phi_16 : Nat → List D → List D
  | 23, [d] => [d]
  | _, _ => []
theorem pc_16 (d : D) (h : smallE d) : PC Try.prog 16 [.sc (.sl [(.int .i64), (.int .i64), (.int .i64), (.int .i64), (.int .i64), (.int .i64), (.int .i64), (.int .i64), (.int .i64), (.int .i64), (.int .i64), (.int .i64), (.int .i64), (.int .i64), (.int .i64), (.int .i64), (.int .i64), (.int .i64), .bool, (.sl [(.int .i64), (.int .i64), (.int .i64), (.int .i64), (.int .i64), (.int .i64), .bool]), (.int .i64), (.int .i64)]) d] [.sc (.sl [(.int .i64), (.int .i64), (.int .i64), (.int .i64), (.int .i64), (.int .i64), (.int .i64), (.int .i64), (.int .i64), (.int .i64), (.int .i64), (.int .i64), (.int .i64), (.int .i64), (.int .i64), (.int .i64), (.int .i64), (.int .i64), .bool, (.sl [(.int .i64), (.int .i64), (.int .i64), (.int .i64), (.int .i64), (.int .i64), .bool]), (.int .i64), (.int .i64)])] fun o => o = [d] := by
  refine PC.of_sig mix sig_16 ⟨rfl, trivial⟩ rfl fun hok => ?_
  have e_d := sl_eta (hok _ (.head _))
  have l_d := sl_len (hok _ (.head _))
  have k_d := sl_all (hok _ (.head _))
  have E_d : ∀ i, i < d.toL.length → D.lst [(d.elem i).fld 0, (d.elem i).fld 1, (d.elem i).fld 2, (d.elem i).fld 3, (d.elem i).fld 4, (d.elem i).fld 5, (d.elem i).fld 6, (d.elem i).fld 7, (d.elem i).fld 8, (d.elem i).fld 9, (d.elem i).fld 10, (d.elem i).fld 11, (d.elem i).fld 12, (d.elem i).fld 13, (d.elem i).fld 14, (d.elem i).fld 15, (d.elem i).fld 16, (d.elem i).fld 17, (d.elem i).fld 18, (d.elem i).fld 19, (d.elem i).fld 20, (d.elem i).fld 21] = d.elem i := fun i hi => by simpa [List.range, List.range.loop] using okL_eta (k_d _ (elem_mem hi))
  have h1 := h.1
  apply says_den (φ := (phi_16))
  simp [e_d, E_d, tree_16, T.says, X.den, O1.den, O2.den, O3.den, callD, XArg.ev, XArg.dat, Callee'.num, backs, DArg.back, Conds.den, cloArgs, phi_16, pd_23, h1]
  refine fun _ => ⟨by omega, ?_⟩
  refine den_for d.toL.length 0 (fun i => [.int i, .lst (d.toL.take i ++ List.replicate (d.toL.length - i) (.lst [.int 0, .int 0, .int 0, .int 0, .int 0, .int 0, .int 0, .int 0, .int 0, .int 0, .int 0, .int 0, .int 0, .int 0, .int 0, .int 0, .int 0, .int 0, .bool false, .lst [], .int 0, .int 0]))]) (fun _ => True) (by simp) (by simp [X.den, O1.den, O2.den]) trivial fun i hi _ => ?_
  apply says_den (φ := (phi_16))
  by_cases hlt : i < d.toL.length
  · have h2 := h.2 i hlt
    simp [e_d, E_d, tree_16, T.says, X.den, O1.den, O2.den, O3.den, callD, XArg.ev, XArg.dat, Callee'.num, backs, DArg.back, Conds.den, cloArgs, phi_16, pd_23, hlt, h2]
    (repeat' (first | (with_reducible apply And.intro) | intro _)) <;> first | (exact copy_step hlt rfl) | (first | assumption | (exact pd_23 _ (by first | assumption | omega | (simp; done) | (simp; omega) | (simp [*]; done) | exact smallE_of (n := 1048576) (by omega) (by omega) | (simp [*] at *; omega) | grind [szS]) _ (by first | rfl | simp | (simp; omega))) | (first | omega | (simp only [IntKind.wrap_i64, maxL] at *; omega) | (simp [IntKind.wrap_i64, maxL] at *; omega)) | rfl | contradiction | grind)
  · simp [e_d, E_d, tree_16, T.says, X.den, O1.den, O2.den, O3.den, callD, XArg.ev, XArg.dat, Callee'.num, backs, DArg.back, Conds.den, cloArgs, phi_16, pd_23, hlt]
    (repeat' (first | (with_reducible apply And.intro) | intro _)) <;> first | (rw [copy_end (by omega), e_d]) | (first | assumption | (exact pd_23 _ (by first | assumption | omega | (simp; done) | (simp; omega) | (simp [*]; done) | exact smallE_of (n := 1048576) (by omega) (by omega) | (simp [*] at *; omega) | grind [szS]) _ (by first | rfl | simp | (simp; omega))) | (first | omega | (simp only [IntKind.wrap_i64, maxL] at *; omega) | (simp [IntKind.wrap_i64, maxL] at *; omega)) | rfl | contradiction | grind)
theorem pd_16 (d : D) (h : smallE d) (Q : List D → Prop) (ho : Q [d]) : PC Try.prog 16 [.sc (.sl [(.int .i64), (.int .i64), (.int .i64), (.int .i64), (.int .i64), (.int .i64), (.int .i64), (.int .i64), (.int .i64), (.int .i64), (.int .i64), (.int .i64), (.int .i64), (.int .i64), (.int .i64), (.int .i64), (.int .i64), (.int .i64), .bool, (.sl [(.int .i64), (.int .i64), (.int .i64), (.int .i64), (.int .i64), (.int .i64), .bool]), (.int .i64), (.int .i64)]) d] [.sc (.sl [(.int .i64), (.int .i64), (.int .i64), (.int .i64), (.int .i64), (.int .i64), (.int .i64), (.int .i64), (.int .i64), (.int .i64), (.int .i64), (.int .i64), (.int .i64), (.int .i64), (.int .i64), (.int .i64), (.int .i64), (.int .i64), .bool, (.sl [(.int .i64), (.int .i64), (.int .i64), (.int .i64), (.int .i64), (.int .i64), .bool]), (.int .i64), (.int .i64)])] Q := (pc_16 d h).mono fun _ h => h ▸ ho
/- laws.eqPat -/
theorem pc_68 (d e : D) (h : d = e) : PC Try.prog 68 [.st [(.int .i64), (.int .i64), (.int .i64), (.int .i64), (.int .i64), (.int .i64), (.int .i64)] d, .st [(.int .i64), (.int .i64), (.int .i64), (.int .i64), (.int .i64), (.int .i64), (.int .i64)] e] [.sc .bool] fun o => o = [.bool true] := by
  refine PC.of_sig mix sig_68 ⟨rfl, rfl, trivial⟩ rfl fun hok => ?_
  have e_d : D.lst [d.fld 0, d.fld 1, d.fld 2, d.fld 3, d.fld 4, d.fld 5, d.fld 6] = d := by simpa [List.range, List.range.loop] using okL_eta (hok _ (.head _))
  have k_d : okL [(.int .i64), (.int .i64), (.int .i64), (.int .i64), (.int .i64), (.int .i64), (.int .i64)] d := (hok _ (.head _))
  have e_e : D.lst [e.fld 0, e.fld 1, e.fld 2, e.fld 3, e.fld 4, e.fld 5, e.fld 6] = e := by simpa [List.range, List.range.loop] using okL_eta (hok _ (.tail _ (.head _)))
  have k_e : okL [(.int .i64), (.int .i64), (.int .i64), (.int .i64), (.int .i64), (.int .i64), (.int .i64)] e := (hok _ (.tail _ (.head _)))
  subst h
  apply says_den (φ := fun _ _ => [])
  simp [e_d, e_e, tree_68, T.says, X.den, O1.den, O2.den, O3.den, callD, XArg.ev, XArg.dat, Callee'.num, backs, DArg.back, Conds.den, cloArgs]
theorem pd_68 (d e : D) (h : d = e) (Q : List D → Prop) (ho : Q [.bool true]) : PC Try.prog 68 [.st [(.int .i64), (.int .i64), (.int .i64), (.int .i64), (.int .i64), (.int .i64), (.int .i64)] d, .st [(.int .i64), (.int .i64), (.int .i64), (.int .i64), (.int .i64), (.int .i64), (.int .i64)] e] [.sc .bool] Q := (pc_68 d e h).mono fun _ h => h ▸ ho
/- laws.eqGuard -/
theorem pc_69 (d e : D) (h : d = e) : PC Try.prog 69 [.st [(.int .i64), (.int .i64)] d, .st [(.int .i64), (.int .i64)] e] [.sc .bool] fun o => o = [.bool true] := by
  refine PC.of_sig mix sig_69 ⟨rfl, rfl, trivial⟩ rfl fun hok => ?_
  have e_d : D.lst [d.fld 0, d.fld 1] = d := by simpa [List.range, List.range.loop] using okL_eta (hok _ (.head _))
  have k_d : okL [(.int .i64), (.int .i64)] d := (hok _ (.head _))
  have e_e : D.lst [e.fld 0, e.fld 1] = e := by simpa [List.range, List.range.loop] using okL_eta (hok _ (.tail _ (.head _)))
  have k_e : okL [(.int .i64), (.int .i64)] e := (hok _ (.tail _ (.head _)))
  subst h
  apply says_den (φ := fun _ _ => [])
  simp [e_d, e_e, tree_69, T.says, X.den, O1.den, O2.den, O3.den, callD, XArg.ev, XArg.dat, Callee'.num, backs, DArg.back, Conds.den, cloArgs]
theorem pd_69 (d e : D) (h : d = e) (Q : List D → Prop) (ho : Q [.bool true]) : PC Try.prog 69 [.st [(.int .i64), (.int .i64)] d, .st [(.int .i64), (.int .i64)] e] [.sc .bool] Q := (pc_69 d e h).mono fun _ h => h ▸ ho
/- laws.eqEvent -/
theorem pc_102 (d e : D) (h : d = e) : PC Try.prog 102 [.st [(.int .i64), (.int .i64), (.int .i64), (.int .i64), (.int .i64), (.int .i64), .bool] d, .st [(.int .i64), (.int .i64), (.int .i64), (.int .i64), (.int .i64), (.int .i64), .bool] e] [.sc .bool] fun o => o = [.bool true] := by
  refine PC.of_sig mix sig_102 ⟨rfl, rfl, trivial⟩ rfl fun hok => ?_
  have e_d : D.lst [d.fld 0, d.fld 1, d.fld 2, d.fld 3, d.fld 4, d.fld 5, d.fld 6] = d := by simpa [List.range, List.range.loop] using okL_eta (hok _ (.head _))
  have k_d : okL [(.int .i64), (.int .i64), (.int .i64), (.int .i64), (.int .i64), (.int .i64), .bool] d := (hok _ (.head _))
  have e_e : D.lst [e.fld 0, e.fld 1, e.fld 2, e.fld 3, e.fld 4, e.fld 5, e.fld 6] = e := by simpa [List.range, List.range.loop] using okL_eta (hok _ (.tail _ (.head _)))
  have k_e : okL [(.int .i64), (.int .i64), (.int .i64), (.int .i64), (.int .i64), (.int .i64), .bool] e := (hok _ (.tail _ (.head _)))
  subst h
  apply says_den (φ := fun _ _ => [])
  simp [e_d, e_e, tree_102, T.says, X.den, O1.den, O2.den, O3.den, callD, XArg.ev, XArg.dat, Callee'.num, backs, DArg.back, Conds.den, cloArgs]
theorem pd_102 (d e : D) (h : d = e) (Q : List D → Prop) (ho : Q [.bool true]) : PC Try.prog 102 [.st [(.int .i64), (.int .i64), (.int .i64), (.int .i64), (.int .i64), (.int .i64), .bool] d, .st [(.int .i64), (.int .i64), (.int .i64), (.int .i64), (.int .i64), (.int .i64), .bool] e] [.sc .bool] Q := (pc_102 d e h).mono fun _ h => h ▸ ho
/- laws.eqEventS -/
def phi_43 : Nat → List D → List D
  | 102, [d, e] => [.bool true]
  | _, _ => []
theorem pc_43 (d e : D) (h : d = e) : PC Try.prog 43 [.sc (.sl [(.int .i64), (.int .i64), (.int .i64), (.int .i64), (.int .i64), (.int .i64), .bool]) d, .sc (.sl [(.int .i64), (.int .i64), (.int .i64), (.int .i64), (.int .i64), (.int .i64), .bool]) e] [.sc .bool] fun o => o = [.bool true] := by
  refine PC.of_sig mix sig_43 ⟨rfl, rfl, trivial⟩ rfl fun hok => ?_
  have e_d := sl_eta (hok _ (.head _))
  have l_d := sl_len (hok _ (.head _))
  have k_d := sl_all (hok _ (.head _))
  have E_d : ∀ i, i < d.toL.length → D.lst [(d.elem i).fld 0, (d.elem i).fld 1, (d.elem i).fld 2, (d.elem i).fld 3, (d.elem i).fld 4, (d.elem i).fld 5, (d.elem i).fld 6] = d.elem i := fun i hi => by simpa [List.range, List.range.loop] using okL_eta (k_d _ (elem_mem hi))
  have e_e := sl_eta (hok _ (.tail _ (.head _)))
  have l_e := sl_len (hok _ (.tail _ (.head _)))
  have k_e := sl_all (hok _ (.tail _ (.head _)))
  have E_e : ∀ i, i < e.toL.length → D.lst [(e.elem i).fld 0, (e.elem i).fld 1, (e.elem i).fld 2, (e.elem i).fld 3, (e.elem i).fld 4, (e.elem i).fld 5, (e.elem i).fld 6] = e.elem i := fun i hi => by simpa [List.range, List.range.loop] using okL_eta (k_e _ (elem_mem hi))
  subst h
  apply says_den (φ := (phi_43))
  simp [e_d, e_e, E_d, E_e, tree_43, T.says, X.den, O1.den, O2.den, O3.den, callD, XArg.ev, XArg.dat, Callee'.num, backs, DArg.back, Conds.den, cloArgs, phi_43, pd_102]
  refine fun _ => ?_
  refine den_for d.toL.length 0 (fun i => [.int i]) (fun _ => True) (by simp) (by simp [X.den]) trivial fun i hi _ => ?_
  apply says_den (φ := (phi_43))
  simp [e_d, e_e, E_d, E_e, tree_43, T.says, X.den, O1.den, O2.den, O3.den, callD, XArg.ev, XArg.dat, Callee'.num, backs, DArg.back, Conds.den, cloArgs, phi_43, pd_102]
  (repeat' (first | (with_reducible apply And.intro) | intro _)) <;> (first | omega | (simp only [IntKind.wrap_i64, maxL] at *; omega) | (simp [IntKind.wrap_i64, maxL] at *; omega))
theorem pd_43 (d e : D) (h : d = e) (Q : List D → Prop) (ho : Q [.bool true]) : PC Try.prog 43 [.sc (.sl [(.int .i64), (.int .i64), (.int .i64), (.int .i64), (.int .i64), (.int .i64), .bool]) d, .sc (.sl [(.int .i64), (.int .i64), (.int .i64), (.int .i64), (.int .i64), (.int .i64), .bool]) e] [.sc .bool] Q := (pc_43 d e h).mono fun _ h => h ▸ ho
/- laws.eqAct -/
def phi_70 : Nat → List D → List D
  | 43, [d, e] => [.bool true]
  | _, _ => []
theorem pc_70 (d e : D) (h : d = e) : PC Try.prog 70 [.st [(.int .i64), (.int .i64), (.int .i64), (.int .i64), (.int .i64), .bool, (.sl [(.int .i64), (.int .i64), (.int .i64), (.int .i64), (.int .i64), (.int .i64), .bool])] d, .st [(.int .i64), (.int .i64), (.int .i64), (.int .i64), (.int .i64), .bool, (.sl [(.int .i64), (.int .i64), (.int .i64), (.int .i64), (.int .i64), (.int .i64), .bool])] e] [.sc .bool] fun o => o = [.bool true] := by
  refine PC.of_sig mix sig_70 ⟨rfl, rfl, trivial⟩ rfl fun hok => ?_
  have e_d : D.lst [d.fld 0, d.fld 1, d.fld 2, d.fld 3, d.fld 4, d.fld 5, d.fld 6] = d := by simpa [List.range, List.range.loop] using okL_eta (hok _ (.head _))
  have k_d : okL [(.int .i64), (.int .i64), (.int .i64), (.int .i64), (.int .i64), .bool, (.sl [(.int .i64), (.int .i64), (.int .i64), (.int .i64), (.int .i64), (.int .i64), .bool])] d := (hok _ (.head _))
  have e_d_6 : D.lst (d.fld 6).toL = d.fld 6 := sl_eta (okL_at k_d (i := 6) rfl)
  have l_d_6 := sl_len (okL_at k_d (i := 6) rfl)
  have k_d_6 := sl_all (okL_at k_d (i := 6) rfl)
  have E_d_6 : ∀ i, i < (d.fld 6).toL.length → D.lst [((d.fld 6).elem i).fld 0, ((d.fld 6).elem i).fld 1, ((d.fld 6).elem i).fld 2, ((d.fld 6).elem i).fld 3, ((d.fld 6).elem i).fld 4, ((d.fld 6).elem i).fld 5, ((d.fld 6).elem i).fld 6] = (d.fld 6).elem i := fun i hi => by simpa [List.range, List.range.loop] using okL_eta (k_d_6 _ (elem_mem hi))
  have e_e : D.lst [e.fld 0, e.fld 1, e.fld 2, e.fld 3, e.fld 4, e.fld 5, e.fld 6] = e := by simpa [List.range, List.range.loop] using okL_eta (hok _ (.tail _ (.head _)))
  have k_e : okL [(.int .i64), (.int .i64), (.int .i64), (.int .i64), (.int .i64), .bool, (.sl [(.int .i64), (.int .i64), (.int .i64), (.int .i64), (.int .i64), (.int .i64), .bool])] e := (hok _ (.tail _ (.head _)))
  have e_e_6 : D.lst (e.fld 6).toL = e.fld 6 := sl_eta (okL_at k_e (i := 6) rfl)
  have l_e_6 := sl_len (okL_at k_e (i := 6) rfl)
  have k_e_6 := sl_all (okL_at k_e (i := 6) rfl)
  have E_e_6 : ∀ i, i < (e.fld 6).toL.length → D.lst [((e.fld 6).elem i).fld 0, ((e.fld 6).elem i).fld 1, ((e.fld 6).elem i).fld 2, ((e.fld 6).elem i).fld 3, ((e.fld 6).elem i).fld 4, ((e.fld 6).elem i).fld 5, ((e.fld 6).elem i).fld 6] = (e.fld 6).elem i := fun i hi => by simpa [List.range, List.range.loop] using okL_eta (k_e_6 _ (elem_mem hi))
  subst h
  apply says_den (φ := (phi_70))
  simp [e_d_6, E_d_6, e_e_6, E_e_6, e_d, e_e, tree_70, T.says, X.den, O1.den, O2.den, O3.den, callD, XArg.ev, XArg.dat, Callee'.num, backs, DArg.back, Conds.den, cloArgs, phi_70, pd_43]
theorem pd_70 (d e : D) (h : d = e) (Q : List D → Prop) (ho : Q [.bool true]) : PC Try.prog 70 [.st [(.int .i64), (.int .i64), (.int .i64), (.int .i64), (.int .i64), .bool, (.sl [(.int .i64), (.int .i64), (.int .i64), (.int .i64), (.int .i64), (.int .i64), .bool])] d, .st [(.int .i64), (.int .i64), (.int .i64), (.int .i64), (.int .i64), .bool, (.sl [(.int .i64), (.int .i64), (.int .i64), (.int .i64), (.int .i64), (.int .i64), .bool])] e] [.sc .bool] Q := (pc_70 d e h).mono fun _ h => h ▸ ho
/- laws.eqEffect -/
def phi_25 : Nat → List D → List D
  | 68, [d, e] => [.bool true]
  | 69, [d, e] => [.bool true]
  | 70, [d, e] => [.bool true]
  | _, _ => []
theorem pc_25 (d e : D) (h : d = e) : PC Try.prog 25 [.st [(.int .i64), (.int .i64), (.int .i64), (.int .i64), (.int .i64), (.int .i64), (.int .i64), (.int .i64), (.int .i64), (.int .i64), (.int .i64), (.int .i64), (.int .i64), (.int .i64), (.int .i64), (.int .i64), (.int .i64), (.int .i64), .bool, (.sl [(.int .i64), (.int .i64), (.int .i64), (.int .i64), (.int .i64), (.int .i64), .bool]), (.int .i64), (.int .i64)] d, .st [(.int .i64), (.int .i64), (.int .i64), (.int .i64), (.int .i64), (.int .i64), (.int .i64), (.int .i64), (.int .i64), (.int .i64), (.int .i64), (.int .i64), (.int .i64), (.int .i64), (.int .i64), (.int .i64), (.int .i64), (.int .i64), .bool, (.sl [(.int .i64), (.int .i64), (.int .i64), (.int .i64), (.int .i64), (.int .i64), .bool]), (.int .i64), (.int .i64)] e] [.sc .bool] fun o => o = [.bool true] := by
  refine PC.of_sig mix sig_25 ⟨rfl, rfl, trivial⟩ rfl fun hok => ?_
  have e_d : D.lst [d.fld 0, d.fld 1, d.fld 2, d.fld 3, d.fld 4, d.fld 5, d.fld 6, d.fld 7, d.fld 8, d.fld 9, d.fld 10, d.fld 11, d.fld 12, d.fld 13, d.fld 14, d.fld 15, d.fld 16, d.fld 17, d.fld 18, d.fld 19, d.fld 20, d.fld 21] = d := by simpa [List.range, List.range.loop] using okL_eta (hok _ (.head _))
  have k_d : okL [(.int .i64), (.int .i64), (.int .i64), (.int .i64), (.int .i64), (.int .i64), (.int .i64), (.int .i64), (.int .i64), (.int .i64), (.int .i64), (.int .i64), (.int .i64), (.int .i64), (.int .i64), (.int .i64), (.int .i64), (.int .i64), .bool, (.sl [(.int .i64), (.int .i64), (.int .i64), (.int .i64), (.int .i64), (.int .i64), .bool]), (.int .i64), (.int .i64)] d := (hok _ (.head _))
  have e_d_19 : D.lst (d.fld 19).toL = d.fld 19 := sl_eta (okL_at k_d (i := 19) rfl)
  have l_d_19 := sl_len (okL_at k_d (i := 19) rfl)
  have k_d_19 := sl_all (okL_at k_d (i := 19) rfl)
  have E_d_19 : ∀ i, i < (d.fld 19).toL.length → D.lst [((d.fld 19).elem i).fld 0, ((d.fld 19).elem i).fld 1, ((d.fld 19).elem i).fld 2, ((d.fld 19).elem i).fld 3, ((d.fld 19).elem i).fld 4, ((d.fld 19).elem i).fld 5, ((d.fld 19).elem i).fld 6] = (d.fld 19).elem i := fun i hi => by simpa [List.range, List.range.loop] using okL_eta (k_d_19 _ (elem_mem hi))
  have e_e : D.lst [e.fld 0, e.fld 1, e.fld 2, e.fld 3, e.fld 4, e.fld 5, e.fld 6, e.fld 7, e.fld 8, e.fld 9, e.fld 10, e.fld 11, e.fld 12, e.fld 13, e.fld 14, e.fld 15, e.fld 16, e.fld 17, e.fld 18, e.fld 19, e.fld 20, e.fld 21] = e := by simpa [List.range, List.range.loop] using okL_eta (hok _ (.tail _ (.head _)))
  have k_e : okL [(.int .i64), (.int .i64), (.int .i64), (.int .i64), (.int .i64), (.int .i64), (.int .i64), (.int .i64), (.int .i64), (.int .i64), (.int .i64), (.int .i64), (.int .i64), (.int .i64), (.int .i64), (.int .i64), (.int .i64), (.int .i64), .bool, (.sl [(.int .i64), (.int .i64), (.int .i64), (.int .i64), (.int .i64), (.int .i64), .bool]), (.int .i64), (.int .i64)] e := (hok _ (.tail _ (.head _)))
  have e_e_19 : D.lst (e.fld 19).toL = e.fld 19 := sl_eta (okL_at k_e (i := 19) rfl)
  have l_e_19 := sl_len (okL_at k_e (i := 19) rfl)
  have k_e_19 := sl_all (okL_at k_e (i := 19) rfl)
  have E_e_19 : ∀ i, i < (e.fld 19).toL.length → D.lst [((e.fld 19).elem i).fld 0, ((e.fld 19).elem i).fld 1, ((e.fld 19).elem i).fld 2, ((e.fld 19).elem i).fld 3, ((e.fld 19).elem i).fld 4, ((e.fld 19).elem i).fld 5, ((e.fld 19).elem i).fld 6] = (e.fld 19).elem i := fun i hi => by simpa [List.range, List.range.loop] using okL_eta (k_e_19 _ (elem_mem hi))
  subst h
  apply says_den (φ := (phi_25))
  simp [e_d_19, E_d_19, e_e_19, E_e_19, e_d, e_e, tree_25, T.says, X.den, O1.den, O2.den, O3.den, callD, XArg.ev, XArg.dat, Callee'.num, backs, DArg.back, Conds.den, cloArgs, phi_25, pd_68, pd_69, pd_70]
theorem pd_25 (d e : D) (h : d = e) (Q : List D → Prop) (ho : Q [.bool true]) : PC Try.prog 25 [.st [(.int .i64), (.int .i64), (.int .i64), (.int .i64), (.int .i64), (.int .i64), (.int .i64), (.int .i64), (.int .i64), (.int .i64), (.int .i64), (.int .i64), (.int .i64), (.int .i64), (.int .i64), (.int .i64), (.int .i64), (.int .i64), .bool, (.sl [(.int .i64), (.int .i64), (.int .i64), (.int .i64), (.int .i64), (.int .i64), .bool]), (.int .i64), (.int .i64)] d, .st [(.int .i64), (.int .i64), (.int .i64), (.int .i64), (.int .i64), (.int .i64), (.int .i64), (.int .i64), (.int .i64), (.int .i64), (.int .i64), (.int .i64), (.int .i64), (.int .i64), (.int .i64), (.int .i64), (.int .i64), (.int .i64), .bool, (.sl [(.int .i64), (.int .i64), (.int .i64), (.int .i64), (.int .i64), (.int .i64), .bool]), (.int .i64), (.int .i64)] e] [.sc .bool] Q := (pc_25 d e h).mono fun _ h => h ▸ ho
/- laws.eqEffectS -/
def phi_18 : Nat → List D → List D
  | 25, [d, e] => [.bool true]
  | _, _ => []
theorem pc_18 (d e : D) (h : d = e) : PC Try.prog 18 [.sc (.sl [(.int .i64), (.int .i64), (.int .i64), (.int .i64), (.int .i64), (.int .i64), (.int .i64), (.int .i64), (.int .i64), (.int .i64), (.int .i64), (.int .i64), (.int .i64), (.int .i64), (.int .i64), (.int .i64), (.int .i64), (.int .i64), .bool, (.sl [(.int .i64), (.int .i64), (.int .i64), (.int .i64), (.int .i64), (.int .i64), .bool]), (.int .i64), (.int .i64)]) d, .sc (.sl [(.int .i64), (.int .i64), (.int .i64), (.int .i64), (.int .i64), (.int .i64), (.int .i64), (.int .i64), (.int .i64), (.int .i64), (.int .i64), (.int .i64), (.int .i64), (.int .i64), (.int .i64), (.int .i64), (.int .i64), (.int .i64), .bool, (.sl [(.int .i64), (.int .i64), (.int .i64), (.int .i64), (.int .i64), (.int .i64), .bool]), (.int .i64), (.int .i64)]) e] [.sc .bool] fun o => o = [.bool true] := by
  refine PC.of_sig mix sig_18 ⟨rfl, rfl, trivial⟩ rfl fun hok => ?_
  have e_d := sl_eta (hok _ (.head _))
  have l_d := sl_len (hok _ (.head _))
  have k_d := sl_all (hok _ (.head _))
  have E_d : ∀ i, i < d.toL.length → D.lst [(d.elem i).fld 0, (d.elem i).fld 1, (d.elem i).fld 2, (d.elem i).fld 3, (d.elem i).fld 4, (d.elem i).fld 5, (d.elem i).fld 6, (d.elem i).fld 7, (d.elem i).fld 8, (d.elem i).fld 9, (d.elem i).fld 10, (d.elem i).fld 11, (d.elem i).fld 12, (d.elem i).fld 13, (d.elem i).fld 14, (d.elem i).fld 15, (d.elem i).fld 16, (d.elem i).fld 17, (d.elem i).fld 18, (d.elem i).fld 19, (d.elem i).fld 20, (d.elem i).fld 21] = d.elem i := fun i hi => by simpa [List.range, List.range.loop] using okL_eta (k_d _ (elem_mem hi))
  have e_e := sl_eta (hok _ (.tail _ (.head _)))
  have l_e := sl_len (hok _ (.tail _ (.head _)))
  have k_e := sl_all (hok _ (.tail _ (.head _)))
  have E_e : ∀ i, i < e.toL.length → D.lst [(e.elem i).fld 0, (e.elem i).fld 1, (e.elem i).fld 2, (e.elem i).fld 3, (e.elem i).fld 4, (e.elem i).fld 5, (e.elem i).fld 6, (e.elem i).fld 7, (e.elem i).fld 8, (e.elem i).fld 9, (e.elem i).fld 10, (e.elem i).fld 11, (e.elem i).fld 12, (e.elem i).fld 13, (e.elem i).fld 14, (e.elem i).fld 15, (e.elem i).fld 16, (e.elem i).fld 17, (e.elem i).fld 18, (e.elem i).fld 19, (e.elem i).fld 20, (e.elem i).fld 21] = e.elem i := fun i hi => by simpa [List.range, List.range.loop] using okL_eta (k_e _ (elem_mem hi))
  subst h
  apply says_den (φ := (phi_18))
  simp [e_d, e_e, E_d, E_e, tree_18, T.says, X.den, O1.den, O2.den, O3.den, callD, XArg.ev, XArg.dat, Callee'.num, backs, DArg.back, Conds.den, cloArgs, phi_18, pd_25]
  refine fun _ => ?_
  refine den_for d.toL.length 0 (fun i => [.int i]) (fun _ => True) (by simp) (by simp [X.den]) trivial fun i hi _ => ?_
  apply says_den (φ := (phi_18))
  simp [e_d, e_e, E_d, E_e, tree_18, T.says, X.den, O1.den, O2.den, O3.den, callD, XArg.ev, XArg.dat, Callee'.num, backs, DArg.back, Conds.den, cloArgs, phi_18, pd_25]
  (repeat' (first | (with_reducible apply And.intro) | intro _)) <;> (first | omega | (simp only [IntKind.wrap_i64, maxL] at *; omega) | (simp [IntKind.wrap_i64, maxL] at *; omega))
theorem pd_18 (d e : D) (h : d = e) (Q : List D → Prop) (ho : Q [.bool true]) : PC Try.prog 18 [.sc (.sl [(.int .i64), (.int .i64), (.int .i64), (.int .i64), (.int .i64), (.int .i64), (.int .i64), (.int .i64), (.int .i64), (.int .i64), (.int .i64), (.int .i64), (.int .i64), (.int .i64), (.int .i64), (.int .i64), (.int .i64), (.int .i64), .bool, (.sl [(.int .i64), (.int .i64), (.int .i64), (.int .i64), (.int .i64), (.int .i64), .bool]), (.int .i64), (.int .i64)]) d, .sc (.sl [(.int .i64), (.int .i64), (.int .i64), (.int .i64), (.int .i64), (.int .i64), (.int .i64), (.int .i64), (.int .i64), (.int .i64), (.int .i64), (.int .i64), (.int .i64), (.int .i64), (.int .i64), (.int .i64), (.int .i64), (.int .i64), .bool, (.sl [(.int .i64), (.int .i64), (.int .i64), (.int .i64), (.int .i64), (.int .i64), .bool]), (.int .i64), (.int .i64)]) e] [.sc .bool] Q := (pc_18 d e h).mono fun _ h => h ▸ ho
/- spec.SameEffect -/
theorem pc_55 (a b : D) : PC Try.prog 55 [.st [(.int .i64), (.int .i64), (.int .i64), (.int .i64), (.int .i64), (.int .i64), (.int .i64), (.int .i64), (.int .i64), (.int .i64), (.int .i64), (.int .i64), (.int .i64), (.int .i64), (.int .i64), (.int .i64), (.int .i64), (.int .i64), .bool, (.sl [(.int .i64), (.int .i64), (.int .i64), (.int .i64), (.int .i64), (.int .i64), .bool]), (.int .i64), (.int .i64)] a, .st [(.int .i64), (.int .i64), (.int .i64), (.int .i64), (.int .i64), (.int .i64), (.int .i64), (.int .i64), (.int .i64), (.int .i64), (.int .i64), (.int .i64), (.int .i64), (.int .i64), (.int .i64), (.int .i64), (.int .i64), (.int .i64), .bool, (.sl [(.int .i64), (.int .i64), (.int .i64), (.int .i64), (.int .i64), (.int .i64), .bool]), (.int .i64), (.int .i64)] b] [.sc .bool] fun o => o = [.bool (sameEffect a b)] := by
  refine PC.of_sig mix sig_55 ⟨rfl, rfl, trivial⟩ rfl fun hok => ?_
  have e_a : D.lst [a.fld 0, a.fld 1, a.fld 2, a.fld 3, a.fld 4, a.fld 5, a.fld 6, a.fld 7, a.fld 8, a.fld 9, a.fld 10, a.fld 11, a.fld 12, a.fld 13, a.fld 14, a.fld 15, a.fld 16, a.fld 17, a.fld 18, a.fld 19, a.fld 20, a.fld 21] = a := by simpa [List.range, List.range.loop] using okL_eta (hok _ (.head _))
  have k_a : okL [(.int .i64), (.int .i64), (.int .i64), (.int .i64), (.int .i64), (.int .i64), (.int .i64), (.int .i64), (.int .i64), (.int .i64), (.int .i64), (.int .i64), (.int .i64), (.int .i64), (.int .i64), (.int .i64), (.int .i64), (.int .i64), .bool, (.sl [(.int .i64), (.int .i64), (.int .i64), (.int .i64), (.int .i64), (.int .i64), .bool]), (.int .i64), (.int .i64)] a := (hok _ (.head _))
  have e_a_19 : D.lst (a.fld 19).toL = a.fld 19 := sl_eta (okL_at k_a (i := 19) rfl)
  have l_a_19 := sl_len (okL_at k_a (i := 19) rfl)
  have k_a_19 := sl_all (okL_at k_a (i := 19) rfl)
  have E_a_19 : ∀ i, i < (a.fld 19).toL.length → D.lst [((a.fld 19).elem i).fld 0, ((a.fld 19).elem i).fld 1, ((a.fld 19).elem i).fld 2, ((a.fld 19).elem i).fld 3, ((a.fld 19).elem i).fld 4, ((a.fld 19).elem i).fld 5, ((a.fld 19).elem i).fld 6] = (a.fld 19).elem i := fun i hi => by simpa [List.range, List.range.loop] using okL_eta (k_a_19 _ (elem_mem hi))
  have e_b : D.lst [b.fld 0, b.fld 1, b.fld 2, b.fld 3, b.fld 4, b.fld 5, b.fld 6, b.fld 7, b.fld 8, b.fld 9, b.fld 10, b.fld 11, b.fld 12, b.fld 13, b.fld 14, b.fld 15, b.fld 16, b.fld 17, b.fld 18, b.fld 19, b.fld 20, b.fld 21] = b := by simpa [List.range, List.range.loop] using okL_eta (hok _ (.tail _ (.head _)))
  have k_b : okL [(.int .i64), (.int .i64), (.int .i64), (.int .i64), (.int .i64), (.int .i64), (.int .i64), (.int .i64), (.int .i64), (.int .i64), (.int .i64), (.int .i64), (.int .i64), (.int .i64), (.int .i64), (.int .i64), (.int .i64), (.int .i64), .bool, (.sl [(.int .i64), (.int .i64), (.int .i64), (.int .i64), (.int .i64), (.int .i64), .bool]), (.int .i64), (.int .i64)] b := (hok _ (.tail _ (.head _)))
  have e_b_19 : D.lst (b.fld 19).toL = b.fld 19 := sl_eta (okL_at k_b (i := 19) rfl)
  have l_b_19 := sl_len (okL_at k_b (i := 19) rfl)
  have k_b_19 := sl_all (okL_at k_b (i := 19) rfl)
  have E_b_19 : ∀ i, i < (b.fld 19).toL.length → D.lst [((b.fld 19).elem i).fld 0, ((b.fld 19).elem i).fld 1, ((b.fld 19).elem i).fld 2, ((b.fld 19).elem i).fld 3, ((b.fld 19).elem i).fld 4, ((b.fld 19).elem i).fld 5, ((b.fld 19).elem i).fld 6] = (b.fld 19).elem i := fun i hi => by simpa [List.range, List.range.loop] using okL_eta (k_b_19 _ (elem_mem hi))
  apply says_den (φ := fun _ _ => [])
  simp [e_a_19, E_a_19, e_b_19, E_b_19, e_a, e_b, tree_55, T.says, X.den, O1.den, O2.den, O3.den, callD, XArg.ev, XArg.dat, Callee'.num, backs, DArg.back, Conds.den, cloArgs]
  (repeat' (first | (with_reducible apply And.intro) | intro _))
  · simp [sameEffect, sameEvs]; grind
  · simp [sameEffect, sameEvs]; grind
  have hs : sameEffect a b = sameEvs (a.fld 19) (b.fld 19) := by simp_all [sameEffect]
  rw [hs]
  refine den_for (a.fld 19).toL.length 0 (fun i => [.int i]) (fun i => ∀ j, j < i → sameEv ((a.fld 19).elem j) ((b.fld 19).elem j) = true) (by simp) (by simp [X.den]) (by simp) fun i hi hR => ?_
  apply says_den (φ := fun _ _ => [])
  simp [e_a_19, E_a_19, e_b_19, E_b_19, e_a, e_b, tree_55, T.says, X.den, O1.den, O2.den, O3.den, callD, XArg.ev, XArg.dat, Callee'.num, backs, DArg.back, Conds.den, cloArgs]
  (repeat' (first | (with_reducible apply And.intro) | intro _))
  · omega
  · omega
  · have : sameEv ((a.fld 19).elem i) ((b.fld 19).elem i) = false := by grind [sameEv]
    simp [sameEvs, allR_false (p := fun i => sameEv ((a.fld 19).elem i) ((b.fld 19).elem i)) (i := i) ‹_› this]
  · omega
  · (first | omega | (simp only [IntKind.wrap_i64, maxL] at *; omega) | (simp [IntKind.wrap_i64, maxL] at *; omega))
  · grind [sameEv]
  · have := allR_true (p := fun i => sameEv ((a.fld 19).elem i) ((b.fld 19).elem i)) (n := (a.fld 19).toL.length) (fun j hj => hR j (by omega))
    simp only [sameEvs, this, Bool.and_true, decide_eq_true_eq]
    omega
theorem pd_55 (a b : D) (Q : List D → Prop) (ho : Q [.bool (sameEffect a b)]) : PC Try.prog 55 [.st [(.int .i64), (.int .i64), (.int .i64), (.int .i64), (.int .i64), (.int .i64), (.int .i64), (.int .i64), (.int .i64), (.int .i64), (.int .i64), (.int .i64), (.int .i64), (.int .i64), (.int .i64), (.int .i64), (.int .i64), (.int .i64), .bool, (.sl [(.int .i64), (.int .i64), (.int .i64), (.int .i64), (.int .i64), (.int .i64), .bool]), (.int .i64), (.int .i64)] a, .st [(.int .i64), (.int .i64), (.int .i64), (.int .i64), (.int .i64), (.int .i64), (.int .i64), (.int .i64), (.int .i64), (.int .i64), (.int .i64), (.int .i64), (.int .i64), (.int .i64), (.int .i64), (.int .i64), (.int .i64), (.int .i64), .bool, (.sl [(.int .i64), (.int .i64), (.int .i64), (.int .i64), (.int .i64), (.int .i64), .bool]), (.int .i64), (.int .i64)] b] [.sc .bool] Q := (pc_55 a b).mono fun _ h => h ▸ ho
/- spec.SameTable -/
def phi_19 : Nat → List D → List D
  | 55, [a, b] => [.bool (sameEffect a b)]
  | _, _ => []
theorem pc_19 (a b : D) : PC Try.prog 19 [.sc (.sl [(.int .i64), (.int .i64), (.int .i64), (.int .i64), (.int .i64), (.int .i64), (.int .i64), (.int .i64), (.int .i64), (.int .i64), (.int .i64), (.int .i64), (.int .i64), (.int .i64), (.int .i64), (.int .i64), (.int .i64), (.int .i64), .bool, (.sl [(.int .i64), (.int .i64), (.int .i64), (.int .i64), (.int .i64), (.int .i64), .bool]), (.int .i64), (.int .i64)]) a, .sc (.sl [(.int .i64), (.int .i64), (.int .i64), (.int .i64), (.int .i64), (.int .i64), (.int .i64), (.int .i64), (.int .i64), (.int .i64), (.int .i64), (.int .i64), (.int .i64), (.int .i64), (.int .i64), (.int .i64), (.int .i64), (.int .i64), .bool, (.sl [(.int .i64), (.int .i64), (.int .i64), (.int .i64), (.int .i64), (.int .i64), .bool]), (.int .i64), (.int .i64)]) b] [.sc .bool] fun o => o = [.bool (sameTable a b)] := by
  refine PC.of_sig mix sig_19 ⟨rfl, rfl, trivial⟩ rfl fun hok => ?_
  have e_a := sl_eta (hok _ (.head _))
  have l_a := sl_len (hok _ (.head _))
  have k_a := sl_all (hok _ (.head _))
  have E_a : ∀ i, i < a.toL.length → D.lst [(a.elem i).fld 0, (a.elem i).fld 1, (a.elem i).fld 2, (a.elem i).fld 3, (a.elem i).fld 4, (a.elem i).fld 5, (a.elem i).fld 6, (a.elem i).fld 7, (a.elem i).fld 8, (a.elem i).fld 9, (a.elem i).fld 10, (a.elem i).fld 11, (a.elem i).fld 12, (a.elem i).fld 13, (a.elem i).fld 14, (a.elem i).fld 15, (a.elem i).fld 16, (a.elem i).fld 17, (a.elem i).fld 18, (a.elem i).fld 19, (a.elem i).fld 20, (a.elem i).fld 21] = a.elem i := fun i hi => by simpa [List.range, List.range.loop] using okL_eta (k_a _ (elem_mem hi))
  have e_b := sl_eta (hok _ (.tail _ (.head _)))
  have l_b := sl_len (hok _ (.tail _ (.head _)))
  have k_b := sl_all (hok _ (.tail _ (.head _)))
  have E_b : ∀ i, i < b.toL.length → D.lst [(b.elem i).fld 0, (b.elem i).fld 1, (b.elem i).fld 2, (b.elem i).fld 3, (b.elem i).fld 4, (b.elem i).fld 5, (b.elem i).fld 6, (b.elem i).fld 7, (b.elem i).fld 8, (b.elem i).fld 9, (b.elem i).fld 10, (b.elem i).fld 11, (b.elem i).fld 12, (b.elem i).fld 13, (b.elem i).fld 14, (b.elem i).fld 15, (b.elem i).fld 16, (b.elem i).fld 17, (b.elem i).fld 18, (b.elem i).fld 19, (b.elem i).fld 20, (b.elem i).fld 21] = b.elem i := fun i hi => by simpa [List.range, List.range.loop] using okL_eta (k_b _ (elem_mem hi))
  apply says_den (φ := (phi_19))
  simp [e_a, e_b, E_a, E_b, tree_19, T.says, X.den, O1.den, O2.den, O3.den, callD, XArg.ev, XArg.dat, Callee'.num, backs, DArg.back, Conds.den, cloArgs, phi_19, pd_55]
  (repeat' (first | (with_reducible apply And.intro) | intro _))
  · simp only [sameTable, Bool.and_eq_false_iff, decide_eq_false_iff_not]; left; omega
  refine den_for a.toL.length 0 (fun i => [.int i]) (fun i => ∀ j, j < i → sameEffect (a.elem j) (b.elem j) = true) (by simp) (by simp [X.den]) (by simp) fun i hi hR => ?_
  have hl : a.toL.length = b.toL.length := by omega
  have E_b' := fun i hi => E_b i (hl ▸ hi)
  apply says_den (φ := (phi_19))
  by_cases hlt : i < a.toL.length
  · simp [e_a, e_b, E_a, E_b, tree_19, T.says, X.den, O1.den, O2.den, O3.den, callD, XArg.ev, XArg.dat, Callee'.num, backs, DArg.back, Conds.den, cloArgs, phi_19, pd_55, hlt, E_b']
    (repeat' (first | (with_reducible apply And.intro) | intro _))
    · omega
    · simp [sameTable, allR_false (p := fun i => sameEffect (a.elem i) (b.elem i)) hlt ‹_›]
    · (first | omega | (simp only [IntKind.wrap_i64, maxL] at *; omega) | (simp [IntKind.wrap_i64, maxL] at *; omega))
    · grind
  · have ht := allR_true (p := fun i => sameEffect (a.elem i) (b.elem i)) (n := a.toL.length) (fun j hj => hR j (by omega))
    simp [e_a, e_b, E_a, E_b, tree_19, T.says, X.den, O1.den, O2.den, O3.den, callD, XArg.ev, XArg.dat, Callee'.num, backs, DArg.back, Conds.den, cloArgs, phi_19, pd_55, hlt, sameTable, ht]
    all_goals omega
theorem pd_19 (a b : D) (Q : List D → Prop) (ho : Q [.bool (sameTable a b)]) : PC Try.prog 19 [.sc (.sl [(.int .i64), (.int .i64), (.int .i64), (.int .i64), (.int .i64), (.int .i64), (.int .i64), (.int .i64), (.int .i64), (.int .i64), (.int .i64), (.int .i64), (.int .i64), (.int .i64), (.int .i64), (.int .i64), (.int .i64), (.int .i64), .bool, (.sl [(.int .i64), (.int .i64), (.int .i64), (.int .i64), (.int .i64), (.int .i64), .bool]), (.int .i64), (.int .i64)]) a, .sc (.sl [(.int .i64), (.int .i64), (.int .i64), (.int .i64), (.int .i64), (.int .i64), (.int .i64), (.int .i64), (.int .i64), (.int .i64), (.int .i64), (.int .i64), (.int .i64), (.int .i64), (.int .i64), (.int .i64), (.int .i64), (.int .i64), .bool, (.sl [(.int .i64), (.int .i64), (.int .i64), (.int .i64), (.int .i64), (.int .i64), .bool]), (.int .i64), (.int .i64)]) b] [.sc .bool] Q := (pc_19 a b).mono fun _ h => h ▸ ho
/- slices.Equal[[]impl.Event,impl.Event] -/
theorem pc_155 (a b : D) : PC Try.prog 155 [.sc (.sl [(.int .i64), (.int .i64), (.int .i64), (.int .i64), (.int .i64), (.int .i64), .bool]) a, .sc (.sl [(.int .i64), (.int .i64), (.int .i64), (.int .i64), (.int .i64), (.int .i64), .bool]) b] [.sc .bool] fun o => o = [.bool (sameEvs a b)] := by
  refine PC.of_sig mix sig_155 ⟨rfl, rfl, trivial⟩ rfl fun hok => ?_
  have e_a := sl_eta (hok _ (.head _))
  have l_a := sl_len (hok _ (.head _))
  have k_a := sl_all (hok _ (.head _))
  have E_a : ∀ i, i < a.toL.length → D.lst [(a.elem i).fld 0, (a.elem i).fld 1, (a.elem i).fld 2, (a.elem i).fld 3, (a.elem i).fld 4, (a.elem i).fld 5, (a.elem i).fld 6] = a.elem i := fun i hi => by simpa [List.range, List.range.loop] using okL_eta (k_a _ (elem_mem hi))
  have e_b := sl_eta (hok _ (.tail _ (.head _)))
  have l_b := sl_len (hok _ (.tail _ (.head _)))
  have k_b := sl_all (hok _ (.tail _ (.head _)))
  have E_b : ∀ i, i < b.toL.length → D.lst [(b.elem i).fld 0, (b.elem i).fld 1, (b.elem i).fld 2, (b.elem i).fld 3, (b.elem i).fld 4, (b.elem i).fld 5, (b.elem i).fld 6] = b.elem i := fun i hi => by simpa [List.range, List.range.loop] using okL_eta (k_b _ (elem_mem hi))
  apply says_den (φ := fun _ _ => [])
  simp [e_a, e_b, E_a, E_b, tree_155, T.says, X.den, O1.den, O2.den, O3.den, callD, XArg.ev, XArg.dat, Callee'.num, backs, DArg.back, Conds.den, cloArgs]
  (repeat' (first | (with_reducible apply And.intro) | intro _))
  · grind [sameEvs]
  refine den_for a.toL.length 0 (fun i => [.int i]) (fun i => ∀ j, j < i → sameEv (a.elem j) (b.elem j) = true) (by simp) (by simp [X.den]) (by simp) fun i hi hR => ?_
  apply says_den (φ := fun _ _ => [])
  simp [e_a, e_b, E_a, E_b, tree_155, T.says, X.den, O1.den, O2.den, O3.den, callD, XArg.ev, XArg.dat, Callee'.num, backs, DArg.back, Conds.den, cloArgs]
  (repeat' (first | (with_reducible apply And.intro) | intro _))
  · omega
  · omega
  · have : sameEv (a.elem i) (b.elem i) = false := by grind [sameEv]
    simp [sameEvs, allR_false (p := fun i => sameEv (a.elem i) (b.elem i)) (i := i) ‹_› this]
  · omega
  · (first | omega | (simp only [IntKind.wrap_i64, maxL] at *; omega) | (simp [IntKind.wrap_i64, maxL] at *; omega))
  · rename_i j hj
    by_cases hji : j = i
    · subst hji; grind [sameEv]
    · exact hR j (by omega)
  · have := allR_true (p := fun i => sameEv (a.elem i) (b.elem i)) (n := a.toL.length) (fun j hj => hR j (by omega))
    simp only [sameEvs, this, Bool.and_true, decide_eq_true_eq]
    omega
theorem pd_155 (a b : D) (Q : List D → Prop) (ho : Q [.bool (sameEvs a b)]) : PC Try.prog 155 [.sc (.sl [(.int .i64), (.int .i64), (.int .i64), (.int .i64), (.int .i64), (.int .i64), .bool]) a, .sc (.sl [(.int .i64), (.int .i64), (.int .i64), (.int .i64), (.int .i64), (.int .i64), .bool]) b] [.sc .bool] Q := (pc_155 a b).mono fun _ h => h ▸ ho
/- impl.sameAct -/
def phi_117 : Nat → List D → List D
  | 155, [a, b] => [.bool (sameEvs a b)]
  | _, _ => []
theorem pc_117 (a b : D) : PC Try.prog 117 [.st [(.int .i64), (.int .i64), (.int .i64), (.int .i64), (.int .i64), .bool, (.sl [(.int .i64), (.int .i64), (.int .i64), (.int .i64), (.int .i64), (.int .i64), .bool])] a, .st [(.int .i64), (.int .i64), (.int .i64), (.int .i64), (.int .i64), .bool, (.sl [(.int .i64), (.int .i64), (.int .i64), (.int .i64), (.int .i64), (.int .i64), .bool])] b] [.sc .bool] fun o => o = [.bool (sameAct a b)] := by
  refine PC.of_sig mix sig_117 ⟨rfl, rfl, trivial⟩ rfl fun hok => ?_
  have e_a : D.lst [a.fld 0, a.fld 1, a.fld 2, a.fld 3, a.fld 4, a.fld 5, a.fld 6] = a := by simpa [List.range, List.range.loop] using okL_eta (hok _ (.head _))
  have k_a : okL [(.int .i64), (.int .i64), (.int .i64), (.int .i64), (.int .i64), .bool, (.sl [(.int .i64), (.int .i64), (.int .i64), (.int .i64), (.int .i64), (.int .i64), .bool])] a := (hok _ (.head _))
  have e_a_6 : D.lst (a.fld 6).toL = a.fld 6 := sl_eta (okL_at k_a (i := 6) rfl)
  have l_a_6 := sl_len (okL_at k_a (i := 6) rfl)
  have k_a_6 := sl_all (okL_at k_a (i := 6) rfl)
  have E_a_6 : ∀ i, i < (a.fld 6).toL.length → D.lst [((a.fld 6).elem i).fld 0, ((a.fld 6).elem i).fld 1, ((a.fld 6).elem i).fld 2, ((a.fld 6).elem i).fld 3, ((a.fld 6).elem i).fld 4, ((a.fld 6).elem i).fld 5, ((a.fld 6).elem i).fld 6] = (a.fld 6).elem i := fun i hi => by simpa [List.range, List.range.loop] using okL_eta (k_a_6 _ (elem_mem hi))
  have e_b : D.lst [b.fld 0, b.fld 1, b.fld 2, b.fld 3, b.fld 4, b.fld 5, b.fld 6] = b := by simpa [List.range, List.range.loop] using okL_eta (hok _ (.tail _ (.head _)))
  have k_b : okL [(.int .i64), (.int .i64), (.int .i64), (.int .i64), (.int .i64), .bool, (.sl [(.int .i64), (.int .i64), (.int .i64), (.int .i64), (.int .i64), (.int .i64), .bool])] b := (hok _ (.tail _ (.head _)))
  have e_b_6 : D.lst (b.fld 6).toL = b.fld 6 := sl_eta (okL_at k_b (i := 6) rfl)
  have l_b_6 := sl_len (okL_at k_b (i := 6) rfl)
  have k_b_6 := sl_all (okL_at k_b (i := 6) rfl)
  have E_b_6 : ∀ i, i < (b.fld 6).toL.length → D.lst [((b.fld 6).elem i).fld 0, ((b.fld 6).elem i).fld 1, ((b.fld 6).elem i).fld 2, ((b.fld 6).elem i).fld 3, ((b.fld 6).elem i).fld 4, ((b.fld 6).elem i).fld 5, ((b.fld 6).elem i).fld 6] = (b.fld 6).elem i := fun i hi => by simpa [List.range, List.range.loop] using okL_eta (k_b_6 _ (elem_mem hi))
  apply says_den (φ := (phi_117))
  simp [e_a_6, E_a_6, e_b_6, E_b_6, e_a, e_b, tree_117, T.says, X.den, O1.den, O2.den, O3.den, callD, XArg.ev, XArg.dat, Callee'.num, backs, DArg.back, Conds.den, cloArgs, phi_117, pd_155, sameAct]
  all_goals grind
theorem pd_117 (a b : D) (Q : List D → Prop) (ho : Q [.bool (sameAct a b)]) : PC Try.prog 117 [.st [(.int .i64), (.int .i64), (.int .i64), (.int .i64), (.int .i64), .bool, (.sl [(.int .i64), (.int .i64), (.int .i64), (.int .i64), (.int .i64), (.int .i64), .bool])] a, .st [(.int .i64), (.int .i64), (.int .i64), (.int .i64), (.int .i64), .bool, (.sl [(.int .i64), (.int .i64), (.int .i64), (.int .i64), (.int .i64), (.int .i64), .bool])] b] [.sc .bool] Q := (pc_117 a b).mono fun _ h => h ▸ ho
/- impl.SameEffect -/
def phi_57 : Nat → List D → List D
  | 117, [a, b] => [.bool (sameAct a b)]
  | _, _ => []
theorem pc_57 (a b : D) : PC Try.prog 57 [.st [(.int .i64), (.int .i64), (.int .i64), (.int .i64), (.int .i64), (.int .i64), (.int .i64), (.int .i64), (.int .i64), (.int .i64), (.int .i64), (.int .i64), (.int .i64), (.int .i64), (.int .i64), (.int .i64), (.int .i64), (.int .i64), .bool, (.sl [(.int .i64), (.int .i64), (.int .i64), (.int .i64), (.int .i64), (.int .i64), .bool]), (.int .i64), (.int .i64)] a, .st [(.int .i64), (.int .i64), (.int .i64), (.int .i64), (.int .i64), (.int .i64), (.int .i64), (.int .i64), (.int .i64), (.int .i64), (.int .i64), (.int .i64), (.int .i64), (.int .i64), (.int .i64), (.int .i64), (.int .i64), (.int .i64), .bool, (.sl [(.int .i64), (.int .i64), (.int .i64), (.int .i64), (.int .i64), (.int .i64), .bool]), (.int .i64), (.int .i64)] b] [.sc .bool] fun o => o = [.bool (sameEffect a b)] := by
  refine PC.of_sig mix sig_57 ⟨rfl, rfl, trivial⟩ rfl fun hok => ?_
  have e_a : D.lst [a.fld 0, a.fld 1, a.fld 2, a.fld 3, a.fld 4, a.fld 5, a.fld 6, a.fld 7, a.fld 8, a.fld 9, a.fld 10, a.fld 11, a.fld 12, a.fld 13, a.fld 14, a.fld 15, a.fld 16, a.fld 17, a.fld 18, a.fld 19, a.fld 20, a.fld 21] = a := by simpa [List.range, List.range.loop] using okL_eta (hok _ (.head _))
  have k_a : okL [(.int .i64), (.int .i64), (.int .i64), (.int .i64), (.int .i64), (.int .i64), (.int .i64), (.int .i64), (.int .i64), (.int .i64), (.int .i64), (.int .i64), (.int .i64), (.int .i64), (.int .i64), (.int .i64), (.int .i64), (.int .i64), .bool, (.sl [(.int .i64), (.int .i64), (.int .i64), (.int .i64), (.int .i64), (.int .i64), .bool]), (.int .i64), (.int .i64)] a := (hok _ (.head _))
  have e_a_19 : D.lst (a.fld 19).toL = a.fld 19 := sl_eta (okL_at k_a (i := 19) rfl)
  have l_a_19 := sl_len (okL_at k_a (i := 19) rfl)
  have k_a_19 := sl_all (okL_at k_a (i := 19) rfl)
  have E_a_19 : ∀ i, i < (a.fld 19).toL.length → D.lst [((a.fld 19).elem i).fld 0, ((a.fld 19).elem i).fld 1, ((a.fld 19).elem i).fld 2, ((a.fld 19).elem i).fld 3, ((a.fld 19).elem i).fld 4, ((a.fld 19).elem i).fld 5, ((a.fld 19).elem i).fld 6] = (a.fld 19).elem i := fun i hi => by simpa [List.range, List.range.loop] using okL_eta (k_a_19 _ (elem_mem hi))
  have e_b : D.lst [b.fld 0, b.fld 1, b.fld 2, b.fld 3, b.fld 4, b.fld 5, b.fld 6, b.fld 7, b.fld 8, b.fld 9, b.fld 10, b.fld 11, b.fld 12, b.fld 13, b.fld 14, b.fld 15, b.fld 16, b.fld 17, b.fld 18, b.fld 19, b.fld 20, b.fld 21] = b := by simpa [List.range, List.range.loop] using okL_eta (hok _ (.tail _ (.head _)))
  have k_b : okL [(.int .i64), (.int .i64), (.int .i64), (.int .i64), (.int .i64), (.int .i64), (.int .i64), (.int .i64), (.int .i64), (.int .i64), (.int .i64), (.int .i64), (.int .i64), (.int .i64), (.int .i64), (.int .i64), (.int .i64), (.int .i64), .bool, (.sl [(.int .i64), (.int .i64), (.int .i64), (.int .i64), (.int .i64), (.int .i64), .bool]), (.int .i64), (.int .i64)] b := (hok _ (.tail _ (.head _)))
  have e_b_19 : D.lst (b.fld 19).toL = b.fld 19 := sl_eta (okL_at k_b (i := 19) rfl)
  have l_b_19 := sl_len (okL_at k_b (i := 19) rfl)
  have k_b_19 := sl_all (okL_at k_b (i := 19) rfl)
  have E_b_19 : ∀ i, i < (b.fld 19).toL.length → D.lst [((b.fld 19).elem i).fld 0, ((b.fld 19).elem i).fld 1, ((b.fld 19).elem i).fld 2, ((b.fld 19).elem i).fld 3, ((b.fld 19).elem i).fld 4, ((b.fld 19).elem i).fld 5, ((b.fld 19).elem i).fld 6] = (b.fld 19).elem i := fun i hi => by simpa [List.range, List.range.loop] using okL_eta (k_b_19 _ (elem_mem hi))
  apply says_den (φ := (phi_57))
  simp [e_a_19, E_a_19, e_b_19, E_b_19, e_a, e_b, tree_57, T.says, X.den, O1.den, O2.den, O3.den, callD, XArg.ev, XArg.dat, Callee'.num, backs, DArg.back, Conds.den, cloArgs, phi_57, pd_117, sameEffect, sameAct]
  all_goals grind
theorem pd_57 (a b : D) (Q : List D → Prop) (ho : Q [.bool (sameEffect a b)]) : PC Try.prog 57 [.st [(.int .i64), (.int .i64), (.int .i64), (.int .i64), (.int .i64), (.int .i64), (.int .i64), (.int .i64), (.int .i64), (.int .i64), (.int .i64), (.int .i64), (.int .i64), (.int .i64), (.int .i64), (.int .i64), (.int .i64), (.int .i64), .bool, (.sl [(.int .i64), (.int .i64), (.int .i64), (.int .i64), (.int .i64), (.int .i64), .bool]), (.int .i64), (.int .i64)] a, .st [(.int .i64), (.int .i64), (.int .i64), (.int .i64), (.int .i64), (.int .i64), (.int .i64), (.int .i64), (.int .i64), (.int .i64), (.int .i64), (.int .i64), (.int .i64), (.int .i64), (.int .i64), (.int .i64), (.int .i64), (.int .i64), .bool, (.sl [(.int .i64), (.int .i64), (.int .i64), (.int .i64), (.int .i64), (.int .i64), .bool]), (.int .i64), (.int .i64)] b] [.sc .bool] Q := (pc_57 a b).mono fun _ h => h ▸ ho
/- slices.EqualFunc[[]impl.Effect,[]impl.Effect,impl.Effect,impl.Effect] -/
def phi_56 : Nat → List D → List D
  | 57, [a, b] => [.bool (sameEffect a b)]
  | 0, [a, b] => [.bool (sameEffect a b)]
  | _, _ => []
theorem pc_56 (a b : D) : PC Try.prog 56 [.sc (.sl [(.int .i64), (.int .i64), (.int .i64), (.int .i64), (.int .i64), (.int .i64), (.int .i64), (.int .i64), (.int .i64), (.int .i64), (.int .i64), (.int .i64), (.int .i64), (.int .i64), (.int .i64), (.int .i64), (.int .i64), (.int .i64), .bool, (.sl [(.int .i64), (.int .i64), (.int .i64), (.int .i64), (.int .i64), (.int .i64), .bool]), (.int .i64), (.int .i64)]) a, .sc (.sl [(.int .i64), (.int .i64), (.int .i64), (.int .i64), (.int .i64), (.int .i64), (.int .i64), (.int .i64), (.int .i64), (.int .i64), (.int .i64), (.int .i64), (.int .i64), (.int .i64), (.int .i64), (.int .i64), (.int .i64), (.int .i64), .bool, (.sl [(.int .i64), (.int .i64), (.int .i64), (.int .i64), (.int .i64), (.int .i64), .bool]), (.int .i64), (.int .i64)]) b, .clo 57 []] [.sc .bool] fun o => o = [.bool (sameTable a b)] := by
  refine PC.of_sig mix sig_56 ⟨rfl, rfl, trivial, trivial⟩ rfl fun hok => ?_
  have e_a := sl_eta (hok _ (.head _))
  have l_a := sl_len (hok _ (.head _))
  have k_a := sl_all (hok _ (.head _))
  have E_a : ∀ i, i < a.toL.length → D.lst [(a.elem i).fld 0, (a.elem i).fld 1, (a.elem i).fld 2, (a.elem i).fld 3, (a.elem i).fld 4, (a.elem i).fld 5, (a.elem i).fld 6, (a.elem i).fld 7, (a.elem i).fld 8, (a.elem i).fld 9, (a.elem i).fld 10, (a.elem i).fld 11, (a.elem i).fld 12, (a.elem i).fld 13, (a.elem i).fld 14, (a.elem i).fld 15, (a.elem i).fld 16, (a.elem i).fld 17, (a.elem i).fld 18, (a.elem i).fld 19, (a.elem i).fld 20, (a.elem i).fld 21] = a.elem i := fun i hi => by simpa [List.range, List.range.loop] using okL_eta (k_a _ (elem_mem hi))
  have e_b := sl_eta (hok _ (.tail _ (.head _)))
  have l_b := sl_len (hok _ (.tail _ (.head _)))
  have k_b := sl_all (hok _ (.tail _ (.head _)))
  have E_b : ∀ i, i < b.toL.length → D.lst [(b.elem i).fld 0, (b.elem i).fld 1, (b.elem i).fld 2, (b.elem i).fld 3, (b.elem i).fld 4, (b.elem i).fld 5, (b.elem i).fld 6, (b.elem i).fld 7, (b.elem i).fld 8, (b.elem i).fld 9, (b.elem i).fld 10, (b.elem i).fld 11, (b.elem i).fld 12, (b.elem i).fld 13, (b.elem i).fld 14, (b.elem i).fld 15, (b.elem i).fld 16, (b.elem i).fld 17, (b.elem i).fld 18, (b.elem i).fld 19, (b.elem i).fld 20, (b.elem i).fld 21] = b.elem i := fun i hi => by simpa [List.range, List.range.loop] using okL_eta (k_b _ (elem_mem hi))
  apply says_den (φ := (phi_56))
  simp [e_a, e_b, E_a, E_b, tree_56, T.says, X.den, O1.den, O2.den, O3.den, callD, XArg.ev, XArg.dat, Callee'.num, backs, DArg.back, Conds.den, cloArgs, phi_56, pd_57]
  (repeat' (first | (with_reducible apply And.intro) | intro _))
  · simp only [sameTable, Bool.and_eq_false_iff, decide_eq_false_iff_not]; left; omega
  refine den_for a.toL.length 0 (fun i => [.int i]) (fun i => ∀ j, j < i → sameEffect (a.elem j) (b.elem j) = true) (by simp) (by simp [X.den]) (by simp) fun i hi hR => ?_
  have hl : a.toL.length = b.toL.length := by omega
  have E_b' := fun i hi => E_b i (hl ▸ hi)
  apply says_den (φ := (phi_56))
  by_cases hlt : i < a.toL.length
  · simp [e_a, e_b, E_a, E_b, tree_56, T.says, X.den, O1.den, O2.den, O3.den, callD, XArg.ev, XArg.dat, Callee'.num, backs, DArg.back, Conds.den, cloArgs, phi_56, pd_57, hlt, E_b']
    (repeat' (first | (with_reducible apply And.intro) | intro _))
    · omega
    · simp [sameTable, allR_false (p := fun i => sameEffect (a.elem i) (b.elem i)) hlt ‹_›]
    · (first | omega | (simp only [IntKind.wrap_i64, maxL] at *; omega) | (simp [IntKind.wrap_i64, maxL] at *; omega))
    · grind
  · have ht := allR_true (p := fun i => sameEffect (a.elem i) (b.elem i)) (n := a.toL.length) (fun j hj => hR j (by omega))
    simp [e_a, e_b, E_a, E_b, tree_56, T.says, X.den, O1.den, O2.den, O3.den, callD, XArg.ev, XArg.dat, Callee'.num, backs, DArg.back, Conds.den, cloArgs, phi_56, pd_57, hlt, sameTable, ht]
    all_goals omega
theorem pd_56 (a b : D) (Q : List D → Prop) (ho : Q [.bool (sameTable a b)]) : PC Try.prog 56 [.sc (.sl [(.int .i64), (.int .i64), (.int .i64), (.int .i64), (.int .i64), (.int .i64), (.int .i64), (.int .i64), (.int .i64), (.int .i64), (.int .i64), (.int .i64), (.int .i64), (.int .i64), (.int .i64), (.int .i64), (.int .i64), (.int .i64), .bool, (.sl [(.int .i64), (.int .i64), (.int .i64), (.int .i64), (.int .i64), (.int .i64), .bool]), (.int .i64), (.int .i64)]) a, .sc (.sl [(.int .i64), (.int .i64), (.int .i64), (.int .i64), (.int .i64), (.int .i64), (.int .i64), (.int .i64), (.int .i64), (.int .i64), (.int .i64), (.int .i64), (.int .i64), (.int .i64), (.int .i64), (.int .i64), (.int .i64), (.int .i64), .bool, (.sl [(.int .i64), (.int .i64), (.int .i64), (.int .i64), (.int .i64), (.int .i64), .bool]), (.int .i64), (.int .i64)]) b, .clo 57 []] [.sc .bool] Q := (pc_56 a b).mono fun _ h => h ▸ ho
/- impl.SameTable -/
def phi_20 : Nat → List D → List D
  | 56, [a, b, _] => [.bool (sameTable a b)]
  | 57, [a, b] => [.bool (sameEffect a b)]
  | _, _ => []
theorem pc_20 (a b : D) : PC Try.prog 20 [.sc (.sl [(.int .i64), (.int .i64), (.int .i64), (.int .i64), (.int .i64), (.int .i64), (.int .i64), (.int .i64), (.int .i64), (.int .i64), (.int .i64), (.int .i64), (.int .i64), (.int .i64), (.int .i64), (.int .i64), (.int .i64), (.int .i64), .bool, (.sl [(.int .i64), (.int .i64), (.int .i64), (.int .i64), (.int .i64), (.int .i64), .bool]), (.int .i64), (.int .i64)]) a, .sc (.sl [(.int .i64), (.int .i64), (.int .i64), (.int .i64), (.int .i64), (.int .i64), (.int .i64), (.int .i64), (.int .i64), (.int .i64), (.int .i64), (.int .i64), (.int .i64), (.int .i64), (.int .i64), (.int .i64), (.int .i64), (.int .i64), .bool, (.sl [(.int .i64), (.int .i64), (.int .i64), (.int .i64), (.int .i64), (.int .i64), .bool]), (.int .i64), (.int .i64)]) b] [.sc .bool] fun o => o = [.bool (sameTable a b)] := by
  refine PC.of_sig mix sig_20 ⟨rfl, rfl, trivial⟩ rfl fun hok => ?_
  have e_a := sl_eta (hok _ (.head _))
  have l_a := sl_len (hok _ (.head _))
  have k_a := sl_all (hok _ (.head _))
  have E_a : ∀ i, i < a.toL.length → D.lst [(a.elem i).fld 0, (a.elem i).fld 1, (a.elem i).fld 2, (a.elem i).fld 3, (a.elem i).fld 4, (a.elem i).fld 5, (a.elem i).fld 6, (a.elem i).fld 7, (a.elem i).fld 8, (a.elem i).fld 9, (a.elem i).fld 10, (a.elem i).fld 11, (a.elem i).fld 12, (a.elem i).fld 13, (a.elem i).fld 14, (a.elem i).fld 15, (a.elem i).fld 16, (a.elem i).fld 17, (a.elem i).fld 18, (a.elem i).fld 19, (a.elem i).fld 20, (a.elem i).fld 21] = a.elem i := fun i hi => by simpa [List.range, List.range.loop] using okL_eta (k_a _ (elem_mem hi))
  have e_b := sl_eta (hok _ (.tail _ (.head _)))
  have l_b := sl_len (hok _ (.tail _ (.head _)))
  have k_b := sl_all (hok _ (.tail _ (.head _)))
  have E_b : ∀ i, i < b.toL.length → D.lst [(b.elem i).fld 0, (b.elem i).fld 1, (b.elem i).fld 2, (b.elem i).fld 3, (b.elem i).fld 4, (b.elem i).fld 5, (b.elem i).fld 6, (b.elem i).fld 7, (b.elem i).fld 8, (b.elem i).fld 9, (b.elem i).fld 10, (b.elem i).fld 11, (b.elem i).fld 12, (b.elem i).fld 13, (b.elem i).fld 14, (b.elem i).fld 15, (b.elem i).fld 16, (b.elem i).fld 17, (b.elem i).fld 18, (b.elem i).fld 19, (b.elem i).fld 20, (b.elem i).fld 21] = b.elem i := fun i hi => by simpa [List.range, List.range.loop] using okL_eta (k_b _ (elem_mem hi))
  apply says_den (φ := (phi_20))
  simp [e_a, e_b, E_a, E_b, tree_20, T.says, X.den, O1.den, O2.den, O3.den, callD, XArg.ev, XArg.dat, Callee'.num, backs, DArg.back, Conds.den, cloArgs, phi_20, pd_56, pd_57]
theorem pd_20 (a b : D) (Q : List D → Prop) (ho : Q [.bool (sameTable a b)]) : PC Try.prog 20 [.sc (.sl [(.int .i64), (.int .i64), (.int .i64), (.int .i64), (.int .i64), (.int .i64), (.int .i64), (.int .i64), (.int .i64), (.int .i64), (.int .i64), (.int .i64), (.int .i64), (.int .i64), (.int .i64), (.int .i64), (.int .i64), (.int .i64), .bool, (.sl [(.int .i64), (.int .i64), (.int .i64), (.int .i64), (.int .i64), (.int .i64), .bool]), (.int .i64), (.int .i64)]) a, .sc (.sl [(.int .i64), (.int .i64), (.int .i64), (.int .i64), (.int .i64), (.int .i64), (.int .i64), (.int .i64), (.int .i64), (.int .i64), (.int .i64), (.int .i64), (.int .i64), (.int .i64), (.int .i64), (.int .i64), (.int .i64), (.int .i64), .bool, (.sl [(.int .i64), (.int .i64), (.int .i64), (.int .i64), (.int .i64), (.int .i64), .bool]), (.int .i64), (.int .i64)]) b] [.sc .bool] Q := (pc_20 a b).mono fun _ h => h ▸ ho
end Go.Proofs.Ytfbahdalemajcaa
