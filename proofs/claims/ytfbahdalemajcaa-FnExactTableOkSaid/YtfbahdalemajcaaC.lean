/- The contracts of the functions that this claim reaches: what each hands back, for all data. -/
import Derived.Test.YtfbahdalemajcaaT
import Derived.Test.YtfbahdalemajcaaS
namespace Go.Proofs.Ytfbahdalemajcaa
open Go.Proofs.Ytfbahdalemajcaa.Eng
set_option maxRecDepth 100000
set_option maxHeartbeats 2000000
set_option linter.unusedSimpArgs false
set_option linter.unusedVariables false
/- laws.szEventS -/
theorem pc_118 (d n : D) (hn : 0 ≤ n.toI) : PC Try.prog 118 [.sc (.sl [(.int .i64), (.int .i64), (.int .i64), (.int .i64), (.int .i64), (.int .i64), .bool]) d, .sc (.int .i64) n] [.sc (.int .i64)] fun o => o = [.int (szS n.toI d.toL.length)] := by
  refine PC.of_sig mix sig_118 ⟨rfl, rfl, trivial⟩ rfl fun hok => ?_
  have e_d := sl_eta (hok _ (.head _))
  have l_d := sl_len (hok _ (.head _))
  have k_d := sl_all (hok _ (.head _))
  have E_d : ∀ i, i < d.toL.length → D.lst [(d.elem i).fld 0, (d.elem i).fld 1, (d.elem i).fld 2, (d.elem i).fld 3, (d.elem i).fld 4, (d.elem i).fld 5, (d.elem i).fld 6] = d.elem i := fun i hi => by simpa [List.range, List.range.loop] using okL_eta (k_d _ (elem_mem hi))
  have e_n := int_eta (hok _ (.tail _ (.head _)))
  have b_n := int_range (hok _ (.tail _ (.head _)))
  have hw : IntKind.i64.wrap (n.toI - d.toL.length) = n.toI - d.toL.length := by (first | omega | (simp only [IntKind.wrap_i64, maxL] at *; omega) | (simp [IntKind.wrap_i64, maxL] at *; omega))
  apply says_den (φ := fun _ _ => [])
  simp [e_d, e_n, E_d, tree_118, T.says, X.den, O1.den, O2.den, O3.den, callD, XArg.ev, XArg.dat, Callee'.num, backs, DArg.back, Conds.den, cloArgs, hw, szS]
  all_goals grind
theorem pd_118 (d n : D) (hn : 0 ≤ n.toI) (Q : List D → Prop) (ho : Q [.int (szS n.toI d.toL.length)]) : PC Try.prog 118 [.sc (.sl [(.int .i64), (.int .i64), (.int .i64), (.int .i64), (.int .i64), (.int .i64), .bool]) d, .sc (.int .i64) n] [.sc (.int .i64)] Q := (pc_118 d n hn).mono fun _ h => h ▸ ho
/- laws.szAct -/
def phi_58 : Nat → List D → List D
  | 118, [d, n] => [.int (szS n.toI d.toL.length)]
  | _, _ => []
theorem pc_58 (d n : D) (hn : 0 ≤ n.toI) : PC Try.prog 58 [.st [(.int .i64), (.int .i64), (.int .i64), (.int .i64), (.int .i64), .bool, (.sl [(.int .i64), (.int .i64), (.int .i64), (.int .i64), (.int .i64), (.int .i64), .bool])] d, .sc (.int .i64) n] [.sc (.int .i64)] fun o => o = [.int (szS n.toI (d.fld 6).toL.length)] := by
  refine PC.of_sig mix sig_58 ⟨rfl, rfl, trivial⟩ rfl fun hok => ?_
  have e_d : D.lst [d.fld 0, d.fld 1, d.fld 2, d.fld 3, d.fld 4, d.fld 5, d.fld 6] = d := by simpa [List.range, List.range.loop] using okL_eta (hok _ (.head _))
  have k_d : okL [(.int .i64), (.int .i64), (.int .i64), (.int .i64), (.int .i64), .bool, (.sl [(.int .i64), (.int .i64), (.int .i64), (.int .i64), (.int .i64), (.int .i64), .bool])] d := (hok _ (.head _))
  have e_d_6 : D.lst (d.fld 6).toL = d.fld 6 := sl_eta (okL_at k_d (i := 6) rfl)
  have l_d_6 := sl_len (okL_at k_d (i := 6) rfl)
  have k_d_6 := sl_all (okL_at k_d (i := 6) rfl)
  have E_d_6 : ∀ i, i < (d.fld 6).toL.length → D.lst [((d.fld 6).elem i).fld 0, ((d.fld 6).elem i).fld 1, ((d.fld 6).elem i).fld 2, ((d.fld 6).elem i).fld 3, ((d.fld 6).elem i).fld 4, ((d.fld 6).elem i).fld 5, ((d.fld 6).elem i).fld 6] = (d.fld 6).elem i := fun i hi => by simpa [List.range, List.range.loop] using okL_eta (k_d_6 _ (elem_mem hi))
  have e_n := int_eta (hok _ (.tail _ (.head _)))
  have b_n := int_range (hok _ (.tail _ (.head _)))
  apply says_den (φ := (phi_58))
  simp [e_d_6, E_d_6, e_d, e_n, tree_58, T.says, X.den, O1.den, O2.den, O3.den, callD, XArg.ev, XArg.dat, Callee'.num, backs, DArg.back, Conds.den, cloArgs, phi_58, pd_118]
  (repeat' (first | (with_reducible apply And.intro) | intro _)) <;> first | (first | assumption | (exact pd_118 _ _ (by first | assumption | omega | (simp; done) | (simp; omega) | (simp [*]; done) | exact smallE_of (n := 1048576) (by omega) (by omega) | (simp [*] at *; omega) | grind [szS]) _ (by first | rfl | simp | (simp; omega))) | (first | omega | (simp only [IntKind.wrap_i64, maxL] at *; omega) | (simp [IntKind.wrap_i64, maxL] at *; omega)) | rfl | contradiction | grind) | grind [szS]
theorem pd_58 (d n : D) (hn : 0 ≤ n.toI) (Q : List D → Prop) (ho : Q [.int (szS n.toI (d.fld 6).toL.length)]) : PC Try.prog 58 [.st [(.int .i64), (.int .i64), (.int .i64), (.int .i64), (.int .i64), .bool, (.sl [(.int .i64), (.int .i64), (.int .i64), (.int .i64), (.int .i64), (.int .i64), .bool])] d, .sc (.int .i64) n] [.sc (.int .i64)] Q := (pc_58 d n hn).mono fun _ h => h ▸ ho
/- laws.szEffect -/
def phi_21 : Nat → List D → List D
  | 58, [d, n] => [.int (szS n.toI (d.fld 6).toL.length)]
  | _, _ => []
theorem pc_21 (d n : D) (hn : 0 ≤ n.toI) : PC Try.prog 21 [.st [(.int .i64), (.int .i64), (.int .i64), (.int .i64), (.int .i64), (.int .i64), (.int .i64), (.int .i64), (.int .i64), (.int .i64), (.int .i64), (.int .i64), (.int .i64), (.int .i64), (.int .i64), (.int .i64), (.int .i64), (.int .i64), .bool, (.sl [(.int .i64), (.int .i64), (.int .i64), (.int .i64), (.int .i64), (.int .i64), .bool]), (.int .i64), (.int .i64)] d, .sc (.int .i64) n] [.sc (.int .i64)] fun o => o = [.int (szS n.toI (d.fld 19).toL.length)] := by
  refine PC.of_sig mix sig_21 ⟨rfl, rfl, trivial⟩ rfl fun hok => ?_
  have e_d : D.lst [d.fld 0, d.fld 1, d.fld 2, d.fld 3, d.fld 4, d.fld 5, d.fld 6, d.fld 7, d.fld 8, d.fld 9, d.fld 10, d.fld 11, d.fld 12, d.fld 13, d.fld 14, d.fld 15, d.fld 16, d.fld 17, d.fld 18, d.fld 19, d.fld 20, d.fld 21] = d := by simpa [List.range, List.range.loop] using okL_eta (hok _ (.head _))
  have k_d : okL [(.int .i64), (.int .i64), (.int .i64), (.int .i64), (.int .i64), (.int .i64), (.int .i64), (.int .i64), (.int .i64), (.int .i64), (.int .i64), (.int .i64), (.int .i64), (.int .i64), (.int .i64), (.int .i64), (.int .i64), (.int .i64), .bool, (.sl [(.int .i64), (.int .i64), (.int .i64), (.int .i64), (.int .i64), (.int .i64), .bool]), (.int .i64), (.int .i64)] d := (hok _ (.head _))
  have e_d_19 : D.lst (d.fld 19).toL = d.fld 19 := sl_eta (okL_at k_d (i := 19) rfl)
  have l_d_19 := sl_len (okL_at k_d (i := 19) rfl)
  have k_d_19 := sl_all (okL_at k_d (i := 19) rfl)
  have E_d_19 : ∀ i, i < (d.fld 19).toL.length → D.lst [((d.fld 19).elem i).fld 0, ((d.fld 19).elem i).fld 1, ((d.fld 19).elem i).fld 2, ((d.fld 19).elem i).fld 3, ((d.fld 19).elem i).fld 4, ((d.fld 19).elem i).fld 5, ((d.fld 19).elem i).fld 6] = (d.fld 19).elem i := fun i hi => by simpa [List.range, List.range.loop] using okL_eta (k_d_19 _ (elem_mem hi))
  have e_n := int_eta (hok _ (.tail _ (.head _)))
  have b_n := int_range (hok _ (.tail _ (.head _)))
  apply says_den (φ := (phi_21))
  simp [e_d_19, E_d_19, e_d, e_n, tree_21, T.says, X.den, O1.den, O2.den, O3.den, callD, XArg.ev, XArg.dat, Callee'.num, backs, DArg.back, Conds.den, cloArgs, phi_21, pd_58]
  (repeat' (first | (with_reducible apply And.intro) | intro _)) <;> first | (first | assumption | (exact pd_58 _ _ (by first | assumption | omega | (simp; done) | (simp; omega) | (simp [*]; done) | exact smallE_of (n := 1048576) (by omega) (by omega) | (simp [*] at *; omega) | grind [szS]) _ (by first | rfl | simp | (simp; omega))) | (first | omega | (simp only [IntKind.wrap_i64, maxL] at *; omega) | (simp [IntKind.wrap_i64, maxL] at *; omega)) | rfl | contradiction | grind) | grind [szS]
theorem pd_21 (d n : D) (hn : 0 ≤ n.toI) (Q : List D → Prop) (ho : Q [.int (szS n.toI (d.fld 19).toL.length)]) : PC Try.prog 21 [.st [(.int .i64), (.int .i64), (.int .i64), (.int .i64), (.int .i64), (.int .i64), (.int .i64), (.int .i64), (.int .i64), (.int .i64), (.int .i64), (.int .i64), (.int .i64), (.int .i64), (.int .i64), (.int .i64), (.int .i64), (.int .i64), .bool, (.sl [(.int .i64), (.int .i64), (.int .i64), (.int .i64), (.int .i64), (.int .i64), .bool]), (.int .i64), (.int .i64)] d, .sc (.int .i64) n] [.sc (.int .i64)] Q := (pc_21 d n hn).mono fun _ h => h ▸ ho
/- laws.szEffectS -/
def phi_14 : Nat → List D → List D
  | 21, [d, n] => [.int (szS n.toI (d.fld 19).toL.length)]
  | _, _ => []
theorem pc_14 (d n : D) (hn : 0 ≤ n.toI) : PC Try.prog 14 [.sc (.sl [(.int .i64), (.int .i64), (.int .i64), (.int .i64), (.int .i64), (.int .i64), (.int .i64), (.int .i64), (.int .i64), (.int .i64), (.int .i64), (.int .i64), (.int .i64), (.int .i64), (.int .i64), (.int .i64), (.int .i64), (.int .i64), .bool, (.sl [(.int .i64), (.int .i64), (.int .i64), (.int .i64), (.int .i64), (.int .i64), .bool]), (.int .i64), (.int .i64)]) d, .sc (.int .i64) n] [.sc (.int .i64)] fun o => o = [.int (szEs n.toI d)] := by
  refine PC.of_sig mix sig_14 ⟨rfl, rfl, trivial⟩ rfl fun hok => ?_
  have e_d := sl_eta (hok _ (.head _))
  have l_d := sl_len (hok _ (.head _))
  have k_d := sl_all (hok _ (.head _))
  have E_d : ∀ i, i < d.toL.length → D.lst [(d.elem i).fld 0, (d.elem i).fld 1, (d.elem i).fld 2, (d.elem i).fld 3, (d.elem i).fld 4, (d.elem i).fld 5, (d.elem i).fld 6, (d.elem i).fld 7, (d.elem i).fld 8, (d.elem i).fld 9, (d.elem i).fld 10, (d.elem i).fld 11, (d.elem i).fld 12, (d.elem i).fld 13, (d.elem i).fld 14, (d.elem i).fld 15, (d.elem i).fld 16, (d.elem i).fld 17, (d.elem i).fld 18, (d.elem i).fld 19, (d.elem i).fld 20, (d.elem i).fld 21] = d.elem i := fun i hi => by simpa [List.range, List.range.loop] using okL_eta (k_d _ (elem_mem hi))
  have e_n := int_eta (hok _ (.tail _ (.head _)))
  have b_n := int_range (hok _ (.tail _ (.head _)))
  have hw : IntKind.i64.wrap (n.toI - d.toL.length) = n.toI - d.toL.length := by (first | omega | (simp only [IntKind.wrap_i64, maxL] at *; omega) | (simp [IntKind.wrap_i64, maxL] at *; omega))
  apply says_den (φ := (phi_14))
  simp [e_d, e_n, E_d, tree_14, T.says, X.den, O1.den, O2.den, O3.den, callD, XArg.ev, XArg.dat, Callee'.num, backs, DArg.back, Conds.den, cloArgs, phi_14, pd_21, hw]
  refine fun _ => ⟨fun hneg => ?_, fun hpos => ?_⟩
  · rw [szEs, if_pos (by omega)]
  refine den_for d.toL.length 1 (fun i => [.int (n.toI - d.toL.length - sumR (innerE d) i), .int i]) (fun i => 0 ≤ n.toI - d.toL.length - sumR (innerE d) i) (by simp) (by simp [X.den, O1.den, O2.den, hw, sumR]) (by simp [sumR]; omega) fun i hi hR => ?_
  apply says_den (φ := (phi_14))
  by_cases hlt : i < d.toL.length
  · have hm := sumR_mono (innerE d) (show i + 1 ≤ d.toL.length from hlt)
    simp only [sumR] at hm
    have hi' : innerE d i = ((d.elem i).fld 19).toL.length := rfl
    simp [e_d, e_n, E_d, tree_14, T.says, X.den, O1.den, O2.den, O3.den, callD, XArg.ev, XArg.dat, Callee'.num, backs, DArg.back, Conds.den, cloArgs, phi_14, pd_21, hlt, hR]
    (repeat' (first | (with_reducible apply And.intro) | intro _)) <;> first | (rw [szEs, if_pos (by omega)]; done) | (first | omega | (simp only [IntKind.wrap_i64, maxL] at *; omega) | (simp [IntKind.wrap_i64, maxL] at *; omega)) | (simp only [sumR]; omega) | (rw [szS, if_neg (by omega)]; simp only [sumR]; omega) | (first | assumption | (exact pd_21 _ _ (by first | assumption | omega | (simp; done) | (simp; omega) | (simp [*]; done) | exact smallE_of (n := 1048576) (by omega) (by omega) | (simp [*] at *; omega) | grind [szS]) _ (by first | rfl | simp | (simp; omega))) | (first | omega | (simp only [IntKind.wrap_i64, maxL] at *; omega) | (simp [IntKind.wrap_i64, maxL] at *; omega)) | rfl | contradiction | grind)
  · have : i = d.toL.length := by omega
    subst this
    simp [e_d, e_n, E_d, tree_14, T.says, X.den, O1.den, O2.den, O3.den, callD, XArg.ev, XArg.dat, Callee'.num, backs, DArg.back, Conds.den, cloArgs, phi_14, pd_21]
    (repeat' (first | (with_reducible apply And.intro) | intro _))
    · rw [szEs, if_neg (by omega)]
theorem pd_14 (d n : D) (hn : 0 ≤ n.toI) (Q : List D → Prop) (ho : Q [.int (szEs n.toI d)]) : PC Try.prog 14 [.sc (.sl [(.int .i64), (.int .i64), (.int .i64), (.int .i64), (.int .i64), (.int .i64), (.int .i64), (.int .i64), (.int .i64), (.int .i64), (.int .i64), (.int .i64), (.int .i64), (.int .i64), (.int .i64), (.int .i64), (.int .i64), (.int .i64), .bool, (.sl [(.int .i64), (.int .i64), (.int .i64), (.int .i64), (.int .i64), (.int .i64), .bool]), (.int .i64), (.int .i64)]) d, .sc (.int .i64) n] [.sc (.int .i64)] Q := (pc_14 d n hn).mono fun _ h => h ▸ ho
/- laws.toPat -/
theorem pc_62 (d : D) : PC Try.prog 62 [.st [(.int .i64), (.int .i64), (.int .i64), (.int .i64), (.int .i64), (.int .i64), (.int .i64)] d] [.st [(.int .i64), (.int .i64), (.int .i64), (.int .i64), (.int .i64), (.int .i64), (.int .i64)]] fun o => o = [d] := by
  refine PC.of_sig mix sig_62 ⟨rfl, trivial⟩ rfl fun hok => ?_
  have e_d : D.lst [d.fld 0, d.fld 1, d.fld 2, d.fld 3, d.fld 4, d.fld 5, d.fld 6] = d := by simpa [List.range, List.range.loop] using okL_eta (hok _ (.head _))
  have k_d : okL [(.int .i64), (.int .i64), (.int .i64), (.int .i64), (.int .i64), (.int .i64), (.int .i64)] d := (hok _ (.head _))
  apply says_den (φ := fun _ _ => [])
  simp [e_d, tree_62, T.says, X.den, O1.den, O2.den, O3.den, callD, XArg.ev, XArg.dat, Callee'.num, backs, DArg.back, Conds.den, cloArgs]
theorem pd_62 (d : D) (Q : List D → Prop) (ho : Q [d]) : PC Try.prog 62 [.st [(.int .i64), (.int .i64), (.int .i64), (.int .i64), (.int .i64), (.int .i64), (.int .i64)] d] [.st [(.int .i64), (.int .i64), (.int .i64), (.int .i64), (.int .i64), (.int .i64), (.int .i64)]] Q := (pc_62 d).mono fun _ h => h ▸ ho
/- laws.toGuard -/
theorem pc_63 (d : D) : PC Try.prog 63 [.st [(.int .i64), (.int .i64)] d] [.st [(.int .i64), (.int .i64)]] fun o => o = [d] := by
  refine PC.of_sig mix sig_63 ⟨rfl, trivial⟩ rfl fun hok => ?_
  have e_d : D.lst [d.fld 0, d.fld 1] = d := by simpa [List.range, List.range.loop] using okL_eta (hok _ (.head _))
  have k_d : okL [(.int .i64), (.int .i64)] d := (hok _ (.head _))
  apply says_den (φ := fun _ _ => [])
  simp [e_d, tree_63, T.says, X.den, O1.den, O2.den, O3.den, callD, XArg.ev, XArg.dat, Callee'.num, backs, DArg.back, Conds.den, cloArgs]
theorem pd_63 (d : D) (Q : List D → Prop) (ho : Q [d]) : PC Try.prog 63 [.st [(.int .i64), (.int .i64)] d] [.st [(.int .i64), (.int .i64)]] Q := (pc_63 d).mono fun _ h => h ▸ ho
/- laws.toEvent -/
theorem pc_41 (d : D) : PC Try.prog 41 [.st [(.int .i64), (.int .i64), (.int .i64), (.int .i64), (.int .i64), (.int .i64), .bool] d] [.st [(.int .i64), (.int .i64), (.int .i64), (.int .i64), (.int .i64), (.int .i64), .bool]] fun o => o = [d] := by
  refine PC.of_sig mix sig_41 ⟨rfl, trivial⟩ rfl fun hok => ?_
  have e_d : D.lst [d.fld 0, d.fld 1, d.fld 2, d.fld 3, d.fld 4, d.fld 5, d.fld 6] = d := by simpa [List.range, List.range.loop] using okL_eta (hok _ (.head _))
  have k_d : okL [(.int .i64), (.int .i64), (.int .i64), (.int .i64), (.int .i64), (.int .i64), .bool] d := (hok _ (.head _))
  apply says_den (φ := fun _ _ => [])
  simp [e_d, tree_41, T.says, X.den, O1.den, O2.den, O3.den, callD, XArg.ev, XArg.dat, Callee'.num, backs, DArg.back, Conds.den, cloArgs]
theorem pd_41 (d : D) (Q : List D → Prop) (ho : Q [d]) : PC Try.prog 41 [.st [(.int .i64), (.int .i64), (.int .i64), (.int .i64), (.int .i64), (.int .i64), .bool] d] [.st [(.int .i64), (.int .i64), (.int .i64), (.int .i64), (.int .i64), (.int .i64), .bool]] Q := (pc_41 d).mono fun _ h => h ▸ ho
/- laws.toEventS -/
def phi_121 : Nat → List D → List D
  | 41, [d] => [d]
  | _, _ => []
theorem pc_121 (d : D) (h : (d.toL.length : Int) ≤ 1048576) : PC Try.prog 121 [.sc (.sl [(.int .i64), (.int .i64), (.int .i64), (.int .i64), (.int .i64), (.int .i64), .bool]) d] [.sc (.sl [(.int .i64), (.int .i64), (.int .i64), (.int .i64), (.int .i64), (.int .i64), .bool])] fun o => o = [d] := by
  refine PC.of_sig mix sig_121 ⟨rfl, trivial⟩ rfl fun hok => ?_
  have e_d := sl_eta (hok _ (.head _))
  have l_d := sl_len (hok _ (.head _))
  have k_d := sl_all (hok _ (.head _))
  have E_d : ∀ i, i < d.toL.length → D.lst [(d.elem i).fld 0, (d.elem i).fld 1, (d.elem i).fld 2, (d.elem i).fld 3, (d.elem i).fld 4, (d.elem i).fld 5, (d.elem i).fld 6] = d.elem i := fun i hi => by simpa [List.range, List.range.loop] using okL_eta (k_d _ (elem_mem hi))
  apply says_den (φ := (phi_121))
  simp [e_d, E_d, tree_121, T.says, X.den, O1.den, O2.den, O3.den, callD, XArg.ev, XArg.dat, Callee'.num, backs, DArg.back, Conds.den, cloArgs, phi_121, pd_41] at h ⊢
  refine fun _ => ⟨by omega, ?_⟩
  refine den_for d.toL.length 0 (fun i => [.int i, .lst (d.toL.take i ++ List.replicate (d.toL.length - i) (.lst [.int 0, .int 0, .int 0, .int 0, .int 0, .int 0, .bool false]))]) (fun _ => True) (by simp) (by simp [X.den, O1.den, O2.den]) trivial fun i hi _ => ?_
  apply says_den (φ := (phi_121))
  by_cases hlt : i < d.toL.length
  · simp [e_d, E_d, tree_121, T.says, X.den, O1.den, O2.den, O3.den, callD, XArg.ev, XArg.dat, Callee'.num, backs, DArg.back, Conds.den, cloArgs, phi_121, pd_41, hlt]
    (repeat' (first | (with_reducible apply And.intro) | intro _)) <;> first | (exact copy_step hlt rfl) | (exact copy_step hlt (eta1 (k_d _ (elem_mem hlt)))) | (first | assumption | (exact pd_41 _ _ (by first | rfl | simp | (simp; omega))) | (first | omega | (simp only [IntKind.wrap_i64, maxL] at *; omega) | (simp [IntKind.wrap_i64, maxL] at *; omega)) | rfl | contradiction | grind)
  · simp [e_d, E_d, tree_121, T.says, X.den, O1.den, O2.den, O3.den, callD, XArg.ev, XArg.dat, Callee'.num, backs, DArg.back, Conds.den, cloArgs, phi_121, pd_41, hlt]
    (repeat' (first | (with_reducible apply And.intro) | intro _)) <;> first | (rw [copy_end (by omega), e_d]) | (first | assumption | (exact pd_41 _ _ (by first | rfl | simp | (simp; omega))) | (first | omega | (simp only [IntKind.wrap_i64, maxL] at *; omega) | (simp [IntKind.wrap_i64, maxL] at *; omega)) | rfl | contradiction | grind)
theorem pd_121 (d : D) (h : (d.toL.length : Int) ≤ 1048576) (Q : List D → Prop) (ho : Q [d]) : PC Try.prog 121 [.sc (.sl [(.int .i64), (.int .i64), (.int .i64), (.int .i64), (.int .i64), (.int .i64), .bool]) d] [.sc (.sl [(.int .i64), (.int .i64), (.int .i64), (.int .i64), (.int .i64), (.int .i64), .bool])] Q := (pc_121 d h).mono fun _ h => h ▸ ho
/- laws.toAct -/
def phi_64 : Nat → List D → List D
  | 121, [d] => [d]
  | _, _ => []
theorem pc_64 (d : D) (h : ((d.fld 6).toL.length : Int) ≤ 1048576) : PC Try.prog 64 [.st [(.int .i64), (.int .i64), (.int .i64), (.int .i64), (.int .i64), .bool, (.sl [(.int .i64), (.int .i64), (.int .i64), (.int .i64), (.int .i64), (.int .i64), .bool])] d] [.st [(.int .i64), (.int .i64), (.int .i64), (.int .i64), (.int .i64), .bool, (.sl [(.int .i64), (.int .i64), (.int .i64), (.int .i64), (.int .i64), (.int .i64), .bool])]] fun o => o = [d] := by
  refine PC.of_sig mix sig_64 ⟨rfl, trivial⟩ rfl fun hok => ?_
  have e_d : D.lst [d.fld 0, d.fld 1, d.fld 2, d.fld 3, d.fld 4, d.fld 5, d.fld 6] = d := by simpa [List.range, List.range.loop] using okL_eta (hok _ (.head _))
  have k_d : okL [(.int .i64), (.int .i64), (.int .i64), (.int .i64), (.int .i64), .bool, (.sl [(.int .i64), (.int .i64), (.int .i64), (.int .i64), (.int .i64), (.int .i64), .bool])] d := (hok _ (.head _))
  have e_d_6 : D.lst (d.fld 6).toL = d.fld 6 := sl_eta (okL_at k_d (i := 6) rfl)
  have l_d_6 := sl_len (okL_at k_d (i := 6) rfl)
  have k_d_6 := sl_all (okL_at k_d (i := 6) rfl)
  have E_d_6 : ∀ i, i < (d.fld 6).toL.length → D.lst [((d.fld 6).elem i).fld 0, ((d.fld 6).elem i).fld 1, ((d.fld 6).elem i).fld 2, ((d.fld 6).elem i).fld 3, ((d.fld 6).elem i).fld 4, ((d.fld 6).elem i).fld 5, ((d.fld 6).elem i).fld 6] = (d.fld 6).elem i := fun i hi => by simpa [List.range, List.range.loop] using okL_eta (k_d_6 _ (elem_mem hi))
  apply says_den (φ := (phi_64))
  simp [e_d_6, E_d_6, e_d, tree_64, T.says, X.den, O1.den, O2.den, O3.den, callD, XArg.ev, XArg.dat, Callee'.num, backs, DArg.back, Conds.den, cloArgs, phi_64, pd_121]
  (repeat' (first | (with_reducible apply And.intro) | intro _)) <;> (first | assumption | (exact pd_121 _ (by first | assumption | omega | (simp; done) | (simp; omega) | (simp [*]; done) | exact smallE_of (n := 1048576) (by omega) (by omega) | (simp [*] at *; omega) | grind [szS]) _ (by first | rfl | simp | (simp; omega))) | (first | omega | (simp only [IntKind.wrap_i64, maxL] at *; omega) | (simp [IntKind.wrap_i64, maxL] at *; omega)) | rfl | contradiction | grind)
theorem pd_64 (d : D) (h : ((d.fld 6).toL.length : Int) ≤ 1048576) (Q : List D → Prop) (ho : Q [d]) : PC Try.prog 64 [.st [(.int .i64), (.int .i64), (.int .i64), (.int .i64), (.int .i64), .bool, (.sl [(.int .i64), (.int .i64), (.int .i64), (.int .i64), (.int .i64), (.int .i64), .bool])] d] [.st [(.int .i64), (.int .i64), (.int .i64), (.int .i64), (.int .i64), .bool, (.sl [(.int .i64), (.int .i64), (.int .i64), (.int .i64), (.int .i64), (.int .i64), .bool])]] Q := (pc_64 d h).mono fun _ h => h ▸ ho
/- laws.toEffect -/
def phi_23 : Nat → List D → List D
  | 62, [d] => [d]
  | 63, [d] => [d]
  | 64, [d] => [d]
  | _, _ => []
theorem pc_23 (d : D) (h : ((d.fld 19).toL.length : Int) ≤ 1048576) : PC Try.prog 23 [.st [(.int .i64), (.int .i64), (.int .i64), (.int .i64), (.int .i64), (.int .i64), (.int .i64), (.int .i64), (.int .i64), (.int .i64), (.int .i64), (.int .i64), (.int .i64), (.int .i64), (.int .i64), (.int .i64), (.int .i64), (.int .i64), .bool, (.sl [(.int .i64), (.int .i64), (.int .i64), (.int .i64), (.int .i64), (.int .i64), .bool]), (.int .i64), (.int .i64)] d] [.st [(.int .i64), (.int .i64), (.int .i64), (.int .i64), (.int .i64), (.int .i64), (.int .i64), (.int .i64), (.int .i64), (.int .i64), (.int .i64), (.int .i64), (.int .i64), (.int .i64), (.int .i64), (.int .i64), (.int .i64), (.int .i64), .bool, (.sl [(.int .i64), (.int .i64), (.int .i64), (.int .i64), (.int .i64), (.int .i64), .bool]), (.int .i64), (.int .i64)]] fun o => o = [d] := by
  refine PC.of_sig mix sig_23 ⟨rfl, trivial⟩ rfl fun hok => ?_
  have e_d : D.lst [d.fld 0, d.fld 1, d.fld 2, d.fld 3, d.fld 4, d.fld 5, d.fld 6, d.fld 7, d.fld 8, d.fld 9, d.fld 10, d.fld 11, d.fld 12, d.fld 13, d.fld 14, d.fld 15, d.fld 16, d.fld 17, d.fld 18, d.fld 19, d.fld 20, d.fld 21] = d := by simpa [List.range, List.range.loop] using okL_eta (hok _ (.head _))
  have k_d : okL [(.int .i64), (.int .i64), (.int .i64), (.int .i64), (.int .i64), (.int .i64), (.int .i64), (.int .i64), (.int .i64), (.int .i64), (.int .i64), (.int .i64), (.int .i64), (.int .i64), (.int .i64), (.int .i64), (.int .i64), (.int .i64), .bool, (.sl [(.int .i64), (.int .i64), (.int .i64), (.int .i64), (.int .i64), (.int .i64), .bool]), (.int .i64), (.int .i64)] d := (hok _ (.head _))
  have e_d_19 : D.lst (d.fld 19).toL = d.fld 19 := sl_eta (okL_at k_d (i := 19) rfl)
  have l_d_19 := sl_len (okL_at k_d (i := 19) rfl)
  have k_d_19 := sl_all (okL_at k_d (i := 19) rfl)
  have E_d_19 : ∀ i, i < (d.fld 19).toL.length → D.lst [((d.fld 19).elem i).fld 0, ((d.fld 19).elem i).fld 1, ((d.fld 19).elem i).fld 2, ((d.fld 19).elem i).fld 3, ((d.fld 19).elem i).fld 4, ((d.fld 19).elem i).fld 5, ((d.fld 19).elem i).fld 6] = (d.fld 19).elem i := fun i hi => by simpa [List.range, List.range.loop] using okL_eta (k_d_19 _ (elem_mem hi))
  apply says_den (φ := (phi_23))
  simp [e_d_19, E_d_19, e_d, tree_23, T.says, X.den, O1.den, O2.den, O3.den, callD, XArg.ev, XArg.dat, Callee'.num, backs, DArg.back, Conds.den, cloArgs, phi_23, pd_62, pd_63, pd_64]
  (repeat' (first | (with_reducible apply And.intro) | intro _)) <;> (first | assumption | (exact pd_62 _ _ (by first | rfl | simp | (simp; omega))) | (exact pd_63 _ _ (by first | rfl | simp | (simp; omega))) | (exact pd_64 _ (by first | assumption | omega | (simp; done) | (simp; omega) | (simp [*]; done) | exact smallE_of (n := 1048576) (by omega) (by omega) | (simp [*] at *; omega) | grind [szS]) _ (by first | rfl | simp | (simp; omega))) | (first | omega | (simp only [IntKind.wrap_i64, maxL] at *; omega) | (simp [IntKind.wrap_i64, maxL] at *; omega)) | rfl | contradiction | grind)
theorem pd_23 (d : D) (h : ((d.fld 19).toL.length : Int) ≤ 1048576) (Q : List D → Prop) (ho : Q [d]) : PC Try.prog 23 [.st [(.int .i64), (.int .i64), (.int .i64), (.int .i64), (.int .i64), (.int .i64), (.int .i64), (.int .i64), (.int .i64), (.int .i64), (.int .i64), (.int .i64), (.int .i64), (.int .i64), (.int .i64), (.int .i64), (.int .i64), (.int .i64), .bool, (.sl [(.int .i64), (.int .i64), (.int .i64), (.int .i64), (.int .i64), (.int .i64), .bool]), (.int .i64), (.int .i64)] d] [.st [(.int .i64), (.int .i64), (.int .i64), (.int .i64), (.int .i64), (.int .i64), (.int .i64), (.int .i64), (.int .i64), (.int .i64), (.int .i64), (.int .i64), (.int .i64), (.int .i64), (.int .i64), (.int .i64), (.int .i64), (.int .i64), .bool, (.sl [(.int .i64), (.int .i64), (.int .i64), (.int .i64), (.int .i64), (.int .i64), .bool]), (.int .i64), (.int .i64)]] Q := (pc_23 d h).mono fun _ h => h ▸ ho
/- laws.toEffectS -/
def phi_16 : Nat → List D → List D
  | 23, [d] => [d]
  | _, _ => []
theorem pc_16 (d : D) (h : smallE d) : PC Try.prog 16 [.sc (.sl [(.int .i64), (.int .i64), (.int .i64), (.int .i64), (.int .i64), (.int .i64), (.int .i64), (.int .i64), (.int .i64), (.int .i64), (.int .i64), (.int .i64), (.int .i64), (.int .i64), (.int .i64), (.int .i64), (.int .i64), (.int .i64), .bool, (.sl [(.int .i64), (.int .i64), (.int .i64), (.int .i64), (.int .i64), (.int .i64), .bool]), (.int .i64), (.int .i64)]) d] [.sc (.sl [(.int .i64), (.int .i64), (.int .i64), (.int .i64), (.int .i64), (.int .i64), (.int .i64), (.int .i64), (.int .i64), (.int .i64), (.int .i64), (.int .i64), (.int .i64), (.int .i64), (.int .i64), (.int .i64), (.int .i64), (.int .i64), .bool, (.sl [(.int .i64), (.int .i64), (.int .i64), (.int .i64), (.int .i64), (.int .i64), .bool]), (.int .i64), (.int .i64)])] fun o => o = [d] := by
  refine PC.of_sig mix sig_16 ⟨rfl, trivial⟩ rfl fun hok => ?_
  have e_d := sl_eta (hok _ (.head _))
  have l_d := sl_len (hok _ (.head _))
  have k_d := sl_all (hok _ (.head _))
  have E_d : ∀ i, i < d.toL.length → D.lst [(d.elem i).fld 0, (d.elem i).fld 1, (d.elem i).fld 2, (d.elem i).fld 3, (d.elem i).fld 4, (d.elem i).fld 5, (d.elem i).fld 6, (d.elem i).fld 7, (d.elem i).fld 8, (d.elem i).fld 9, (d.elem i).fld 10, (d.elem i).fld 11, (d.elem i).fld 12, (d.elem i).fld 13, (d.elem i).fld 14, (d.elem i).fld 15, (d.elem i).fld 16, (d.elem i).fld 17, (d.elem i).fld 18, (d.elem i).fld 19, (d.elem i).fld 20, (d.elem i).fld 21] = d.elem i := fun i hi => by simpa [List.range, List.range.loop] using okL_eta (k_d _ (elem_mem hi))
  have h1 := h.1
  apply says_den (φ := (phi_16))
  simp [e_d, E_d, tree_16, T.says, X.den, O1.den, O2.den, O3.den, callD, XArg.ev, XArg.dat, Callee'.num, backs, DArg.back, Conds.den, cloArgs, phi_16, pd_23, h1]
  refine fun _ => ⟨by omega, ?_⟩
  refine den_for d.toL.length 0 (fun i => [.int i, .lst (d.toL.take i ++ List.replicate (d.toL.length - i) (.lst [.int 0, .int 0, .int 0, .int 0, .int 0, .int 0, .int 0, .int 0, .int 0, .int 0, .int 0, .int 0, .int 0, .int 0, .int 0, .int 0, .int 0, .int 0, .bool false, .lst [], .int 0, .int 0]))]) (fun _ => True) (by simp) (by simp [X.den, O1.den, O2.den]) trivial fun i hi _ => ?_
  apply says_den (φ := (phi_16))
  by_cases hlt : i < d.toL.length
  · have h2 := h.2 i hlt
    simp [e_d, E_d, tree_16, T.says, X.den, O1.den, O2.den, O3.den, callD, XArg.ev, XArg.dat, Callee'.num, backs, DArg.back, Conds.den, cloArgs, phi_16, pd_23, hlt, h2]
    (repeat' (first | (with_reducible apply And.intro) | intro _)) <;> first | (exact copy_step hlt rfl) | (first | assumption | (exact pd_23 _ (by first | assumption | omega | (simp; done) | (simp; omega) | (simp [*]; done) | exact smallE_of (n := 1048576) (by omega) (by omega) | (simp [*] at *; omega) | grind [szS]) _ (by first | rfl | simp | (simp; omega))) | (first | omega | (simp only [IntKind.wrap_i64, maxL] at *; omega) | (simp [IntKind.wrap_i64, maxL] at *; omega)) | rfl | contradiction | grind)
  · simp [e_d, E_d, tree_16, T.says, X.den, O1.den, O2.den, O3.den, callD, XArg.ev, XArg.dat, Callee'.num, backs, DArg.back, Conds.den, cloArgs, phi_16, pd_23, hlt]
    (repeat' (first | (with_reducible apply And.intro) | intro _)) <;> first | (rw [copy_end (by omega), e_d]) | (first | assumption | (exact pd_23 _ (by first | assumption | omega | (simp; done) | (simp; omega) | (simp [*]; done) | exact smallE_of (n := 1048576) (by omega) (by omega) | (simp [*] at *; omega) | grind [szS]) _ (by first | rfl | simp | (simp; omega))) | (first | omega | (simp only [IntKind.wrap_i64, maxL] at *; omega) | (simp [IntKind.wrap_i64, maxL] at *; omega)) | rfl | contradiction | grind)
theorem pd_16 (d : D) (h : smallE d) (Q : List D → Prop) (ho : Q [d]) : PC Try.prog 16 [.sc (.sl [(.int .i64), (.int .i64), (.int .i64), (.int .i64), (.int .i64), (.int .i64), (.int .i64), (.int .i64), (.int .i64), (.int .i64), (.int .i64), (.int .i64), (.int .i64), (.int .i64), (.int .i64), (.int .i64), (.int .i64), (.int .i64), .bool, (.sl [(.int .i64), (.int .i64), (.int .i64), (.int .i64), (.int .i64), (.int .i64), .bool]), (.int .i64), (.int .i64)]) d] [.sc (.sl [(.int .i64), (.int .i64), (.int .i64), (.int .i64), (.int .i64), (.int .i64), (.int .i64), (.int .i64), (.int .i64), (.int .i64), (.int .i64), (.int .i64), (.int .i64), (.int .i64), (.int .i64), (.int .i64), (.int .i64), (.int .i64), .bool, (.sl [(.int .i64), (.int .i64), (.int .i64), (.int .i64), (.int .i64), (.int .i64), .bool]), (.int .i64), (.int .i64)])] Q := (pc_16 d h).mono fun _ h => h ▸ ho
/- laws.eqPat -/
theorem pc_68 (d e : D) (h : d = e) : PC Try.prog 68 [.st [(.int .i64), (.int .i64), (.int .i64), (.int .i64), (.int .i64), (.int .i64), (.int .i64)] d, .st [(.int .i64), (.int .i64), (.int .i64), (.int .i64), (.int .i64), (.int .i64), (.int .i64)] e] [.sc .bool] fun o => o = [.bool true] := by
  refine PC.of_sig mix sig_68 ⟨rfl, rfl, trivial⟩ rfl fun hok => ?_
  have e_d : D.lst [d.fld 0, d.fld 1, d.fld 2, d.fld 3, d.fld 4, d.fld 5, d.fld 6] = d := by simpa [List.range, List.range.loop] using okL_eta (hok _ (.head _))
  have k_d : okL [(.int .i64), (.int .i64), (.int .i64), (.int .i64), (.int .i64), (.int .i64), (.int .i64)] d := (hok _ (.head _))
  have e_e : D.lst [e.fld 0, e.fld 1, e.fld 2, e.fld 3, e.fld 4, e.fld 5, e.fld 6] = e := by simpa [List.range, List.range.loop] using okL_eta (hok _ (.tail _ (.head _)))
  have k_e : okL [(.int .i64), (.int .i64), (.int .i64), (.int .i64), (.int .i64), (.int .i64), (.int .i64)] e := (hok _ (.tail _ (.head _)))
  subst h
  apply says_den (φ := fun _ _ => [])
  simp [e_d, e_e, tree_68, T.says, X.den, O1.den, O2.den, O3.den, callD, XArg.ev, XArg.dat, Callee'.num, backs, DArg.back, Conds.den, cloArgs]
theorem pd_68 (d e : D) (h : d = e) (Q : List D → Prop) (ho : Q [.bool true]) : PC Try.prog 68 [.st [(.int .i64), (.int .i64), (.int .i64), (.int .i64), (.int .i64), (.int .i64), (.int .i64)] d, .st [(.int .i64), (.int .i64), (.int .i64), (.int .i64), (.int .i64), (.int .i64), (.int .i64)] e] [.sc .bool] Q := (pc_68 d e h).mono fun _ h => h ▸ ho
/- laws.eqGuard -/
theorem pc_69 (d e : D) (h : d = e) : PC Try.prog 69 [.st [(.int .i64), (.int .i64)] d, .st [(.int .i64), (.int .i64)] e] [.sc .bool] fun o => o = [.bool true] := by
  refine PC.of_sig mix sig_69 ⟨rfl, rfl, trivial⟩ rfl fun hok => ?_
  have e_d : D.lst [d.fld 0, d.fld 1] = d := by simpa [List.range, List.range.loop] using okL_eta (hok _ (.head _))
  have k_d : okL [(.int .i64), (.int .i64)] d := (hok _ (.head _))
  have e_e : D.lst [e.fld 0, e.fld 1] = e := by simpa [List.range, List.range.loop] using okL_eta (hok _ (.tail _ (.head _)))
  have k_e : okL [(.int .i64), (.int .i64)] e := (hok _ (.tail _ (.head _)))
  subst h
  apply says_den (φ := fun _ _ => [])
  simp [e_d, e_e, tree_69, T.says, X.den, O1.den, O2.den, O3.den, callD, XArg.ev, XArg.dat, Callee'.num, backs, DArg.back, Conds.den, cloArgs]
theorem pd_69 (d e : D) (h : d = e) (Q : List D → Prop) (ho : Q [.bool true]) : PC Try.prog 69 [.st [(.int .i64), (.int .i64)] d, .st [(.int .i64), (.int .i64)] e] [.sc .bool] Q := (pc_69 d e h).mono fun _ h => h ▸ ho
/- laws.eqEvent -/
theorem pc_102 (d e : D) (h : d = e) : PC Try.prog 102 [.st [(.int .i64), (.int .i64), (.int .i64), (.int .i64), (.int .i64), (.int .i64), .bool] d, .st [(.int .i64), (.int .i64), (.int .i64), (.int .i64), (.int .i64), (.int .i64), .bool] e] [.sc .bool] fun o => o = [.bool true] := by
  refine PC.of_sig mix sig_102 ⟨rfl, rfl, trivial⟩ rfl fun hok => ?_
  have e_d : D.lst [d.fld 0, d.fld 1, d.fld 2, d.fld 3, d.fld 4, d.fld 5, d.fld 6] = d := by simpa [List.range, List.range.loop] using okL_eta (hok _ (.head _))
  have k_d : okL [(.int .i64), (.int .i64), (.int .i64), (.int .i64), (.int .i64), (.int .i64), .bool] d := (hok _ (.head _))
  have e_e : D.lst [e.fld 0, e.fld 1, e.fld 2, e.fld 3, e.fld 4, e.fld 5, e.fld 6] = e := by simpa [List.range, List.range.loop] using okL_eta (hok _ (.tail _ (.head _)))
  have k_e : okL [(.int .i64), (.int .i64), (.int .i64), (.int .i64), (.int .i64), (.int .i64), .bool] e := (hok _ (.tail _ (.head _)))
  subst h
  apply says_den (φ := fun _ _ => [])
  simp [e_d, e_e, tree_102, T.says, X.den, O1.den, O2.den, O3.den, callD, XArg.ev, XArg.dat, Callee'.num, backs, DArg.back, Conds.den, cloArgs]
theorem pd_102 (d e : D) (h : d = e) (Q : List D → Prop) (ho : Q [.bool true]) : PC Try.prog 102 [.st [(.int .i64), (.int .i64), (.int .i64), (.int .i64), (.int .i64), (.int .i64), .bool] d, .st [(.int .i64), (.int .i64), (.int .i64), (.int .i64), (.int .i64), (.int .i64), .bool] e] [.sc .bool] Q := (pc_102 d e h).mono fun _ h => h ▸ ho
/- laws.eqEventS -/
def phi_43 : Nat → List D → List D
  | 102, [d, e] => [.bool true]
  | _, _ => []
theorem pc_43 (d e : D) (h : d = e) : PC Try.prog 43 [.sc (.sl [(.int .i64), (.int .i64), (.int .i64), (.int .i64), (.int .i64), (.int .i64), .bool]) d, .sc (.sl [(.int .i64), (.int .i64), (.int .i64), (.int .i64), (.int .i64), (.int .i64), .bool]) e] [.sc .bool] fun o => o = [.bool true] := by
  refine PC.of_sig mix sig_43 ⟨rfl, rfl, trivial⟩ rfl fun hok => ?_
  have e_d := sl_eta (hok _ (.head _))
  have l_d := sl_len (hok _ (.head _))
  have k_d := sl_all (hok _ (.head _))
  have E_d : ∀ i, i < d.toL.length → D.lst [(d.elem i).fld 0, (d.elem i).fld 1, (d.elem i).fld 2, (d.elem i).fld 3, (d.elem i).fld 4, (d.elem i).fld 5, (d.elem i).fld 6] = d.elem i := fun i hi => by simpa [List.range, List.range.loop] using okL_eta (k_d _ (elem_mem hi))
  have e_e := sl_eta (hok _ (.tail _ (.head _)))
  have l_e := sl_len (hok _ (.tail _ (.head _)))
  have k_e := sl_all (hok _ (.tail _ (.head _)))
  have E_e : ∀ i, i < e.toL.length → D.lst [(e.elem i).fld 0, (e.elem i).fld 1, (e.elem i).fld 2, (e.elem i).fld 3, (e.elem i).fld 4, (e.elem i).fld 5, (e.elem i).fld 6] = e.elem i := fun i hi => by simpa [List.range, List.range.loop] using okL_eta (k_e _ (elem_mem hi))
  subst h
  apply says_den (φ := (phi_43))
  simp [e_d, e_e, E_d, E_e, tree_43, T.says, X.den, O1.den, O2.den, O3.den, callD, XArg.ev, XArg.dat, Callee'.num, backs, DArg.back, Conds.den, cloArgs, phi_43, pd_102]
  refine fun _ => ?_
  refine den_for d.toL.length 0 (fun i => [.int i]) (fun _ => True) (by simp) (by simp [X.den]) trivial fun i hi _ => ?_
  apply says_den (φ := (phi_43))
  simp [e_d, e_e, E_d, E_e, tree_43, T.says, X.den, O1.den, O2.den, O3.den, callD, XArg.ev, XArg.dat, Callee'.num, backs, DArg.back, Conds.den, cloArgs, phi_43, pd_102]
  (repeat' (first | (with_reducible apply And.intro) | intro _)) <;> (first | omega | (simp only [IntKind.wrap_i64, maxL] at *; omega) | (simp [IntKind.wrap_i64, maxL] at *; omega))
theorem pd_43 (d e : D) (h : d = e) (Q : List D → Prop) (ho : Q [.bool true]) : PC Try.prog 43 [.sc (.sl [(.int .i64), (.int .i64), (.int .i64), (.int .i64), (.int .i64), (.int .i64), .bool]) d, .sc (.sl [(.int .i64), (.int .i64), (.int .i64), (.int .i64), (.int .i64), (.int .i64), .bool]) e] [.sc .bool] Q := (pc_43 d e h).mono fun _ h => h ▸ ho
/- laws.eqAct -/
def phi_70 : Nat → List D → List D
  | 43, [d, e] => [.bool true]
  | _, _ => []
theorem pc_70 (d e : D) (h : d = e) : PC Try.prog 70 [.st [(.int .i64), (.int .i64), (.int .i64), (.int .i64), (.int .i64), .bool, (.sl [(.int .i64), (.int .i64), (.int .i64), (.int .i64), (.int .i64), (.int .i64), .bool])] d, .st [(.int .i64), (.int .i64), (.int .i64), (.int .i64), (.int .i64), .bool, (.sl [(.int .i64), (.int .i64), (.int .i64), (.int .i64), (.int .i64), (.int .i64), .bool])] e] [.sc .bool] fun o => o = [.bool true] := by
  refine PC.of_sig mix sig_70 ⟨rfl, rfl, trivial⟩ rfl fun hok => ?_
  have e_d : D.lst [d.fld 0, d.fld 1, d.fld 2, d.fld 3, d.fld 4, d.fld 5, d.fld 6] = d := by simpa [List.range, List.range.loop] using okL_eta (hok _ (.head _))
  have k_d : okL [(.int .i64), (.int .i64), (.int .i64), (.int .i64), (.int .i64), .bool, (.sl [(.int .i64), (.int .i64), (.int .i64), (.int .i64), (.int .i64), (.int .i64), .bool])] d := (hok _ (.head _))
  have e_d_6 : D.lst (d.fld 6).toL = d.fld 6 := sl_eta (okL_at k_d (i := 6) rfl)
  have l_d_6 := sl_len (okL_at k_d (i := 6) rfl)
  have k_d_6 := sl_all (okL_at k_d (i := 6) rfl)
  have E_d_6 : ∀ i, i < (d.fld 6).toL.length → D.lst [((d.fld 6).elem i).fld 0, ((d.fld 6).elem i).fld 1, ((d.fld 6).elem i).fld 2, ((d.fld 6).elem i).fld 3, ((d.fld 6).elem i).fld 4, ((d.fld 6).elem i).fld 5, ((d.fld 6).elem i).fld 6] = (d.fld 6).elem i := fun i hi => by simpa [List.range, List.range.loop] using okL_eta (k_d_6 _ (elem_mem hi))
  have e_e : D.lst [e.fld 0, e.fld 1, e.fld 2, e.fld 3, e.fld 4, e.fld 5, e.fld 6] = e := by simpa [List.range, List.range.loop] using okL_eta (hok _ (.tail _ (.head _)))
  have k_e : okL [(.int .i64), (.int .i64), (.int .i64), (.int .i64), (.int .i64), .bool, (.sl [(.int .i64), (.int .i64), (.int .i64), (.int .i64), (.int .i64), (.int .i64), .bool])] e := (hok _ (.tail _ (.head _)))
  have e_e_6 : D.lst (e.fld 6).toL = e.fld 6 := sl_eta (okL_at k_e (i := 6) rfl)
  have l_e_6 := sl_len (okL_at k_e (i := 6) rfl)
  have k_e_6 := sl_all (okL_at k_e (i := 6) rfl)
  have E_e_6 : ∀ i, i < (e.fld 6).toL.length → D.lst [((e.fld 6).elem i).fld 0, ((e.fld 6).elem i).fld 1, ((e.fld 6).elem i).fld 2, ((e.fld 6).elem i).fld 3, ((e.fld 6).elem i).fld 4, ((e.fld 6).elem i).fld 5, ((e.fld 6).elem i).fld 6] = (e.fld 6).elem i := fun i hi => by simpa [List.range, List.range.loop] using okL_eta (k_e_6 _ (elem_mem hi))
  subst h
  apply says_den (φ := (phi_70))
  simp [e_d_6, E_d_6, e_e_6, E_e_6, e_d, e_e, tree_70, T.says, X.den, O1.den, O2.den, O3.den, callD, XArg.ev, XArg.dat, Callee'.num, backs, DArg.back, Conds.den, cloArgs, phi_70, pd_43]
theorem pd_70 (d e : D) (h : d = e) (Q : List D → Prop) (ho : Q [.bool true]) : PC Try.prog 70 [.st [(.int .i64), (.int .i64), (.int .i64), (.int .i64), (.int .i64), .bool, (.sl [(.int .i64), (.int .i64), (.int .i64), (.int .i64), (.int .i64), (.int .i64), .bool])] d, .st [(.int .i64), (.int .i64), (.int .i64), (.int .i64), (.int .i64), .bool, (.sl [(.int .i64), (.int .i64), (.int .i64), (.int .i64), (.int .i64), (.int .i64), .bool])] e] [.sc .bool] Q := (pc_70 d e h).mono fun _ h => h ▸ ho
/- laws.eqEffect -/
def phi_25 : Nat → List D → List D
  | 68, [d, e] => [.bool true]
  | 69, [d, e] => [.bool true]
  | 70, [d, e] => [.bool true]
  | _, _ => []
theorem pc_25 (d e : D) (h : d = e) : PC Try.prog 25 [.st [(.int .i64), (.int .i64), (.int .i64), (.int .i64), (.int .i64), (.int .i64), (.int .i64), (.int .i64), (.int .i64), (.int .i64), (.int .i64), (.int .i64), (.int .i64), (.int .i64), (.int .i64), (.int .i64), (.int .i64), (.int .i64), .bool, (.sl [(.int .i64), (.int .i64), (.int .i64), (.int .i64), (.int .i64), (.int .i64), .bool]), (.int .i64), (.int .i64)] d, .st [(.int .i64), (.int .i64), (.int .i64), (.int .i64), (.int .i64), (.int .i64), (.int .i64), (.int .i64), (.int .i64), (.int .i64), (.int .i64), (.int .i64), (.int .i64), (.int .i64), (.int .i64), (.int .i64), (.int .i64), (.int .i64), .bool, (.sl [(.int .i64), (.int .i64), (.int .i64), (.int .i64), (.int .i64), (.int .i64), .bool]), (.int .i64), (.int .i64)] e] [.sc .bool] fun o => o = [.bool true] := by
  refine PC.of_sig mix sig_25 ⟨rfl, rfl, trivial⟩ rfl fun hok => ?_
  have e_d : D.lst [d.fld 0, d.fld 1, d.fld 2, d.fld 3, d.fld 4, d.fld 5, d.fld 6, d.fld 7, d.fld 8, d.fld 9, d.fld 10, d.fld 11, d.fld 12, d.fld 13, d.fld 14, d.fld 15, d.fld 16, d.fld 17, d.fld 18, d.fld 19, d.fld 20, d.fld 21] = d := by simpa [List.range, List.range.loop] using okL_eta (hok _ (.head _))
  have k_d : okL [(.int .i64), (.int .i64), (.int .i64), (.int .i64), (.int .i64), (.int .i64), (.int .i64), (.int .i64), (.int .i64), (.int .i64), (.int .i64), (.int .i64), (.int .i64), (.int .i64), (.int .i64), (.int .i64), (.int .i64), (.int .i64), .bool, (.sl [(.int .i64), (.int .i64), (.int .i64), (.int .i64), (.int .i64), (.int .i64), .bool]), (.int .i64), (.int .i64)] d := (hok _ (.head _))
  have e_d_19 : D.lst (d.fld 19).toL = d.fld 19 := sl_eta (okL_at k_d (i := 19) rfl)
  have l_d_19 := sl_len (okL_at k_d (i := 19) rfl)
  have k_d_19 := sl_all (okL_at k_d (i := 19) rfl)
  have E_d_19 : ∀ i, i < (d.fld 19).toL.length → D.lst [((d.fld 19).elem i).fld 0, ((d.fld 19).elem i).fld 1, ((d.fld 19).elem i).fld 2, ((d.fld 19).elem i).fld 3, ((d.fld 19).elem i).fld 4, ((d.fld 19).elem i).fld 5, ((d.fld 19).elem i).fld 6] = (d.fld 19).elem i := fun i hi => by simpa [List.range, List.range.loop] using okL_eta (k_d_19 _ (elem_mem hi))
  have e_e : D.lst [e.fld 0, e.fld 1, e.fld 2, e.fld 3, e.fld 4, e.fld 5, e.fld 6, e.fld 7, e.fld 8, e.fld 9, e.fld 10, e.fld 11, e.fld 12, e.fld 13, e.fld 14, e.fld 15, e.fld 16, e.fld 17, e.fld 18, e.fld 19, e.fld 20, e.fld 21] = e := by simpa [List.range, List.range.loop] using okL_eta (hok _ (.tail _ (.head _)))
  have k_e : okL [(.int .i64), (.int .i64), (.int .i64), (.int .i64), (.int .i64), (.int .i64), (.int .i64), (.int .i64), (.int .i64), (.int .i64), (.int .i64), (.int .i64), (.int .i64), (.int .i64), (.int .i64), (.int .i64), (.int .i64), (.int .i64), .bool, (.sl [(.int .i64), (.int .i64), (.int .i64), (.int .i64), (.int .i64), (.int .i64), .bool]), (.int .i64), (.int .i64)] e := (hok _ (.tail _ (.head _)))
  have e_e_19 : D.lst (e.fld 19).toL = e.fld 19 := sl_eta (okL_at k_e (i := 19) rfl)
  have l_e_19 := sl_len (okL_at k_e (i := 19) rfl)
  have k_e_19 := sl_all (okL_at k_e (i := 19) rfl)
  have E_e_19 : ∀ i, i < (e.fld 19).toL.length → D.lst [((e.fld 19).elem i).fld 0, ((e.fld 19).elem i).fld 1, ((e.fld 19).elem i).fld 2, ((e.fld 19).elem i).fld 3, ((e.fld 19).elem i).fld 4, ((e.fld 19).elem i).fld 5, ((e.fld 19).elem i).fld 6] = (e.fld 19).elem i := fun i hi => by simpa [List.range, List.range.loop] using okL_eta (k_e_19 _ (elem_mem hi))
  subst h
  apply says_den (φ := (phi_25))
  simp [e_d_19, E_d_19, e_e_19, E_e_19, e_d, e_e, tree_25, T.says, X.den, O1.den, O2.den, O3.den, callD, XArg.ev, XArg.dat, Callee'.num, backs, DArg.back, Conds.den, cloArgs, phi_25, pd_68, pd_69, pd_70]
theorem pd_25 (d e : D) (h : d = e) (Q : List D → Prop) (ho : Q [.bool true]) : PC Try.prog 25 [.st [(.int .i64), (.int .i64), (.int .i64), (.int .i64), (.int .i64), (.int .i64), (.int .i64), (.int .i64), (.int .i64), (.int .i64), (.int .i64), (.int .i64), (.int .i64), (.int .i64), (.int .i64), (.int .i64), (.int .i64), (.int .i64), .bool, (.sl [(.int .i64), (.int .i64), (.int .i64), (.int .i64), (.int .i64), (.int .i64), .bool]), (.int .i64), (.int .i64)] d, .st [(.int .i64), (.int .i64), (.int .i64), (.int .i64), (.int .i64), (.int .i64), (.int .i64), (.int .i64), (.int .i64), (.int .i64), (.int .i64), (.int .i64), (.int .i64), (.int .i64), (.int .i64), (.int .i64), (.int .i64), (.int .i64), .bool, (.sl [(.int .i64), (.int .i64), (.int .i64), (.int .i64), (.int .i64), (.int .i64), .bool]), (.int .i64), (.int .i64)] e] [.sc .bool] Q := (pc_25 d e h).mono fun _ h => h ▸ ho
/- laws.eqEffectS -/
def phi_18 : Nat → List D → List D
  | 25, [d, e] => [.bool true]
  | _, _ => []
theorem pc_18 (d e : D) (h : d = e) : PC Try.prog 18 [.sc (.sl [(.int .i64), (.int .i64), (.int .i64), (.int .i64), (.int .i64), (.int .i64), (.int .i64), (.int .i64), (.int .i64), (.int .i64), (.int .i64), (.int .i64), (.int .i64), (.int .i64), (.int .i64), (.int .i64), (.int .i64), (.int .i64), .bool, (.sl [(.int .i64), (.int .i64), (.int .i64), (.int .i64), (.int .i64), (.int .i64), .bool]), (.int .i64), (.int .i64)]) d, .sc (.sl [(.int .i64), (.int .i64), (.int .i64), (.int .i64), (.int .i64), (.int .i64), (.int .i64), (.int .i64), (.int .i64), (.int .i64), (.int .i64), (.int .i64), (.int .i64), (.int .i64), (.int .i64), (.int .i64), (.int .i64), (.int .i64), .bool, (.sl [(.int .i64), (.int .i64), (.int .i64), (.int .i64), (.int .i64), (.int .i64), .bool]), (.int .i64), (.int .i64)]) e] [.sc .bool] fun o => o = [.bool true] := by
  refine PC.of_sig mix sig_18 ⟨rfl, rfl, trivial⟩ rfl fun hok => ?_
  have e_d := sl_eta (hok _ (.head _))
  have l_d := sl_len (hok _ (.head _))
  have k_d := sl_all (hok _ (.head _))
  have E_d : ∀ i, i < d.toL.length → D.lst [(d.elem i).fld 0, (d.elem i).fld 1, (d.elem i).fld 2, (d.elem i).fld 3, (d.elem i).fld 4, (d.elem i).fld 5, (d.elem i).fld 6, (d.elem i).fld 7, (d.elem i).fld 8, (d.elem i).fld 9, (d.elem i).fld 10, (d.elem i).fld 11, (d.elem i).fld 12, (d.elem i).fld 13, (d.elem i).fld 14, (d.elem i).fld 15, (d.elem i).fld 16, (d.elem i).fld 17, (d.elem i).fld 18, (d.elem i).fld 19, (d.elem i).fld 20, (d.elem i).fld 21] = d.elem i := fun i hi => by simpa [List.range, List.range.loop] using okL_eta (k_d _ (elem_mem hi))
  have e_e := sl_eta (hok _ (.tail _ (.head _)))
  have l_e := sl_len (hok _ (.tail _ (.head _)))
  have k_e := sl_all (hok _ (.tail _ (.head _)))
  have E_e : ∀ i, i < e.toL.length → D.lst [(e.elem i).fld 0, (e.elem i).fld 1, (e.elem i).fld 2, (e.elem i).fld 3, (e.elem i).fld 4, (e.elem i).fld 5, (e.elem i).fld 6, (e.elem i).fld 7, (e.elem i).fld 8, (e.elem i).fld 9, (e.elem i).fld 10, (e.elem i).fld 11, (e.elem i).fld 12, (e.elem i).fld 13, (e.elem i).fld 14, (e.elem i).fld 15, (e.elem i).fld 16, (e.elem i).fld 17, (e.elem i).fld 18, (e.elem i).fld 19, (e.elem i).fld 20, (e.elem i).fld 21] = e.elem i := fun i hi => by simpa [List.range, List.range.loop] using okL_eta (k_e _ (elem_mem hi))
  subst h
  apply says_den (φ := (phi_18))
  simp [e_d, e_e, E_d, E_e, tree_18, T.says, X.den, O1.den, O2.den, O3.den, callD, XArg.ev, XArg.dat, Callee'.num, backs, DArg.back, Conds.den, cloArgs, phi_18, pd_25]
  refine fun _ => ?_
  refine den_for d.toL.length 0 (fun i => [.int i]) (fun _ => True) (by simp) (by simp [X.den]) trivial fun i hi _ => ?_
  apply says_den (φ := (phi_18))
  simp [e_d, e_e, E_d, E_e, tree_18, T.says, X.den, O1.den, O2.den, O3.den, callD, XArg.ev, XArg.dat, Callee'.num, backs, DArg.back, Conds.den, cloArgs, phi_18, pd_25]
  (repeat' (first | (with_reducible apply And.intro) | intro _)) <;> (first | omega | (simp only [IntKind.wrap_i64, maxL] at *; omega) | (simp [IntKind.wrap_i64, maxL] at *; omega))
theorem pd_18 (d e : D) (h : d = e) (Q : List D → Prop) (ho : Q [.bool true]) : PC Try.prog 18 [.sc (.sl [(.int .i64), (.int .i64), (.int .i64), (.int .i64), (.int .i64), (.int .i64), (.int .i64), (.int .i64), (.int .i64), (.int .i64), (.int .i64), (.int .i64), (.int .i64), (.int .i64), (.int .i64), (.int .i64), (.int .i64), (.int .i64), .bool, (.sl [(.int .i64), (.int .i64), (.int .i64), (.int .i64), (.int .i64), (.int .i64), .bool]), (.int .i64), (.int .i64)]) d, .sc (.sl [(.int .i64), (.int .i64), (.int .i64), (.int .i64), (.int .i64), (.int .i64), (.int .i64), (.int .i64), (.int .i64), (.int .i64), (.int .i64), (.int .i64), (.int .i64), (.int .i64), (.int .i64), (.int .i64), (.int .i64), (.int .i64), .bool, (.sl [(.int .i64), (.int .i64), (.int .i64), (.int .i64), (.int .i64), (.int .i64), .bool]), (.int .i64), (.int .i64)]) e] [.sc .bool] Q := (pc_18 d e h).mono fun _ h => h ▸ ho
/- spec.l1In -/
theorem pc_73 (a b c : D) : PC Try.prog 73 [.sc (.int .i64) a, .sc (.int .i64) b, .sc (.int .i64) c] [.sc .bool] fun o => o = [.bool (inR a.toI b.toI c.toI)] := by
  refine PC.of_sig mix sig_73 ⟨rfl, rfl, rfl, trivial⟩ rfl fun hok => ?_
  have e_a := int_eta (hok _ (.head _))
  have b_a := int_range (hok _ (.head _))
  have e_b := int_eta (hok _ (.tail _ (.head _)))
  have b_b := int_range (hok _ (.tail _ (.head _)))
  have e_c := int_eta (hok _ (.tail _ (.tail _ (.head _))))
  have b_c := int_range (hok _ (.tail _ (.tail _ (.head _))))
  apply says_den (φ := fun _ _ => [])
  simp [e_a, e_b, e_c, tree_73, T.says, X.den, O1.den, O2.den, O3.den, callD, XArg.ev, XArg.dat, Callee'.num, backs, DArg.back, Conds.den, cloArgs, inR]
theorem pd_73 (a b c : D) (Q : List D → Prop) (ho : Q [.bool (inR a.toI b.toI c.toI)]) : PC Try.prog 73 [.sc (.int .i64) a, .sc (.int .i64) b, .sc (.int .i64) c] [.sc .bool] Q := (pc_73 a b c).mono fun _ h => h ▸ ho
/- spec.PatOk -/
def phi_74 : Nat → List D → List D
  | 73, [a, b, c] => [.bool (inR a.toI b.toI c.toI)]
  | _, _ => []
theorem pc_74 (d : D) : PC Try.prog 74 [.st [(.int .i64), (.int .i64), (.int .i64), (.int .i64), (.int .i64), (.int .i64), (.int .i64)] d] [.sc .bool] fun o => o = [.bool (patOk d)] := by
  refine PC.of_sig mix sig_74 ⟨rfl, trivial⟩ rfl fun hok => ?_
  have e_d : D.lst [d.fld 0, d.fld 1, d.fld 2, d.fld 3, d.fld 4, d.fld 5, d.fld 6] = d := by simpa [List.range, List.range.loop] using okL_eta (hok _ (.head _))
  have k_d : okL [(.int .i64), (.int .i64), (.int .i64), (.int .i64), (.int .i64), (.int .i64), (.int .i64)] d := (hok _ (.head _))
  apply says_den (φ := (phi_74))
  simp [e_d, tree_74, T.says, X.den, O1.den, O2.den, O3.den, callD, XArg.ev, XArg.dat, Callee'.num, backs, DArg.back, Conds.den, cloArgs, phi_74, pd_73]
  (repeat' (first | (with_reducible apply And.intro) | intro _)) <;> grind [patOk]
theorem pd_74 (d : D) (Q : List D → Prop) (ho : Q [.bool (patOk d)]) : PC Try.prog 74 [.st [(.int .i64), (.int .i64), (.int .i64), (.int .i64), (.int .i64), (.int .i64), (.int .i64)] d] [.sc .bool] Q := (pc_74 d).mono fun _ h => h ▸ ho
/- spec.GuardOk -/
def phi_75 : Nat → List D → List D
  | 73, [a, b, c] => [.bool (inR a.toI b.toI c.toI)]
  | _, _ => []
theorem pc_75 (d : D) : PC Try.prog 75 [.st [(.int .i64), (.int .i64)] d] [.sc .bool] fun o => o = [.bool (guardOk d)] := by
  refine PC.of_sig mix sig_75 ⟨rfl, trivial⟩ rfl fun hok => ?_
  have e_d : D.lst [d.fld 0, d.fld 1] = d := by simpa [List.range, List.range.loop] using okL_eta (hok _ (.head _))
  have k_d : okL [(.int .i64), (.int .i64)] d := (hok _ (.head _))
  apply says_den (φ := (phi_75))
  simp [e_d, tree_75, T.says, X.den, O1.den, O2.den, O3.den, callD, XArg.ev, XArg.dat, Callee'.num, backs, DArg.back, Conds.den, cloArgs, phi_75, pd_73]
  (repeat' (first | (with_reducible apply And.intro) | intro _)) <;> grind [guardOk]
theorem pd_75 (d : D) (Q : List D → Prop) (ho : Q [.bool (guardOk d)]) : PC Try.prog 75 [.st [(.int .i64), (.int .i64)] d] [.sc .bool] Q := (pc_75 d).mono fun _ h => h ▸ ho
/- spec.l9Plain -/
theorem pc_124 (a : D) : PC Try.prog 124 [.st [(.int .i64), (.int .i64), (.int .i64), (.int .i64), (.int .i64), .bool, (.sl [(.int .i64), (.int .i64), (.int .i64), (.int .i64), (.int .i64), (.int .i64), .bool])] a] [.sc .bool] fun o => o = [.bool (plain a)] := by
  refine PC.of_sig mix sig_124 ⟨rfl, trivial⟩ rfl fun hok => ?_
  have e_a : D.lst [a.fld 0, a.fld 1, a.fld 2, a.fld 3, a.fld 4, a.fld 5, a.fld 6] = a := by simpa [List.range, List.range.loop] using okL_eta (hok _ (.head _))
  have k_a : okL [(.int .i64), (.int .i64), (.int .i64), (.int .i64), (.int .i64), .bool, (.sl [(.int .i64), (.int .i64), (.int .i64), (.int .i64), (.int .i64), (.int .i64), .bool])] a := (hok _ (.head _))
  have e_a_6 : D.lst (a.fld 6).toL = a.fld 6 := sl_eta (okL_at k_a (i := 6) rfl)
  have l_a_6 := sl_len (okL_at k_a (i := 6) rfl)
  have k_a_6 := sl_all (okL_at k_a (i := 6) rfl)
  have E_a_6 : ∀ i, i < (a.fld 6).toL.length → D.lst [((a.fld 6).elem i).fld 0, ((a.fld 6).elem i).fld 1, ((a.fld 6).elem i).fld 2, ((a.fld 6).elem i).fld 3, ((a.fld 6).elem i).fld 4, ((a.fld 6).elem i).fld 5, ((a.fld 6).elem i).fld 6] = (a.fld 6).elem i := fun i hi => by simpa [List.range, List.range.loop] using okL_eta (k_a_6 _ (elem_mem hi))
  apply says_den (φ := fun _ _ => [])
  simp [e_a_6, E_a_6, e_a, tree_124, T.says, X.den, O1.den, O2.den, O3.den, callD, XArg.ev, XArg.dat, Callee'.num, backs, DArg.back, Conds.den, cloArgs, plain]
theorem pd_124 (a : D) (Q : List D → Prop) (ho : Q [.bool (plain a)]) : PC Try.prog 124 [.st [(.int .i64), (.int .i64), (.int .i64), (.int .i64), (.int .i64), .bool, (.sl [(.int .i64), (.int .i64), (.int .i64), (.int .i64), (.int .i64), (.int .i64), .bool])] a] [.sc .bool] Q := (pc_124 a).mono fun _ h => h ▸ ho
/- spec.EventOk -/
def phi_92 : Nat → List D → List D
  | 73, [a, b, c] => [.bool (inR a.toI b.toI c.toI)]
  | _, _ => []
theorem pc_92 (e : D) : PC Try.prog 92 [.st [(.int .i64), (.int .i64), (.int .i64), (.int .i64), (.int .i64), (.int .i64), .bool] e] [.sc .bool] fun o => o = [.bool (eventOk e)] := by
  refine PC.of_sig mix sig_92 ⟨rfl, trivial⟩ rfl fun hok => ?_
  have e_e : D.lst [e.fld 0, e.fld 1, e.fld 2, e.fld 3, e.fld 4, e.fld 5, e.fld 6] = e := by simpa [List.range, List.range.loop] using okL_eta (hok _ (.head _))
  have k_e : okL [(.int .i64), (.int .i64), (.int .i64), (.int .i64), (.int .i64), (.int .i64), .bool] e := (hok _ (.head _))
  apply says_den (φ := (phi_92))
  simp [e_e, tree_92, T.says, X.den, O1.den, O2.den, O3.den, callD, XArg.ev, XArg.dat, Callee'.num, backs, DArg.back, Conds.den, cloArgs, phi_92, pd_73]
  (repeat' (first | (with_reducible apply And.intro) | intro _)) <;> grind [eventOk, onPiece, onPlayer]
theorem pd_92 (e : D) (Q : List D → Prop) (ho : Q [.bool (eventOk e)]) : PC Try.prog 92 [.st [(.int .i64), (.int .i64), (.int .i64), (.int .i64), (.int .i64), (.int .i64), .bool] e] [.sc .bool] Q := (pc_92 e).mono fun _ h => h ▸ ho
/- spec.l9Part -/
def phi_125 : Nat → List D → List D
  | 92, [e] => [.bool (eventOk e)]
  | _, _ => []
theorem pc_125 (e : D) : PC Try.prog 125 [.st [(.int .i64), (.int .i64), (.int .i64), (.int .i64), (.int .i64), (.int .i64), .bool] e] [.sc .bool] fun o => o = [.bool (partOk e)] := by
  refine PC.of_sig mix sig_125 ⟨rfl, trivial⟩ rfl fun hok => ?_
  have e_e : D.lst [e.fld 0, e.fld 1, e.fld 2, e.fld 3, e.fld 4, e.fld 5, e.fld 6] = e := by simpa [List.range, List.range.loop] using okL_eta (hok _ (.head _))
  have k_e : okL [(.int .i64), (.int .i64), (.int .i64), (.int .i64), (.int .i64), (.int .i64), .bool] e := (hok _ (.head _))
  apply says_den (φ := (phi_125))
  simp [e_e, tree_125, T.says, X.den, O1.den, O2.den, O3.den, callD, XArg.ev, XArg.dat, Callee'.num, backs, DArg.back, Conds.den, cloArgs, phi_125, pd_92, partOk, ev0]
  all_goals grind
theorem pd_125 (e : D) (Q : List D → Prop) (ho : Q [.bool (partOk e)]) : PC Try.prog 125 [.st [(.int .i64), (.int .i64), (.int .i64), (.int .i64), (.int .i64), (.int .i64), .bool] e] [.sc .bool] Q := (pc_125 e).mono fun _ h => h ▸ ho
/- spec.ActOk -/
def phi_76 : Nat → List D → List D
  | 73, [a, b, c] => [.bool (inR a.toI b.toI c.toI)]
  | 124, [a] => [.bool (plain a)]
  | 125, [e] => [.bool (partOk e)]
  | _, _ => []
theorem pc_76 (a : D) : PC Try.prog 76 [.st [(.int .i64), (.int .i64), (.int .i64), (.int .i64), (.int .i64), .bool, (.sl [(.int .i64), (.int .i64), (.int .i64), (.int .i64), (.int .i64), (.int .i64), .bool])] a] [.sc .bool] fun o => o = [.bool (actOk a)] := by
  refine PC.of_sig mix sig_76 ⟨rfl, trivial⟩ rfl fun hok => ?_
  have e_a : D.lst [a.fld 0, a.fld 1, a.fld 2, a.fld 3, a.fld 4, a.fld 5, a.fld 6] = a := by simpa [List.range, List.range.loop] using okL_eta (hok _ (.head _))
  have k_a : okL [(.int .i64), (.int .i64), (.int .i64), (.int .i64), (.int .i64), .bool, (.sl [(.int .i64), (.int .i64), (.int .i64), (.int .i64), (.int .i64), (.int .i64), .bool])] a := (hok _ (.head _))
  have e_a_6 : D.lst (a.fld 6).toL = a.fld 6 := sl_eta (okL_at k_a (i := 6) rfl)
  have l_a_6 := sl_len (okL_at k_a (i := 6) rfl)
  have k_a_6 := sl_all (okL_at k_a (i := 6) rfl)
  have E_a_6 : ∀ i, i < (a.fld 6).toL.length → D.lst [((a.fld 6).elem i).fld 0, ((a.fld 6).elem i).fld 1, ((a.fld 6).elem i).fld 2, ((a.fld 6).elem i).fld 3, ((a.fld 6).elem i).fld 4, ((a.fld 6).elem i).fld 5, ((a.fld 6).elem i).fld 6] = (a.fld 6).elem i := fun i hi => by simpa [List.range, List.range.loop] using okL_eta (k_a_6 _ (elem_mem hi))
  apply says_den (φ := (phi_76))
  simp [e_a_6, E_a_6, e_a, tree_76, T.says, X.den, O1.den, O2.den, O3.den, callD, XArg.ev, XArg.dat, Callee'.num, backs, DArg.back, Conds.den, cloArgs, phi_76, pd_73, pd_124, pd_125]
  (repeat' (first | (with_reducible apply And.intro) | intro _))
  all_goals first | (exfalso; omega) | (grind [actOk, plain]) | skip
  refine den_for (a.fld 6).toL.length 0 (fun i => [.int i]) (fun i => ∀ j, j < i → partOk ((a.fld 6).elem j) = true) (by simp) (by simp [X.den]) (by simp) fun i hi hR => ?_
  have hs : actOk a = ((a.fld 1).toI == 0 && (a.fld 2).toI == 0 && (a.fld 3).toI == -1 && (a.fld 4).toI == 0 && !(a.fld 5).toB && inR (a.fld 6).toL.length 1 3 && allR (fun i => partOk ((a.fld 6).elem i)) (a.fld 6).toL.length) := by
    simp [actOk, *]
  rw [hs]
  apply says_den (φ := (phi_76))
  by_cases hlt : i < (a.fld 6).toL.length
  · simp [e_a_6, E_a_6, e_a, tree_76, T.says, X.den, O1.den, O2.den, O3.den, callD, XArg.ev, XArg.dat, Callee'.num, backs, DArg.back, Conds.den, cloArgs, phi_76, pd_73, pd_124, pd_125, hlt]
    (repeat' (first | (with_reducible apply And.intro) | intro _))
    · rw [allR_false (p := fun i => partOk ((a.fld 6).elem i)) hlt ‹_›]
    · (first | omega | (simp only [IntKind.wrap_i64, maxL] at *; omega) | (simp [IntKind.wrap_i64, maxL] at *; omega))
    · grind
  · have ht := allR_true (p := fun i => partOk ((a.fld 6).elem i)) (n := (a.fld 6).toL.length) (fun j hj => hR j (by omega))
    simp [e_a_6, E_a_6, e_a, tree_76, T.says, X.den, O1.den, O2.den, O3.den, callD, XArg.ev, XArg.dat, Callee'.num, backs, DArg.back, Conds.den, cloArgs, phi_76, pd_73, pd_124, pd_125, hlt, ht]
    all_goals grind
theorem pd_76 (a : D) (Q : List D → Prop) (ho : Q [.bool (actOk a)]) : PC Try.prog 76 [.st [(.int .i64), (.int .i64), (.int .i64), (.int .i64), (.int .i64), .bool, (.sl [(.int .i64), (.int .i64), (.int .i64), (.int .i64), (.int .i64), (.int .i64), .bool])] a] [.sc .bool] Q := (pc_76 a).mono fun _ h => h ▸ ho
/- spec.ActFits -/
def phi_77 : Nat → List D → List D
  | 73, [a, b, c] => [.bool (inR a.toI b.toI c.toI)]
  | _, _ => []
theorem pc_77 (a n : D) : PC Try.prog 77 [.st [(.int .i64), (.int .i64), (.int .i64), (.int .i64), (.int .i64), .bool, (.sl [(.int .i64), (.int .i64), (.int .i64), (.int .i64), (.int .i64), (.int .i64), .bool])] a, .sc (.int .i64) n] [.sc .bool] fun o => o = [.bool (actFits a n.toI)] := by
  refine PC.of_sig mix sig_77 ⟨rfl, rfl, trivial⟩ rfl fun hok => ?_
  have e_a : D.lst [a.fld 0, a.fld 1, a.fld 2, a.fld 3, a.fld 4, a.fld 5, a.fld 6] = a := by simpa [List.range, List.range.loop] using okL_eta (hok _ (.head _))
  have k_a : okL [(.int .i64), (.int .i64), (.int .i64), (.int .i64), (.int .i64), .bool, (.sl [(.int .i64), (.int .i64), (.int .i64), (.int .i64), (.int .i64), (.int .i64), .bool])] a := (hok _ (.head _))
  have e_a_6 : D.lst (a.fld 6).toL = a.fld 6 := sl_eta (okL_at k_a (i := 6) rfl)
  have l_a_6 := sl_len (okL_at k_a (i := 6) rfl)
  have k_a_6 := sl_all (okL_at k_a (i := 6) rfl)
  have E_a_6 : ∀ i, i < (a.fld 6).toL.length → D.lst [((a.fld 6).elem i).fld 0, ((a.fld 6).elem i).fld 1, ((a.fld 6).elem i).fld 2, ((a.fld 6).elem i).fld 3, ((a.fld 6).elem i).fld 4, ((a.fld 6).elem i).fld 5, ((a.fld 6).elem i).fld 6] = (a.fld 6).elem i := fun i hi => by simpa [List.range, List.range.loop] using okL_eta (k_a_6 _ (elem_mem hi))
  have e_n := int_eta (hok _ (.tail _ (.head _)))
  have b_n := int_range (hok _ (.tail _ (.head _)))
  apply says_den (φ := (phi_77))
  simp [e_a_6, E_a_6, e_a, e_n, tree_77, T.says, X.den, O1.den, O2.den, O3.den, callD, XArg.ev, XArg.dat, Callee'.num, backs, DArg.back, Conds.den, cloArgs, phi_77, pd_73]
  (repeat' (first | (with_reducible apply And.intro) | intro _)) <;> grind [actFits]
theorem pd_77 (a n : D) (Q : List D → Prop) (ho : Q [.bool (actFits a n.toI)]) : PC Try.prog 77 [.st [(.int .i64), (.int .i64), (.int .i64), (.int .i64), (.int .i64), .bool, (.sl [(.int .i64), (.int .i64), (.int .i64), (.int .i64), (.int .i64), (.int .i64), .bool])] a, .sc (.int .i64) n] [.sc .bool] Q := (pc_77 a n).mono fun _ h => h ▸ ho
/- spec.EffectOk -/
def phi_28 : Nat → List D → List D
  | 73, [a, b, c] => [.bool (inR a.toI b.toI c.toI)]
  | 74, [d] => [.bool (patOk d)]
  | 75, [d] => [.bool (guardOk d)]
  | 76, [a] => [.bool (actOk a)]
  | 77, [a, n] => [.bool (actFits a n.toI)]
  | _, _ => []
theorem pc_28 (e : D) : PC Try.prog 28 [.st [(.int .i64), (.int .i64), (.int .i64), (.int .i64), (.int .i64), (.int .i64), (.int .i64), (.int .i64), (.int .i64), (.int .i64), (.int .i64), (.int .i64), (.int .i64), (.int .i64), (.int .i64), (.int .i64), (.int .i64), (.int .i64), .bool, (.sl [(.int .i64), (.int .i64), (.int .i64), (.int .i64), (.int .i64), (.int .i64), .bool]), (.int .i64), (.int .i64)] e] [.sc .bool] fun o => o = [.bool (effectOk e)] := by
  refine PC.of_sig mix sig_28 ⟨rfl, trivial⟩ rfl fun hok => ?_
  have e_e : D.lst [e.fld 0, e.fld 1, e.fld 2, e.fld 3, e.fld 4, e.fld 5, e.fld 6, e.fld 7, e.fld 8, e.fld 9, e.fld 10, e.fld 11, e.fld 12, e.fld 13, e.fld 14, e.fld 15, e.fld 16, e.fld 17, e.fld 18, e.fld 19, e.fld 20, e.fld 21] = e := by simpa [List.range, List.range.loop] using okL_eta (hok _ (.head _))
  have k_e : okL [(.int .i64), (.int .i64), (.int .i64), (.int .i64), (.int .i64), (.int .i64), (.int .i64), (.int .i64), (.int .i64), (.int .i64), (.int .i64), (.int .i64), (.int .i64), (.int .i64), (.int .i64), (.int .i64), (.int .i64), (.int .i64), .bool, (.sl [(.int .i64), (.int .i64), (.int .i64), (.int .i64), (.int .i64), (.int .i64), .bool]), (.int .i64), (.int .i64)] e := (hok _ (.head _))
  have e_e_19 : D.lst (e.fld 19).toL = e.fld 19 := sl_eta (okL_at k_e (i := 19) rfl)
  have l_e_19 := sl_len (okL_at k_e (i := 19) rfl)
  have k_e_19 := sl_all (okL_at k_e (i := 19) rfl)
  have E_e_19 : ∀ i, i < (e.fld 19).toL.length → D.lst [((e.fld 19).elem i).fld 0, ((e.fld 19).elem i).fld 1, ((e.fld 19).elem i).fld 2, ((e.fld 19).elem i).fld 3, ((e.fld 19).elem i).fld 4, ((e.fld 19).elem i).fld 5, ((e.fld 19).elem i).fld 6] = (e.fld 19).elem i := fun i hi => by simpa [List.range, List.range.loop] using okL_eta (k_e_19 _ (elem_mem hi))
  apply says_den (φ := (phi_28))
  simp [e_e_19, E_e_19, e_e, tree_28, T.says, X.den, O1.den, O2.den, O3.den, callD, XArg.ev, XArg.dat, Callee'.num, backs, DArg.back, Conds.den, cloArgs, phi_28, pd_73, pd_74, pd_75, pd_76, pd_77, effectOk, patOf, grdOf, actOf]
  all_goals grind
theorem pd_28 (e : D) (Q : List D → Prop) (ho : Q [.bool (effectOk e)]) : PC Try.prog 28 [.st [(.int .i64), (.int .i64), (.int .i64), (.int .i64), (.int .i64), (.int .i64), (.int .i64), (.int .i64), (.int .i64), (.int .i64), (.int .i64), (.int .i64), (.int .i64), (.int .i64), (.int .i64), (.int .i64), (.int .i64), (.int .i64), .bool, (.sl [(.int .i64), (.int .i64), (.int .i64), (.int .i64), (.int .i64), (.int .i64), .bool]), (.int .i64), (.int .i64)] e] [.sc .bool] Q := (pc_28 e).mono fun _ h => h ▸ ho
/- spec.TableOk -/
def phi_30 : Nat → List D → List D
  | 28, [e] => [.bool (effectOk e)]
  | _, _ => []
theorem pc_30 (d : D) : PC Try.prog 30 [.sc (.sl [(.int .i64), (.int .i64), (.int .i64), (.int .i64), (.int .i64), (.int .i64), (.int .i64), (.int .i64), (.int .i64), (.int .i64), (.int .i64), (.int .i64), (.int .i64), (.int .i64), (.int .i64), (.int .i64), (.int .i64), (.int .i64), .bool, (.sl [(.int .i64), (.int .i64), (.int .i64), (.int .i64), (.int .i64), (.int .i64), .bool]), (.int .i64), (.int .i64)]) d] [.sc .bool] fun o => o = [.bool (tableOk d)] := by
  refine PC.of_sig mix sig_30 ⟨rfl, trivial⟩ rfl fun hok => ?_
  have e_d := sl_eta (hok _ (.head _))
  have l_d := sl_len (hok _ (.head _))
  have k_d := sl_all (hok _ (.head _))
  have E_d : ∀ i, i < d.toL.length → D.lst [(d.elem i).fld 0, (d.elem i).fld 1, (d.elem i).fld 2, (d.elem i).fld 3, (d.elem i).fld 4, (d.elem i).fld 5, (d.elem i).fld 6, (d.elem i).fld 7, (d.elem i).fld 8, (d.elem i).fld 9, (d.elem i).fld 10, (d.elem i).fld 11, (d.elem i).fld 12, (d.elem i).fld 13, (d.elem i).fld 14, (d.elem i).fld 15, (d.elem i).fld 16, (d.elem i).fld 17, (d.elem i).fld 18, (d.elem i).fld 19, (d.elem i).fld 20, (d.elem i).fld 21] = d.elem i := fun i hi => by simpa [List.range, List.range.loop] using okL_eta (k_d _ (elem_mem hi))
  apply says_den (φ := (phi_30))
  simp [e_d, E_d, tree_30, T.says, X.den, O1.den, O2.den, O3.den, callD, XArg.ev, XArg.dat, Callee'.num, backs, DArg.back, Conds.den, cloArgs, phi_30, pd_28]
  refine den_for d.toL.length 0 (fun i => [.int i]) (fun i => ∀ j, j < i → rowOk d j = true) (by simp) (by simp [X.den]) (by simp) fun i hi hR => ?_
  apply says_den (φ := (phi_30))
  by_cases hlt : i < d.toL.length
  · have hz : IntKind.i64.wrap ((i : Int) + 1) = i + 1 := by (first | omega | (simp only [IntKind.wrap_i64, maxL] at *; omega) | (simp [IntKind.wrap_i64, maxL] at *; omega))
    by_cases h0 : i = 0
    · subst h0
      have hm : IntKind.i64.wrap (((0 : Nat) : Int) - 1) = -1 := by (first | omega | (simp only [IntKind.wrap_i64, maxL] at *; omega) | (simp [IntKind.wrap_i64, maxL] at *; omega))
      simp [e_d, E_d, tree_30, T.says, X.den, O1.den, O2.den, O3.den, callD, XArg.ev, XArg.dat, Callee'.num, backs, DArg.back, Conds.den, cloArgs, phi_30, pd_28, hlt, hm]
      (repeat' (first | (with_reducible apply And.intro) | intro _))
      · rw [tableOk, allR_false (p := rowOk d) hlt (by simp [rowOk, *])]; simp
      · (first | omega | (simp only [IntKind.wrap_i64, maxL] at *; omega) | (simp [IntKind.wrap_i64, maxL] at *; omega))
      · simp [rowOk, *]
    · have hm : IntKind.i64.wrap ((i : Int) - 1) = ((i - 1 : Nat) : Int) := by (first | omega | (simp only [IntKind.wrap_i64, maxL] at *; omega) | (simp [IntKind.wrap_i64, maxL] at *; omega))
      simp [e_d, E_d, tree_30, T.says, X.den, O1.den, O2.den, O3.den, callD, XArg.ev, XArg.dat, Callee'.num, backs, DArg.back, Conds.den, cloArgs, phi_30, pd_28, hlt, hm, hz]
      (repeat' (first | (with_reducible apply And.intro) | intro _))
      · omega
      · rw [tableOk, allR_false (p := rowOk d) hlt (by grind [rowOk])]; simp
      · grind [rowOk]
  · have ht := allR_true (p := rowOk d) (n := d.toL.length) (fun j hj => hR j (by omega))
    simp [e_d, E_d, tree_30, T.says, X.den, O1.den, O2.den, O3.den, callD, XArg.ev, XArg.dat, Callee'.num, backs, DArg.back, Conds.den, cloArgs, phi_30, pd_28, hlt, tableOk, ht]
    all_goals omega
theorem pd_30 (d : D) (Q : List D → Prop) (ho : Q [.bool (tableOk d)]) : PC Try.prog 30 [.sc (.sl [(.int .i64), (.int .i64), (.int .i64), (.int .i64), (.int .i64), (.int .i64), (.int .i64), (.int .i64), (.int .i64), (.int .i64), (.int .i64), (.int .i64), (.int .i64), (.int .i64), (.int .i64), (.int .i64), (.int .i64), (.int .i64), .bool, (.sl [(.int .i64), (.int .i64), (.int .i64), (.int .i64), (.int .i64), (.int .i64), .bool]), (.int .i64), (.int .i64)]) d] [.sc .bool] Q := (pc_30 d).mono fun _ h => h ▸ ho
/- impl.from -/
theorem pc_80 (a b c : D) : PC Try.prog 80 [.sc (.int .i64) a, .sc (.int .i64) b, .sc (.int .i64) c] [.sc .bool] fun o => o = [.bool (inR a.toI b.toI c.toI)] := by
  refine PC.of_sig mix sig_80 ⟨rfl, rfl, rfl, trivial⟩ rfl fun hok => ?_
  have e_a := int_eta (hok _ (.head _))
  have b_a := int_range (hok _ (.head _))
  have e_b := int_eta (hok _ (.tail _ (.head _)))
  have b_b := int_range (hok _ (.tail _ (.head _)))
  have e_c := int_eta (hok _ (.tail _ (.tail _ (.head _))))
  have b_c := int_range (hok _ (.tail _ (.tail _ (.head _))))
  apply says_den (φ := fun _ _ => [])
  simp [e_a, e_b, e_c, tree_80, T.says, X.den, O1.den, O2.den, O3.den, callD, XArg.ev, XArg.dat, Callee'.num, backs, DArg.back, Conds.den, cloArgs, inR]
theorem pd_80 (a b c : D) (Q : List D → Prop) (ho : Q [.bool (inR a.toI b.toI c.toI)]) : PC Try.prog 80 [.sc (.int .i64) a, .sc (.int .i64) b, .sc (.int .i64) c] [.sc .bool] Q := (pc_80 a b c).mono fun _ h => h ▸ ho
/- impl.isId -/
def phi_78 : Nat → List D → List D
  | 80, [a, b, c] => [.bool (inR a.toI b.toI c.toI)]
  | _, _ => []
theorem pc_78 (a : D) : PC Try.prog 78 [.sc (.int .i64) a] [.sc .bool] fun o => o = [.bool (inR a.toI 1 99)] := by
  refine PC.of_sig mix sig_78 ⟨rfl, trivial⟩ rfl fun hok => ?_
  have e_a := int_eta (hok _ (.head _))
  have b_a := int_range (hok _ (.head _))
  apply says_den (φ := (phi_78))
  simp [e_a, tree_78, T.says, X.den, O1.den, O2.den, O3.den, callD, XArg.ev, XArg.dat, Callee'.num, backs, DArg.back, Conds.den, cloArgs, phi_78, pd_80]
theorem pd_78 (a : D) (Q : List D → Prop) (ho : Q [.bool (inR a.toI 1 99)]) : PC Try.prog 78 [.sc (.int .i64) a] [.sc .bool] Q := (pc_78 a).mono fun _ h => h ▸ ho
/- impl.isPlayer -/
def phi_79 : Nat → List D → List D
  | 80, [a, b, c] => [.bool (inR a.toI b.toI c.toI)]
  | _, _ => []
theorem pc_79 (a : D) : PC Try.prog 79 [.sc (.int .i64) a] [.sc .bool] fun o => o = [.bool (inR a.toI 0 2)] := by
  refine PC.of_sig mix sig_79 ⟨rfl, trivial⟩ rfl fun hok => ?_
  have e_a := int_eta (hok _ (.head _))
  have b_a := int_range (hok _ (.head _))
  apply says_den (φ := (phi_79))
  simp [e_a, tree_79, T.says, X.den, O1.den, O2.den, O3.den, callD, XArg.ev, XArg.dat, Callee'.num, backs, DArg.back, Conds.den, cloArgs, phi_79, pd_80]
theorem pd_79 (a : D) (Q : List D → Prop) (ho : Q [.bool (inR a.toI 0 2)]) : PC Try.prog 79 [.sc (.int .i64) a] [.sc .bool] Q := (pc_79 a).mono fun _ h => h ▸ ho
/- impl.isKind -/
def phi_126 : Nat → List D → List D
  | 80, [a, b, c] => [.bool (inR a.toI b.toI c.toI)]
  | _, _ => []
theorem pc_126 (a : D) : PC Try.prog 126 [.sc (.int .i64) a] [.sc .bool] fun o => o = [.bool (inR a.toI 1 6)] := by
  refine PC.of_sig mix sig_126 ⟨rfl, trivial⟩ rfl fun hok => ?_
  have e_a := int_eta (hok _ (.head _))
  have b_a := int_range (hok _ (.head _))
  apply says_den (φ := (phi_126))
  simp [e_a, tree_126, T.says, X.den, O1.den, O2.den, O3.den, callD, XArg.ev, XArg.dat, Callee'.num, backs, DArg.back, Conds.den, cloArgs, phi_126, pd_80]
theorem pd_126 (a : D) (Q : List D → Prop) (ho : Q [.bool (inR a.toI 1 6)]) : PC Try.prog 126 [.sc (.int .i64) a] [.sc .bool] Q := (pc_126 a).mono fun _ h => h ▸ ho
/- impl.isTraits -/
def phi_127 : Nat → List D → List D
  | 80, [a, b, c] => [.bool (inR a.toI b.toI c.toI)]
  | _, _ => []
theorem pc_127 (a : D) : PC Try.prog 127 [.sc (.int .i64) a] [.sc .bool] fun o => o = [.bool (inR a.toI 0 63)] := by
  refine PC.of_sig mix sig_127 ⟨rfl, trivial⟩ rfl fun hok => ?_
  have e_a := int_eta (hok _ (.head _))
  have b_a := int_range (hok _ (.head _))
  apply says_den (φ := (phi_127))
  simp [e_a, tree_127, T.says, X.den, O1.den, O2.den, O3.den, callD, XArg.ev, XArg.dat, Callee'.num, backs, DArg.back, Conds.den, cloArgs, phi_127, pd_80]
theorem pd_127 (a : D) (Q : List D → Prop) (ho : Q [.bool (inR a.toI 0 63)]) : PC Try.prog 127 [.sc (.int .i64) a] [.sc .bool] Q := (pc_127 a).mono fun _ h => h ▸ ho
/- impl.isAmount -/
def phi_128 : Nat → List D → List D
  | 80, [a, b, c] => [.bool (inR a.toI b.toI c.toI)]
  | _, _ => []
theorem pc_128 (a : D) : PC Try.prog 128 [.sc (.int .i64) a] [.sc .bool] fun o => o = [.bool (inR a.toI 0 2147483647)] := by
  refine PC.of_sig mix sig_128 ⟨rfl, trivial⟩ rfl fun hok => ?_
  have e_a := int_eta (hok _ (.head _))
  have b_a := int_range (hok _ (.head _))
  apply says_den (φ := (phi_128))
  simp [e_a, tree_128, T.says, X.den, O1.den, O2.den, O3.den, callD, XArg.ev, XArg.dat, Callee'.num, backs, DArg.back, Conds.den, cloArgs, phi_128, pd_80]
theorem pd_128 (a : D) (Q : List D → Prop) (ho : Q [.bool (inR a.toI 0 2147483647)]) : PC Try.prog 128 [.sc (.int .i64) a] [.sc .bool] Q := (pc_128 a).mono fun _ h => h ▸ ho
/- impl.PatOk -/
def phi_81 : Nat → List D → List D
  | 80, [a, b, c] => [.bool (inR a.toI b.toI c.toI)]
  | 126, [a] => [.bool (inR a.toI 1 6)]
  | 127, [a] => [.bool (inR a.toI 0 63)]
  | 128, [a] => [.bool (inR a.toI 0 2147483647)]
  | _, _ => []
theorem pc_81 (d : D) : PC Try.prog 81 [.st [(.int .i64), (.int .i64), (.int .i64), (.int .i64), (.int .i64), (.int .i64), (.int .i64)] d] [.sc .bool] fun o => o = [.bool (patOk d)] := by
  refine PC.of_sig mix sig_81 ⟨rfl, trivial⟩ rfl fun hok => ?_
  have e_d : D.lst [d.fld 0, d.fld 1, d.fld 2, d.fld 3, d.fld 4, d.fld 5, d.fld 6] = d := by simpa [List.range, List.range.loop] using okL_eta (hok _ (.head _))
  have k_d : okL [(.int .i64), (.int .i64), (.int .i64), (.int .i64), (.int .i64), (.int .i64), (.int .i64)] d := (hok _ (.head _))
  apply says_den (φ := (phi_81))
  simp [e_d, tree_81, T.says, X.den, O1.den, O2.den, O3.den, callD, XArg.ev, XArg.dat, Callee'.num, backs, DArg.back, Conds.den, cloArgs, phi_81, pd_80, pd_126, pd_127, pd_128]
  (repeat' (first | (with_reducible apply And.intro) | intro _)) <;> grind [patOk]
theorem pd_81 (d : D) (Q : List D → Prop) (ho : Q [.bool (patOk d)]) : PC Try.prog 81 [.st [(.int .i64), (.int .i64), (.int .i64), (.int .i64), (.int .i64), (.int .i64), (.int .i64)] d] [.sc .bool] Q := (pc_81 d).mono fun _ h => h ▸ ho
/- impl.Bound -/
theorem pc_123 (a : D) : PC Try.prog 123 [.sc (.int .i64) a] [.sc (.int .i64)] fun o => o = [.int (bound a.toI)] := by
  refine PC.of_sig mix sig_123 ⟨rfl, trivial⟩ rfl fun hok => ?_
  have e_a := int_eta (hok _ (.head _))
  have b_a := int_range (hok _ (.head _))
  apply says_den (φ := fun _ _ => [])
  simp [e_a, tree_123, T.says, X.den, O1.den, O2.den, O3.den, callD, XArg.ev, XArg.dat, Callee'.num, backs, DArg.back, Conds.den, cloArgs]
  (repeat' (first | (with_reducible apply And.intro) | intro _)) <;> grind [bound]
theorem pd_123 (a : D) (Q : List D → Prop) (ho : Q [.int (bound a.toI)]) : PC Try.prog 123 [.sc (.int .i64) a] [.sc (.int .i64)] Q := (pc_123 a).mono fun _ h => h ▸ ho
/- impl.GuardOk -/
def phi_82 : Nat → List D → List D
  | 80, [a, b, c] => [.bool (inR a.toI b.toI c.toI)]
  | 123, [a] => [.int (bound a.toI)]
  | _, _ => []
theorem pc_82 (d : D) : PC Try.prog 82 [.st [(.int .i64), (.int .i64)] d] [.sc .bool] fun o => o = [.bool (guardOk d)] := by
  refine PC.of_sig mix sig_82 ⟨rfl, trivial⟩ rfl fun hok => ?_
  have e_d : D.lst [d.fld 0, d.fld 1] = d := by simpa [List.range, List.range.loop] using okL_eta (hok _ (.head _))
  have k_d : okL [(.int .i64), (.int .i64)] d := (hok _ (.head _))
  apply says_den (φ := (phi_82))
  simp [e_d, tree_82, T.says, X.den, O1.den, O2.den, O3.den, callD, XArg.ev, XArg.dat, Callee'.num, backs, DArg.back, Conds.den, cloArgs, phi_82, pd_80, pd_123]
  (repeat' (first | (with_reducible apply And.intro) | intro _)) <;> grind [guardOk, inR, bound]
theorem pd_82 (d : D) (Q : List D → Prop) (ho : Q [.bool (guardOk d)]) : PC Try.prog 82 [.st [(.int .i64), (.int .i64)] d] [.sc .bool] Q := (pc_82 d).mono fun _ h => h ▸ ho
/- impl.isZone -/
def phi_129 : Nat → List D → List D
  | 80, [a, b, c] => [.bool (inR a.toI b.toI c.toI)]
  | _, _ => []
theorem pc_129 (a : D) : PC Try.prog 129 [.sc (.int .i64) a] [.sc .bool] fun o => o = [.bool (inR a.toI 1 4)] := by
  refine PC.of_sig mix sig_129 ⟨rfl, trivial⟩ rfl fun hok => ?_
  have e_a := int_eta (hok _ (.head _))
  have b_a := int_range (hok _ (.head _))
  apply says_den (φ := (phi_129))
  simp [e_a, tree_129, T.says, X.den, O1.den, O2.den, O3.den, callD, XArg.ev, XArg.dat, Callee'.num, backs, DArg.back, Conds.den, cloArgs, phi_129, pd_80]
theorem pd_129 (a : D) (Q : List D → Prop) (ho : Q [.bool (inR a.toI 1 4)]) : PC Try.prog 129 [.sc (.int .i64) a] [.sc .bool] Q := (pc_129 a).mono fun _ h => h ▸ ho
/- impl.onPiece -/
def phi_134 : Nat → List D → List D
  | 78, [a] => [.bool (inR a.toI 1 99)]
  | _, _ => []
theorem pc_134 (e : D) : PC Try.prog 134 [.st [(.int .i64), (.int .i64), (.int .i64), (.int .i64), (.int .i64), (.int .i64), .bool] e] [.sc .bool] fun o => o = [.bool (onPiece e)] := by
  refine PC.of_sig mix sig_134 ⟨rfl, trivial⟩ rfl fun hok => ?_
  have e_e : D.lst [e.fld 0, e.fld 1, e.fld 2, e.fld 3, e.fld 4, e.fld 5, e.fld 6] = e := by simpa [List.range, List.range.loop] using okL_eta (hok _ (.head _))
  have k_e : okL [(.int .i64), (.int .i64), (.int .i64), (.int .i64), (.int .i64), (.int .i64), .bool] e := (hok _ (.head _))
  apply says_den (φ := (phi_134))
  simp [e_e, tree_134, T.says, X.den, O1.den, O2.den, O3.den, callD, XArg.ev, XArg.dat, Callee'.num, backs, DArg.back, Conds.den, cloArgs, phi_134, pd_78, onPiece]
theorem pd_134 (e : D) (Q : List D → Prop) (ho : Q [.bool (onPiece e)]) : PC Try.prog 134 [.st [(.int .i64), (.int .i64), (.int .i64), (.int .i64), (.int .i64), (.int .i64), .bool] e] [.sc .bool] Q := (pc_134 e).mono fun _ h => h ▸ ho
/- impl.onPlayer -/
def phi_135 : Nat → List D → List D
  | 79, [a] => [.bool (inR a.toI 0 2)]
  | _, _ => []
theorem pc_135 (e : D) : PC Try.prog 135 [.st [(.int .i64), (.int .i64), (.int .i64), (.int .i64), (.int .i64), (.int .i64), .bool] e] [.sc .bool] fun o => o = [.bool (onPlayer e)] := by
  refine PC.of_sig mix sig_135 ⟨rfl, trivial⟩ rfl fun hok => ?_
  have e_e : D.lst [e.fld 0, e.fld 1, e.fld 2, e.fld 3, e.fld 4, e.fld 5, e.fld 6] = e := by simpa [List.range, List.range.loop] using okL_eta (hok _ (.head _))
  have k_e : okL [(.int .i64), (.int .i64), (.int .i64), (.int .i64), (.int .i64), (.int .i64), .bool] e := (hok _ (.head _))
  apply says_den (φ := (phi_135))
  simp [e_e, tree_135, T.says, X.den, O1.den, O2.den, O3.den, callD, XArg.ev, XArg.dat, Callee'.num, backs, DArg.back, Conds.den, cloArgs, phi_135, pd_79, onPlayer]
theorem pd_135 (e : D) (Q : List D → Prop) (ho : Q [.bool (onPlayer e)]) : PC Try.prog 135 [.st [(.int .i64), (.int .i64), (.int .i64), (.int .i64), (.int .i64), (.int .i64), .bool] e] [.sc .bool] Q := (pc_135 e).mono fun _ h => h ▸ ho
/- impl.EventOk -/
def phi_97 : Nat → List D → List D
  | 78, [a] => [.bool (inR a.toI 1 99)]
  | 128, [a] => [.bool (inR a.toI 0 2147483647)]
  | 129, [a] => [.bool (inR a.toI 1 4)]
  | 134, [e] => [.bool (onPiece e)]
  | 135, [e] => [.bool (onPlayer e)]
  | _, _ => []
theorem pc_97 (e : D) : PC Try.prog 97 [.st [(.int .i64), (.int .i64), (.int .i64), (.int .i64), (.int .i64), (.int .i64), .bool] e] [.sc .bool] fun o => o = [.bool (eventOk e)] := by
  refine PC.of_sig mix sig_97 ⟨rfl, trivial⟩ rfl fun hok => ?_
  have e_e : D.lst [e.fld 0, e.fld 1, e.fld 2, e.fld 3, e.fld 4, e.fld 5, e.fld 6] = e := by simpa [List.range, List.range.loop] using okL_eta (hok _ (.head _))
  have k_e : okL [(.int .i64), (.int .i64), (.int .i64), (.int .i64), (.int .i64), (.int .i64), .bool] e := (hok _ (.head _))
  apply says_den (φ := (phi_97))
  simp [e_e, tree_97, T.says, X.den, O1.den, O2.den, O3.den, callD, XArg.ev, XArg.dat, Callee'.num, backs, DArg.back, Conds.den, cloArgs, phi_97, pd_78, pd_128, pd_129, pd_134, pd_135]
  (repeat' (first | (with_reducible apply And.intro) | intro _)) <;> grind [eventOk, inR]
theorem pd_97 (e : D) (Q : List D → Prop) (ho : Q [.bool (eventOk e)]) : PC Try.prog 97 [.st [(.int .i64), (.int .i64), (.int .i64), (.int .i64), (.int .i64), (.int .i64), .bool] e] [.sc .bool] Q := (pc_97 e).mono fun _ h => h ▸ ho
/- impl.partOk -/
def phi_132 : Nat → List D → List D
  | 97, [e] => [.bool (eventOk e)]
  | _, _ => []
theorem pc_132 (e : D) : PC Try.prog 132 [.st [(.int .i64), (.int .i64), (.int .i64), (.int .i64), (.int .i64), (.int .i64), .bool] e] [.sc .bool] fun o => o = [.bool (partOk e)] := by
  refine PC.of_sig mix sig_132 ⟨rfl, trivial⟩ rfl fun hok => ?_
  have e_e : D.lst [e.fld 0, e.fld 1, e.fld 2, e.fld 3, e.fld 4, e.fld 5, e.fld 6] = e := by simpa [List.range, List.range.loop] using okL_eta (hok _ (.head _))
  have k_e : okL [(.int .i64), (.int .i64), (.int .i64), (.int .i64), (.int .i64), (.int .i64), .bool] e := (hok _ (.head _))
  apply says_den (φ := (phi_132))
  have hneg : (e.fld 4).toI = -1 → eventOk e = false := by intro h; simp [eventOk, inR, h]
  simp [e_e, tree_132, T.says, X.den, O1.den, O2.den, O3.den, callD, XArg.ev, XArg.dat, Callee'.num, backs, DArg.back, Conds.den, cloArgs, phi_132, pd_97, partOk, ev0]
  all_goals grind
theorem pd_132 (e : D) (Q : List D → Prop) (ho : Q [.bool (partOk e)]) : PC Try.prog 132 [.st [(.int .i64), (.int .i64), (.int .i64), (.int .i64), (.int .i64), (.int .i64), .bool] e] [.sc .bool] Q := (pc_132 e).mono fun _ h => h ▸ ho
/- impl.ActOk$1 -/
def phi_131 : Nat → List D → List D
  | 132, [e] => [.bool (partOk e)]
  | _, _ => []
theorem pc_131 (e : D) : PC Try.prog 131 [.st [(.int .i64), (.int .i64), (.int .i64), (.int .i64), (.int .i64), (.int .i64), .bool] e] [.sc .bool] fun o => o = [.bool (!partOk e)] := by
  refine PC.of_sig mix sig_131 ⟨rfl, trivial⟩ rfl fun hok => ?_
  have e_e : D.lst [e.fld 0, e.fld 1, e.fld 2, e.fld 3, e.fld 4, e.fld 5, e.fld 6] = e := by simpa [List.range, List.range.loop] using okL_eta (hok _ (.head _))
  have k_e : okL [(.int .i64), (.int .i64), (.int .i64), (.int .i64), (.int .i64), (.int .i64), .bool] e := (hok _ (.head _))
  apply says_den (φ := (phi_131))
  simp [e_e, tree_131, T.says, X.den, O1.den, O2.den, O3.den, callD, XArg.ev, XArg.dat, Callee'.num, backs, DArg.back, Conds.den, cloArgs, phi_131, pd_132]
theorem pd_131 (e : D) (Q : List D → Prop) (ho : Q [.bool (!partOk e)]) : PC Try.prog 131 [.st [(.int .i64), (.int .i64), (.int .i64), (.int .i64), (.int .i64), (.int .i64), .bool] e] [.sc .bool] Q := (pc_131 e).mono fun _ h => h ▸ ho
/- slices.IndexFunc[[]impl.Event,impl.Event] -/
def phi_139 : Nat → List D → List D
  | 131, [e] => [.bool (!partOk e)]
  | 0, [e] => [.bool (!partOk e)]
  | _, _ => []
theorem pc_139 (a : D) : PC Try.prog 139 [.sc (.sl [(.int .i64), (.int .i64), (.int .i64), (.int .i64), (.int .i64), (.int .i64), .bool]) a, .clo 131 []] [.sc (.int .i64)] fun o => o = [.int (findR (fun i => !partOk (a.elem i)) a.toL.length)] := by
  refine PC.of_sig mix sig_139 ⟨rfl, trivial, trivial⟩ rfl fun hok => ?_
  have e_a := sl_eta (hok _ (.head _))
  have l_a := sl_len (hok _ (.head _))
  have k_a := sl_all (hok _ (.head _))
  have E_a : ∀ i, i < a.toL.length → D.lst [(a.elem i).fld 0, (a.elem i).fld 1, (a.elem i).fld 2, (a.elem i).fld 3, (a.elem i).fld 4, (a.elem i).fld 5, (a.elem i).fld 6] = a.elem i := fun i hi => by simpa [List.range, List.range.loop] using okL_eta (k_a _ (elem_mem hi))
  apply says_den (φ := (phi_139))
  simp [e_a, E_a, tree_139, T.says, X.den, O1.den, O2.den, O3.den, callD, XArg.ev, XArg.dat, Callee'.num, backs, DArg.back, Conds.den, cloArgs, phi_139, pd_131]
  refine fun _ => ?_
  refine den_for a.toL.length 0 (fun i => [.int i]) (fun i => ∀ j, j < i → (!partOk (a.elem j)) = false) (by simp) (by simp [X.den]) (by simp) fun i hi hR => ?_
  apply says_den (φ := (phi_139))
  by_cases hlt : i < a.toL.length
  · simp [e_a, E_a, tree_139, T.says, X.den, O1.den, O2.den, O3.den, callD, XArg.ev, XArg.dat, Callee'.num, backs, DArg.back, Conds.den, cloArgs, phi_139, pd_131, hlt]
    (repeat' (first | (with_reducible apply And.intro) | intro _))
    · exact (findR_some (p := fun i => !partOk (a.elem i)) hlt (by simp_all) hR).symm
    · (first | omega | (simp only [IntKind.wrap_i64, maxL] at *; omega) | (simp [IntKind.wrap_i64, maxL] at *; omega))
    · grind
  · simp [e_a, E_a, tree_139, T.says, X.den, O1.den, O2.den, O3.den, callD, XArg.ev, XArg.dat, Callee'.num, backs, DArg.back, Conds.den, cloArgs, phi_139, pd_131, hlt]
    (repeat' (first | (with_reducible apply And.intro) | intro _))
    · exact (findR_none fun j hj => hR j (by omega)).symm
theorem pd_139 (a : D) (Q : List D → Prop) (ho : Q [.int (findR (fun i => !partOk (a.elem i)) a.toL.length)]) : PC Try.prog 139 [.sc (.sl [(.int .i64), (.int .i64), (.int .i64), (.int .i64), (.int .i64), (.int .i64), .bool]) a, .clo 131 []] [.sc (.int .i64)] Q := (pc_139 a).mono fun _ h => h ▸ ho
/- slices.ContainsFunc[[]impl.Event,impl.Event] -/
def phi_130 : Nat → List D → List D
  | 131, [e] => [.bool (!partOk e)]
  | 139, [a, _] => [.int (findR (fun i => !partOk (a.elem i)) a.toL.length)]
  | 0, [e] => [.bool (!partOk e)]
  | _, _ => []
theorem pc_130 (a : D) : PC Try.prog 130 [.sc (.sl [(.int .i64), (.int .i64), (.int .i64), (.int .i64), (.int .i64), (.int .i64), .bool]) a, .clo 131 []] [.sc .bool] fun o => o = [.bool (!allR (fun i => partOk (a.elem i)) a.toL.length)] := by
  refine PC.of_sig mix sig_130 ⟨rfl, trivial, trivial⟩ rfl fun hok => ?_
  have e_a := sl_eta (hok _ (.head _))
  have l_a := sl_len (hok _ (.head _))
  have k_a := sl_all (hok _ (.head _))
  have E_a : ∀ i, i < a.toL.length → D.lst [(a.elem i).fld 0, (a.elem i).fld 1, (a.elem i).fld 2, (a.elem i).fld 3, (a.elem i).fld 4, (a.elem i).fld 5, (a.elem i).fld 6] = a.elem i := fun i hi => by simpa [List.range, List.range.loop] using okL_eta (k_a _ (elem_mem hi))
  apply says_den (φ := (phi_130))
  simp [e_a, E_a, tree_130, T.says, X.den, O1.den, O2.den, O3.den, callD, XArg.ev, XArg.dat, Callee'.num, backs, DArg.back, Conds.den, cloArgs, phi_130, pd_131, pd_139, findR_nn]
theorem pd_130 (a : D) (Q : List D → Prop) (ho : Q [.bool (!allR (fun i => partOk (a.elem i)) a.toL.length)]) : PC Try.prog 130 [.sc (.sl [(.int .i64), (.int .i64), (.int .i64), (.int .i64), (.int .i64), (.int .i64), .bool]) a, .clo 131 []] [.sc .bool] Q := (pc_130 a).mono fun _ h => h ▸ ho
/- impl.ActOk -/
def phi_83 : Nat → List D → List D
  | 78, [a] => [.bool (inR a.toI 1 99)]
  | 79, [a] => [.bool (inR a.toI 0 2)]
  | 80, [a, b, c] => [.bool (inR a.toI b.toI c.toI)]
  | 129, [a] => [.bool (inR a.toI 1 4)]
  | 130, [a, _] => [.bool (!allR (fun i => partOk (a.elem i)) a.toL.length)]
  | 131, [e] => [.bool (!partOk e)]
  | _, _ => []
theorem pc_83 (a : D) : PC Try.prog 83 [.st [(.int .i64), (.int .i64), (.int .i64), (.int .i64), (.int .i64), .bool, (.sl [(.int .i64), (.int .i64), (.int .i64), (.int .i64), (.int .i64), (.int .i64), .bool])] a] [.sc .bool] fun o => o = [.bool (actOk a)] := by
  refine PC.of_sig mix sig_83 ⟨rfl, trivial⟩ rfl fun hok => ?_
  have e_a : D.lst [a.fld 0, a.fld 1, a.fld 2, a.fld 3, a.fld 4, a.fld 5, a.fld 6] = a := by simpa [List.range, List.range.loop] using okL_eta (hok _ (.head _))
  have k_a : okL [(.int .i64), (.int .i64), (.int .i64), (.int .i64), (.int .i64), .bool, (.sl [(.int .i64), (.int .i64), (.int .i64), (.int .i64), (.int .i64), (.int .i64), .bool])] a := (hok _ (.head _))
  have e_a_6 : D.lst (a.fld 6).toL = a.fld 6 := sl_eta (okL_at k_a (i := 6) rfl)
  have l_a_6 := sl_len (okL_at k_a (i := 6) rfl)
  have k_a_6 := sl_all (okL_at k_a (i := 6) rfl)
  have E_a_6 : ∀ i, i < (a.fld 6).toL.length → D.lst [((a.fld 6).elem i).fld 0, ((a.fld 6).elem i).fld 1, ((a.fld 6).elem i).fld 2, ((a.fld 6).elem i).fld 3, ((a.fld 6).elem i).fld 4, ((a.fld 6).elem i).fld 5, ((a.fld 6).elem i).fld 6] = (a.fld 6).elem i := fun i hi => by simpa [List.range, List.range.loop] using okL_eta (k_a_6 _ (elem_mem hi))
  apply says_den (φ := (phi_83))
  simp [e_a_6, E_a_6, e_a, tree_83, T.says, X.den, O1.den, O2.den, O3.den, callD, XArg.ev, XArg.dat, Callee'.num, backs, DArg.back, Conds.den, cloArgs, phi_83, pd_78, pd_79, pd_80, pd_129, pd_130, pd_131]
  (repeat' (first | (with_reducible apply And.intro) | intro _))
  all_goals first | (exfalso; omega) | (grind [actOk, plain, inR]) | skip
theorem pd_83 (a : D) (Q : List D → Prop) (ho : Q [.bool (actOk a)]) : PC Try.prog 83 [.st [(.int .i64), (.int .i64), (.int .i64), (.int .i64), (.int .i64), .bool, (.sl [(.int .i64), (.int .i64), (.int .i64), (.int .i64), (.int .i64), (.int .i64), .bool])] a] [.sc .bool] Q := (pc_83 a).mono fun _ h => h ▸ ho
/- impl.ActFits -/
def phi_84 : Nat → List D → List D
  | 126, [a] => [.bool (inR a.toI 1 6)]
  | _, _ => []
theorem pc_84 (a n : D) : PC Try.prog 84 [.st [(.int .i64), (.int .i64), (.int .i64), (.int .i64), (.int .i64), .bool, (.sl [(.int .i64), (.int .i64), (.int .i64), (.int .i64), (.int .i64), (.int .i64), .bool])] a, .sc (.int .i64) n] [.sc .bool] fun o => o = [.bool (actFits a n.toI)] := by
  refine PC.of_sig mix sig_84 ⟨rfl, rfl, trivial⟩ rfl fun hok => ?_
  have e_a : D.lst [a.fld 0, a.fld 1, a.fld 2, a.fld 3, a.fld 4, a.fld 5, a.fld 6] = a := by simpa [List.range, List.range.loop] using okL_eta (hok _ (.head _))
  have k_a : okL [(.int .i64), (.int .i64), (.int .i64), (.int .i64), (.int .i64), .bool, (.sl [(.int .i64), (.int .i64), (.int .i64), (.int .i64), (.int .i64), (.int .i64), .bool])] a := (hok _ (.head _))
  have e_a_6 : D.lst (a.fld 6).toL = a.fld 6 := sl_eta (okL_at k_a (i := 6) rfl)
  have l_a_6 := sl_len (okL_at k_a (i := 6) rfl)
  have k_a_6 := sl_all (okL_at k_a (i := 6) rfl)
  have E_a_6 : ∀ i, i < (a.fld 6).toL.length → D.lst [((a.fld 6).elem i).fld 0, ((a.fld 6).elem i).fld 1, ((a.fld 6).elem i).fld 2, ((a.fld 6).elem i).fld 3, ((a.fld 6).elem i).fld 4, ((a.fld 6).elem i).fld 5, ((a.fld 6).elem i).fld 6] = (a.fld 6).elem i := fun i hi => by simpa [List.range, List.range.loop] using okL_eta (k_a_6 _ (elem_mem hi))
  have e_n := int_eta (hok _ (.tail _ (.head _)))
  have b_n := int_range (hok _ (.tail _ (.head _)))
  apply says_den (φ := (phi_84))
  simp [e_a_6, E_a_6, e_a, e_n, tree_84, T.says, X.den, O1.den, O2.den, O3.den, callD, XArg.ev, XArg.dat, Callee'.num, backs, DArg.back, Conds.den, cloArgs, phi_84, pd_126]
  (repeat' (first | (with_reducible apply And.intro) | intro _)) <;> grind [actFits]
theorem pd_84 (a n : D) (Q : List D → Prop) (ho : Q [.bool (actFits a n.toI)]) : PC Try.prog 84 [.st [(.int .i64), (.int .i64), (.int .i64), (.int .i64), (.int .i64), .bool, (.sl [(.int .i64), (.int .i64), (.int .i64), (.int .i64), (.int .i64), (.int .i64), .bool])] a, .sc (.int .i64) n] [.sc .bool] Q := (pc_84 a n).mono fun _ h => h ▸ ho
/- impl.EffectOk -/
def phi_29 : Nat → List D → List D
  | 78, [a] => [.bool (inR a.toI 1 99)]
  | 79, [a] => [.bool (inR a.toI 0 2)]
  | 80, [a, b, c] => [.bool (inR a.toI b.toI c.toI)]
  | 81, [d] => [.bool (patOk d)]
  | 82, [d] => [.bool (guardOk d)]
  | 83, [a] => [.bool (actOk a)]
  | 84, [a, n] => [.bool (actFits a n.toI)]
  | _, _ => []
theorem pc_29 (e : D) : PC Try.prog 29 [.st [(.int .i64), (.int .i64), (.int .i64), (.int .i64), (.int .i64), (.int .i64), (.int .i64), (.int .i64), (.int .i64), (.int .i64), (.int .i64), (.int .i64), (.int .i64), (.int .i64), (.int .i64), (.int .i64), (.int .i64), (.int .i64), .bool, (.sl [(.int .i64), (.int .i64), (.int .i64), (.int .i64), (.int .i64), (.int .i64), .bool]), (.int .i64), (.int .i64)] e] [.sc .bool] fun o => o = [.bool (effectOk e)] := by
  refine PC.of_sig mix sig_29 ⟨rfl, trivial⟩ rfl fun hok => ?_
  have e_e : D.lst [e.fld 0, e.fld 1, e.fld 2, e.fld 3, e.fld 4, e.fld 5, e.fld 6, e.fld 7, e.fld 8, e.fld 9, e.fld 10, e.fld 11, e.fld 12, e.fld 13, e.fld 14, e.fld 15, e.fld 16, e.fld 17, e.fld 18, e.fld 19, e.fld 20, e.fld 21] = e := by simpa [List.range, List.range.loop] using okL_eta (hok _ (.head _))
  have k_e : okL [(.int .i64), (.int .i64), (.int .i64), (.int .i64), (.int .i64), (.int .i64), (.int .i64), (.int .i64), (.int .i64), (.int .i64), (.int .i64), (.int .i64), (.int .i64), (.int .i64), (.int .i64), (.int .i64), (.int .i64), (.int .i64), .bool, (.sl [(.int .i64), (.int .i64), (.int .i64), (.int .i64), (.int .i64), (.int .i64), .bool]), (.int .i64), (.int .i64)] e := (hok _ (.head _))
  have e_e_19 : D.lst (e.fld 19).toL = e.fld 19 := sl_eta (okL_at k_e (i := 19) rfl)
  have l_e_19 := sl_len (okL_at k_e (i := 19) rfl)
  have k_e_19 := sl_all (okL_at k_e (i := 19) rfl)
  have E_e_19 : ∀ i, i < (e.fld 19).toL.length → D.lst [((e.fld 19).elem i).fld 0, ((e.fld 19).elem i).fld 1, ((e.fld 19).elem i).fld 2, ((e.fld 19).elem i).fld 3, ((e.fld 19).elem i).fld 4, ((e.fld 19).elem i).fld 5, ((e.fld 19).elem i).fld 6] = (e.fld 19).elem i := fun i hi => by simpa [List.range, List.range.loop] using okL_eta (k_e_19 _ (elem_mem hi))
  apply says_den (φ := (phi_29))
  simp [e_e_19, E_e_19, e_e, tree_29, T.says, X.den, O1.den, O2.den, O3.den, callD, XArg.ev, XArg.dat, Callee'.num, backs, DArg.back, Conds.den, cloArgs, phi_29, pd_78, pd_79, pd_80, pd_81, pd_82, pd_83, pd_84, effectOk, patOf, grdOf, actOf]
  all_goals grind [inR]
theorem pd_29 (e : D) (Q : List D → Prop) (ho : Q [.bool (effectOk e)]) : PC Try.prog 29 [.st [(.int .i64), (.int .i64), (.int .i64), (.int .i64), (.int .i64), (.int .i64), (.int .i64), (.int .i64), (.int .i64), (.int .i64), (.int .i64), (.int .i64), (.int .i64), (.int .i64), (.int .i64), (.int .i64), (.int .i64), (.int .i64), .bool, (.sl [(.int .i64), (.int .i64), (.int .i64), (.int .i64), (.int .i64), (.int .i64), .bool]), (.int .i64), (.int .i64)] e] [.sc .bool] Q := (pc_29 e).mono fun _ h => h ▸ ho
/- impl.TableOk -/
def phi_31 : Nat → List D → List D
  | 29, [e] => [.bool (effectOk e)]
  | _, _ => []
theorem pc_31 (d : D) : PC Try.prog 31 [.sc (.sl [(.int .i64), (.int .i64), (.int .i64), (.int .i64), (.int .i64), (.int .i64), (.int .i64), (.int .i64), (.int .i64), (.int .i64), (.int .i64), (.int .i64), (.int .i64), (.int .i64), (.int .i64), (.int .i64), (.int .i64), (.int .i64), .bool, (.sl [(.int .i64), (.int .i64), (.int .i64), (.int .i64), (.int .i64), (.int .i64), .bool]), (.int .i64), (.int .i64)]) d] [.sc .bool] fun o => o = [.bool (tableOk d)] := by
  refine PC.of_sig mix sig_31 ⟨rfl, trivial⟩ rfl fun hok => ?_
  have e_d := sl_eta (hok _ (.head _))
  have l_d := sl_len (hok _ (.head _))
  have k_d := sl_all (hok _ (.head _))
  have E_d : ∀ i, i < d.toL.length → D.lst [(d.elem i).fld 0, (d.elem i).fld 1, (d.elem i).fld 2, (d.elem i).fld 3, (d.elem i).fld 4, (d.elem i).fld 5, (d.elem i).fld 6, (d.elem i).fld 7, (d.elem i).fld 8, (d.elem i).fld 9, (d.elem i).fld 10, (d.elem i).fld 11, (d.elem i).fld 12, (d.elem i).fld 13, (d.elem i).fld 14, (d.elem i).fld 15, (d.elem i).fld 16, (d.elem i).fld 17, (d.elem i).fld 18, (d.elem i).fld 19, (d.elem i).fld 20, (d.elem i).fld 21] = d.elem i := fun i hi => by simpa [List.range, List.range.loop] using okL_eta (k_d _ (elem_mem hi))
  apply says_den (φ := (phi_31))
  simp [e_d, E_d, tree_31, T.says, X.den, O1.den, O2.den, O3.den, callD, XArg.ev, XArg.dat, Callee'.num, backs, DArg.back, Conds.den, cloArgs, phi_31, pd_29]
  refine fun _ => ?_
  refine den_for d.toL.length 0 (fun i => [.int i]) (fun i => ∀ j, j < i → rowOk d j = true) (by simp) (by simp [X.den]) (by simp) fun i hi hR => ?_
  apply says_den (φ := (phi_31))
  by_cases hlt : i < d.toL.length
  · have hz : IntKind.i64.wrap ((i : Int) + 1) = i + 1 := by (first | omega | (simp only [IntKind.wrap_i64, maxL] at *; omega) | (simp [IntKind.wrap_i64, maxL] at *; omega))
    by_cases h0 : i = 0
    · subst h0
      have hm : IntKind.i64.wrap (((0 : Nat) : Int) - 1) = -1 := by (first | omega | (simp only [IntKind.wrap_i64, maxL] at *; omega) | (simp [IntKind.wrap_i64, maxL] at *; omega))
      simp [e_d, E_d, tree_31, T.says, X.den, O1.den, O2.den, O3.den, callD, XArg.ev, XArg.dat, Callee'.num, backs, DArg.back, Conds.den, cloArgs, phi_31, pd_29, hlt, hm]
      (repeat' (first | (with_reducible apply And.intro) | intro _))
      · rw [tableOk, allR_false (p := rowOk d) hlt (by simp [rowOk, *])]; simp
      · (first | omega | (simp only [IntKind.wrap_i64, maxL] at *; omega) | (simp [IntKind.wrap_i64, maxL] at *; omega))
      · simp [rowOk, *]
    · have hm : IntKind.i64.wrap ((i : Int) - 1) = ((i - 1 : Nat) : Int) := by (first | omega | (simp only [IntKind.wrap_i64, maxL] at *; omega) | (simp [IntKind.wrap_i64, maxL] at *; omega))
      simp [e_d, E_d, tree_31, T.says, X.den, O1.den, O2.den, O3.den, callD, XArg.ev, XArg.dat, Callee'.num, backs, DArg.back, Conds.den, cloArgs, phi_31, pd_29, hlt, hm, hz]
      (repeat' (first | (with_reducible apply And.intro) | intro _))
      · omega
      · rw [tableOk, allR_false (p := rowOk d) hlt (by grind [rowOk])]; simp
      · grind [rowOk]
  · have ht := allR_true (p := rowOk d) (n := d.toL.length) (fun j hj => hR j (by omega))
    simp [e_d, E_d, tree_31, T.says, X.den, O1.den, O2.den, O3.den, callD, XArg.ev, XArg.dat, Callee'.num, backs, DArg.back, Conds.den, cloArgs, phi_31, pd_29, hlt, tableOk, ht]
    all_goals omega
theorem pd_31 (d : D) (Q : List D → Prop) (ho : Q [.bool (tableOk d)]) : PC Try.prog 31 [.sc (.sl [(.int .i64), (.int .i64), (.int .i64), (.int .i64), (.int .i64), (.int .i64), (.int .i64), (.int .i64), (.int .i64), (.int .i64), (.int .i64), (.int .i64), (.int .i64), (.int .i64), (.int .i64), (.int .i64), (.int .i64), (.int .i64), .bool, (.sl [(.int .i64), (.int .i64), (.int .i64), (.int .i64), (.int .i64), (.int .i64), .bool]), (.int .i64), (.int .i64)]) d] [.sc .bool] Q := (pc_31 d).mono fun _ h => h ▸ ho
end Go.Proofs.Ytfbahdalemajcaa
