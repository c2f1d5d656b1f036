/- The contracts of the functions that this claim reaches: what each hands back, for all data. -/
import Derived.Test.YtfbahdalemajcaaT
import Derived.Test.YtfbahdalemajcaaS
namespace Go.Proofs.Ytfbahdalemajcaa
open Go.Proofs.Ytfbahdalemajcaa.Eng
set_option maxRecDepth 100000
set_option maxHeartbeats 2000000
set_option linter.unusedSimpArgs false
set_option linter.unusedVariables false
/- laws.szEventS -/
theorem pc_118 (d n : D) (hn : 0 ≤ n.toI) : PC Try.prog 118 [.sc (.sl [(.int .i64), (.int .i64), (.int .i64), (.int .i64), (.int .i64), (.int .i64), .bool]) d, .sc (.int .i64) n] [.sc (.int .i64)] fun o => o = [.int (szS n.toI d.toL.length)] := by
  refine PC.of_sig mix sig_118 ⟨rfl, rfl, trivial⟩ rfl fun hok => ?_
  have e_d := sl_eta (hok _ (.head _))
  have l_d := sl_len (hok _ (.head _))
  have k_d := sl_all (hok _ (.head _))
  have E_d : ∀ i, i < d.toL.length → D.lst [(d.elem i).fld 0, (d.elem i).fld 1, (d.elem i).fld 2, (d.elem i).fld 3, (d.elem i).fld 4, (d.elem i).fld 5, (d.elem i).fld 6] = d.elem i := fun i hi => by simpa [List.range, List.range.loop] using okL_eta (k_d _ (elem_mem hi))
  have e_n := int_eta (hok _ (.tail _ (.head _)))
  have b_n := int_range (hok _ (.tail _ (.head _)))
  have hw : IntKind.i64.wrap (n.toI - d.toL.length) = n.toI - d.toL.length := by (first | omega | (simp only [IntKind.wrap_i64, maxL] at *; omega) | (simp [IntKind.wrap_i64, maxL] at *; omega))
  apply says_den (φ := fun _ _ => [])
  simp [e_d, e_n, E_d, tree_118, T.says, X.den, O1.den, O2.den, O3.den, callD, XArg.ev, XArg.dat, Callee'.num, backs, DArg.back, Conds.den, cloArgs, hw, szS]
  all_goals grind
theorem pd_118 (d n : D) (hn : 0 ≤ n.toI) (Q : List D → Prop) (ho : Q [.int (szS n.toI d.toL.length)]) : PC Try.prog 118 [.sc (.sl [(.int .i64), (.int .i64), (.int .i64), (.int .i64), (.int .i64), (.int .i64), .bool]) d, .sc (.int .i64) n] [.sc (.int .i64)] Q := (pc_118 d n hn).mono fun _ h => h ▸ ho
/- laws.szAct -/
def phi_58 : Nat → List D → List D
  | 118, [d, n] => [.int (szS n.toI d.toL.length)]
  | _, _ => []
theorem pc_58 (d n : D) (hn : 0 ≤ n.toI) : PC Try.prog 58 [.st [(.int .i64), (.int .i64), (.int .i64), (.int .i64), (.int .i64), .bool, (.sl [(.int .i64), (.int .i64), (.int .i64), (.int .i64), (.int .i64), (.int .i64), .bool])] d, .sc (.int .i64) n] [.sc (.int .i64)] fun o => o = [.int (szS n.toI (d.fld 6).toL.length)] := by
  refine PC.of_sig mix sig_58 ⟨rfl, rfl, trivial⟩ rfl fun hok => ?_
  have e_d : D.lst [d.fld 0, d.fld 1, d.fld 2, d.fld 3, d.fld 4, d.fld 5, d.fld 6] = d := by simpa [List.range, List.range.loop] using okL_eta (hok _ (.head _))
  have k_d : okL [(.int .i64), (.int .i64), (.int .i64), (.int .i64), (.int .i64), .bool, (.sl [(.int .i64), (.int .i64), (.int .i64), (.int .i64), (.int .i64), (.int .i64), .bool])] d := (hok _ (.head _))
  have e_d_6 : D.lst (d.fld 6).toL = d.fld 6 := sl_eta (okL_at k_d (i := 6) rfl)
  have l_d_6 := sl_len (okL_at k_d (i := 6) rfl)
  have k_d_6 := sl_all (okL_at k_d (i := 6) rfl)
  have E_d_6 : ∀ i, i < (d.fld 6).toL.length → D.lst [((d.fld 6).elem i).fld 0, ((d.fld 6).elem i).fld 1, ((d.fld 6).elem i).fld 2, ((d.fld 6).elem i).fld 3, ((d.fld 6).elem i).fld 4, ((d.fld 6).elem i).fld 5, ((d.fld 6).elem i).fld 6] = (d.fld 6).elem i := fun i hi => by simpa [List.range, List.range.loop] using okL_eta (k_d_6 _ (elem_mem hi))
  have e_n := int_eta (hok _ (.tail _ (.head _)))
  have b_n := int_range (hok _ (.tail _ (.head _)))
  apply says_den (φ := (phi_58))
  simp [e_d_6, E_d_6, e_d, e_n, tree_58, T.says, X.den, O1.den, O2.den, O3.den, callD, XArg.ev, XArg.dat, Callee'.num, backs, DArg.back, Conds.den, cloArgs, phi_58, pd_118]
  (repeat' (first | (with_reducible apply And.intro) | intro _)) <;> first | (first | assumption | (exact pd_118 _ _ (by first | assumption | omega | (simp; done) | (simp; omega) | (simp [*]; done) | exact smallE_of (n := 1048576) (by omega) (by omega) | (simp [*] at *; omega) | grind [szS]) _ (by first | rfl | simp | (simp; omega))) | (first | omega | (simp only [IntKind.wrap_i64, maxL] at *; omega) | (simp [IntKind.wrap_i64, maxL] at *; omega)) | rfl | contradiction | grind) | grind [szS]
theorem pd_58 (d n : D) (hn : 0 ≤ n.toI) (Q : List D → Prop) (ho : Q [.int (szS n.toI (d.fld 6).toL.length)]) : PC Try.prog 58 [.st [(.int .i64), (.int .i64), (.int .i64), (.int .i64), (.int .i64), .bool, (.sl [(.int .i64), (.int .i64), (.int .i64), (.int .i64), (.int .i64), (.int .i64), .bool])] d, .sc (.int .i64) n] [.sc (.int .i64)] Q := (pc_58 d n hn).mono fun _ h => h ▸ ho
/- laws.szEffect -/
def phi_21 : Nat → List D → List D
  | 58, [d, n] => [.int (szS n.toI (d.fld 6).toL.length)]
  | _, _ => []
theorem pc_21 (d n : D) (hn : 0 ≤ n.toI) : PC Try.prog 21 [.st [(.int .i64), (.int .i64), (.int .i64), (.int .i64), (.int .i64), (.int .i64), (.int .i64), (.int .i64), (.int .i64), (.int .i64), (.int .i64), (.int .i64), (.int .i64), (.int .i64), (.int .i64), (.int .i64), (.int .i64), (.int .i64), .bool, (.sl [(.int .i64), (.int .i64), (.int .i64), (.int .i64), (.int .i64), (.int .i64), .bool]), (.int .i64), (.int .i64)] d, .sc (.int .i64) n] [.sc (.int .i64)] fun o => o = [.int (szS n.toI (d.fld 19).toL.length)] := by
  refine PC.of_sig mix sig_21 ⟨rfl, rfl, trivial⟩ rfl fun hok => ?_
  have e_d : D.lst [d.fld 0, d.fld 1, d.fld 2, d.fld 3, d.fld 4, d.fld 5, d.fld 6, d.fld 7, d.fld 8, d.fld 9, d.fld 10, d.fld 11, d.fld 12, d.fld 13, d.fld 14, d.fld 15, d.fld 16, d.fld 17, d.fld 18, d.fld 19, d.fld 20, d.fld 21] = d := by simpa [List.range, List.range.loop] using okL_eta (hok _ (.head _))
  have k_d : okL [(.int .i64), (.int .i64), (.int .i64), (.int .i64), (.int .i64), (.int .i64), (.int .i64), (.int .i64), (.int .i64), (.int .i64), (.int .i64), (.int .i64), (.int .i64), (.int .i64), (.int .i64), (.int .i64), (.int .i64), (.int .i64), .bool, (.sl [(.int .i64), (.int .i64), (.int .i64), (.int .i64), (.int .i64), (.int .i64), .bool]), (.int .i64), (.int .i64)] d := (hok _ (.head _))
  have e_d_19 : D.lst (d.fld 19).toL = d.fld 19 := sl_eta (okL_at k_d (i := 19) rfl)
  have l_d_19 := sl_len (okL_at k_d (i := 19) rfl)
  have k_d_19 := sl_all (okL_at k_d (i := 19) rfl)
  have E_d_19 : ∀ i, i < (d.fld 19).toL.length → D.lst [((d.fld 19).elem i).fld 0, ((d.fld 19).elem i).fld 1, ((d.fld 19).elem i).fld 2, ((d.fld 19).elem i).fld 3, ((d.fld 19).elem i).fld 4, ((d.fld 19).elem i).fld 5, ((d.fld 19).elem i).fld 6] = (d.fld 19).elem i := fun i hi => by simpa [List.range, List.range.loop] using okL_eta (k_d_19 _ (elem_mem hi))
  have e_n := int_eta (hok _ (.tail _ (.head _)))
  have b_n := int_range (hok _ (.tail _ (.head _)))
  apply says_den (φ := (phi_21))
  simp [e_d_19, E_d_19, e_d, e_n, tree_21, T.says, X.den, O1.den, O2.den, O3.den, callD, XArg.ev, XArg.dat, Callee'.num, backs, DArg.back, Conds.den, cloArgs, phi_21, pd_58]
  (repeat' (first | (with_reducible apply And.intro) | intro _)) <;> first | (first | assumption | (exact pd_58 _ _ (by first | assumption | omega | (simp; done) | (simp; omega) | (simp [*]; done) | exact smallE_of (n := 1048576) (by omega) (by omega) | (simp [*] at *; omega) | grind [szS]) _ (by first | rfl | simp | (simp; omega))) | (first | omega | (simp only [IntKind.wrap_i64, maxL] at *; omega) | (simp [IntKind.wrap_i64, maxL] at *; omega)) | rfl | contradiction | grind) | grind [szS]
theorem pd_21 (d n : D) (hn : 0 ≤ n.toI) (Q : List D → Prop) (ho : Q [.int (szS n.toI (d.fld 19).toL.length)]) : PC Try.prog 21 [.st [(.int .i64), (.int .i64), (.int .i64), (.int .i64), (.int .i64), (.int .i64), (.int .i64), (.int .i64), (.int .i64), (.int .i64), (.int .i64), (.int .i64), (.int .i64), (.int .i64), (.int .i64), (.int .i64), (.int .i64), (.int .i64), .bool, (.sl [(.int .i64), (.int .i64), (.int .i64), (.int .i64), (.int .i64), (.int .i64), .bool]), (.int .i64), (.int .i64)] d, .sc (.int .i64) n] [.sc (.int .i64)] Q := (pc_21 d n hn).mono fun _ h => h ▸ ho
/- laws.szEffectS -/
def phi_14 : Nat → List D → List D
  | 21, [d, n] => [.int (szS n.toI (d.fld 19).toL.length)]
  | _, _ => []
theorem pc_14 (d n : D) (hn : 0 ≤ n.toI) : PC Try.prog 14 [.sc (.sl [(.int .i64), (.int .i64), (.int .i64), (.int .i64), (.int .i64), (.int .i64), (.int .i64), (.int .i64), (.int .i64), (.int .i64), (.int .i64), (.int .i64), (.int .i64), (.int .i64), (.int .i64), (.int .i64), (.int .i64), (.int .i64), .bool, (.sl [(.int .i64), (.int .i64), (.int .i64), (.int .i64), (.int .i64), (.int .i64), .bool]), (.int .i64), (.int .i64)]) d, .sc (.int .i64) n] [.sc (.int .i64)] fun o => o = [.int (szEs n.toI d)] := by
  refine PC.of_sig mix sig_14 ⟨rfl, rfl, trivial⟩ rfl fun hok => ?_
  have e_d := sl_eta (hok _ (.head _))
  have l_d := sl_len (hok _ (.head _))
  have k_d := sl_all (hok _ (.head _))
  have E_d : ∀ i, i < d.toL.length → D.lst [(d.elem i).fld 0, (d.elem i).fld 1, (d.elem i).fld 2, (d.elem i).fld 3, (d.elem i).fld 4, (d.elem i).fld 5, (d.elem i).fld 6, (d.elem i).fld 7, (d.elem i).fld 8, (d.elem i).fld 9, (d.elem i).fld 10, (d.elem i).fld 11, (d.elem i).fld 12, (d.elem i).fld 13, (d.elem i).fld 14, (d.elem i).fld 15, (d.elem i).fld 16, (d.elem i).fld 17, (d.elem i).fld 18, (d.elem i).fld 19, (d.elem i).fld 20, (d.elem i).fld 21] = d.elem i := fun i hi => by simpa [List.range, List.range.loop] using okL_eta (k_d _ (elem_mem hi))
  have e_n := int_eta (hok _ (.tail _ (.head _)))
  have b_n := int_range (hok _ (.tail _ (.head _)))
  have hw : IntKind.i64.wrap (n.toI - d.toL.length) = n.toI - d.toL.length := by (first | omega | (simp only [IntKind.wrap_i64, maxL] at *; omega) | (simp [IntKind.wrap_i64, maxL] at *; omega))
  apply says_den (φ := (phi_14))
  simp [e_d, e_n, E_d, tree_14, T.says, X.den, O1.den, O2.den, O3.den, callD, XArg.ev, XArg.dat, Callee'.num, backs, DArg.back, Conds.den, cloArgs, phi_14, pd_21, hw]
  refine fun _ => ⟨fun hneg => ?_, fun hpos => ?_⟩
  · rw [szEs, if_pos (by omega)]
  refine den_for d.toL.length 1 (fun i => [.int (n.toI - d.toL.length - sumR (innerE d) i), .int i]) (fun i => 0 ≤ n.toI - d.toL.length - sumR (innerE d) i) (by simp) (by simp [X.den, O1.den, O2.den, hw, sumR]) (by simp [sumR]; omega) fun i hi hR => ?_
  apply says_den (φ := (phi_14))
  by_cases hlt : i < d.toL.length
  · have hm := sumR_mono (innerE d) (show i + 1 ≤ d.toL.length from hlt)
    simp only [sumR] at hm
    have hi' : innerE d i = ((d.elem i).fld 19).toL.length := rfl
    simp [e_d, e_n, E_d, tree_14, T.says, X.den, O1.den, O2.den, O3.den, callD, XArg.ev, XArg.dat, Callee'.num, backs, DArg.back, Conds.den, cloArgs, phi_14, pd_21, hlt, hR]
    (repeat' (first | (with_reducible apply And.intro) | intro _)) <;> first | (rw [szEs, if_pos (by omega)]; done) | (first | omega | (simp only [IntKind.wrap_i64, maxL] at *; omega) | (simp [IntKind.wrap_i64, maxL] at *; omega)) | (simp only [sumR]; omega) | (rw [szS, if_neg (by omega)]; simp only [sumR]; omega) | (first | assumption | (exact pd_21 _ _ (by first | assumption | omega | (simp; done) | (simp; omega) | (simp [*]; done) | exact smallE_of (n := 1048576) (by omega) (by omega) | (simp [*] at *; omega) | grind [szS]) _ (by first | rfl | simp | (simp; omega))) | (first | omega | (simp only [IntKind.wrap_i64, maxL] at *; omega) | (simp [IntKind.wrap_i64, maxL] at *; omega)) | rfl | contradiction | grind)
  · have : i = d.toL.length := by omega
    subst this
    simp [e_d, e_n, E_d, tree_14, T.says, X.den, O1.den, O2.den, O3.den, callD, XArg.ev, XArg.dat, Callee'.num, backs, DArg.back, Conds.den, cloArgs, phi_14, pd_21]
    (repeat' (first | (with_reducible apply And.intro) | intro _))
    · rw [szEs, if_neg (by omega)]
theorem pd_14 (d n : D) (hn : 0 ≤ n.toI) (Q : List D → Prop) (ho : Q [.int (szEs n.toI d)]) : PC Try.prog 14 [.sc (.sl [(.int .i64), (.int .i64), (.int .i64), (.int .i64), (.int .i64), (.int .i64), (.int .i64), (.int .i64), (.int .i64), (.int .i64), (.int .i64), (.int .i64), (.int .i64), (.int .i64), (.int .i64), (.int .i64), (.int .i64), (.int .i64), .bool, (.sl [(.int .i64), (.int .i64), (.int .i64), (.int .i64), (.int .i64), (.int .i64), .bool]), (.int .i64), (.int .i64)]) d, .sc (.int .i64) n] [.sc (.int .i64)] Q := (pc_14 d n hn).mono fun _ h => h ▸ ho
/- laws.toPat -/
theorem pc_62 (d : D) : PC Try.prog 62 [.st [(.int .i64), (.int .i64), (.int .i64), (.int .i64), (.int .i64), (.int .i64), (.int .i64)] d] [.st [(.int .i64), (.int .i64), (.int .i64), (.int .i64), (.int .i64), (.int .i64), (.int .i64)]] fun o => o = [d] := by
  refine PC.of_sig mix sig_62 ⟨rfl, trivial⟩ rfl fun hok => ?_
  have e_d : D.lst [d.fld 0, d.fld 1, d.fld 2, d.fld 3, d.fld 4, d.fld 5, d.fld 6] = d := by simpa [List.range, List.range.loop] using okL_eta (hok _ (.head _))
  have k_d : okL [(.int .i64), (.int .i64), (.int .i64), (.int .i64), (.int .i64), (.int .i64), (.int .i64)] d := (hok _ (.head _))
  apply says_den (φ := fun _ _ => [])
  simp [e_d, tree_62, T.says, X.den, O1.den, O2.den, O3.den, callD, XArg.ev, XArg.dat, Callee'.num, backs, DArg.back, Conds.den, cloArgs]
theorem pd_62 (d : D) (Q : List D → Prop) (ho : Q [d]) : PC Try.prog 62 [.st [(.int .i64), (.int .i64), (.int .i64), (.int .i64), (.int .i64), (.int .i64), (.int .i64)] d] [.st [(.int .i64), (.int .i64), (.int .i64), (.int .i64), (.int .i64), (.int .i64), (.int .i64)]] Q := (pc_62 d).mono fun _ h => h ▸ ho
/- laws.toGuard -/
theorem pc_63 (d : D) : PC Try.prog 63 [.st [(.int .i64), (.int .i64)] d] [.st [(.int .i64), (.int .i64)]] fun o => o = [d] := by
  refine PC.of_sig mix sig_63 ⟨rfl, trivial⟩ rfl fun hok => ?_
  have e_d : D.lst [d.fld 0, d.fld 1] = d := by simpa [List.range, List.range.loop] using okL_eta (hok _ (.head _))
  have k_d : okL [(.int .i64), (.int .i64)] d := (hok _ (.head _))
  apply says_den (φ := fun _ _ => [])
  simp [e_d, tree_63, T.says, X.den, O1.den, O2.den, O3.den, callD, XArg.ev, XArg.dat, Callee'.num, backs, DArg.back, Conds.den, cloArgs]
theorem pd_63 (d : D) (Q : List D → Prop) (ho : Q [d]) : PC Try.prog 63 [.st [(.int .i64), (.int .i64)] d] [.st [(.int .i64), (.int .i64)]] Q := (pc_63 d).mono fun _ h => h ▸ ho
/- laws.toEvent -/
theorem pc_41 (d : D) : PC Try.prog 41 [.st [(.int .i64), (.int .i64), (.int .i64), (.int .i64), (.int .i64), (.int .i64), .bool] d] [.st [(.int .i64), (.int .i64), (.int .i64), (.int .i64), (.int .i64), (.int .i64), .bool]] fun o => o = [d] := by
  refine PC.of_sig mix sig_41 ⟨rfl, trivial⟩ rfl fun hok => ?_
  have e_d : D.lst [d.fld 0, d.fld 1, d.fld 2, d.fld 3, d.fld 4, d.fld 5, d.fld 6] = d := by simpa [List.range, List.range.loop] using okL_eta (hok _ (.head _))
  have k_d : okL [(.int .i64), (.int .i64), (.int .i64), (.int .i64), (.int .i64), (.int .i64), .bool] d := (hok _ (.head _))
  apply says_den (φ := fun _ _ => [])
  simp [e_d, tree_41, T.says, X.den, O1.den, O2.den, O3.den, callD, XArg.ev, XArg.dat, Callee'.num, backs, DArg.back, Conds.den, cloArgs]
theorem pd_41 (d : D) (Q : List D → Prop) (ho : Q [d]) : PC Try.prog 41 [.st [(.int .i64), (.int .i64), (.int .i64), (.int .i64), (.int .i64), (.int .i64), .bool] d] [.st [(.int .i64), (.int .i64), (.int .i64), (.int .i64), (.int .i64), (.int .i64), .bool]] Q := (pc_41 d).mono fun _ h => h ▸ ho
/- laws.toEventS -/
def phi_121 : Nat → List D → List D
  | 41, [d] => [d]
  | _, _ => []
theorem pc_121 (d : D) (h : (d.toL.length : Int) ≤ 1048576) : PC Try.prog 121 [.sc (.sl [(.int .i64), (.int .i64), (.int .i64), (.int .i64), (.int .i64), (.int .i64), .bool]) d] [.sc (.sl [(.int .i64), (.int .i64), (.int .i64), (.int .i64), (.int .i64), (.int .i64), .bool])] fun o => o = [d] := by
  refine PC.of_sig mix sig_121 ⟨rfl, trivial⟩ rfl fun hok => ?_
  have e_d := sl_eta (hok _ (.head _))
  have l_d := sl_len (hok _ (.head _))
  have k_d := sl_all (hok _ (.head _))
  have E_d : ∀ i, i < d.toL.length → D.lst [(d.elem i).fld 0, (d.elem i).fld 1, (d.elem i).fld 2, (d.elem i).fld 3, (d.elem i).fld 4, (d.elem i).fld 5, (d.elem i).fld 6] = d.elem i := fun i hi => by simpa [List.range, List.range.loop] using okL_eta (k_d _ (elem_mem hi))
  apply says_den (φ := (phi_121))
  simp [e_d, E_d, tree_121, T.says, X.den, O1.den, O2.den, O3.den, callD, XArg.ev, XArg.dat, Callee'.num, backs, DArg.back, Conds.den, cloArgs, phi_121, pd_41] at h ⊢
  refine fun _ => ⟨by omega, ?_⟩
  refine den_for d.toL.length 0 (fun i => [.int i, .lst (d.toL.take i ++ List.replicate (d.toL.length - i) (.lst [.int 0, .int 0, .int 0, .int 0, .int 0, .int 0, .bool false]))]) (fun _ => True) (by simp) (by simp [X.den, O1.den, O2.den]) trivial fun i hi _ => ?_
  apply says_den (φ := (phi_121))
  by_cases hlt : i < d.toL.length
  · simp [e_d, E_d, tree_121, T.says, X.den, O1.den, O2.den, O3.den, callD, XArg.ev, XArg.dat, Callee'.num, backs, DArg.back, Conds.den, cloArgs, phi_121, pd_41, hlt]
    (repeat' (first | (with_reducible apply And.intro) | intro _)) <;> first | (exact copy_step hlt rfl) | (exact copy_step hlt (eta1 (k_d _ (elem_mem hlt)))) | (first | assumption | (exact pd_41 _ _ (by first | rfl | simp | (simp; omega))) | (first | omega | (simp only [IntKind.wrap_i64, maxL] at *; omega) | (simp [IntKind.wrap_i64, maxL] at *; omega)) | rfl | contradiction | grind)
  · simp [e_d, E_d, tree_121, T.says, X.den, O1.den, O2.den, O3.den, callD, XArg.ev, XArg.dat, Callee'.num, backs, DArg.back, Conds.den, cloArgs, phi_121, pd_41, hlt]
    (repeat' (first | (with_reducible apply And.intro) | intro _)) <;> first | (rw [copy_end (by omega), e_d]) | (first | assumption | (exact pd_41 _ _ (by first | rfl | simp | (simp; omega))) | (first | omega | (simp only [IntKind.wrap_i64, maxL] at *; omega) | (simp [IntKind.wrap_i64, maxL] at *; omega)) | rfl | contradiction | grind)
theorem pd_121 (d : D) (h : (d.toL.length : Int) ≤ 1048576) (Q : List D → Prop) (ho : Q [d]) : PC Try.prog 121 [.sc (.sl [(.int .i64), (.int .i64), (.int .i64), (.int .i64), (.int .i64), (.int .i64), .bool]) d] [.sc (.sl [(.int .i64), (.int .i64), (.int .i64), (.int .i64), (.int .i64), (.int .i64), .bool])] Q := (pc_121 d h).mono fun _ h => h ▸ ho
/- laws.toAct -/
def phi_64 : Nat → List D → List D
  | 121, [d] => [d]
  | _, _ => []
theorem pc_64 (d : D) (h : ((d.fld 6).toL.length : Int) ≤ 1048576) : PC Try.prog 64 [.st [(.int .i64), (.int .i64), (.int .i64), (.int .i64), (.int .i64), .bool, (.sl [(.int .i64), (.int .i64), (.int .i64), (.int .i64), (.int .i64), (.int .i64), .bool])] d] [.st [(.int .i64), (.int .i64), (.int .i64), (.int .i64), (.int .i64), .bool, (.sl [(.int .i64), (.int .i64), (.int .i64), (.int .i64), (.int .i64), (.int .i64), .bool])]] fun o => o = [d] := by
  refine PC.of_sig mix sig_64 ⟨rfl, trivial⟩ rfl fun hok => ?_
  have e_d : D.lst [d.fld 0, d.fld 1, d.fld 2, d.fld 3, d.fld 4, d.fld 5, d.fld 6] = d := by simpa [List.range, List.range.loop] using okL_eta (hok _ (.head _))
  have k_d : okL [(.int .i64), (.int .i64), (.int .i64), (.int .i64), (.int .i64), .bool, (.sl [(.int .i64), (.int .i64), (.int .i64), (.int .i64), (.int .i64), (.int .i64), .bool])] d := (hok _ (.head _))
  have e_d_6 : D.lst (d.fld 6).toL = d.fld 6 := sl_eta (okL_at k_d (i := 6) rfl)
  have l_d_6 := sl_len (okL_at k_d (i := 6) rfl)
  have k_d_6 := sl_all (okL_at k_d (i := 6) rfl)
  have E_d_6 : ∀ i, i < (d.fld 6).toL.length → D.lst [((d.fld 6).elem i).fld 0, ((d.fld 6).elem i).fld 1, ((d.fld 6).elem i).fld 2, ((d.fld 6).elem i).fld 3, ((d.fld 6).elem i).fld 4, ((d.fld 6).elem i).fld 5, ((d.fld 6).elem i).fld 6] = (d.fld 6).elem i := fun i hi => by simpa [List.range, List.range.loop] using okL_eta (k_d_6 _ (elem_mem hi))
  apply says_den (φ := (phi_64))
  simp [e_d_6, E_d_6, e_d, tree_64, T.says, X.den, O1.den, O2.den, O3.den, callD, XArg.ev, XArg.dat, Callee'.num, backs, DArg.back, Conds.den, cloArgs, phi_64, pd_121]
  (repeat' (first | (with_reducible apply And.intro) | intro _)) <;> (first | assumption | (exact pd_121 _ (by first | assumption | omega | (simp; done) | (simp; omega) | (simp [*]; done) | exact smallE_of (n := 1048576) (by omega) (by omega) | (simp [*] at *; omega) | grind [szS]) _ (by first | rfl | simp | (simp; omega))) | (first | omega | (simp only [IntKind.wrap_i64, maxL] at *; omega) | (simp [IntKind.wrap_i64, maxL] at *; omega)) | rfl | contradiction | grind)
theorem pd_64 (d : D) (h : ((d.fld 6).toL.length : Int) ≤ 1048576) (Q : List D → Prop) (ho : Q [d]) : PC Try.prog 64 [.st [(.int .i64), (.int .i64), (.int .i64), (.int .i64), (.int .i64), .bool, (.sl [(.int .i64), (.int .i64), (.int .i64), (.int .i64), (.int .i64), (.int .i64), .bool])] d] [.st [(.int .i64), (.int .i64), (.int .i64), (.int .i64), (.int .i64), .bool, (.sl [(.int .i64), (.int .i64), (.int .i64), (.int .i64), (.int .i64), (.int .i64), .bool])]] Q := (pc_64 d h).mono fun _ h => h ▸ ho
/- laws.toEffect -/
def phi_23 : Nat → List D → List D
  | 62, [d] => [d]
  | 63, [d] => [d]
  | 64, [d] => [d]
  | _, _ => []
theorem pc_23 (d : D) (h : ((d.fld 19).toL.length : Int) ≤ 1048576) : PC Try.prog 23 [.st [(.int .i64), (.int .i64), (.int .i64), (.int .i64), (.int .i64), (.int .i64), (.int .i64), (.int .i64), (.int .i64), (.int .i64), (.int .i64), (.int .i64), (.int .i64), (.int .i64), (.int .i64), (.int .i64), (.int .i64), (.int .i64), .bool, (.sl [(.int .i64), (.int .i64), (.int .i64), (.int .i64), (.int .i64), (.int .i64), .bool]), (.int .i64), (.int .i64)] d] [.st [(.int .i64), (.int .i64), (.int .i64), (.int .i64), (.int .i64), (.int .i64), (.int .i64), (.int .i64), (.int .i64), (.int .i64), (.int .i64), (.int .i64), (.int .i64), (.int .i64), (.int .i64), (.int .i64), (.int .i64), (.int .i64), .bool, (.sl [(.int .i64), (.int .i64), (.int .i64), (.int .i64), (.int .i64), (.int .i64), .bool]), (.int .i64), (.int .i64)]] fun o => o = [d] := by
  refine PC.of_sig mix sig_23 ⟨rfl, trivial⟩ rfl fun hok => ?_
  have e_d : D.lst [d.fld 0, d.fld 1, d.fld 2, d.fld 3, d.fld 4, d.fld 5, d.fld 6, d.fld 7, d.fld 8, d.fld 9, d.fld 10, d.fld 11, d.fld 12, d.fld 13, d.fld 14, d.fld 15, d.fld 16, d.fld 17, d.fld 18, d.fld 19, d.fld 20, d.fld 21] = d := by simpa [List.range, List.range.loop] using okL_eta (hok _ (.head _))
  have k_d : okL [(.int .i64), (.int .i64), (.int .i64), (.int .i64), (.int .i64), (.int .i64), (.int .i64), (.int .i64), (.int .i64), (.int .i64), (.int .i64), (.int .i64), (.int .i64), (.int .i64), (.int .i64), (.int .i64), (.int .i64), (.int .i64), .bool, (.sl [(.int .i64), (.int .i64), (.int .i64), (.int .i64), (.int .i64), (.int .i64), .bool]), (.int .i64), (.int .i64)] d := (hok _ (.head _))
  have e_d_19 : D.lst (d.fld 19).toL = d.fld 19 := sl_eta (okL_at k_d (i := 19) rfl)
  have l_d_19 := sl_len (okL_at k_d (i := 19) rfl)
  have k_d_19 := sl_all (okL_at k_d (i := 19) rfl)
  have E_d_19 : ∀ i, i < (d.fld 19).toL.length → D.lst [((d.fld 19).elem i).fld 0, ((d.fld 19).elem i).fld 1, ((d.fld 19).elem i).fld 2, ((d.fld 19).elem i).fld 3, ((d.fld 19).elem i).fld 4, ((d.fld 19).elem i).fld 5, ((d.fld 19).elem i).fld 6] = (d.fld 19).elem i := fun i hi => by simpa [List.range, List.range.loop] using okL_eta (k_d_19 _ (elem_mem hi))
  apply says_den (φ := (phi_23))
  simp [e_d_19, E_d_19, e_d, tree_23, T.says, X.den, O1.den, O2.den, O3.den, callD, XArg.ev, XArg.dat, Callee'.num, backs, DArg.back, Conds.den, cloArgs, phi_23, pd_62, pd_63, pd_64]
  (repeat' (first | (with_reducible apply And.intro) | intro _)) <;> (first | assumption | (exact pd_62 _ _ (by first | rfl | simp | (simp; omega))) | (exact pd_63 _ _ (by first | rfl | simp | (simp; omega))) | (exact pd_64 _ (by first | assumption | omega | (simp; done) | (simp; omega) | (simp [*]; done) | exact smallE_of (n := 1048576) (by omega) (by omega) | (simp [*] at *; omega) | grind [szS]) _ (by first | rfl | simp | (simp; omega))) | (first | omega | (simp only [IntKind.wrap_i64, maxL] at *; omega) | (simp [IntKind.wrap_i64, maxL] at *; omega)) | rfl | contradiction | grind)
theorem pd_23 (d : D) (h : ((d.fld 19).toL.length : Int) ≤ 1048576) (Q : List D → Prop) (ho : Q [d]) : PC Try.prog 23 [.st [(.int .i64), (.int .i64), (.int .i64), (.int .i64), (.int .i64), (.int .i64), (.int .i64), (.int .i64), (.int .i64), (.int .i64), (.int .i64), (.int .i64), (.int .i64), (.int .i64), (.int .i64), (.int .i64), (.int .i64), (.int .i64), .bool, (.sl [(.int .i64), (.int .i64), (.int .i64), (.int .i64), (.int .i64), (.int .i64), .bool]), (.int .i64), (.int .i64)] d] [.st [(.int .i64), (.int .i64), (.int .i64), (.int .i64), (.int .i64), (.int .i64), (.int .i64), (.int .i64), (.int .i64), (.int .i64), (.int .i64), (.int .i64), (.int .i64), (.int .i64), (.int .i64), (.int .i64), (.int .i64), (.int .i64), .bool, (.sl [(.int .i64), (.int .i64), (.int .i64), (.int .i64), (.int .i64), (.int .i64), .bool]), (.int .i64), (.int .i64)]] Q := (pc_23 d h).mono fun _ h => h ▸ ho
/- laws.toEffectS -/
def phi_16 : Nat → List D → List D
  | 23, [d] => [d]
  | _, _ => []
theorem pc_16 (d : D) (h : smallE d) : PC Try.prog 16 [.sc (.sl [(.int .i64), (.int .i64), (.int .i64), (.int .i64), (.int .i64), (.int .i64), (.int .i64), (.int .i64), (.int .i64), (.int .i64), (.int .i64), (.int .i64), (.int .i64), (.int .i64), (.int .i64), (.int .i64), (.int .i64), (.int .i64), .bool, (.sl [(.int .i64), (.int .i64), (.int .i64), (.int .i64), (.int .i64), (.int .i64), .bool]), (.int .i64), (.int .i64)]) d] [.sc (.sl [(.int .i64), (.int .i64), (.int .i64), (.int .i64), (.int .i64), (.int .i64), (.int .i64), (.int .i64), (.int .i64), (.int .i64), (.int .i64), (.int .i64), (.int .i64), (.int .i64), (.int .i64), (.int .i64), (.int .i64), (.int .i64), .bool, (.sl [(.int .i64), (.int .i64), (.int .i64), (.int .i64), (.int .i64), (.int .i64), .bool]), (.int .i64), (.int .i64)])] fun o => o = [d] := by
  refine PC.of_sig mix sig_16 ⟨rfl, trivial⟩ rfl fun hok => ?_
  have e_d := sl_eta (hok _ (.head _))
  have l_d := sl_len (hok _ (.head _))
  have k_d := sl_all (hok _ (.head _))
  have E_d : ∀ i, i < d.toL.length → D.lst [(d.elem i).fld 0, (d.elem i).fld 1, (d.elem i).fld 2, (d.elem i).fld 3, (d.elem i).fld 4, (d.elem i).fld 5, (d.elem i).fld 6, (d.elem i).fld 7, (d.elem i).fld 8, (d.elem i).fld 9, (d.elem i).fld 10, (d.elem i).fld 11, (d.elem i).fld 12, (d.elem i).fld 13, (d.elem i).fld 14, (d.elem i).fld 15, (d.elem i).fld 16, (d.elem i).fld 17, (d.elem i).fld 18, (d.elem i).fld 19, (d.elem i).fld 20, (d.elem i).fld 21] = d.elem i := fun i hi => by simpa [List.range, List.range.loop] using okL_eta (k_d _ (elem_mem hi))
  have h1 := h.1
  apply says_den (φ := (phi_16))
  simp [e_d, E_d, tree_16, T.says, X.den, O1.den, O2.den, O3.den, callD, XArg.ev, XArg.dat, Callee'.num, backs, DArg.back, Conds.den, cloArgs, phi_16, pd_23, h1]
  refine fun _ => ⟨by omega, ?_⟩
  refine den_for d.toL.length 0 (fun i => [.int i, .lst (d.toL.take i ++ List.replicate (d.toL.length - i) (.lst [.int 0, .int 0, .int 0, .int 0, .int 0, .int 0, .int 0, .int 0, .int 0, .int 0, .int 0, .int 0, .int 0, .int 0, .int 0, .int 0, .int 0, .int 0, .bool false, .lst [], .int 0, .int 0]))]) (fun _ => True) (by simp) (by simp [X.den, O1.den, O2.den]) trivial fun i hi _ => ?_
  apply says_den (φ := (phi_16))
  by_cases hlt : i < d.toL.length
  · have h2 := h.2 i hlt
    simp [e_d, E_d, tree_16, T.says, X.den, O1.den, O2.den, O3.den, callD, XArg.ev, XArg.dat, Callee'.num, backs, DArg.back, Conds.den, cloArgs, phi_16, pd_23, hlt, h2]
    (repeat' (first | (with_reducible apply And.intro) | intro _)) <;> first | (exact copy_step hlt rfl) | (first | assumption | (exact pd_23 _ (by first | assumption | omega | (simp; done) | (simp; omega) | (simp [*]; done) | exact smallE_of (n := 1048576) (by omega) (by omega) | (simp [*] at *; omega) | grind [szS]) _ (by first | rfl | simp | (simp; omega))) | (first | omega | (simp only [IntKind.wrap_i64, maxL] at *; omega) | (simp [IntKind.wrap_i64, maxL] at *; omega)) | rfl | contradiction | grind)
  · simp [e_d, E_d, tree_16, T.says, X.den, O1.den, O2.den, O3.den, callD, XArg.ev, XArg.dat, Callee'.num, backs, DArg.back, Conds.den, cloArgs, phi_16, pd_23, hlt]
    (repeat' (first | (with_reducible apply And.intro) | intro _)) <;> first | (rw [copy_end (by omega), e_d]) | (first | assumption | (exact pd_23 _ (by first | assumption | omega | (simp; done) | (simp; omega) | (simp [*]; done) | exact smallE_of (n := 1048576) (by omega) (by omega) | (simp [*] at *; omega) | grind [szS]) _ (by first | rfl | simp | (simp; omega))) | (first | omega | (simp only [IntKind.wrap_i64, maxL] at *; omega) | (simp [IntKind.wrap_i64, maxL] at *; omega)) | rfl | contradiction | grind)
theorem pd_16 (d : D) (h : smallE d) (Q : List D → Prop) (ho : Q [d]) : PC Try.prog 16 [.sc (.sl [(.int .i64), (.int .i64), (.int .i64), (.int .i64), (.int .i64), (.int .i64), (.int .i64), (.int .i64), (.int .i64), (.int .i64), (.int .i64), (.int .i64), (.int .i64), (.int .i64), (.int .i64), (.int .i64), (.int .i64), (.int .i64), .bool, (.sl [(.int .i64), (.int .i64), (.int .i64), (.int .i64), (.int .i64), (.int .i64), .bool]), (.int .i64), (.int .i64)]) d] [.sc (.sl [(.int .i64), (.int .i64), (.int .i64), (.int .i64), (.int .i64), (.int .i64), (.int .i64), (.int .i64), (.int .i64), (.int .i64), (.int .i64), (.int .i64), (.int .i64), (.int .i64), (.int .i64), (.int .i64), (.int .i64), (.int .i64), .bool, (.sl [(.int .i64), (.int .i64), (.int .i64), (.int .i64), (.int .i64), (.int .i64), .bool]), (.int .i64), (.int .i64)])] Q := (pc_16 d h).mono fun _ h => h ▸ ho
/- laws.eqPat -/
theorem pc_68 (d e : D) (h : d = e) : PC Try.prog 68 [.st [(.int .i64), (.int .i64), (.int .i64), (.int .i64), (.int .i64), (.int .i64), (.int .i64)] d, .st [(.int .i64), (.int .i64), (.int .i64), (.int .i64), (.int .i64), (.int .i64), (.int .i64)] e] [.sc .bool] fun o => o = [.bool true] := by
  refine PC.of_sig mix sig_68 ⟨rfl, rfl, trivial⟩ rfl fun hok => ?_
  have e_d : D.lst [d.fld 0, d.fld 1, d.fld 2, d.fld 3, d.fld 4, d.fld 5, d.fld 6] = d := by simpa [List.range, List.range.loop] using okL_eta (hok _ (.head _))
  have k_d : okL [(.int .i64), (.int .i64), (.int .i64), (.int .i64), (.int .i64), (.int .i64), (.int .i64)] d := (hok _ (.head _))
  have e_e : D.lst [e.fld 0, e.fld 1, e.fld 2, e.fld 3, e.fld 4, e.fld 5, e.fld 6] = e := by simpa [List.range, List.range.loop] using okL_eta (hok _ (.tail _ (.head _)))
  have k_e : okL [(.int .i64), (.int .i64), (.int .i64), (.int .i64), (.int .i64), (.int .i64), (.int .i64)] e := (hok _ (.tail _ (.head _)))
  subst h
  apply says_den (φ := fun _ _ => [])
  simp [e_d, e_e, tree_68, T.says, X.den, O1.den, O2.den, O3.den, callD, XArg.ev, XArg.dat, Callee'.num, backs, DArg.back, Conds.den, cloArgs]
theorem pd_68 (d e : D) (h : d = e) (Q : List D → Prop) (ho : Q [.bool true]) : PC Try.prog 68 [.st [(.int .i64), (.int .i64), (.int .i64), (.int .i64), (.int .i64), (.int .i64), (.int .i64)] d, .st [(.int .i64), (.int .i64), (.int .i64), (.int .i64), (.int .i64), (.int .i64), (.int .i64)] e] [.sc .bool] Q := (pc_68 d e h).mono fun _ h => h ▸ ho
/- laws.eqGuard -/
theorem pc_69 (d e : D) (h : d = e) : PC Try.prog 69 [.st [(.int .i64), (.int .i64)] d, .st [(.int .i64), (.int .i64)] e] [.sc .bool] fun o => o = [.bool true] := by
  refine PC.of_sig mix sig_69 ⟨rfl, rfl, trivial⟩ rfl fun hok => ?_
  have e_d : D.lst [d.fld 0, d.fld 1] = d := by simpa [List.range, List.range.loop] using okL_eta (hok _ (.head _))
  have k_d : okL [(.int .i64), (.int .i64)] d := (hok _ (.head _))
  have e_e : D.lst [e.fld 0, e.fld 1] = e := by simpa [List.range, List.range.loop] using okL_eta (hok _ (.tail _ (.head _)))
  have k_e : okL [(.int .i64), (.int .i64)] e := (hok _ (.tail _ (.head _)))
  subst h
  apply says_den (φ := fun _ _ => [])
  simp [e_d, e_e, tree_69, T.says, X.den, O1.den, O2.den, O3.den, callD, XArg.ev, XArg.dat, Callee'.num, backs, DArg.back, Conds.den, cloArgs]
theorem pd_69 (d e : D) (h : d = e) (Q : List D → Prop) (ho : Q [.bool true]) : PC Try.prog 69 [.st [(.int .i64), (.int .i64)] d, .st [(.int .i64), (.int .i64)] e] [.sc .bool] Q := (pc_69 d e h).mono fun _ h => h ▸ ho
/- laws.eqEvent -/
theorem pc_102 (d e : D) (h : d = e) : PC Try.prog 102 [.st [(.int .i64), (.int .i64), (.int .i64), (.int .i64), (.int .i64), (.int .i64), .bool] d, .st [(.int .i64), (.int .i64), (.int .i64), (.int .i64), (.int .i64), (.int .i64), .bool] e] [.sc .bool] fun o => o = [.bool true] := by
  refine PC.of_sig mix sig_102 ⟨rfl, rfl, trivial⟩ rfl fun hok => ?_
  have e_d : D.lst [d.fld 0, d.fld 1, d.fld 2, d.fld 3, d.fld 4, d.fld 5, d.fld 6] = d := by simpa [List.range, List.range.loop] using okL_eta (hok _ (.head _))
  have k_d : okL [(.int .i64), (.int .i64), (.int .i64), (.int .i64), (.int .i64), (.int .i64), .bool] d := (hok _ (.head _))
  have e_e : D.lst [e.fld 0, e.fld 1, e.fld 2, e.fld 3, e.fld 4, e.fld 5, e.fld 6] = e := by simpa [List.range, List.range.loop] using okL_eta (hok _ (.tail _ (.head _)))
  have k_e : okL [(.int .i64), (.int .i64), (.int .i64), (.int .i64), (.int .i64), (.int .i64), .bool] e := (hok _ (.tail _ (.head _)))
  subst h
  apply says_den (φ := fun _ _ => [])
  simp [e_d, e_e, tree_102, T.says, X.den, O1.den, O2.den, O3.den, callD, XArg.ev, XArg.dat, Callee'.num, backs, DArg.back, Conds.den, cloArgs]
theorem pd_102 (d e : D) (h : d = e) (Q : List D → Prop) (ho : Q [.bool true]) : PC Try.prog 102 [.st [(.int .i64), (.int .i64), (.int .i64), (.int .i64), (.int .i64), (.int .i64), .bool] d, .st [(.int .i64), (.int .i64), (.int .i64), (.int .i64), (.int .i64), (.int .i64), .bool] e] [.sc .bool] Q := (pc_102 d e h).mono fun _ h => h ▸ ho
/- laws.eqEventS -/
def phi_43 : Nat → List D → List D
  | 102, [d, e] => [.bool true]
  | _, _ => []
theorem pc_43 (d e : D) (h : d = e) : PC Try.prog 43 [.sc (.sl [(.int .i64), (.int .i64), (.int .i64), (.int .i64), (.int .i64), (.int .i64), .bool]) d, .sc (.sl [(.int .i64), (.int .i64), (.int .i64), (.int .i64), (.int .i64), (.int .i64), .bool]) e] [.sc .bool] fun o => o = [.bool true] := by
  refine PC.of_sig mix sig_43 ⟨rfl, rfl, trivial⟩ rfl fun hok => ?_
  have e_d := sl_eta (hok _ (.head _))
  have l_d := sl_len (hok _ (.head _))
  have k_d := sl_all (hok _ (.head _))
  have E_d : ∀ i, i < d.toL.length → D.lst [(d.elem i).fld 0, (d.elem i).fld 1, (d.elem i).fld 2, (d.elem i).fld 3, (d.elem i).fld 4, (d.elem i).fld 5, (d.elem i).fld 6] = d.elem i := fun i hi => by simpa [List.range, List.range.loop] using okL_eta (k_d _ (elem_mem hi))
  have e_e := sl_eta (hok _ (.tail _ (.head _)))
  have l_e := sl_len (hok _ (.tail _ (.head _)))
  have k_e := sl_all (hok _ (.tail _ (.head _)))
  have E_e : ∀ i, i < e.toL.length → D.lst [(e.elem i).fld 0, (e.elem i).fld 1, (e.elem i).fld 2, (e.elem i).fld 3, (e.elem i).fld 4, (e.elem i).fld 5, (e.elem i).fld 6] = e.elem i := fun i hi => by simpa [List.range, List.range.loop] using okL_eta (k_e _ (elem_mem hi))
  subst h
  apply says_den (φ := (phi_43))
  simp [e_d, e_e, E_d, E_e, tree_43, T.says, X.den, O1.den, O2.den, O3.den, callD, XArg.ev, XArg.dat, Callee'.num, backs, DArg.back, Conds.den, cloArgs, phi_43, pd_102]
  refine fun _ => ?_
  refine den_for d.toL.length 0 (fun i => [.int i]) (fun _ => True) (by simp) (by simp [X.den]) trivial fun i hi _ => ?_
  apply says_den (φ := (phi_43))
  simp [e_d, e_e, E_d, E_e, tree_43, T.says, X.den, O1.den, O2.den, O3.den, callD, XArg.ev, XArg.dat, Callee'.num, backs, DArg.back, Conds.den, cloArgs, phi_43, pd_102]
  (repeat' (first | (with_reducible apply And.intro) | intro _)) <;> (first | omega | (simp only [IntKind.wrap_i64, maxL] at *; omega) | (simp [IntKind.wrap_i64, maxL] at *; omega))
theorem pd_43 (d e : D) (h : d = e) (Q : List D → Prop) (ho : Q [.bool true]) : PC Try.prog 43 [.sc (.sl [(.int .i64), (.int .i64), (.int .i64), (.int .i64), (.int .i64), (.int .i64), .bool]) d, .sc (.sl [(.int .i64), (.int .i64), (.int .i64), (.int .i64), (.int .i64), (.int .i64), .bool]) e] [.sc .bool] Q := (pc_43 d e h).mono fun _ h => h ▸ ho
/- laws.eqAct -/
def phi_70 : Nat → List D → List D
  | 43, [d, e] => [.bool true]
  | _, _ => []
theorem pc_70 (d e : D) (h : d = e) : PC Try.prog 70 [.st [(.int .i64), (.int .i64), (.int .i64), (.int .i64), (.int .i64), .bool, (.sl [(.int .i64), (.int .i64), (.int .i64), (.int .i64), (.int .i64), (.int .i64), .bool])] d, .st [(.int .i64), (.int .i64), (.int .i64), (.int .i64), (.int .i64), .bool, (.sl [(.int .i64), (.int .i64), (.int .i64), (.int .i64), (.int .i64), (.int .i64), .bool])] e] [.sc .bool] fun o => o = [.bool true] := by
  refine PC.of_sig mix sig_70 ⟨rfl, rfl, trivial⟩ rfl fun hok => ?_
  have e_d : D.lst [d.fld 0, d.fld 1, d.fld 2, d.fld 3, d.fld 4, d.fld 5, d.fld 6] = d := by simpa [List.range, List.range.loop] using okL_eta (hok _ (.head _))
  have k_d : okL [(.int .i64), (.int .i64), (.int .i64), (.int .i64), (.int .i64), .bool, (.sl [(.int .i64), (.int .i64), (.int .i64), (.int .i64), (.int .i64), (.int .i64), .bool])] d := (hok _ (.head _))
  have e_d_6 : D.lst (d.fld 6).toL = d.fld 6 := sl_eta (okL_at k_d (i := 6) rfl)
  have l_d_6 := sl_len (okL_at k_d (i := 6) rfl)
  have k_d_6 := sl_all (okL_at k_d (i := 6) rfl)
  have E_d_6 : ∀ i, i < (d.fld 6).toL.length → D.lst [((d.fld 6).elem i).fld 0, ((d.fld 6).elem i).fld 1, ((d.fld 6).elem i).fld 2, ((d.fld 6).elem i).fld 3, ((d.fld 6).elem i).fld 4, ((d.fld 6).elem i).fld 5, ((d.fld 6).elem i).fld 6] = (d.fld 6).elem i := fun i hi => by simpa [List.range, List.range.loop] using okL_eta (k_d_6 _ (elem_mem hi))
  have e_e : D.lst [e.fld 0, e.fld 1, e.fld 2, e.fld 3, e.fld 4, e.fld 5, e.fld 6] = e := by simpa [List.range, List.range.loop] using okL_eta (hok _ (.tail _ (.head _)))
  have k_e : okL [(.int .i64), (.int .i64), (.int .i64), (.int .i64), (.int .i64), .bool, (.sl [(.int .i64), (.int .i64), (.int .i64), (.int .i64), (.int .i64), (.int .i64), .bool])] e := (hok _ (.tail _ (.head _)))
  have e_e_6 : D.lst (e.fld 6).toL = e.fld 6 := sl_eta (okL_at k_e (i := 6) rfl)
  have l_e_6 := sl_len (okL_at k_e (i := 6) rfl)
  have k_e_6 := sl_all (okL_at k_e (i := 6) rfl)
  have E_e_6 : ∀ i, i < (e.fld 6).toL.length → D.lst [((e.fld 6).elem i).fld 0, ((e.fld 6).elem i).fld 1, ((e.fld 6).elem i).fld 2, ((e.fld 6).elem i).fld 3, ((e.fld 6).elem i).fld 4, ((e.fld 6).elem i).fld 5, ((e.fld 6).elem i).fld 6] = (e.fld 6).elem i := fun i hi => by simpa [List.range, List.range.loop] using okL_eta (k_e_6 _ (elem_mem hi))
  subst h
  apply says_den (φ := (phi_70))
  simp [e_d_6, E_d_6, e_e_6, E_e_6, e_d, e_e, tree_70, T.says, X.den, O1.den, O2.den, O3.den, callD, XArg.ev, XArg.dat, Callee'.num, backs, DArg.back, Conds.den, cloArgs, phi_70, pd_43]
theorem pd_70 (d e : D) (h : d = e) (Q : List D → Prop) (ho : Q [.bool true]) : PC Try.prog 70 [.st [(.int .i64), (.int .i64), (.int .i64), (.int .i64), (.int .i64), .bool, (.sl [(.int .i64), (.int .i64), (.int .i64), (.int .i64), (.int .i64), (.int .i64), .bool])] d, .st [(.int .i64), (.int .i64), (.int .i64), (.int .i64), (.int .i64), .bool, (.sl [(.int .i64), (.int .i64), (.int .i64), (.int .i64), (.int .i64), (.int .i64), .bool])] e] [.sc .bool] Q := (pc_70 d e h).mono fun _ h => h ▸ ho
/- laws.eqEffect -/
def phi_25 : Nat → List D → List D
  | 68, [d, e] => [.bool true]
  | 69, [d, e] => [.bool true]
  | 70, [d, e] => [.bool true]
  | _, _ => []
theorem pc_25 (d e : D) (h : d = e) : PC Try.prog 25 [.st [(.int .i64), (.int .i64), (.int .i64), (.int .i64), (.int .i64), (.int .i64), (.int .i64), (.int .i64), (.int .i64), (.int .i64), (.int .i64), (.int .i64), (.int .i64), (.int .i64), (.int .i64), (.int .i64), (.int .i64), (.int .i64), .bool, (.sl [(.int .i64), (.int .i64), (.int .i64), (.int .i64), (.int .i64), (.int .i64), .bool]), (.int .i64), (.int .i64)] d, .st [(.int .i64), (.int .i64), (.int .i64), (.int .i64), (.int .i64), (.int .i64), (.int .i64), (.int .i64), (.int .i64), (.int .i64), (.int .i64), (.int .i64), (.int .i64), (.int .i64), (.int .i64), (.int .i64), (.int .i64), (.int .i64), .bool, (.sl [(.int .i64), (.int .i64), (.int .i64), (.int .i64), (.int .i64), (.int .i64), .bool]), (.int .i64), (.int .i64)] e] [.sc .bool] fun o => o = [.bool true] := by
  refine PC.of_sig mix sig_25 ⟨rfl, rfl, trivial⟩ rfl fun hok => ?_
  have e_d : D.lst [d.fld 0, d.fld 1, d.fld 2, d.fld 3, d.fld 4, d.fld 5, d.fld 6, d.fld 7, d.fld 8, d.fld 9, d.fld 10, d.fld 11, d.fld 12, d.fld 13, d.fld 14, d.fld 15, d.fld 16, d.fld 17, d.fld 18, d.fld 19, d.fld 20, d.fld 21] = d := by simpa [List.range, List.range.loop] using okL_eta (hok _ (.head _))
  have k_d : okL [(.int .i64), (.int .i64), (.int .i64), (.int .i64), (.int .i64), (.int .i64), (.int .i64), (.int .i64), (.int .i64), (.int .i64), (.int .i64), (.int .i64), (.int .i64), (.int .i64), (.int .i64), (.int .i64), (.int .i64), (.int .i64), .bool, (.sl [(.int .i64), (.int .i64), (.int .i64), (.int .i64), (.int .i64), (.int .i64), .bool]), (.int .i64), (.int .i64)] d := (hok _ (.head _))
  have e_d_19 : D.lst (d.fld 19).toL = d.fld 19 := sl_eta (okL_at k_d (i := 19) rfl)
  have l_d_19 := sl_len (okL_at k_d (i := 19) rfl)
  have k_d_19 := sl_all (okL_at k_d (i := 19) rfl)
  have E_d_19 : ∀ i, i < (d.fld 19).toL.length → D.lst [((d.fld 19).elem i).fld 0, ((d.fld 19).elem i).fld 1, ((d.fld 19).elem i).fld 2, ((d.fld 19).elem i).fld 3, ((d.fld 19).elem i).fld 4, ((d.fld 19).elem i).fld 5, ((d.fld 19).elem i).fld 6] = (d.fld 19).elem i := fun i hi => by simpa [List.range, List.range.loop] using okL_eta (k_d_19 _ (elem_mem hi))
  have e_e : D.lst [e.fld 0, e.fld 1, e.fld 2, e.fld 3, e.fld 4, e.fld 5, e.fld 6, e.fld 7, e.fld 8, e.fld 9, e.fld 10, e.fld 11, e.fld 12, e.fld 13, e.fld 14, e.fld 15, e.fld 16, e.fld 17, e.fld 18, e.fld 19, e.fld 20, e.fld 21] = e := by simpa [List.range, List.range.loop] using okL_eta (hok _ (.tail _ (.head _)))
  have k_e : okL [(.int .i64), (.int .i64), (.int .i64), (.int .i64), (.int .i64), (.int .i64), (.int .i64), (.int .i64), (.int .i64), (.int .i64), (.int .i64), (.int .i64), (.int .i64), (.int .i64), (.int .i64), (.int .i64), (.int .i64), (.int .i64), .bool, (.sl [(.int .i64), (.int .i64), (.int .i64), (.int .i64), (.int .i64), (.int .i64), .bool]), (.int .i64), (.int .i64)] e := (hok _ (.tail _ (.head _)))
  have e_e_19 : D.lst (e.fld 19).toL = e.fld 19 := sl_eta (okL_at k_e (i := 19) rfl)
  have l_e_19 := sl_len (okL_at k_e (i := 19) rfl)
  have k_e_19 := sl_all (okL_at k_e (i := 19) rfl)
  have E_e_19 : ∀ i, i < (e.fld 19).toL.length → D.lst [((e.fld 19).elem i).fld 0, ((e.fld 19).elem i).fld 1, ((e.fld 19).elem i).fld 2, ((e.fld 19).elem i).fld 3, ((e.fld 19).elem i).fld 4, ((e.fld 19).elem i).fld 5, ((e.fld 19).elem i).fld 6] = (e.fld 19).elem i := fun i hi => by simpa [List.range, List.range.loop] using okL_eta (k_e_19 _ (elem_mem hi))
  subst h
  apply says_den (φ := (phi_25))
  simp [e_d_19, E_d_19, e_e_19, E_e_19, e_d, e_e, tree_25, T.says, X.den, O1.den, O2.den, O3.den, callD, XArg.ev, XArg.dat, Callee'.num, backs, DArg.back, Conds.den, cloArgs, phi_25, pd_68, pd_69, pd_70]
theorem pd_25 (d e : D) (h : d = e) (Q : List D → Prop) (ho : Q [.bool true]) : PC Try.prog 25 [.st [(.int .i64), (.int .i64), (.int .i64), (.int .i64), (.int .i64), (.int .i64), (.int .i64), (.int .i64), (.int .i64), (.int .i64), (.int .i64), (.int .i64), (.int .i64), (.int .i64), (.int .i64), (.int .i64), (.int .i64), (.int .i64), .bool, (.sl [(.int .i64), (.int .i64), (.int .i64), (.int .i64), (.int .i64), (.int .i64), .bool]), (.int .i64), (.int .i64)] d, .st [(.int .i64), (.int .i64), (.int .i64), (.int .i64), (.int .i64), (.int .i64), (.int .i64), (.int .i64), (.int .i64), (.int .i64), (.int .i64), (.int .i64), (.int .i64), (.int .i64), (.int .i64), (.int .i64), (.int .i64), (.int .i64), .bool, (.sl [(.int .i64), (.int .i64), (.int .i64), (.int .i64), (.int .i64), (.int .i64), .bool]), (.int .i64), (.int .i64)] e] [.sc .bool] Q := (pc_25 d e h).mono fun _ h => h ▸ ho
/- laws.eqEffectS -/
def phi_18 : Nat → List D → List D
  | 25, [d, e] => [.bool true]
  | _, _ => []
theorem pc_18 (d e : D) (h : d = e) : PC Try.prog 18 [.sc (.sl [(.int .i64), (.int .i64), (.int .i64), (.int .i64), (.int .i64), (.int .i64), (.int .i64), (.int .i64), (.int .i64), (.int .i64), (.int .i64), (.int .i64), (.int .i64), (.int .i64), (.int .i64), (.int .i64), (.int .i64), (.int .i64), .bool, (.sl [(.int .i64), (.int .i64), (.int .i64), (.int .i64), (.int .i64), (.int .i64), .bool]), (.int .i64), (.int .i64)]) d, .sc (.sl [(.int .i64), (.int .i64), (.int .i64), (.int .i64), (.int .i64), (.int .i64), (.int .i64), (.int .i64), (.int .i64), (.int .i64), (.int .i64), (.int .i64), (.int .i64), (.int .i64), (.int .i64), (.int .i64), (.int .i64), (.int .i64), .bool, (.sl [(.int .i64), (.int .i64), (.int .i64), (.int .i64), (.int .i64), (.int .i64), .bool]), (.int .i64), (.int .i64)]) e] [.sc .bool] fun o => o = [.bool true] := by
  refine PC.of_sig mix sig_18 ⟨rfl, rfl, trivial⟩ rfl fun hok => ?_
  have e_d := sl_eta (hok _ (.head _))
  have l_d := sl_len (hok _ (.head _))
  have k_d := sl_all (hok _ (.head _))
  have E_d : ∀ i, i < d.toL.length → D.lst [(d.elem i).fld 0, (d.elem i).fld 1, (d.elem i).fld 2, (d.elem i).fld 3, (d.elem i).fld 4, (d.elem i).fld 5, (d.elem i).fld 6, (d.elem i).fld 7, (d.elem i).fld 8, (d.elem i).fld 9, (d.elem i).fld 10, (d.elem i).fld 11, (d.elem i).fld 12, (d.elem i).fld 13, (d.elem i).fld 14, (d.elem i).fld 15, (d.elem i).fld 16, (d.elem i).fld 17, (d.elem i).fld 18, (d.elem i).fld 19, (d.elem i).fld 20, (d.elem i).fld 21] = d.elem i := fun i hi => by simpa [List.range, List.range.loop] using okL_eta (k_d _ (elem_mem hi))
  have e_e := sl_eta (hok _ (.tail _ (.head _)))
  have l_e := sl_len (hok _ (.tail _ (.head _)))
  have k_e := sl_all (hok _ (.tail _ (.head _)))
  have E_e : ∀ i, i < e.toL.length → D.lst [(e.elem i).fld 0, (e.elem i).fld 1, (e.elem i).fld 2, (e.elem i).fld 3, (e.elem i).fld 4, (e.elem i).fld 5, (e.elem i).fld 6, (e.elem i).fld 7, (e.elem i).fld 8, (e.elem i).fld 9, (e.elem i).fld 10, (e.elem i).fld 11, (e.elem i).fld 12, (e.elem i).fld 13, (e.elem i).fld 14, (e.elem i).fld 15, (e.elem i).fld 16, (e.elem i).fld 17, (e.elem i).fld 18, (e.elem i).fld 19, (e.elem i).fld 20, (e.elem i).fld 21] = e.elem i := fun i hi => by simpa [List.range, List.range.loop] using okL_eta (k_e _ (elem_mem hi))
  subst h
  apply says_den (φ := (phi_18))
  simp [e_d, e_e, E_d, E_e, tree_18, T.says, X.den, O1.den, O2.den, O3.den, callD, XArg.ev, XArg.dat, Callee'.num, backs, DArg.back, Conds.den, cloArgs, phi_18, pd_25]
  refine fun _ => ?_
  refine den_for d.toL.length 0 (fun i => [.int i]) (fun _ => True) (by simp) (by simp [X.den]) trivial fun i hi _ => ?_
  apply says_den (φ := (phi_18))
  simp [e_d, e_e, E_d, E_e, tree_18, T.says, X.den, O1.den, O2.den, O3.den, callD, XArg.ev, XArg.dat, Callee'.num, backs, DArg.back, Conds.den, cloArgs, phi_18, pd_25]
  (repeat' (first | (with_reducible apply And.intro) | intro _)) <;> (first | omega | (simp only [IntKind.wrap_i64, maxL] at *; omega) | (simp [IntKind.wrap_i64, maxL] at *; omega))
theorem pd_18 (d e : D) (h : d = e) (Q : List D → Prop) (ho : Q [.bool true]) : PC Try.prog 18 [.sc (.sl [(.int .i64), (.int .i64), (.int .i64), (.int .i64), (.int .i64), (.int .i64), (.int .i64), (.int .i64), (.int .i64), (.int .i64), (.int .i64), (.int .i64), (.int .i64), (.int .i64), (.int .i64), (.int .i64), (.int .i64), (.int .i64), .bool, (.sl [(.int .i64), (.int .i64), (.int .i64), (.int .i64), (.int .i64), (.int .i64), .bool]), (.int .i64), (.int .i64)]) d, .sc (.sl [(.int .i64), (.int .i64), (.int .i64), (.int .i64), (.int .i64), (.int .i64), (.int .i64), (.int .i64), (.int .i64), (.int .i64), (.int .i64), (.int .i64), (.int .i64), (.int .i64), (.int .i64), (.int .i64), (.int .i64), (.int .i64), .bool, (.sl [(.int .i64), (.int .i64), (.int .i64), (.int .i64), (.int .i64), (.int .i64), .bool]), (.int .i64), (.int .i64)]) e] [.sc .bool] Q := (pc_18 d e h).mono fun _ h => h ▸ ho
/- laws.markEventS -/
theorem pc_44 (d n : D) (h : (d.toL.length : Int) ≤ 1048576) (hn : 0 ≤ n.toI ∧ n.toI ≤ 1125899906842624) : PC Try.prog 44 [.row [(.int .i64), (.int .i64), (.int .i64), (.int .i64), (.int .i64), (.int .i64), .bool] d, .sc (.int .i64) n] [.sc (.int .i64)] fun o => o = [.int (n.toI + 7 * d.toL.length), .lst (markedE n.toI d.toL.length)] := by
  refine PC.of_sig mix sig_44 ⟨rfl, rfl, trivial⟩ rfl fun hok => ?_
  have e_d := sl_eta (hok _ (.head _))
  have l_d := sl_len (hok _ (.head _))
  have k_d := sl_all (hok _ (.head _))
  have E_d : ∀ i, i < d.toL.length → D.lst [(d.elem i).fld 0, (d.elem i).fld 1, (d.elem i).fld 2, (d.elem i).fld 3, (d.elem i).fld 4, (d.elem i).fld 5, (d.elem i).fld 6] = d.elem i := fun i hi => by simpa [List.range, List.range.loop] using okL_eta (k_d _ (elem_mem hi))
  have e_n := int_eta (hok _ (.tail _ (.head _)))
  have b_n := int_range (hok _ (.tail _ (.head _)))
  apply says_den (φ := fun _ _ => [])
  simp [e_d, e_n, E_d, tree_44, T.says, X.den, O1.den, O2.den, O3.den, callD, XArg.ev, XArg.dat, Callee'.num, backs, DArg.back, Conds.den, cloArgs] at h ⊢
  refine den_for d.toL.length 1 (fun i => [.int (n.toI + 7 * i), .int i, .lst (markedE n.toI i ++ d.toL.drop i)]) (fun _ => True) (by simp) (by simp [X.den, e_n, e_d, markedE]) trivial fun i hi _ => ?_
  apply says_den (φ := fun _ _ => [])
  by_cases hlt : i < d.toL.length
  · have hT : (d.elem i).toL = [(d.elem i).fld 0, (d.elem i).fld 1, (d.elem i).fld 2, (d.elem i).fld 3, (d.elem i).fld 4, (d.elem i).fld 5, (d.elem i).fld 6] := by
      have := E_d i hlt
      rw [← this]; rfl
    have hM := elem_mark (n := n.toI) hlt
    have hS := fun x => elem_mark_set (n := n.toI) (x := x) hlt
    have hw : ∀ m : Int, 0 ≤ m → m ≤ 2000000000000000 → IntKind.i64.wrap m = m := fun m h1 h2 => by rw [IntKind.wrap_i64]; omega
    have w1 := hw (n.toI + 7 * i + 1) (by omega) (by omega)
    have w2 := hw (n.toI + 7 * i + 2) (by omega) (by omega)
    have w3 := hw (n.toI + 7 * i + 3) (by omega) (by omega)
    have w4 := hw (n.toI + 7 * i + 4) (by omega) (by omega)
    have w5 := hw (n.toI + 7 * i + 5) (by omega) (by omega)
    have w6 := hw (n.toI + 7 * i + 6) (by omega) (by omega)
    have w7 := hw (n.toI + 7 * i + 7) (by omega) (by omega)
    have wi := hw (i + 1) (by omega) (by omega)
    have s2 : n.toI + 7 * (i : Int) + 1 + 1 = n.toI + 7 * i + 2 := by omega
    have s3 : n.toI + 7 * (i : Int) + 2 + 1 = n.toI + 7 * i + 3 := by omega
    have s4 : n.toI + 7 * (i : Int) + 3 + 1 = n.toI + 7 * i + 4 := by omega
    have s5 : n.toI + 7 * (i : Int) + 4 + 1 = n.toI + 7 * i + 5 := by omega
    have s6 : n.toI + 7 * (i : Int) + 5 + 1 = n.toI + 7 * i + 6 := by omega
    have s7 : n.toI + 7 * (i : Int) + 6 + 1 = n.toI + 7 * i + 7 := by omega
    simp [e_d, e_n, E_d, tree_44, T.says, X.den, O1.den, O2.den, O3.den, callD, XArg.ev, XArg.dat, Callee'.num, backs, DArg.back, Conds.den, cloArgs, hlt, hM, hT, hS, w1, w2, w3, w4, w5, w6, w7, wi, s2, s3, s4, s5, s6, s7]
    (repeat' (first | (with_reducible apply And.intro) | intro _)) <;> first | omega | (rw [← markE_step hlt, evMark]) | skip
  · simp [e_d, e_n, E_d, tree_44, T.says, X.den, O1.den, O2.den, O3.den, callD, XArg.ev, XArg.dat, Callee'.num, backs, DArg.back, Conds.den, cloArgs, hlt]
    (repeat' (first | (with_reducible apply And.intro) | intro _)) <;> first | omega | (rw [show i = d.toL.length by omega]; simp) | skip
theorem pd_44 (d n : D) (h : (d.toL.length : Int) ≤ 1048576) (hn : 0 ≤ n.toI ∧ n.toI ≤ 1125899906842624) (Q : List D → Prop) (ho : Q [.int (n.toI + 7 * d.toL.length), .lst (markedE n.toI d.toL.length)]) : PC Try.prog 44 [.row [(.int .i64), (.int .i64), (.int .i64), (.int .i64), (.int .i64), (.int .i64), .bool] d, .sc (.int .i64) n] [.sc (.int .i64)] Q := (pc_44 d n h hn).mono fun _ h => h ▸ ho
/- laws.markAct -/
def phi_71 : Nat → List D → List D
  | 44, [d, n] => [.int (n.toI + 7 * d.toL.length), .lst (markedE n.toI d.toL.length)]
  | _, _ => []
theorem pc_71 (d n : D) (h : ((d.fld 6).toL.length : Int) ≤ 1048576) (hn : 0 ≤ n.toI ∧ n.toI ≤ 1125899906842624) : PC Try.prog 71 [.stw [(.int .i64), (.int .i64), (.int .i64), (.int .i64), (.int .i64), .bool, (.sl [(.int .i64), (.int .i64), (.int .i64), (.int .i64), (.int .i64), (.int .i64), .bool])] d, .sc (.int .i64) n] [.sc (.int .i64)] fun o => o = [.int (n.toI + 7 * (d.fld 6).toL.length), .lst [d.fld 0, d.fld 1, d.fld 2, d.fld 3, d.fld 4, d.fld 5, .lst (markedE n.toI (d.fld 6).toL.length)]] := by
  refine PC.of_sig mix sig_71 ⟨⟨rfl, by decide⟩, rfl, trivial⟩ rfl fun hok => ?_
  have e_d : D.lst [d.fld 0, d.fld 1, d.fld 2, d.fld 3, d.fld 4, d.fld 5, d.fld 6] = d := by simpa [List.range, List.range.loop] using okL_eta (hok _ (.head _))
  have k_d : okL [(.int .i64), (.int .i64), (.int .i64), (.int .i64), (.int .i64), .bool, (.sl [(.int .i64), (.int .i64), (.int .i64), (.int .i64), (.int .i64), (.int .i64), .bool])] d := (hok _ (.head _))
  have e_d_6 : D.lst (d.fld 6).toL = d.fld 6 := sl_eta (okL_at k_d (i := 6) rfl)
  have l_d_6 := sl_len (okL_at k_d (i := 6) rfl)
  have k_d_6 := sl_all (okL_at k_d (i := 6) rfl)
  have E_d_6 : ∀ i, i < (d.fld 6).toL.length → D.lst [((d.fld 6).elem i).fld 0, ((d.fld 6).elem i).fld 1, ((d.fld 6).elem i).fld 2, ((d.fld 6).elem i).fld 3, ((d.fld 6).elem i).fld 4, ((d.fld 6).elem i).fld 5, ((d.fld 6).elem i).fld 6] = (d.fld 6).elem i := fun i hi => by simpa [List.range, List.range.loop] using okL_eta (k_d_6 _ (elem_mem hi))
  have e_n := int_eta (hok _ (.tail _ (.head _)))
  have b_n := int_range (hok _ (.tail _ (.head _)))
  apply says_den (φ := (phi_71))
  simp [e_d_6, E_d_6, e_d, e_n, tree_71, T.says, X.den, O1.den, O2.den, O3.den, callD, XArg.ev, XArg.dat, Callee'.num, backs, DArg.back, Conds.den, cloArgs, phi_71, pd_44, h, hn]
  all_goals ((repeat' (first | (with_reducible apply And.intro) | intro _)) <;> (first | assumption | (exact pd_44 _ _ (by first | assumption | omega | (simp; done) | (simp; omega) | (simp [*]; done) | exact smallE_of (n := 1048576) (by omega) (by omega) | (simp [*] at *; omega) | grind [szS]) (by first | assumption | omega | (simp; done) | (simp; omega) | (simp [*]; done) | exact smallE_of (n := 1048576) (by omega) (by omega) | (simp [*] at *; omega) | grind [szS]) _ (by first | rfl | simp | (simp; omega))) | (first | omega | (simp only [IntKind.wrap_i64, maxL] at *; omega) | (simp [IntKind.wrap_i64, maxL] at *; omega)) | rfl | contradiction | grind))
theorem pd_71 (d n : D) (h : ((d.fld 6).toL.length : Int) ≤ 1048576) (hn : 0 ≤ n.toI ∧ n.toI ≤ 1125899906842624) (Q : List D → Prop) (ho : Q [.int (n.toI + 7 * (d.fld 6).toL.length), .lst [d.fld 0, d.fld 1, d.fld 2, d.fld 3, d.fld 4, d.fld 5, .lst (markedE n.toI (d.fld 6).toL.length)]]) : PC Try.prog 71 [.stw [(.int .i64), (.int .i64), (.int .i64), (.int .i64), (.int .i64), .bool, (.sl [(.int .i64), (.int .i64), (.int .i64), (.int .i64), (.int .i64), (.int .i64), .bool])] d, .sc (.int .i64) n] [.sc (.int .i64)] Q := (pc_71 d n h hn).mono fun _ h => h ▸ ho
/- laws.markEffect -/
def phi_26 : Nat → List D → List D
  | 71, [d, n] => [.int (n.toI + 7 * (d.fld 6).toL.length), .lst [d.fld 0, d.fld 1, d.fld 2, d.fld 3, d.fld 4, d.fld 5, .lst (markedE n.toI (d.fld 6).toL.length)]]
  | _, _ => []
theorem pc_26 (d n : D) (h : ((d.fld 19).toL.length : Int) ≤ 1048576) (hn : 0 ≤ n.toI ∧ n.toI ≤ 1125899906842624) : PC Try.prog 26 [.stw [(.int .i64), (.int .i64), (.int .i64), (.int .i64), (.int .i64), (.int .i64), (.int .i64), (.int .i64), (.int .i64), (.int .i64), (.int .i64), (.int .i64), (.int .i64), (.int .i64), (.int .i64), (.int .i64), (.int .i64), (.int .i64), .bool, (.sl [(.int .i64), (.int .i64), (.int .i64), (.int .i64), (.int .i64), (.int .i64), .bool]), (.int .i64), (.int .i64)] d, .sc (.int .i64) n] [.sc (.int .i64)] fun o => o = [.int (n.toI + 7 * (d.fld 19).toL.length), withL d (.lst (markedE n.toI (d.fld 19).toL.length))] := by
  refine PC.of_sig mix sig_26 ⟨⟨rfl, by decide⟩, rfl, trivial⟩ rfl fun hok => ?_
  have e_d : D.lst [d.fld 0, d.fld 1, d.fld 2, d.fld 3, d.fld 4, d.fld 5, d.fld 6, d.fld 7, d.fld 8, d.fld 9, d.fld 10, d.fld 11, d.fld 12, d.fld 13, d.fld 14, d.fld 15, d.fld 16, d.fld 17, d.fld 18, d.fld 19, d.fld 20, d.fld 21] = d := by simpa [List.range, List.range.loop] using okL_eta (hok _ (.head _))
  have k_d : okL [(.int .i64), (.int .i64), (.int .i64), (.int .i64), (.int .i64), (.int .i64), (.int .i64), (.int .i64), (.int .i64), (.int .i64), (.int .i64), (.int .i64), (.int .i64), (.int .i64), (.int .i64), (.int .i64), (.int .i64), (.int .i64), .bool, (.sl [(.int .i64), (.int .i64), (.int .i64), (.int .i64), (.int .i64), (.int .i64), .bool]), (.int .i64), (.int .i64)] d := (hok _ (.head _))
  have e_d_19 : D.lst (d.fld 19).toL = d.fld 19 := sl_eta (okL_at k_d (i := 19) rfl)
  have l_d_19 := sl_len (okL_at k_d (i := 19) rfl)
  have k_d_19 := sl_all (okL_at k_d (i := 19) rfl)
  have E_d_19 : ∀ i, i < (d.fld 19).toL.length → D.lst [((d.fld 19).elem i).fld 0, ((d.fld 19).elem i).fld 1, ((d.fld 19).elem i).fld 2, ((d.fld 19).elem i).fld 3, ((d.fld 19).elem i).fld 4, ((d.fld 19).elem i).fld 5, ((d.fld 19).elem i).fld 6] = (d.fld 19).elem i := fun i hi => by simpa [List.range, List.range.loop] using okL_eta (k_d_19 _ (elem_mem hi))
  have e_n := int_eta (hok _ (.tail _ (.head _)))
  have b_n := int_range (hok _ (.tail _ (.head _)))
  apply says_den (φ := (phi_26))
  simp [e_d_19, E_d_19, e_d, e_n, tree_26, T.says, X.den, O1.den, O2.den, O3.den, callD, XArg.ev, XArg.dat, Callee'.num, backs, DArg.back, Conds.den, cloArgs, phi_26, pd_71, h, hn, withL]
  all_goals ((repeat' (first | (with_reducible apply And.intro) | intro _)) <;> (first | assumption | (exact pd_71 _ _ (by first | assumption | omega | (simp; done) | (simp; omega) | (simp [*]; done) | exact smallE_of (n := 1048576) (by omega) (by omega) | (simp [*] at *; omega) | grind [szS]) (by first | assumption | omega | (simp; done) | (simp; omega) | (simp [*]; done) | exact smallE_of (n := 1048576) (by omega) (by omega) | (simp [*] at *; omega) | grind [szS]) _ (by first | rfl | simp | (simp; omega))) | (first | omega | (simp only [IntKind.wrap_i64, maxL] at *; omega) | (simp [IntKind.wrap_i64, maxL] at *; omega)) | rfl | contradiction | grind))
theorem pd_26 (d n : D) (h : ((d.fld 19).toL.length : Int) ≤ 1048576) (hn : 0 ≤ n.toI ∧ n.toI ≤ 1125899906842624) (Q : List D → Prop) (ho : Q [.int (n.toI + 7 * (d.fld 19).toL.length), withL d (.lst (markedE n.toI (d.fld 19).toL.length))]) : PC Try.prog 26 [.stw [(.int .i64), (.int .i64), (.int .i64), (.int .i64), (.int .i64), (.int .i64), (.int .i64), (.int .i64), (.int .i64), (.int .i64), (.int .i64), (.int .i64), (.int .i64), (.int .i64), (.int .i64), (.int .i64), (.int .i64), (.int .i64), .bool, (.sl [(.int .i64), (.int .i64), (.int .i64), (.int .i64), (.int .i64), (.int .i64), .bool]), (.int .i64), (.int .i64)] d, .sc (.int .i64) n] [.sc (.int .i64)] Q := (pc_26 d n h hn).mono fun _ h => h ▸ ho
/- laws.markEffectS -/
def phi_34 : Nat → List D → List D
  | 44, [d, n] => [.int (n.toI + 7 * d.toL.length), .lst (markedE n.toI d.toL.length)]
  | _, _ => []
theorem pc_34 (d n : D) (h : smallE d) (hn : 0 ≤ n.toI ∧ n.toI ≤ 1073741824) : PC Try.prog 34 [.row [(.int .i64), (.int .i64), (.int .i64), (.int .i64), (.int .i64), (.int .i64), (.int .i64), (.int .i64), (.int .i64), (.int .i64), (.int .i64), (.int .i64), (.int .i64), (.int .i64), (.int .i64), (.int .i64), (.int .i64), (.int .i64), .bool, (.sl [(.int .i64), (.int .i64), (.int .i64), (.int .i64), (.int .i64), (.int .i64), .bool]), (.int .i64), (.int .i64)] d, .sc (.int .i64) n] [.sc (.int .i64)] fun o => o = [.int (endE n.toI d), .lst (markEfs n.toI d d.toL.length)] := by
  refine PC.of_sig mix sig_34 ⟨rfl, rfl, trivial⟩ rfl fun hok => ?_
  have e_d := sl_eta (hok _ (.head _))
  have l_d := sl_len (hok _ (.head _))
  have k_d := sl_all (hok _ (.head _))
  have E_d : ∀ i, i < d.toL.length → D.lst [(d.elem i).fld 0, (d.elem i).fld 1, (d.elem i).fld 2, (d.elem i).fld 3, (d.elem i).fld 4, (d.elem i).fld 5, (d.elem i).fld 6, (d.elem i).fld 7, (d.elem i).fld 8, (d.elem i).fld 9, (d.elem i).fld 10, (d.elem i).fld 11, (d.elem i).fld 12, (d.elem i).fld 13, (d.elem i).fld 14, (d.elem i).fld 15, (d.elem i).fld 16, (d.elem i).fld 17, (d.elem i).fld 18, (d.elem i).fld 19, (d.elem i).fld 20, (d.elem i).fld 21] = d.elem i := fun i hi => by simpa [List.range, List.range.loop] using okL_eta (k_d _ (elem_mem hi))
  have e_n := int_eta (hok _ (.tail _ (.head _)))
  have b_n := int_range (hok _ (.tail _ (.head _)))
  have h1 := h.1
  apply says_den (φ := (phi_34))
  simp [e_d, e_n, E_d, tree_34, T.says, X.den, O1.den, O2.den, O3.den, callD, XArg.ev, XArg.dat, Callee'.num, backs, DArg.back, Conds.den, cloArgs, phi_34, pd_44]
  refine den_for d.toL.length 1 (fun i => [.int (offE n.toI d i), .int i, .lst (markEfs n.toI d i ++ d.toL.drop i)]) (fun _ => True) (by simp) (by simp [X.den, e_n, e_d, markEfs, mkL, offE, sumR]) trivial fun i hi _ => ?_
  apply says_den (φ := (phi_34))
  by_cases hlt : i < d.toL.length
  · have hT : (d.elem i).toL = [(d.elem i).fld 0, (d.elem i).fld 1, (d.elem i).fld 2, (d.elem i).fld 3, (d.elem i).fld 4, (d.elem i).fld 5, (d.elem i).fld 6, (d.elem i).fld 7, (d.elem i).fld 8, (d.elem i).fld 9, (d.elem i).fld 10, (d.elem i).fld 11, (d.elem i).fld 12, (d.elem i).fld 13, (d.elem i).fld 14, (d.elem i).fld 15, (d.elem i).fld 16, (d.elem i).fld 17, (d.elem i).fld 18, (d.elem i).fld 19, (d.elem i).fld 20, (d.elem i).fld 21] := by
      have := E_d i hlt
      rw [← this]; rfl
    have hM : (D.lst (markEfs n.toI d i ++ d.toL.drop i)).elem i = d.elem i := elem_mkL hlt
    have hS : ∀ x, (D.lst (markEfs n.toI d i ++ (d.toL.drop i).set 0 x)).elem i = x := fun x => elem_mkL_set hlt
    have hr := offE_range hn h (i := i) (by omega)
    have h2 := h.2 i hlt
    have hq := offE_succ (n := n.toI) (d := d) (i := i)
    have hin : innerE d i = ((d.elem i).fld 19).toL.length := rfl
    have hw : ∀ m : Int, 0 ≤ m → m ≤ 2000000000000000 → IntKind.i64.wrap m = m := fun m h1 h2 => by rw [IntKind.wrap_i64]; omega
    have wj : ∀ j : Int, 0 ≤ j → j ≤ 100 → IntKind.i64.wrap (offE n.toI d i + j) = offE n.toI d i + j := fun j h1 h2 => hw _ (by omega) (by omega)
    have sj : ∀ j : Int, offE n.toI d i + j + 1 = offE n.toI d i + (j + 1) := fun j => by omega
    have wi := hw (i + 1) (by omega) (by omega)
    have v0 : offE n.toI d i + 19 + 7 * ((d.elem i).fld 19).toL.length + 1 = offE n.toI d i + 20 + 7 * ((d.elem i).fld 19).toL.length := by omega
    have v1 := hw (offE n.toI d i + 20 + 7 * ((d.elem i).fld 19).toL.length) (by omega) (by omega)
    have v2 : offE n.toI d i + 20 + 7 * ((d.elem i).fld 19).toL.length + 1 = offE n.toI d (i + 1) := by omega
    have v3 := hw (offE n.toI d (i + 1)) (by omega) (by omega)
    simp [e_d, e_n, E_d, tree_34, T.says, X.den, O1.den, O2.den, O3.den, callD, XArg.ev, XArg.dat, Callee'.num, backs, DArg.back, Conds.den, cloArgs, phi_34, pd_44, hlt, hM, hT, hS, wj, sj, wi, v0, v1, v2, v3, h2, hr]
    (repeat' (first | (with_reducible apply And.intro) | intro _)) <;> first | omega | (first | assumption | (exact pd_44 _ _ (by first | assumption | omega | (simp; done) | (simp; omega) | (simp [*]; done) | exact smallE_of (n := 1048576) (by omega) (by omega) | (simp [*] at *; omega) | grind [szS]) (by first | assumption | omega | (simp; done) | (simp; omega) | (simp [*]; done) | exact smallE_of (n := 1048576) (by omega) (by omega) | (simp [*] at *; omega) | grind [szS]) _ (by first | rfl | simp | (simp; omega))) | (first | omega | (simp only [IntKind.wrap_i64, maxL] at *; omega) | (simp [IntKind.wrap_i64, maxL] at *; omega)) | rfl | contradiction | grind) | (rw [markEfs, markEfs, ← mkL_step hlt, effMark]; rfl) | skip
  · simp [e_d, e_n, E_d, tree_34, T.says, X.den, O1.den, O2.den, O3.den, callD, XArg.ev, XArg.dat, Callee'.num, backs, DArg.back, Conds.den, cloArgs, phi_34, pd_44, hlt]
    have : i = d.toL.length := by omega
    subst this
    (repeat' (first | (with_reducible apply And.intro) | intro _)) <;> first | omega | (simp [endE]; done) | skip
theorem pd_34 (d n : D) (h : smallE d) (hn : 0 ≤ n.toI ∧ n.toI ≤ 1073741824) (Q : List D → Prop) (ho : Q [.int (endE n.toI d), .lst (markEfs n.toI d d.toL.length)]) : PC Try.prog 34 [.row [(.int .i64), (.int .i64), (.int .i64), (.int .i64), (.int .i64), (.int .i64), (.int .i64), (.int .i64), (.int .i64), (.int .i64), (.int .i64), (.int .i64), (.int .i64), (.int .i64), (.int .i64), (.int .i64), (.int .i64), (.int .i64), .bool, (.sl [(.int .i64), (.int .i64), (.int .i64), (.int .i64), (.int .i64), (.int .i64), .bool]), (.int .i64), (.int .i64)] d, .sc (.int .i64) n] [.sc (.int .i64)] Q := (pc_34 d n h hn).mono fun _ h => h ▸ ho
/- laws.heldEventS -/
theorem pc_45 (d n : D) (h : (d.toL.length : Int) ≤ 1048576) (hn : 0 ≤ n.toI ∧ n.toI ≤ 1125899906842624) (hd : markedE n.toI d.toL.length = d.toL) : PC Try.prog 45 [.sc (.sl [(.int .i64), (.int .i64), (.int .i64), (.int .i64), (.int .i64), (.int .i64), .bool]) d, .sc (.int .i64) n] [.sc (.int .i64)] fun o => o = [.int (n.toI + 7 * d.toL.length)] := by
  refine PC.of_sig mix sig_45 ⟨rfl, rfl, trivial⟩ rfl fun hok => ?_
  have e_d := sl_eta (hok _ (.head _))
  have l_d := sl_len (hok _ (.head _))
  have k_d := sl_all (hok _ (.head _))
  have E_d : ∀ i, i < d.toL.length → D.lst [(d.elem i).fld 0, (d.elem i).fld 1, (d.elem i).fld 2, (d.elem i).fld 3, (d.elem i).fld 4, (d.elem i).fld 5, (d.elem i).fld 6] = d.elem i := fun i hi => by simpa [List.range, List.range.loop] using okL_eta (k_d _ (elem_mem hi))
  have e_n := int_eta (hok _ (.tail _ (.head _)))
  have b_n := int_range (hok _ (.tail _ (.head _)))
  apply says_den (φ := fun _ _ => [])
  simp [e_d, e_n, E_d, tree_45, T.says, X.den, O1.den, O2.den, O3.den, callD, XArg.ev, XArg.dat, Callee'.num, backs, DArg.back, Conds.den, cloArgs] at h ⊢
  refine den_for d.toL.length 1 (fun i => [.int (n.toI + 7 * i), .int i]) (fun _ => True) (by simp) (by simp [X.den, e_n]) trivial fun i hi _ => ?_
  apply says_den (φ := fun _ _ => [])
  by_cases hlt : i < d.toL.length
  · have hE := heldE_at hd hlt
    have hw : ∀ m : Int, 0 ≤ m → m ≤ 2000000000000000 → IntKind.i64.wrap m = m := fun m h1 h2 => by rw [IntKind.wrap_i64]; omega
    have w1 := hw (n.toI + 7 * i + 1) (by omega) (by omega)
    have w2 := hw (n.toI + 7 * i + 2) (by omega) (by omega)
    have w3 := hw (n.toI + 7 * i + 3) (by omega) (by omega)
    have w4 := hw (n.toI + 7 * i + 4) (by omega) (by omega)
    have w5 := hw (n.toI + 7 * i + 5) (by omega) (by omega)
    have w6 := hw (n.toI + 7 * i + 6) (by omega) (by omega)
    have w7 := hw (n.toI + 7 * i + 7) (by omega) (by omega)
    have wi := hw (i + 1) (by omega) (by omega)
    have s2 : n.toI + 7 * (i : Int) + 1 + 1 = n.toI + 7 * i + 2 := by omega
    have s3 : n.toI + 7 * (i : Int) + 2 + 1 = n.toI + 7 * i + 3 := by omega
    have s4 : n.toI + 7 * (i : Int) + 3 + 1 = n.toI + 7 * i + 4 := by omega
    have s5 : n.toI + 7 * (i : Int) + 4 + 1 = n.toI + 7 * i + 5 := by omega
    have s6 : n.toI + 7 * (i : Int) + 5 + 1 = n.toI + 7 * i + 6 := by omega
    have s7 : n.toI + 7 * (i : Int) + 6 + 1 = n.toI + 7 * i + 7 := by omega
    simp [e_d, e_n, E_d, tree_45, T.says, X.den, O1.den, O2.den, O3.den, callD, XArg.ev, XArg.dat, Callee'.num, backs, DArg.back, Conds.den, cloArgs, hlt, hE, evMark, w1, w2, w3, w4, w5, w6, w7, wi, s2, s3, s4, s5, s6, s7]
    (repeat' (first | (with_reducible apply And.intro) | intro _)) <;> first | omega | skip
  · simp [e_d, e_n, E_d, tree_45, T.says, X.den, O1.den, O2.den, O3.den, callD, XArg.ev, XArg.dat, Callee'.num, backs, DArg.back, Conds.den, cloArgs, hlt]
    (repeat' (first | (with_reducible apply And.intro) | intro _)) <;> first | omega | skip
theorem pd_45 (d n : D) (h : (d.toL.length : Int) ≤ 1048576) (hn : 0 ≤ n.toI ∧ n.toI ≤ 1125899906842624) (hd : markedE n.toI d.toL.length = d.toL) (Q : List D → Prop) (ho : Q [.int (n.toI + 7 * d.toL.length)]) : PC Try.prog 45 [.sc (.sl [(.int .i64), (.int .i64), (.int .i64), (.int .i64), (.int .i64), (.int .i64), .bool]) d, .sc (.int .i64) n] [.sc (.int .i64)] Q := (pc_45 d n h hn hd).mono fun _ h => h ▸ ho
/- laws.heldEffectS -/
def phi_35 : Nat → List D → List D
  | 45, [d, n] => [.int (n.toI + 7 * d.toL.length)]
  | _, _ => []
theorem pc_35 (d n : D) (h : smallE d) (hn : 0 ≤ n.toI ∧ n.toI ≤ 1073741824) (hd : markEfs n.toI d d.toL.length = d.toL) : PC Try.prog 35 [.sc (.sl [(.int .i64), (.int .i64), (.int .i64), (.int .i64), (.int .i64), (.int .i64), (.int .i64), (.int .i64), (.int .i64), (.int .i64), (.int .i64), (.int .i64), (.int .i64), (.int .i64), (.int .i64), (.int .i64), (.int .i64), (.int .i64), .bool, (.sl [(.int .i64), (.int .i64), (.int .i64), (.int .i64), (.int .i64), (.int .i64), .bool]), (.int .i64), (.int .i64)]) d, .sc (.int .i64) n] [.sc (.int .i64)] fun o => o = [.int (endE n.toI d)] := by
  refine PC.of_sig mix sig_35 ⟨rfl, rfl, trivial⟩ rfl fun hok => ?_
  have e_d := sl_eta (hok _ (.head _))
  have l_d := sl_len (hok _ (.head _))
  have k_d := sl_all (hok _ (.head _))
  have E_d : ∀ i, i < d.toL.length → D.lst [(d.elem i).fld 0, (d.elem i).fld 1, (d.elem i).fld 2, (d.elem i).fld 3, (d.elem i).fld 4, (d.elem i).fld 5, (d.elem i).fld 6, (d.elem i).fld 7, (d.elem i).fld 8, (d.elem i).fld 9, (d.elem i).fld 10, (d.elem i).fld 11, (d.elem i).fld 12, (d.elem i).fld 13, (d.elem i).fld 14, (d.elem i).fld 15, (d.elem i).fld 16, (d.elem i).fld 17, (d.elem i).fld 18, (d.elem i).fld 19, (d.elem i).fld 20, (d.elem i).fld 21] = d.elem i := fun i hi => by simpa [List.range, List.range.loop] using okL_eta (k_d _ (elem_mem hi))
  have e_n := int_eta (hok _ (.tail _ (.head _)))
  have b_n := int_range (hok _ (.tail _ (.head _)))
  have h1 := h.1
  apply says_den (φ := (phi_35))
  simp [e_d, e_n, E_d, tree_35, T.says, X.den, O1.den, O2.den, O3.den, callD, XArg.ev, XArg.dat, Callee'.num, backs, DArg.back, Conds.den, cloArgs, phi_35, pd_45]
  refine den_for d.toL.length 1 (fun i => [.int (offE n.toI d i), .int i]) (fun _ => True) (by simp) (by simp [X.den, e_n, offE, sumR]) trivial fun i hi _ => ?_
  apply says_den (φ := (phi_35))
  by_cases hlt : i < d.toL.length
  · have hE : d.elem i = effMark (offE n.toI d i) (innerE d i) := mkL_at hd hlt
    have hr := offE_range hn h (i := i) (by omega)
    have h2 := h.2 i hlt
    have hq := offE_succ (n := n.toI) (d := d) (i := i)
    have hin : innerE d i = ((d.elem i).fld 19).toL.length := rfl
    have hw : ∀ m : Int, 0 ≤ m → m ≤ 2000000000000000 → IntKind.i64.wrap m = m := fun m h1 h2 => by rw [IntKind.wrap_i64]; omega
    have wj : ∀ j : Int, 0 ≤ j → j ≤ 100 → IntKind.i64.wrap (offE n.toI d i + j) = offE n.toI d i + j := fun j h1 h2 => hw _ (by omega) (by omega)
    have sj : ∀ j : Int, offE n.toI d i + j + 1 = offE n.toI d i + (j + 1) := fun j => by omega
    have wi := hw (i + 1) (by omega) (by omega)
    have v0 : offE n.toI d i + 19 + 7 * innerE d i + 1 = offE n.toI d i + 20 + 7 * innerE d i := by omega
    have v1 := hw (offE n.toI d i + 20 + 7 * innerE d i) (by omega) (by omega)
    have v2 : offE n.toI d i + 20 + 7 * innerE d i + 1 = offE n.toI d (i + 1) := by omega
    have v3 := hw (offE n.toI d (i + 1)) (by omega) (by omega)
    have v4 : (innerE d i : Int) ≤ 1048576 := by omega
    simp [e_d, e_n, E_d, tree_35, T.says, X.den, O1.den, O2.den, O3.den, callD, XArg.ev, XArg.dat, Callee'.num, backs, DArg.back, Conds.den, cloArgs, phi_35, pd_45, hlt, hE, effMark, wj, sj, wi, v0, v1, v2, v3, v4, hr]
    (repeat' (first | (with_reducible apply And.intro) | intro _)) <;> first | omega | (first | assumption | (exact pd_45 _ _ (by first | assumption | omega | (simp; done) | (simp; omega) | (simp [*]; done) | exact smallE_of (n := 1048576) (by omega) (by omega) | (simp [*] at *; omega) | grind [szS]) (by first | assumption | omega | (simp; done) | (simp; omega) | (simp [*]; done) | exact smallE_of (n := 1048576) (by omega) (by omega) | (simp [*] at *; omega) | grind [szS]) (by first | assumption | omega | (simp; done) | (simp; omega) | (simp [*]; done) | exact smallE_of (n := 1048576) (by omega) (by omega) | (simp [*] at *; omega) | grind [szS]) _ (by first | rfl | simp | (simp; omega))) | (first | omega | (simp only [IntKind.wrap_i64, maxL] at *; omega) | (simp [IntKind.wrap_i64, maxL] at *; omega)) | rfl | contradiction | grind) | skip
  · simp [e_d, e_n, E_d, tree_35, T.says, X.den, O1.den, O2.den, O3.den, callD, XArg.ev, XArg.dat, Callee'.num, backs, DArg.back, Conds.den, cloArgs, phi_35, pd_45, hlt]
    have : i = d.toL.length := by omega
    subst this
    (repeat' (first | (with_reducible apply And.intro) | intro _)) <;> first | omega | (simp [endE]; done) | skip
theorem pd_35 (d n : D) (h : smallE d) (hn : 0 ≤ n.toI ∧ n.toI ≤ 1073741824) (hd : markEfs n.toI d d.toL.length = d.toL) (Q : List D → Prop) (ho : Q [.int (endE n.toI d)]) : PC Try.prog 35 [.sc (.sl [(.int .i64), (.int .i64), (.int .i64), (.int .i64), (.int .i64), (.int .i64), (.int .i64), (.int .i64), (.int .i64), (.int .i64), (.int .i64), (.int .i64), (.int .i64), (.int .i64), (.int .i64), (.int .i64), (.int .i64), (.int .i64), .bool, (.sl [(.int .i64), (.int .i64), (.int .i64), (.int .i64), (.int .i64), (.int .i64), .bool]), (.int .i64), (.int .i64)]) d, .sc (.int .i64) n] [.sc (.int .i64)] Q := (pc_35 d n h hn hd).mono fun _ h => h ▸ ho
/- spec.EffectAt -/
theorem pc_15 (d n : D) : PC Try.prog 15 [.sc (.sl [(.int .i64), (.int .i64), (.int .i64), (.int .i64), (.int .i64), (.int .i64), (.int .i64), (.int .i64), (.int .i64), (.int .i64), (.int .i64), (.int .i64), (.int .i64), (.int .i64), (.int .i64), (.int .i64), (.int .i64), (.int .i64), .bool, (.sl [(.int .i64), (.int .i64), (.int .i64), (.int .i64), (.int .i64), (.int .i64), .bool]), (.int .i64), (.int .i64)]) d, .sc (.int .i64) n] [.sc (.int .i64)] fun o => o = [.int (effAt d n.toI)] := by
  refine PC.of_sig mix sig_15 ⟨rfl, rfl, trivial⟩ rfl fun hok => ?_
  have e_d := sl_eta (hok _ (.head _))
  have l_d := sl_len (hok _ (.head _))
  have k_d := sl_all (hok _ (.head _))
  have E_d : ∀ i, i < d.toL.length → D.lst [(d.elem i).fld 0, (d.elem i).fld 1, (d.elem i).fld 2, (d.elem i).fld 3, (d.elem i).fld 4, (d.elem i).fld 5, (d.elem i).fld 6, (d.elem i).fld 7, (d.elem i).fld 8, (d.elem i).fld 9, (d.elem i).fld 10, (d.elem i).fld 11, (d.elem i).fld 12, (d.elem i).fld 13, (d.elem i).fld 14, (d.elem i).fld 15, (d.elem i).fld 16, (d.elem i).fld 17, (d.elem i).fld 18, (d.elem i).fld 19, (d.elem i).fld 20, (d.elem i).fld 21] = d.elem i := fun i hi => by simpa [List.range, List.range.loop] using okL_eta (k_d _ (elem_mem hi))
  have e_n := int_eta (hok _ (.tail _ (.head _)))
  have b_n := int_range (hok _ (.tail _ (.head _)))
  apply says_den (φ := fun _ _ => [])
  simp [e_d, e_n, E_d, tree_15, T.says, X.den, O1.den, O2.den, O3.den, callD, XArg.ev, XArg.dat, Callee'.num, backs, DArg.back, Conds.den, cloArgs, effAt]
  refine den_for d.toL.length 0 (fun i => [.int i]) (fun i => ∀ j, j < i → (((d.elem j).fld 0).toI == n.toI) = false) (by simp) (by simp [X.den]) (by simp) fun i hi hR => ?_
  apply says_den (φ := fun _ _ => [])
  by_cases hlt : i < d.toL.length
  · simp [e_d, e_n, E_d, tree_15, T.says, X.den, O1.den, O2.den, O3.den, callD, XArg.ev, XArg.dat, Callee'.num, backs, DArg.back, Conds.den, cloArgs, hlt]
    (repeat' (first | (with_reducible apply And.intro) | intro _))
    · exact (findR_some (p := fun i => ((d.elem i).fld 0).toI == n.toI) hlt (by simp_all) hR).symm
    · (first | omega | (simp only [IntKind.wrap_i64, maxL] at *; omega) | (simp [IntKind.wrap_i64, maxL] at *; omega))
    · grind
  · simp [e_d, e_n, E_d, tree_15, T.says, X.den, O1.den, O2.den, O3.den, callD, XArg.ev, XArg.dat, Callee'.num, backs, DArg.back, Conds.den, cloArgs, hlt]
    (repeat' (first | (with_reducible apply And.intro) | intro _))
    · exact (findR_none fun j hj => hR j (by omega)).symm
theorem pd_15 (d n : D) (Q : List D → Prop) (ho : Q [.int (effAt d n.toI)]) : PC Try.prog 15 [.sc (.sl [(.int .i64), (.int .i64), (.int .i64), (.int .i64), (.int .i64), (.int .i64), (.int .i64), (.int .i64), (.int .i64), (.int .i64), (.int .i64), (.int .i64), (.int .i64), (.int .i64), (.int .i64), (.int .i64), (.int .i64), (.int .i64), .bool, (.sl [(.int .i64), (.int .i64), (.int .i64), (.int .i64), (.int .i64), (.int .i64), .bool]), (.int .i64), (.int .i64)]) d, .sc (.int .i64) n] [.sc (.int .i64)] Q := (pc_15 d n).mono fun _ h => h ▸ ho
/- spec.l9Copy -/
theorem pc_119 (a : D) (h : ((a.fld 6).toL.length : Int) ≤ 1048576) : PC Try.prog 119 [.st [(.int .i64), (.int .i64), (.int .i64), (.int .i64), (.int .i64), .bool, (.sl [(.int .i64), (.int .i64), (.int .i64), (.int .i64), (.int .i64), (.int .i64), .bool])] a] [.st [(.int .i64), (.int .i64), (.int .i64), (.int .i64), (.int .i64), .bool, (.sl [(.int .i64), (.int .i64), (.int .i64), (.int .i64), (.int .i64), (.int .i64), .bool])]] fun o => o = [a] := by
  refine PC.of_sig mix sig_119 ⟨rfl, trivial⟩ rfl fun hok => ?_
  have e_a : D.lst [a.fld 0, a.fld 1, a.fld 2, a.fld 3, a.fld 4, a.fld 5, a.fld 6] = a := by simpa [List.range, List.range.loop] using okL_eta (hok _ (.head _))
  have k_a : okL [(.int .i64), (.int .i64), (.int .i64), (.int .i64), (.int .i64), .bool, (.sl [(.int .i64), (.int .i64), (.int .i64), (.int .i64), (.int .i64), (.int .i64), .bool])] a := (hok _ (.head _))
  have e_a_6 : D.lst (a.fld 6).toL = a.fld 6 := sl_eta (okL_at k_a (i := 6) rfl)
  have l_a_6 := sl_len (okL_at k_a (i := 6) rfl)
  have k_a_6 := sl_all (okL_at k_a (i := 6) rfl)
  have E_a_6 : ∀ i, i < (a.fld 6).toL.length → D.lst [((a.fld 6).elem i).fld 0, ((a.fld 6).elem i).fld 1, ((a.fld 6).elem i).fld 2, ((a.fld 6).elem i).fld 3, ((a.fld 6).elem i).fld 4, ((a.fld 6).elem i).fld 5, ((a.fld 6).elem i).fld 6] = (a.fld 6).elem i := fun i hi => by simpa [List.range, List.range.loop] using okL_eta (k_a_6 _ (elem_mem hi))
  apply says_den (φ := fun _ _ => [])
  simp [e_a_6, E_a_6, e_a, tree_119, T.says, X.den, O1.den, O2.den, O3.den, callD, XArg.ev, XArg.dat, Callee'.num, backs, DArg.back, Conds.den, cloArgs]
  all_goals omega
theorem pd_119 (a : D) (h : ((a.fld 6).toL.length : Int) ≤ 1048576) (Q : List D → Prop) (ho : Q [a]) : PC Try.prog 119 [.st [(.int .i64), (.int .i64), (.int .i64), (.int .i64), (.int .i64), .bool, (.sl [(.int .i64), (.int .i64), (.int .i64), (.int .i64), (.int .i64), (.int .i64), .bool])] a] [.st [(.int .i64), (.int .i64), (.int .i64), (.int .i64), (.int .i64), .bool, (.sl [(.int .i64), (.int .i64), (.int .i64), (.int .i64), (.int .i64), (.int .i64), .bool])]] Q := (pc_119 a h).mono fun _ h => h ▸ ho
/- spec.l10Copy -/
def phi_59 : Nat → List D → List D
  | 119, [a] => [a]
  | _, _ => []
theorem pc_59 (e : D) (h : ((e.fld 19).toL.length : Int) ≤ 1048576) : PC Try.prog 59 [.st [(.int .i64), (.int .i64), (.int .i64), (.int .i64), (.int .i64), (.int .i64), (.int .i64), (.int .i64), (.int .i64), (.int .i64), (.int .i64), (.int .i64), (.int .i64), (.int .i64), (.int .i64), (.int .i64), (.int .i64), (.int .i64), .bool, (.sl [(.int .i64), (.int .i64), (.int .i64), (.int .i64), (.int .i64), (.int .i64), .bool]), (.int .i64), (.int .i64)] e] [.st [(.int .i64), (.int .i64), (.int .i64), (.int .i64), (.int .i64), (.int .i64), (.int .i64), (.int .i64), (.int .i64), (.int .i64), (.int .i64), (.int .i64), (.int .i64), (.int .i64), (.int .i64), (.int .i64), (.int .i64), (.int .i64), .bool, (.sl [(.int .i64), (.int .i64), (.int .i64), (.int .i64), (.int .i64), (.int .i64), .bool]), (.int .i64), (.int .i64)]] fun o => o = [e] := by
  refine PC.of_sig mix sig_59 ⟨rfl, trivial⟩ rfl fun hok => ?_
  have e_e : D.lst [e.fld 0, e.fld 1, e.fld 2, e.fld 3, e.fld 4, e.fld 5, e.fld 6, e.fld 7, e.fld 8, e.fld 9, e.fld 10, e.fld 11, e.fld 12, e.fld 13, e.fld 14, e.fld 15, e.fld 16, e.fld 17, e.fld 18, e.fld 19, e.fld 20, e.fld 21] = e := by simpa [List.range, List.range.loop] using okL_eta (hok _ (.head _))
  have k_e : okL [(.int .i64), (.int .i64), (.int .i64), (.int .i64), (.int .i64), (.int .i64), (.int .i64), (.int .i64), (.int .i64), (.int .i64), (.int .i64), (.int .i64), (.int .i64), (.int .i64), (.int .i64), (.int .i64), (.int .i64), (.int .i64), .bool, (.sl [(.int .i64), (.int .i64), (.int .i64), (.int .i64), (.int .i64), (.int .i64), .bool]), (.int .i64), (.int .i64)] e := (hok _ (.head _))
  have e_e_19 : D.lst (e.fld 19).toL = e.fld 19 := sl_eta (okL_at k_e (i := 19) rfl)
  have l_e_19 := sl_len (okL_at k_e (i := 19) rfl)
  have k_e_19 := sl_all (okL_at k_e (i := 19) rfl)
  have E_e_19 : ∀ i, i < (e.fld 19).toL.length → D.lst [((e.fld 19).elem i).fld 0, ((e.fld 19).elem i).fld 1, ((e.fld 19).elem i).fld 2, ((e.fld 19).elem i).fld 3, ((e.fld 19).elem i).fld 4, ((e.fld 19).elem i).fld 5, ((e.fld 19).elem i).fld 6] = (e.fld 19).elem i := fun i hi => by simpa [List.range, List.range.loop] using okL_eta (k_e_19 _ (elem_mem hi))
  apply says_den (φ := (phi_59))
  simp [e_e_19, E_e_19, e_e, tree_59, T.says, X.den, O1.den, O2.den, O3.den, callD, XArg.ev, XArg.dat, Callee'.num, backs, DArg.back, Conds.den, cloArgs, phi_59, pd_119, h]
theorem pd_59 (e : D) (h : ((e.fld 19).toL.length : Int) ≤ 1048576) (Q : List D → Prop) (ho : Q [e]) : PC Try.prog 59 [.st [(.int .i64), (.int .i64), (.int .i64), (.int .i64), (.int .i64), (.int .i64), (.int .i64), (.int .i64), (.int .i64), (.int .i64), (.int .i64), (.int .i64), (.int .i64), (.int .i64), (.int .i64), (.int .i64), (.int .i64), (.int .i64), .bool, (.sl [(.int .i64), (.int .i64), (.int .i64), (.int .i64), (.int .i64), (.int .i64), .bool]), (.int .i64), (.int .i64)] e] [.st [(.int .i64), (.int .i64), (.int .i64), (.int .i64), (.int .i64), (.int .i64), (.int .i64), (.int .i64), (.int .i64), (.int .i64), (.int .i64), (.int .i64), (.int .i64), (.int .i64), (.int .i64), (.int .i64), (.int .i64), (.int .i64), .bool, (.sl [(.int .i64), (.int .i64), (.int .i64), (.int .i64), (.int .i64), (.int .i64), .bool]), (.int .i64), (.int .i64)]] Q := (pc_59 e h).mono fun _ h => h ▸ ho
/- spec.l11Copy -/
def phi_90 : Nat → List D → List D
  | 59, [e] => [e]
  | _, _ => []
theorem pc_90 (d : D) (h : smallE d) : PC Try.prog 90 [.sc (.sl [(.int .i64), (.int .i64), (.int .i64), (.int .i64), (.int .i64), (.int .i64), (.int .i64), (.int .i64), (.int .i64), (.int .i64), (.int .i64), (.int .i64), (.int .i64), (.int .i64), (.int .i64), (.int .i64), (.int .i64), (.int .i64), .bool, (.sl [(.int .i64), (.int .i64), (.int .i64), (.int .i64), (.int .i64), (.int .i64), .bool]), (.int .i64), (.int .i64)]) d] [.sc (.sl [(.int .i64), (.int .i64), (.int .i64), (.int .i64), (.int .i64), (.int .i64), (.int .i64), (.int .i64), (.int .i64), (.int .i64), (.int .i64), (.int .i64), (.int .i64), (.int .i64), (.int .i64), (.int .i64), (.int .i64), (.int .i64), .bool, (.sl [(.int .i64), (.int .i64), (.int .i64), (.int .i64), (.int .i64), (.int .i64), .bool]), (.int .i64), (.int .i64)])] fun o => o = [d] := by
  refine PC.of_sig mix sig_90 ⟨rfl, trivial⟩ rfl fun hok => ?_
  have e_d := sl_eta (hok _ (.head _))
  have l_d := sl_len (hok _ (.head _))
  have k_d := sl_all (hok _ (.head _))
  have E_d : ∀ i, i < d.toL.length → D.lst [(d.elem i).fld 0, (d.elem i).fld 1, (d.elem i).fld 2, (d.elem i).fld 3, (d.elem i).fld 4, (d.elem i).fld 5, (d.elem i).fld 6, (d.elem i).fld 7, (d.elem i).fld 8, (d.elem i).fld 9, (d.elem i).fld 10, (d.elem i).fld 11, (d.elem i).fld 12, (d.elem i).fld 13, (d.elem i).fld 14, (d.elem i).fld 15, (d.elem i).fld 16, (d.elem i).fld 17, (d.elem i).fld 18, (d.elem i).fld 19, (d.elem i).fld 20, (d.elem i).fld 21] = d.elem i := fun i hi => by simpa [List.range, List.range.loop] using okL_eta (k_d _ (elem_mem hi))
  have h1 := h.1
  apply says_den (φ := (phi_90))
  simp [e_d, E_d, tree_90, T.says, X.den, O1.den, O2.den, O3.den, callD, XArg.ev, XArg.dat, Callee'.num, backs, DArg.back, Conds.den, cloArgs, phi_90, pd_59]
  refine den_for d.toL.length 0 (fun i => [.int i, .lst (d.toL.take i)]) (fun _ => True) (by simp) (by simp [X.den]) trivial fun i hi _ => ?_
  apply says_den (φ := (phi_90))
  by_cases hlt : i < d.toL.length
  · have h2 := h.2 i hlt
    simp [e_d, E_d, tree_90, T.says, X.den, O1.den, O2.den, O3.den, callD, XArg.ev, XArg.dat, Callee'.num, backs, DArg.back, Conds.den, cloArgs, phi_90, pd_59, hlt, h2, take_elem hlt]
    (repeat' (first | (with_reducible apply And.intro) | intro _)) <;> first | omega | (first | omega | (simp only [IntKind.wrap_i64, maxL] at *; omega) | (simp [IntKind.wrap_i64, maxL] at *; omega)) | (first | assumption | (exact pd_59 _ (by first | assumption | omega | (simp; done) | (simp; omega) | (simp [*]; done) | exact smallE_of (n := 1048576) (by omega) (by omega) | (simp [*] at *; omega) | grind [szS]) _ (by first | rfl | simp | (simp; omega))) | (first | omega | (simp only [IntKind.wrap_i64, maxL] at *; omega) | (simp [IntKind.wrap_i64, maxL] at *; omega)) | rfl | contradiction | grind) | skip
  · simp [e_d, E_d, tree_90, T.says, X.den, O1.den, O2.den, O3.den, callD, XArg.ev, XArg.dat, Callee'.num, backs, DArg.back, Conds.den, cloArgs, phi_90, pd_59, hlt]
    (repeat' (first | (with_reducible apply And.intro) | intro _)) <;> first | omega | (rw [List.take_of_length_le (by omega), e_d]) | skip
theorem pd_90 (d : D) (h : smallE d) (Q : List D → Prop) (ho : Q [d]) : PC Try.prog 90 [.sc (.sl [(.int .i64), (.int .i64), (.int .i64), (.int .i64), (.int .i64), (.int .i64), (.int .i64), (.int .i64), (.int .i64), (.int .i64), (.int .i64), (.int .i64), (.int .i64), (.int .i64), (.int .i64), (.int .i64), (.int .i64), (.int .i64), .bool, (.sl [(.int .i64), (.int .i64), (.int .i64), (.int .i64), (.int .i64), (.int .i64), .bool]), (.int .i64), (.int .i64)]) d] [.sc (.sl [(.int .i64), (.int .i64), (.int .i64), (.int .i64), (.int .i64), (.int .i64), (.int .i64), (.int .i64), (.int .i64), (.int .i64), (.int .i64), (.int .i64), (.int .i64), (.int .i64), (.int .i64), (.int .i64), (.int .i64), (.int .i64), .bool, (.sl [(.int .i64), (.int .i64), (.int .i64), (.int .i64), (.int .i64), (.int .i64), .bool]), (.int .i64), (.int .i64)])] Q := (pc_90 d h).mono fun _ h => h ▸ ho
/- spec.Update -/
def phi_36 : Nat → List D → List D
  | 15, [d, n] => [.int (effAt d n.toI)]
  | 59, [e] => [e]
  | 90, [d] => [d]
  | _, _ => []
theorem pc_36 (a b : D) (h : smallE a) (hb : ((b.fld 19).toL.length : Int) ≤ 1048576) : PC Try.prog 36 [.sc (.sl [(.int .i64), (.int .i64), (.int .i64), (.int .i64), (.int .i64), (.int .i64), (.int .i64), (.int .i64), (.int .i64), (.int .i64), (.int .i64), (.int .i64), (.int .i64), (.int .i64), (.int .i64), (.int .i64), (.int .i64), (.int .i64), .bool, (.sl [(.int .i64), (.int .i64), (.int .i64), (.int .i64), (.int .i64), (.int .i64), .bool]), (.int .i64), (.int .i64)]) a, .st [(.int .i64), (.int .i64), (.int .i64), (.int .i64), (.int .i64), (.int .i64), (.int .i64), (.int .i64), (.int .i64), (.int .i64), (.int .i64), (.int .i64), (.int .i64), (.int .i64), (.int .i64), (.int .i64), (.int .i64), (.int .i64), .bool, (.sl [(.int .i64), (.int .i64), (.int .i64), (.int .i64), (.int .i64), (.int .i64), .bool]), (.int .i64), (.int .i64)] b] [.sc (.sl [(.int .i64), (.int .i64), (.int .i64), (.int .i64), (.int .i64), (.int .i64), (.int .i64), (.int .i64), (.int .i64), (.int .i64), (.int .i64), (.int .i64), (.int .i64), (.int .i64), (.int .i64), (.int .i64), (.int .i64), (.int .i64), .bool, (.sl [(.int .i64), (.int .i64), (.int .i64), (.int .i64), (.int .i64), (.int .i64), .bool]), (.int .i64), (.int .i64)])] fun o => o = [updT a b] := by
  refine PC.of_sig mix sig_36 ⟨rfl, rfl, trivial⟩ rfl fun hok => ?_
  have e_a := sl_eta (hok _ (.head _))
  have l_a := sl_len (hok _ (.head _))
  have k_a := sl_all (hok _ (.head _))
  have E_a : ∀ i, i < a.toL.length → D.lst [(a.elem i).fld 0, (a.elem i).fld 1, (a.elem i).fld 2, (a.elem i).fld 3, (a.elem i).fld 4, (a.elem i).fld 5, (a.elem i).fld 6, (a.elem i).fld 7, (a.elem i).fld 8, (a.elem i).fld 9, (a.elem i).fld 10, (a.elem i).fld 11, (a.elem i).fld 12, (a.elem i).fld 13, (a.elem i).fld 14, (a.elem i).fld 15, (a.elem i).fld 16, (a.elem i).fld 17, (a.elem i).fld 18, (a.elem i).fld 19, (a.elem i).fld 20, (a.elem i).fld 21] = a.elem i := fun i hi => by simpa [List.range, List.range.loop] using okL_eta (k_a _ (elem_mem hi))
  have e_b : D.lst [b.fld 0, b.fld 1, b.fld 2, b.fld 3, b.fld 4, b.fld 5, b.fld 6, b.fld 7, b.fld 8, b.fld 9, b.fld 10, b.fld 11, b.fld 12, b.fld 13, b.fld 14, b.fld 15, b.fld 16, b.fld 17, b.fld 18, b.fld 19, b.fld 20, b.fld 21] = b := by simpa [List.range, List.range.loop] using okL_eta (hok _ (.tail _ (.head _)))
  have k_b : okL [(.int .i64), (.int .i64), (.int .i64), (.int .i64), (.int .i64), (.int .i64), (.int .i64), (.int .i64), (.int .i64), (.int .i64), (.int .i64), (.int .i64), (.int .i64), (.int .i64), (.int .i64), (.int .i64), (.int .i64), (.int .i64), .bool, (.sl [(.int .i64), (.int .i64), (.int .i64), (.int .i64), (.int .i64), (.int .i64), .bool]), (.int .i64), (.int .i64)] b := (hok _ (.tail _ (.head _)))
  have e_b_19 : D.lst (b.fld 19).toL = b.fld 19 := sl_eta (okL_at k_b (i := 19) rfl)
  have l_b_19 := sl_len (okL_at k_b (i := 19) rfl)
  have k_b_19 := sl_all (okL_at k_b (i := 19) rfl)
  have E_b_19 : ∀ i, i < (b.fld 19).toL.length → D.lst [((b.fld 19).elem i).fld 0, ((b.fld 19).elem i).fld 1, ((b.fld 19).elem i).fld 2, ((b.fld 19).elem i).fld 3, ((b.fld 19).elem i).fld 4, ((b.fld 19).elem i).fld 5, ((b.fld 19).elem i).fld 6] = (b.fld 19).elem i := fun i hi => by simpa [List.range, List.range.loop] using okL_eta (k_b_19 _ (elem_mem hi))
  apply says_den (φ := (phi_36))
  have hr := effAt_range a (b.fld 0).toI
  simp [e_b_19, E_b_19, e_a, e_b, E_a, tree_36, T.says, X.den, O1.den, O2.den, O3.den, callD, XArg.ev, XArg.dat, Callee'.num, backs, DArg.back, Conds.den, cloArgs, phi_36, pd_15, pd_59, pd_90, h, hb, updT]
  (repeat' (first | (with_reducible apply And.intro) | intro _)) <;> first | omega | (rw [if_pos (by omega)]) | (rw [if_neg (by omega)]) | (first | assumption | (exact pd_15 _ _ _ (by first | rfl | simp | (simp; omega))) | (exact pd_59 _ (by first | assumption | omega | (simp; done) | (simp; omega) | (simp [*]; done) | exact smallE_of (n := 1048576) (by omega) (by omega) | (simp [*] at *; omega) | grind [szS]) _ (by first | rfl | simp | (simp; omega))) | (exact pd_90 _ (by first | assumption | omega | (simp; done) | (simp; omega) | (simp [*]; done) | exact smallE_of (n := 1048576) (by omega) (by omega) | (simp [*] at *; omega) | grind [szS]) _ (by first | rfl | simp | (simp; omega))) | (first | omega | (simp only [IntKind.wrap_i64, maxL] at *; omega) | (simp [IntKind.wrap_i64, maxL] at *; omega)) | rfl | contradiction | grind) | skip
theorem pd_36 (a b : D) (h : smallE a) (hb : ((b.fld 19).toL.length : Int) ≤ 1048576) (Q : List D → Prop) (ho : Q [updT a b]) : PC Try.prog 36 [.sc (.sl [(.int .i64), (.int .i64), (.int .i64), (.int .i64), (.int .i64), (.int .i64), (.int .i64), (.int .i64), (.int .i64), (.int .i64), (.int .i64), (.int .i64), (.int .i64), (.int .i64), (.int .i64), (.int .i64), (.int .i64), (.int .i64), .bool, (.sl [(.int .i64), (.int .i64), (.int .i64), (.int .i64), (.int .i64), (.int .i64), .bool]), (.int .i64), (.int .i64)]) a, .st [(.int .i64), (.int .i64), (.int .i64), (.int .i64), (.int .i64), (.int .i64), (.int .i64), (.int .i64), (.int .i64), (.int .i64), (.int .i64), (.int .i64), (.int .i64), (.int .i64), (.int .i64), (.int .i64), (.int .i64), (.int .i64), .bool, (.sl [(.int .i64), (.int .i64), (.int .i64), (.int .i64), (.int .i64), (.int .i64), .bool]), (.int .i64), (.int .i64)] b] [.sc (.sl [(.int .i64), (.int .i64), (.int .i64), (.int .i64), (.int .i64), (.int .i64), (.int .i64), (.int .i64), (.int .i64), (.int .i64), (.int .i64), (.int .i64), (.int .i64), (.int .i64), (.int .i64), (.int .i64), (.int .i64), (.int .i64), .bool, (.sl [(.int .i64), (.int .i64), (.int .i64), (.int .i64), (.int .i64), (.int .i64), .bool]), (.int .i64), (.int .i64)])] Q := (pc_36 a b h hb).mono fun _ h => h ▸ ho
/- impl.EffectAt$1 -/
theorem pc_54 (e c : D) : PC Try.prog 54 [.st [(.int .i64), (.int .i64), (.int .i64), (.int .i64), (.int .i64), (.int .i64), (.int .i64), (.int .i64), (.int .i64), (.int .i64), (.int .i64), (.int .i64), (.int .i64), (.int .i64), (.int .i64), (.int .i64), (.int .i64), (.int .i64), .bool, (.sl [(.int .i64), (.int .i64), (.int .i64), (.int .i64), (.int .i64), (.int .i64), .bool]), (.int .i64), (.int .i64)] e, .bx [(.int .i64)] c] [.sc .bool] fun o => o = [.bool ((e.fld 0).toI == (c.fld 0).toI)] := by
  refine PC.of_sigC («as» := [.st [(.int .i64), (.int .i64), (.int .i64), (.int .i64), (.int .i64), (.int .i64), (.int .i64), (.int .i64), (.int .i64), (.int .i64), (.int .i64), (.int .i64), (.int .i64), (.int .i64), (.int .i64), (.int .i64), (.int .i64), (.int .i64), .bool, (.sl [(.int .i64), (.int .i64), (.int .i64), (.int .i64), (.int .i64), (.int .i64), .bool]), (.int .i64), (.int .i64)] e]) [([(.int .i64)], c)] mix sig_54 ⟨rfl, trivial⟩ rfl fun hok => ?_
  have e_e : D.lst [e.fld 0, e.fld 1, e.fld 2, e.fld 3, e.fld 4, e.fld 5, e.fld 6, e.fld 7, e.fld 8, e.fld 9, e.fld 10, e.fld 11, e.fld 12, e.fld 13, e.fld 14, e.fld 15, e.fld 16, e.fld 17, e.fld 18, e.fld 19, e.fld 20, e.fld 21] = e := by simpa [List.range, List.range.loop] using okL_eta (hok _ (.head _))
  have k_e : okL [(.int .i64), (.int .i64), (.int .i64), (.int .i64), (.int .i64), (.int .i64), (.int .i64), (.int .i64), (.int .i64), (.int .i64), (.int .i64), (.int .i64), (.int .i64), (.int .i64), (.int .i64), (.int .i64), (.int .i64), (.int .i64), .bool, (.sl [(.int .i64), (.int .i64), (.int .i64), (.int .i64), (.int .i64), (.int .i64), .bool]), (.int .i64), (.int .i64)] e := (hok _ (.head _))
  have e_e_19 : D.lst (e.fld 19).toL = e.fld 19 := sl_eta (okL_at k_e (i := 19) rfl)
  have l_e_19 := sl_len (okL_at k_e (i := 19) rfl)
  have k_e_19 := sl_all (okL_at k_e (i := 19) rfl)
  have E_e_19 : ∀ i, i < (e.fld 19).toL.length → D.lst [((e.fld 19).elem i).fld 0, ((e.fld 19).elem i).fld 1, ((e.fld 19).elem i).fld 2, ((e.fld 19).elem i).fld 3, ((e.fld 19).elem i).fld 4, ((e.fld 19).elem i).fld 5, ((e.fld 19).elem i).fld 6] = (e.fld 19).elem i := fun i hi => by simpa [List.range, List.range.loop] using okL_eta (k_e_19 _ (elem_mem hi))
  apply says_den (φ := fun _ _ => [])
  simp [e_e_19, E_e_19, e_e, tree_54, T.says, X.den, O1.den, O2.den, O3.den, callD, XArg.ev, XArg.dat, Callee'.num, backs, DArg.back, Conds.den, cloArgs]
theorem pd_54 (e c : D) (Q : List D → Prop) (ho : Q [.bool ((e.fld 0).toI == (c.fld 0).toI)]) : PC Try.prog 54 [.st [(.int .i64), (.int .i64), (.int .i64), (.int .i64), (.int .i64), (.int .i64), (.int .i64), (.int .i64), (.int .i64), (.int .i64), (.int .i64), (.int .i64), (.int .i64), (.int .i64), (.int .i64), (.int .i64), (.int .i64), (.int .i64), .bool, (.sl [(.int .i64), (.int .i64), (.int .i64), (.int .i64), (.int .i64), (.int .i64), .bool]), (.int .i64), (.int .i64)] e, .bx [(.int .i64)] c] [.sc .bool] Q := (pc_54 e c).mono fun _ h => h ▸ ho
/- slices.IndexFunc[[]impl.Effect,impl.Effect] -/
def phi_53 (a c : D) : Nat → List D → List D
  | 54, [e, c] => [.bool ((e.fld 0).toI == (c.fld 0).toI)]
  | 0, [e] => [.bool ((e.fld 0).toI == (c.fld 0).toI)]
  | _, _ => []
theorem pc_53 (a c : D) : PC Try.prog 53 [.sc (.sl [(.int .i64), (.int .i64), (.int .i64), (.int .i64), (.int .i64), (.int .i64), (.int .i64), (.int .i64), (.int .i64), (.int .i64), (.int .i64), (.int .i64), (.int .i64), (.int .i64), (.int .i64), (.int .i64), (.int .i64), (.int .i64), .bool, (.sl [(.int .i64), (.int .i64), (.int .i64), (.int .i64), (.int .i64), (.int .i64), .bool]), (.int .i64), (.int .i64)]) a, .clo 54 [([(.int .i64)], c)]] [.sc (.int .i64)] fun o => o = [.int (findR (fun i => ((a.elem i).fld 0).toI == (c.fld 0).toI) a.toL.length)] := by
  refine PC.of_sig mix sig_53 ⟨rfl, trivial, trivial⟩ rfl fun hok => ?_
  have e_a := sl_eta (hok _ (.head _))
  have l_a := sl_len (hok _ (.head _))
  have k_a := sl_all (hok _ (.head _))
  have E_a : ∀ i, i < a.toL.length → D.lst [(a.elem i).fld 0, (a.elem i).fld 1, (a.elem i).fld 2, (a.elem i).fld 3, (a.elem i).fld 4, (a.elem i).fld 5, (a.elem i).fld 6, (a.elem i).fld 7, (a.elem i).fld 8, (a.elem i).fld 9, (a.elem i).fld 10, (a.elem i).fld 11, (a.elem i).fld 12, (a.elem i).fld 13, (a.elem i).fld 14, (a.elem i).fld 15, (a.elem i).fld 16, (a.elem i).fld 17, (a.elem i).fld 18, (a.elem i).fld 19, (a.elem i).fld 20, (a.elem i).fld 21] = a.elem i := fun i hi => by simpa [List.range, List.range.loop] using okL_eta (k_a _ (elem_mem hi))
  apply says_den (φ := (phi_53 a c))
  simp [e_a, E_a, tree_53, T.says, X.den, O1.den, O2.den, O3.den, callD, XArg.ev, XArg.dat, Callee'.num, backs, DArg.back, Conds.den, cloArgs, phi_53, pd_54]
  refine fun _ => ?_
  refine den_for a.toL.length 0 (fun i => [.int i]) (fun i => ∀ j, j < i → (((a.elem j).fld 0).toI == (c.fld 0).toI) = false) (by simp) (by simp [X.den]) (by simp) fun i hi hR => ?_
  apply says_den (φ := (phi_53 a c))
  by_cases hlt : i < a.toL.length
  · simp [e_a, E_a, tree_53, T.says, X.den, O1.den, O2.den, O3.den, callD, XArg.ev, XArg.dat, Callee'.num, backs, DArg.back, Conds.den, cloArgs, phi_53, pd_54, hlt]
    (repeat' (first | (with_reducible apply And.intro) | intro _))
    · exact (findR_some (p := fun i => ((a.elem i).fld 0).toI == (c.fld 0).toI) hlt (by simp_all) hR).symm
    · (first | omega | (simp only [IntKind.wrap_i64, maxL] at *; omega) | (simp [IntKind.wrap_i64, maxL] at *; omega))
    · grind
  · simp [e_a, E_a, tree_53, T.says, X.den, O1.den, O2.den, O3.den, callD, XArg.ev, XArg.dat, Callee'.num, backs, DArg.back, Conds.den, cloArgs, phi_53, pd_54, hlt]
    (repeat' (first | (with_reducible apply And.intro) | intro _))
    · exact (findR_none fun j hj => hR j (by omega)).symm
theorem pd_53 (a c : D) (Q : List D → Prop) (ho : Q [.int (findR (fun i => ((a.elem i).fld 0).toI == (c.fld 0).toI) a.toL.length)]) : PC Try.prog 53 [.sc (.sl [(.int .i64), (.int .i64), (.int .i64), (.int .i64), (.int .i64), (.int .i64), (.int .i64), (.int .i64), (.int .i64), (.int .i64), (.int .i64), (.int .i64), (.int .i64), (.int .i64), (.int .i64), (.int .i64), (.int .i64), (.int .i64), .bool, (.sl [(.int .i64), (.int .i64), (.int .i64), (.int .i64), (.int .i64), (.int .i64), .bool]), (.int .i64), (.int .i64)]) a, .clo 54 [([(.int .i64)], c)]] [.sc (.int .i64)] Q := (pc_53 a c).mono fun _ h => h ▸ ho
/- impl.EffectAt -/
def phi_17 (d n : D) : Nat → List D → List D
  | 53, [a, _] => [.int (findR (fun i => ((a.elem i).fld 0).toI == n.toI) a.toL.length)]
  | 54, [e, c] => [.bool ((e.fld 0).toI == (c.fld 0).toI)]
  | _, _ => []
theorem pc_17 (d n : D) : PC Try.prog 17 [.sc (.sl [(.int .i64), (.int .i64), (.int .i64), (.int .i64), (.int .i64), (.int .i64), (.int .i64), (.int .i64), (.int .i64), (.int .i64), (.int .i64), (.int .i64), (.int .i64), (.int .i64), (.int .i64), (.int .i64), (.int .i64), (.int .i64), .bool, (.sl [(.int .i64), (.int .i64), (.int .i64), (.int .i64), (.int .i64), (.int .i64), .bool]), (.int .i64), (.int .i64)]) d, .sc (.int .i64) n] [.sc (.int .i64)] fun o => o = [.int (effAt d n.toI)] := by
  refine PC.of_sig mix sig_17 ⟨rfl, rfl, trivial⟩ rfl fun hok => ?_
  have e_d := sl_eta (hok _ (.head _))
  have l_d := sl_len (hok _ (.head _))
  have k_d := sl_all (hok _ (.head _))
  have E_d : ∀ i, i < d.toL.length → D.lst [(d.elem i).fld 0, (d.elem i).fld 1, (d.elem i).fld 2, (d.elem i).fld 3, (d.elem i).fld 4, (d.elem i).fld 5, (d.elem i).fld 6, (d.elem i).fld 7, (d.elem i).fld 8, (d.elem i).fld 9, (d.elem i).fld 10, (d.elem i).fld 11, (d.elem i).fld 12, (d.elem i).fld 13, (d.elem i).fld 14, (d.elem i).fld 15, (d.elem i).fld 16, (d.elem i).fld 17, (d.elem i).fld 18, (d.elem i).fld 19, (d.elem i).fld 20, (d.elem i).fld 21] = d.elem i := fun i hi => by simpa [List.range, List.range.loop] using okL_eta (k_d _ (elem_mem hi))
  have e_n := int_eta (hok _ (.tail _ (.head _)))
  have b_n := int_range (hok _ (.tail _ (.head _)))
  apply says_den (φ := (phi_17 d n))
  simp [e_d, e_n, E_d, tree_17, T.says, X.den, O1.den, O2.den, O3.den, callD, XArg.ev, XArg.dat, Callee'.num, backs, DArg.back, Conds.den, cloArgs, phi_17, pd_53, pd_54, effAt]
theorem pd_17 (d n : D) (Q : List D → Prop) (ho : Q [.int (effAt d n.toI)]) : PC Try.prog 17 [.sc (.sl [(.int .i64), (.int .i64), (.int .i64), (.int .i64), (.int .i64), (.int .i64), (.int .i64), (.int .i64), (.int .i64), (.int .i64), (.int .i64), (.int .i64), (.int .i64), (.int .i64), (.int .i64), (.int .i64), (.int .i64), (.int .i64), .bool, (.sl [(.int .i64), (.int .i64), (.int .i64), (.int .i64), (.int .i64), (.int .i64), .bool]), (.int .i64), (.int .i64)]) d, .sc (.int .i64) n] [.sc (.int .i64)] Q := (pc_17 d n).mono fun _ h => h ▸ ho
/- slices.Clone[[]impl.Event,impl.Event] -/
theorem pc_122 (d : D) (h : (d.toL.length : Int) ≤ 1048576) : PC Try.prog 122 [.sc (.sl [(.int .i64), (.int .i64), (.int .i64), (.int .i64), (.int .i64), (.int .i64), .bool]) d] [.sc (.sl [(.int .i64), (.int .i64), (.int .i64), (.int .i64), (.int .i64), (.int .i64), .bool])] fun o => o = [d] := by
  refine PC.of_sig mix sig_122 ⟨rfl, trivial⟩ rfl fun hok => ?_
  have e_d := sl_eta (hok _ (.head _))
  have l_d := sl_len (hok _ (.head _))
  have k_d := sl_all (hok _ (.head _))
  have E_d : ∀ i, i < d.toL.length → D.lst [(d.elem i).fld 0, (d.elem i).fld 1, (d.elem i).fld 2, (d.elem i).fld 3, (d.elem i).fld 4, (d.elem i).fld 5, (d.elem i).fld 6] = d.elem i := fun i hi => by simpa [List.range, List.range.loop] using okL_eta (k_d _ (elem_mem hi))
  apply says_den (φ := fun _ _ => [])
  simp [e_d, E_d, tree_122, T.says, X.den, O1.den, O2.den, O3.den, callD, XArg.ev, XArg.dat, Callee'.num, backs, DArg.back, Conds.den, cloArgs] at h ⊢
  (repeat' (first | (with_reducible apply And.intro) | intro _))
  · omega
  · have e0 := e_d; rw [‹d.toL = []›] at e0; exact e0
theorem pd_122 (d : D) (h : (d.toL.length : Int) ≤ 1048576) (Q : List D → Prop) (ho : Q [d]) : PC Try.prog 122 [.sc (.sl [(.int .i64), (.int .i64), (.int .i64), (.int .i64), (.int .i64), (.int .i64), .bool]) d] [.sc (.sl [(.int .i64), (.int .i64), (.int .i64), (.int .i64), (.int .i64), (.int .i64), .bool])] Q := (pc_122 d h).mono fun _ h => h ▸ ho
/- impl.copyEffect -/
def phi_65 : Nat → List D → List D
  | 122, [d] => [d]
  | _, _ => []
theorem pc_65 (e : D) (h : ((e.fld 19).toL.length : Int) ≤ 1048576) : PC Try.prog 65 [.st [(.int .i64), (.int .i64), (.int .i64), (.int .i64), (.int .i64), (.int .i64), (.int .i64), (.int .i64), (.int .i64), (.int .i64), (.int .i64), (.int .i64), (.int .i64), (.int .i64), (.int .i64), (.int .i64), (.int .i64), (.int .i64), .bool, (.sl [(.int .i64), (.int .i64), (.int .i64), (.int .i64), (.int .i64), (.int .i64), .bool]), (.int .i64), (.int .i64)] e] [.st [(.int .i64), (.int .i64), (.int .i64), (.int .i64), (.int .i64), (.int .i64), (.int .i64), (.int .i64), (.int .i64), (.int .i64), (.int .i64), (.int .i64), (.int .i64), (.int .i64), (.int .i64), (.int .i64), (.int .i64), (.int .i64), .bool, (.sl [(.int .i64), (.int .i64), (.int .i64), (.int .i64), (.int .i64), (.int .i64), .bool]), (.int .i64), (.int .i64)]] fun o => o = [e] := by
  refine PC.of_sig mix sig_65 ⟨rfl, trivial⟩ rfl fun hok => ?_
  have e_e : D.lst [e.fld 0, e.fld 1, e.fld 2, e.fld 3, e.fld 4, e.fld 5, e.fld 6, e.fld 7, e.fld 8, e.fld 9, e.fld 10, e.fld 11, e.fld 12, e.fld 13, e.fld 14, e.fld 15, e.fld 16, e.fld 17, e.fld 18, e.fld 19, e.fld 20, e.fld 21] = e := by simpa [List.range, List.range.loop] using okL_eta (hok _ (.head _))
  have k_e : okL [(.int .i64), (.int .i64), (.int .i64), (.int .i64), (.int .i64), (.int .i64), (.int .i64), (.int .i64), (.int .i64), (.int .i64), (.int .i64), (.int .i64), (.int .i64), (.int .i64), (.int .i64), (.int .i64), (.int .i64), (.int .i64), .bool, (.sl [(.int .i64), (.int .i64), (.int .i64), (.int .i64), (.int .i64), (.int .i64), .bool]), (.int .i64), (.int .i64)] e := (hok _ (.head _))
  have e_e_19 : D.lst (e.fld 19).toL = e.fld 19 := sl_eta (okL_at k_e (i := 19) rfl)
  have l_e_19 := sl_len (okL_at k_e (i := 19) rfl)
  have k_e_19 := sl_all (okL_at k_e (i := 19) rfl)
  have E_e_19 : ∀ i, i < (e.fld 19).toL.length → D.lst [((e.fld 19).elem i).fld 0, ((e.fld 19).elem i).fld 1, ((e.fld 19).elem i).fld 2, ((e.fld 19).elem i).fld 3, ((e.fld 19).elem i).fld 4, ((e.fld 19).elem i).fld 5, ((e.fld 19).elem i).fld 6] = (e.fld 19).elem i := fun i hi => by simpa [List.range, List.range.loop] using okL_eta (k_e_19 _ (elem_mem hi))
  apply says_den (φ := (phi_65))
  simp [e_e_19, E_e_19, e_e, tree_65, T.says, X.den, O1.den, O2.den, O3.den, callD, XArg.ev, XArg.dat, Callee'.num, backs, DArg.back, Conds.den, cloArgs, phi_65, pd_122, h]
theorem pd_65 (e : D) (h : ((e.fld 19).toL.length : Int) ≤ 1048576) (Q : List D → Prop) (ho : Q [e]) : PC Try.prog 65 [.st [(.int .i64), (.int .i64), (.int .i64), (.int .i64), (.int .i64), (.int .i64), (.int .i64), (.int .i64), (.int .i64), (.int .i64), (.int .i64), (.int .i64), (.int .i64), (.int .i64), (.int .i64), (.int .i64), (.int .i64), (.int .i64), .bool, (.sl [(.int .i64), (.int .i64), (.int .i64), (.int .i64), (.int .i64), (.int .i64), .bool]), (.int .i64), (.int .i64)] e] [.st [(.int .i64), (.int .i64), (.int .i64), (.int .i64), (.int .i64), (.int .i64), (.int .i64), (.int .i64), (.int .i64), (.int .i64), (.int .i64), (.int .i64), (.int .i64), (.int .i64), (.int .i64), (.int .i64), (.int .i64), (.int .i64), .bool, (.sl [(.int .i64), (.int .i64), (.int .i64), (.int .i64), (.int .i64), (.int .i64), .bool]), (.int .i64), (.int .i64)]] Q := (pc_65 e h).mono fun _ h => h ▸ ho
/- impl.copyTable -/
def phi_87 : Nat → List D → List D
  | 65, [e] => [e]
  | _, _ => []
theorem pc_87 (d : D) (h : smallE d) : PC Try.prog 87 [.sc (.sl [(.int .i64), (.int .i64), (.int .i64), (.int .i64), (.int .i64), (.int .i64), (.int .i64), (.int .i64), (.int .i64), (.int .i64), (.int .i64), (.int .i64), (.int .i64), (.int .i64), (.int .i64), (.int .i64), (.int .i64), (.int .i64), .bool, (.sl [(.int .i64), (.int .i64), (.int .i64), (.int .i64), (.int .i64), (.int .i64), .bool]), (.int .i64), (.int .i64)]) d] [.sc (.sl [(.int .i64), (.int .i64), (.int .i64), (.int .i64), (.int .i64), (.int .i64), (.int .i64), (.int .i64), (.int .i64), (.int .i64), (.int .i64), (.int .i64), (.int .i64), (.int .i64), (.int .i64), (.int .i64), (.int .i64), (.int .i64), .bool, (.sl [(.int .i64), (.int .i64), (.int .i64), (.int .i64), (.int .i64), (.int .i64), .bool]), (.int .i64), (.int .i64)])] fun o => o = [d] := by
  refine PC.of_sig mix sig_87 ⟨rfl, trivial⟩ rfl fun hok => ?_
  have e_d := sl_eta (hok _ (.head _))
  have l_d := sl_len (hok _ (.head _))
  have k_d := sl_all (hok _ (.head _))
  have E_d : ∀ i, i < d.toL.length → D.lst [(d.elem i).fld 0, (d.elem i).fld 1, (d.elem i).fld 2, (d.elem i).fld 3, (d.elem i).fld 4, (d.elem i).fld 5, (d.elem i).fld 6, (d.elem i).fld 7, (d.elem i).fld 8, (d.elem i).fld 9, (d.elem i).fld 10, (d.elem i).fld 11, (d.elem i).fld 12, (d.elem i).fld 13, (d.elem i).fld 14, (d.elem i).fld 15, (d.elem i).fld 16, (d.elem i).fld 17, (d.elem i).fld 18, (d.elem i).fld 19, (d.elem i).fld 20, (d.elem i).fld 21] = d.elem i := fun i hi => by simpa [List.range, List.range.loop] using okL_eta (k_d _ (elem_mem hi))
  have h1 := h.1
  apply says_den (φ := (phi_87))
  simp [e_d, E_d, tree_87, T.says, X.den, O1.den, O2.den, O3.den, callD, XArg.ev, XArg.dat, Callee'.num, backs, DArg.back, Conds.den, cloArgs, phi_87, pd_65]
  refine fun _ => ?_
  refine den_for d.toL.length 0 (fun i => [.int i, .lst (d.toL.take i)]) (fun _ => True) (by simp) (by simp [X.den]) trivial fun i hi _ => ?_
  apply says_den (φ := (phi_87))
  by_cases hlt : i < d.toL.length
  · have h2 := h.2 i hlt
    simp [e_d, E_d, tree_87, T.says, X.den, O1.den, O2.den, O3.den, callD, XArg.ev, XArg.dat, Callee'.num, backs, DArg.back, Conds.den, cloArgs, phi_87, pd_65, hlt, h2, take_elem hlt]
    (repeat' (first | (with_reducible apply And.intro) | intro _)) <;> first | omega | (first | omega | (simp only [IntKind.wrap_i64, maxL] at *; omega) | (simp [IntKind.wrap_i64, maxL] at *; omega)) | (first | assumption | (exact pd_65 _ (by first | assumption | omega | (simp; done) | (simp; omega) | (simp [*]; done) | exact smallE_of (n := 1048576) (by omega) (by omega) | (simp [*] at *; omega) | grind [szS]) _ (by first | rfl | simp | (simp; omega))) | (first | omega | (simp only [IntKind.wrap_i64, maxL] at *; omega) | (simp [IntKind.wrap_i64, maxL] at *; omega)) | rfl | contradiction | grind) | skip
  · simp [e_d, E_d, tree_87, T.says, X.den, O1.den, O2.den, O3.den, callD, XArg.ev, XArg.dat, Callee'.num, backs, DArg.back, Conds.den, cloArgs, phi_87, pd_65, hlt]
    (repeat' (first | (with_reducible apply And.intro) | intro _)) <;> first | omega | (rw [List.take_of_length_le (by omega), e_d]) | skip
theorem pd_87 (d : D) (h : smallE d) (Q : List D → Prop) (ho : Q [d]) : PC Try.prog 87 [.sc (.sl [(.int .i64), (.int .i64), (.int .i64), (.int .i64), (.int .i64), (.int .i64), (.int .i64), (.int .i64), (.int .i64), (.int .i64), (.int .i64), (.int .i64), (.int .i64), (.int .i64), (.int .i64), (.int .i64), (.int .i64), (.int .i64), .bool, (.sl [(.int .i64), (.int .i64), (.int .i64), (.int .i64), (.int .i64), (.int .i64), .bool]), (.int .i64), (.int .i64)]) d] [.sc (.sl [(.int .i64), (.int .i64), (.int .i64), (.int .i64), (.int .i64), (.int .i64), (.int .i64), (.int .i64), (.int .i64), (.int .i64), (.int .i64), (.int .i64), (.int .i64), (.int .i64), (.int .i64), (.int .i64), (.int .i64), (.int .i64), .bool, (.sl [(.int .i64), (.int .i64), (.int .i64), (.int .i64), (.int .i64), (.int .i64), .bool]), (.int .i64), (.int .i64)])] Q := (pc_87 d h).mono fun _ h => h ▸ ho
/- impl.Update -/
def phi_37 : Nat → List D → List D
  | 17, [d, n] => [.int (effAt d n.toI)]
  | 65, [e] => [e]
  | 87, [d] => [d]
  | _, _ => []
theorem pc_37 (a b : D) (h : smallE a) (hb : ((b.fld 19).toL.length : Int) ≤ 1048576) : PC Try.prog 37 [.sc (.sl [(.int .i64), (.int .i64), (.int .i64), (.int .i64), (.int .i64), (.int .i64), (.int .i64), (.int .i64), (.int .i64), (.int .i64), (.int .i64), (.int .i64), (.int .i64), (.int .i64), (.int .i64), (.int .i64), (.int .i64), (.int .i64), .bool, (.sl [(.int .i64), (.int .i64), (.int .i64), (.int .i64), (.int .i64), (.int .i64), .bool]), (.int .i64), (.int .i64)]) a, .st [(.int .i64), (.int .i64), (.int .i64), (.int .i64), (.int .i64), (.int .i64), (.int .i64), (.int .i64), (.int .i64), (.int .i64), (.int .i64), (.int .i64), (.int .i64), (.int .i64), (.int .i64), (.int .i64), (.int .i64), (.int .i64), .bool, (.sl [(.int .i64), (.int .i64), (.int .i64), (.int .i64), (.int .i64), (.int .i64), .bool]), (.int .i64), (.int .i64)] b] [.sc (.sl [(.int .i64), (.int .i64), (.int .i64), (.int .i64), (.int .i64), (.int .i64), (.int .i64), (.int .i64), (.int .i64), (.int .i64), (.int .i64), (.int .i64), (.int .i64), (.int .i64), (.int .i64), (.int .i64), (.int .i64), (.int .i64), .bool, (.sl [(.int .i64), (.int .i64), (.int .i64), (.int .i64), (.int .i64), (.int .i64), .bool]), (.int .i64), (.int .i64)])] fun o => o = [updT a b] := by
  refine PC.of_sig mix sig_37 ⟨rfl, rfl, trivial⟩ rfl fun hok => ?_
  have e_a := sl_eta (hok _ (.head _))
  have l_a := sl_len (hok _ (.head _))
  have k_a := sl_all (hok _ (.head _))
  have E_a : ∀ i, i < a.toL.length → D.lst [(a.elem i).fld 0, (a.elem i).fld 1, (a.elem i).fld 2, (a.elem i).fld 3, (a.elem i).fld 4, (a.elem i).fld 5, (a.elem i).fld 6, (a.elem i).fld 7, (a.elem i).fld 8, (a.elem i).fld 9, (a.elem i).fld 10, (a.elem i).fld 11, (a.elem i).fld 12, (a.elem i).fld 13, (a.elem i).fld 14, (a.elem i).fld 15, (a.elem i).fld 16, (a.elem i).fld 17, (a.elem i).fld 18, (a.elem i).fld 19, (a.elem i).fld 20, (a.elem i).fld 21] = a.elem i := fun i hi => by simpa [List.range, List.range.loop] using okL_eta (k_a _ (elem_mem hi))
  have e_b : D.lst [b.fld 0, b.fld 1, b.fld 2, b.fld 3, b.fld 4, b.fld 5, b.fld 6, b.fld 7, b.fld 8, b.fld 9, b.fld 10, b.fld 11, b.fld 12, b.fld 13, b.fld 14, b.fld 15, b.fld 16, b.fld 17, b.fld 18, b.fld 19, b.fld 20, b.fld 21] = b := by simpa [List.range, List.range.loop] using okL_eta (hok _ (.tail _ (.head _)))
  have k_b : okL [(.int .i64), (.int .i64), (.int .i64), (.int .i64), (.int .i64), (.int .i64), (.int .i64), (.int .i64), (.int .i64), (.int .i64), (.int .i64), (.int .i64), (.int .i64), (.int .i64), (.int .i64), (.int .i64), (.int .i64), (.int .i64), .bool, (.sl [(.int .i64), (.int .i64), (.int .i64), (.int .i64), (.int .i64), (.int .i64), .bool]), (.int .i64), (.int .i64)] b := (hok _ (.tail _ (.head _)))
  have e_b_19 : D.lst (b.fld 19).toL = b.fld 19 := sl_eta (okL_at k_b (i := 19) rfl)
  have l_b_19 := sl_len (okL_at k_b (i := 19) rfl)
  have k_b_19 := sl_all (okL_at k_b (i := 19) rfl)
  have E_b_19 : ∀ i, i < (b.fld 19).toL.length → D.lst [((b.fld 19).elem i).fld 0, ((b.fld 19).elem i).fld 1, ((b.fld 19).elem i).fld 2, ((b.fld 19).elem i).fld 3, ((b.fld 19).elem i).fld 4, ((b.fld 19).elem i).fld 5, ((b.fld 19).elem i).fld 6] = (b.fld 19).elem i := fun i hi => by simpa [List.range, List.range.loop] using okL_eta (k_b_19 _ (elem_mem hi))
  apply says_den (φ := (phi_37))
  have hr := effAt_range a (b.fld 0).toI
  simp [e_b_19, E_b_19, e_a, e_b, E_a, tree_37, T.says, X.den, O1.den, O2.den, O3.den, callD, XArg.ev, XArg.dat, Callee'.num, backs, DArg.back, Conds.den, cloArgs, phi_37, pd_17, pd_65, pd_87, h, hb, updT]
  (repeat' (first | (with_reducible apply And.intro) | intro _)) <;> first | omega | (rw [if_pos (by omega)]) | (rw [if_neg (by omega)]) | (first | assumption | (exact pd_17 _ _ _ (by first | rfl | simp | (simp; omega))) | (exact pd_65 _ (by first | assumption | omega | (simp; done) | (simp; omega) | (simp [*]; done) | exact smallE_of (n := 1048576) (by omega) (by omega) | (simp [*] at *; omega) | grind [szS]) _ (by first | rfl | simp | (simp; omega))) | (exact pd_87 _ (by first | assumption | omega | (simp; done) | (simp; omega) | (simp [*]; done) | exact smallE_of (n := 1048576) (by omega) (by omega) | (simp [*] at *; omega) | grind [szS]) _ (by first | rfl | simp | (simp; omega))) | (first | omega | (simp only [IntKind.wrap_i64, maxL] at *; omega) | (simp [IntKind.wrap_i64, maxL] at *; omega)) | rfl | contradiction | grind) | skip
theorem pd_37 (a b : D) (h : smallE a) (hb : ((b.fld 19).toL.length : Int) ≤ 1048576) (Q : List D → Prop) (ho : Q [updT a b]) : PC Try.prog 37 [.sc (.sl [(.int .i64), (.int .i64), (.int .i64), (.int .i64), (.int .i64), (.int .i64), (.int .i64), (.int .i64), (.int .i64), (.int .i64), (.int .i64), (.int .i64), (.int .i64), (.int .i64), (.int .i64), (.int .i64), (.int .i64), (.int .i64), .bool, (.sl [(.int .i64), (.int .i64), (.int .i64), (.int .i64), (.int .i64), (.int .i64), .bool]), (.int .i64), (.int .i64)]) a, .st [(.int .i64), (.int .i64), (.int .i64), (.int .i64), (.int .i64), (.int .i64), (.int .i64), (.int .i64), (.int .i64), (.int .i64), (.int .i64), (.int .i64), (.int .i64), (.int .i64), (.int .i64), (.int .i64), (.int .i64), (.int .i64), .bool, (.sl [(.int .i64), (.int .i64), (.int .i64), (.int .i64), (.int .i64), (.int .i64), .bool]), (.int .i64), (.int .i64)] b] [.sc (.sl [(.int .i64), (.int .i64), (.int .i64), (.int .i64), (.int .i64), (.int .i64), (.int .i64), (.int .i64), (.int .i64), (.int .i64), (.int .i64), (.int .i64), (.int .i64), (.int .i64), (.int .i64), (.int .i64), (.int .i64), (.int .i64), .bool, (.sl [(.int .i64), (.int .i64), (.int .i64), (.int .i64), (.int .i64), (.int .i64), .bool]), (.int .i64), (.int .i64)])] Q := (pc_37 a b h hb).mono fun _ h => h ▸ ho
end Go.Proofs.Ytfbahdalemajcaa
