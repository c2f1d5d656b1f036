/- The contracts of the functions that this claim reaches: what each hands back, for all data. -/
import Derived.Test.YtfbahdalemajcaaT
import Derived.Test.YtfbahdalemajcaaS
import Derived.Deep.LoopGhost
import Derived.Deep.RegionLaw
import Derived.Lib.AppendZerosOnto
import Derived.Lib.Overlaps
import Derived.Lib.SliceRun
import Derived.Lib.Walk
import Derived.ProofKit
import Derived.Shelf.RegionOpenPlain
import Derived.Shelf.Spec.SlicesInsert
import Derived.WalkKit
namespace Go.Proofs.Ytfbahdalemajcaa
open Go.Proofs.Ytfbahdalemajcaa.Eng
set_option maxRecDepth 100000
set_option maxHeartbeats 2000000
set_option linter.unusedSimpArgs false
set_option linter.unusedVariables false
/- laws.szEventS -/
theorem pc_118 (d n : D) (hn : 0 ≤ n.toI) : PC Try.prog 118 [.sc (.sl [(.int .i64), (.int .i64), (.int .i64), (.int .i64), (.int .i64), (.int .i64), .bool]) d, .sc (.int .i64) n] [.sc (.int .i64)] fun o => o = [.int (szS n.toI d.toL.length)] := by
  refine PC.of_sig mix sig_118 ⟨rfl, rfl, trivial⟩ rfl fun hok => ?_
  have e_d := sl_eta (hok _ (.head _))
  have l_d := sl_len (hok _ (.head _))
  have k_d := sl_all (hok _ (.head _))
  have E_d : ∀ i, i < d.toL.length → D.lst [(d.elem i).fld 0, (d.elem i).fld 1, (d.elem i).fld 2, (d.elem i).fld 3, (d.elem i).fld 4, (d.elem i).fld 5, (d.elem i).fld 6] = d.elem i := fun i hi => by simpa [List.range, List.range.loop] using okL_eta (k_d _ (elem_mem hi))
  have e_n := int_eta (hok _ (.tail _ (.head _)))
  have b_n := int_range (hok _ (.tail _ (.head _)))
  have hw : IntKind.i64.wrap (n.toI - d.toL.length) = n.toI - d.toL.length := by (first | omega | (simp only [IntKind.wrap_i64, maxL] at *; omega) | (simp [IntKind.wrap_i64, maxL] at *; omega))
  apply says_den (φ := fun _ _ => [])
  simp [e_d, e_n, E_d, tree_118, T.says, X.den, O1.den, O2.den, O3.den, callD, XArg.ev, XArg.dat, Callee'.num, backs, DArg.back, Conds.den, cloArgs, hw, szS]
  all_goals grind
theorem pd_118 (d n : D) (hn : 0 ≤ n.toI) (Q : List D → Prop) (ho : Q [.int (szS n.toI d.toL.length)]) : PC Try.prog 118 [.sc (.sl [(.int .i64), (.int .i64), (.int .i64), (.int .i64), (.int .i64), (.int .i64), .bool]) d, .sc (.int .i64) n] [.sc (.int .i64)] Q := (pc_118 d n hn).mono fun _ h => h ▸ ho
/- laws.szAct -/
def phi_58 : Nat → List D → List D
  | 118, [d, n] => [.int (szS n.toI d.toL.length)]
  | _, _ => []
theorem pc_58 (d n : D) (hn : 0 ≤ n.toI) : PC Try.prog 58 [.st [(.int .i64), (.int .i64), (.int .i64), (.int .i64), (.int .i64), .bool, (.sl [(.int .i64), (.int .i64), (.int .i64), (.int .i64), (.int .i64), (.int .i64), .bool])] d, .sc (.int .i64) n] [.sc (.int .i64)] fun o => o = [.int (szS n.toI (d.fld 6).toL.length)] := by
  refine PC.of_sig mix sig_58 ⟨rfl, rfl, trivial⟩ rfl fun hok => ?_
  have e_d : D.lst [d.fld 0, d.fld 1, d.fld 2, d.fld 3, d.fld 4, d.fld 5, d.fld 6] = d := by simpa [List.range, List.range.loop] using okL_eta (hok _ (.head _))
  have k_d : okL [(.int .i64), (.int .i64), (.int .i64), (.int .i64), (.int .i64), .bool, (.sl [(.int .i64), (.int .i64), (.int .i64), (.int .i64), (.int .i64), (.int .i64), .bool])] d := (hok _ (.head _))
  have e_d_6 : D.lst (d.fld 6).toL = d.fld 6 := sl_eta (okL_at k_d (i := 6) rfl)
  have l_d_6 := sl_len (okL_at k_d (i := 6) rfl)
  have k_d_6 := sl_all (okL_at k_d (i := 6) rfl)
  have E_d_6 : ∀ i, i < (d.fld 6).toL.length → D.lst [((d.fld 6).elem i).fld 0, ((d.fld 6).elem i).fld 1, ((d.fld 6).elem i).fld 2, ((d.fld 6).elem i).fld 3, ((d.fld 6).elem i).fld 4, ((d.fld 6).elem i).fld 5, ((d.fld 6).elem i).fld 6] = (d.fld 6).elem i := fun i hi => by simpa [List.range, List.range.loop] using okL_eta (k_d_6 _ (elem_mem hi))
  have e_n := int_eta (hok _ (.tail _ (.head _)))
  have b_n := int_range (hok _ (.tail _ (.head _)))
  apply says_den (φ := (phi_58))
  simp [e_d_6, E_d_6, e_d, e_n, tree_58, T.says, X.den, O1.den, O2.den, O3.den, callD, XArg.ev, XArg.dat, Callee'.num, backs, DArg.back, Conds.den, cloArgs, phi_58, pd_118]
  (repeat' (first | (with_reducible apply And.intro) | intro _)) <;> first | (first | assumption | (exact pd_118 _ _ (by first | (with_reducible assumption) | omega | assumption | (simp; done) | (simp; omega) | (simp [*]; done) | exact smallE_of (n := 1048576) (by omega) (by omega) | (simp [*] at *; omega) | grind [szS]) _ (by first | rfl | simp | (simp; omega))) | (first | omega | (simp only [IntKind.wrap_i64, maxL] at *; omega) | (simp [IntKind.wrap_i64, maxL] at *; omega)) | rfl | contradiction | grind) | grind [szS]
theorem pd_58 (d n : D) (hn : 0 ≤ n.toI) (Q : List D → Prop) (ho : Q [.int (szS n.toI (d.fld 6).toL.length)]) : PC Try.prog 58 [.st [(.int .i64), (.int .i64), (.int .i64), (.int .i64), (.int .i64), .bool, (.sl [(.int .i64), (.int .i64), (.int .i64), (.int .i64), (.int .i64), (.int .i64), .bool])] d, .sc (.int .i64) n] [.sc (.int .i64)] Q := (pc_58 d n hn).mono fun _ h => h ▸ ho
/- laws.szEffect -/
def phi_21 : Nat → List D → List D
  | 58, [d, n] => [.int (szS n.toI (d.fld 6).toL.length)]
  | _, _ => []
theorem pc_21 (d n : D) (hn : 0 ≤ n.toI) : PC Try.prog 21 [.st [(.int .i64), (.int .i64), (.int .i64), (.int .i64), (.int .i64), (.int .i64), (.int .i64), (.int .i64), (.int .i64), (.int .i64), (.int .i64), (.int .i64), (.int .i64), (.int .i64), (.int .i64), (.int .i64), (.int .i64), (.int .i64), .bool, (.sl [(.int .i64), (.int .i64), (.int .i64), (.int .i64), (.int .i64), (.int .i64), .bool]), (.int .i64), (.int .i64)] d, .sc (.int .i64) n] [.sc (.int .i64)] fun o => o = [.int (szS n.toI (d.fld 19).toL.length)] := by
  refine PC.of_sig mix sig_21 ⟨rfl, rfl, trivial⟩ rfl fun hok => ?_
  have e_d : D.lst [d.fld 0, d.fld 1, d.fld 2, d.fld 3, d.fld 4, d.fld 5, d.fld 6, d.fld 7, d.fld 8, d.fld 9, d.fld 10, d.fld 11, d.fld 12, d.fld 13, d.fld 14, d.fld 15, d.fld 16, d.fld 17, d.fld 18, d.fld 19, d.fld 20, d.fld 21] = d := by simpa [List.range, List.range.loop] using okL_eta (hok _ (.head _))
  have k_d : okL [(.int .i64), (.int .i64), (.int .i64), (.int .i64), (.int .i64), (.int .i64), (.int .i64), (.int .i64), (.int .i64), (.int .i64), (.int .i64), (.int .i64), (.int .i64), (.int .i64), (.int .i64), (.int .i64), (.int .i64), (.int .i64), .bool, (.sl [(.int .i64), (.int .i64), (.int .i64), (.int .i64), (.int .i64), (.int .i64), .bool]), (.int .i64), (.int .i64)] d := (hok _ (.head _))
  have e_d_19 : D.lst (d.fld 19).toL = d.fld 19 := sl_eta (okL_at k_d (i := 19) rfl)
  have l_d_19 := sl_len (okL_at k_d (i := 19) rfl)
  have k_d_19 := sl_all (okL_at k_d (i := 19) rfl)
  have E_d_19 : ∀ i, i < (d.fld 19).toL.length → D.lst [((d.fld 19).elem i).fld 0, ((d.fld 19).elem i).fld 1, ((d.fld 19).elem i).fld 2, ((d.fld 19).elem i).fld 3, ((d.fld 19).elem i).fld 4, ((d.fld 19).elem i).fld 5, ((d.fld 19).elem i).fld 6] = (d.fld 19).elem i := fun i hi => by simpa [List.range, List.range.loop] using okL_eta (k_d_19 _ (elem_mem hi))
  have e_n := int_eta (hok _ (.tail _ (.head _)))
  have b_n := int_range (hok _ (.tail _ (.head _)))
  apply says_den (φ := (phi_21))
  simp [e_d_19, E_d_19, e_d, e_n, tree_21, T.says, X.den, O1.den, O2.den, O3.den, callD, XArg.ev, XArg.dat, Callee'.num, backs, DArg.back, Conds.den, cloArgs, phi_21, pd_58]
  (repeat' (first | (with_reducible apply And.intro) | intro _)) <;> first | (first | assumption | (exact pd_58 _ _ (by first | (with_reducible assumption) | omega | assumption | (simp; done) | (simp; omega) | (simp [*]; done) | exact smallE_of (n := 1048576) (by omega) (by omega) | (simp [*] at *; omega) | grind [szS]) _ (by first | rfl | simp | (simp; omega))) | (first | omega | (simp only [IntKind.wrap_i64, maxL] at *; omega) | (simp [IntKind.wrap_i64, maxL] at *; omega)) | rfl | contradiction | grind) | grind [szS]
theorem pd_21 (d n : D) (hn : 0 ≤ n.toI) (Q : List D → Prop) (ho : Q [.int (szS n.toI (d.fld 19).toL.length)]) : PC Try.prog 21 [.st [(.int .i64), (.int .i64), (.int .i64), (.int .i64), (.int .i64), (.int .i64), (.int .i64), (.int .i64), (.int .i64), (.int .i64), (.int .i64), (.int .i64), (.int .i64), (.int .i64), (.int .i64), (.int .i64), (.int .i64), (.int .i64), .bool, (.sl [(.int .i64), (.int .i64), (.int .i64), (.int .i64), (.int .i64), (.int .i64), .bool]), (.int .i64), (.int .i64)] d, .sc (.int .i64) n] [.sc (.int .i64)] Q := (pc_21 d n hn).mono fun _ h => h ▸ ho
/- laws.szEffectS -/
def phi_14 : Nat → List D → List D
  | 21, [d, n] => [.int (szS n.toI (d.fld 19).toL.length)]
  | _, _ => []
theorem pc_14 (d n : D) (hn : 0 ≤ n.toI) : PC Try.prog 14 [.sc (.sl [(.int .i64), (.int .i64), (.int .i64), (.int .i64), (.int .i64), (.int .i64), (.int .i64), (.int .i64), (.int .i64), (.int .i64), (.int .i64), (.int .i64), (.int .i64), (.int .i64), (.int .i64), (.int .i64), (.int .i64), (.int .i64), .bool, (.sl [(.int .i64), (.int .i64), (.int .i64), (.int .i64), (.int .i64), (.int .i64), .bool]), (.int .i64), (.int .i64)]) d, .sc (.int .i64) n] [.sc (.int .i64)] fun o => o = [.int (szEs n.toI d)] := by
  refine PC.of_sig mix sig_14 ⟨rfl, rfl, trivial⟩ rfl fun hok => ?_
  have e_d := sl_eta (hok _ (.head _))
  have l_d := sl_len (hok _ (.head _))
  have k_d := sl_all (hok _ (.head _))
  have E_d : ∀ i, i < d.toL.length → D.lst [(d.elem i).fld 0, (d.elem i).fld 1, (d.elem i).fld 2, (d.elem i).fld 3, (d.elem i).fld 4, (d.elem i).fld 5, (d.elem i).fld 6, (d.elem i).fld 7, (d.elem i).fld 8, (d.elem i).fld 9, (d.elem i).fld 10, (d.elem i).fld 11, (d.elem i).fld 12, (d.elem i).fld 13, (d.elem i).fld 14, (d.elem i).fld 15, (d.elem i).fld 16, (d.elem i).fld 17, (d.elem i).fld 18, (d.elem i).fld 19, (d.elem i).fld 20, (d.elem i).fld 21] = d.elem i := fun i hi => by simpa [List.range, List.range.loop] using okL_eta (k_d _ (elem_mem hi))
  have e_n := int_eta (hok _ (.tail _ (.head _)))
  have b_n := int_range (hok _ (.tail _ (.head _)))
  have hw : IntKind.i64.wrap (n.toI - d.toL.length) = n.toI - d.toL.length := by (first | omega | (simp only [IntKind.wrap_i64, maxL] at *; omega) | (simp [IntKind.wrap_i64, maxL] at *; omega))
  apply says_den (φ := (phi_14))
  simp [e_d, e_n, E_d, tree_14, T.says, X.den, O1.den, O2.den, O3.den, callD, XArg.ev, XArg.dat, Callee'.num, backs, DArg.back, Conds.den, cloArgs, phi_14, pd_21, hw]
  refine fun _ => ⟨fun hneg => ?_, fun hpos => ?_⟩
  · rw [szEs, if_pos (by omega)]
  refine den_for d.toL.length 1 (fun i => [.int (n.toI - d.toL.length - sumR (innerE d) i), .int i]) (fun i => 0 ≤ n.toI - d.toL.length - sumR (innerE d) i) (by simp) (by simp [X.den, O1.den, O2.den, hw, sumR]) (by simp [sumR]; omega) fun i hi hR => ?_
  apply says_den (φ := (phi_14))
  by_cases hlt : i < d.toL.length
  · have hm := sumR_mono (innerE d) (show i + 1 ≤ d.toL.length from hlt)
    simp only [sumR] at hm
    have hi' : innerE d i = ((d.elem i).fld 19).toL.length := rfl
    simp [e_d, e_n, E_d, tree_14, T.says, X.den, O1.den, O2.den, O3.den, callD, XArg.ev, XArg.dat, Callee'.num, backs, DArg.back, Conds.den, cloArgs, phi_14, pd_21, hlt, hR]
    (repeat' (first | (with_reducible apply And.intro) | intro _)) <;> first | (rw [szEs, if_pos (by omega)]; done) | (first | omega | (simp only [IntKind.wrap_i64, maxL] at *; omega) | (simp [IntKind.wrap_i64, maxL] at *; omega)) | (simp only [sumR]; omega) | (rw [szS, if_neg (by omega)]; simp only [sumR]; omega) | (first | assumption | (exact pd_21 _ _ (by first | (with_reducible assumption) | omega | assumption | (simp; done) | (simp; omega) | (simp [*]; done) | exact smallE_of (n := 1048576) (by omega) (by omega) | (simp [*] at *; omega) | grind [szS]) _ (by first | rfl | simp | (simp; omega))) | (first | omega | (simp only [IntKind.wrap_i64, maxL] at *; omega) | (simp [IntKind.wrap_i64, maxL] at *; omega)) | rfl | contradiction | grind)
  · have : i = d.toL.length := by omega
    subst this
    simp [e_d, e_n, E_d, tree_14, T.says, X.den, O1.den, O2.den, O3.den, callD, XArg.ev, XArg.dat, Callee'.num, backs, DArg.back, Conds.den, cloArgs, phi_14, pd_21]
    (repeat' (first | (with_reducible apply And.intro) | intro _))
    · rw [szEs, if_neg (by omega)]
theorem pd_14 (d n : D) (hn : 0 ≤ n.toI) (Q : List D → Prop) (ho : Q [.int (szEs n.toI d)]) : PC Try.prog 14 [.sc (.sl [(.int .i64), (.int .i64), (.int .i64), (.int .i64), (.int .i64), (.int .i64), (.int .i64), (.int .i64), (.int .i64), (.int .i64), (.int .i64), (.int .i64), (.int .i64), (.int .i64), (.int .i64), (.int .i64), (.int .i64), (.int .i64), .bool, (.sl [(.int .i64), (.int .i64), (.int .i64), (.int .i64), (.int .i64), (.int .i64), .bool]), (.int .i64), (.int .i64)]) d, .sc (.int .i64) n] [.sc (.int .i64)] Q := (pc_14 d n hn).mono fun _ h => h ▸ ho
/- laws.toPat -/
theorem pc_62 (d : D) : PC Try.prog 62 [.st [(.int .i64), (.int .i64), (.int .i64), (.int .i64), (.int .i64), (.int .i64), (.int .i64)] d] [.st [(.int .i64), (.int .i64), (.int .i64), (.int .i64), (.int .i64), (.int .i64), (.int .i64)]] fun o => o = [d] := by
  refine PC.of_sig mix sig_62 ⟨rfl, trivial⟩ rfl fun hok => ?_
  have e_d : D.lst [d.fld 0, d.fld 1, d.fld 2, d.fld 3, d.fld 4, d.fld 5, d.fld 6] = d := by simpa [List.range, List.range.loop] using okL_eta (hok _ (.head _))
  have k_d : okL [(.int .i64), (.int .i64), (.int .i64), (.int .i64), (.int .i64), (.int .i64), (.int .i64)] d := (hok _ (.head _))
  apply says_den (φ := fun _ _ => [])
  simp [e_d, tree_62, T.says, X.den, O1.den, O2.den, O3.den, callD, XArg.ev, XArg.dat, Callee'.num, backs, DArg.back, Conds.den, cloArgs]
theorem pd_62 (d : D) (Q : List D → Prop) (ho : Q [d]) : PC Try.prog 62 [.st [(.int .i64), (.int .i64), (.int .i64), (.int .i64), (.int .i64), (.int .i64), (.int .i64)] d] [.st [(.int .i64), (.int .i64), (.int .i64), (.int .i64), (.int .i64), (.int .i64), (.int .i64)]] Q := (pc_62 d).mono fun _ h => h ▸ ho
/- laws.toGuard -/
theorem pc_63 (d : D) : PC Try.prog 63 [.st [(.int .i64), (.int .i64)] d] [.st [(.int .i64), (.int .i64)]] fun o => o = [d] := by
  refine PC.of_sig mix sig_63 ⟨rfl, trivial⟩ rfl fun hok => ?_
  have e_d : D.lst [d.fld 0, d.fld 1] = d := by simpa [List.range, List.range.loop] using okL_eta (hok _ (.head _))
  have k_d : okL [(.int .i64), (.int .i64)] d := (hok _ (.head _))
  apply says_den (φ := fun _ _ => [])
  simp [e_d, tree_63, T.says, X.den, O1.den, O2.den, O3.den, callD, XArg.ev, XArg.dat, Callee'.num, backs, DArg.back, Conds.den, cloArgs]
theorem pd_63 (d : D) (Q : List D → Prop) (ho : Q [d]) : PC Try.prog 63 [.st [(.int .i64), (.int .i64)] d] [.st [(.int .i64), (.int .i64)]] Q := (pc_63 d).mono fun _ h => h ▸ ho
/- laws.toEvent -/
theorem pc_41 (d : D) : PC Try.prog 41 [.st [(.int .i64), (.int .i64), (.int .i64), (.int .i64), (.int .i64), (.int .i64), .bool] d] [.st [(.int .i64), (.int .i64), (.int .i64), (.int .i64), (.int .i64), (.int .i64), .bool]] fun o => o = [d] := by
  refine PC.of_sig mix sig_41 ⟨rfl, trivial⟩ rfl fun hok => ?_
  have e_d : D.lst [d.fld 0, d.fld 1, d.fld 2, d.fld 3, d.fld 4, d.fld 5, d.fld 6] = d := by simpa [List.range, List.range.loop] using okL_eta (hok _ (.head _))
  have k_d : okL [(.int .i64), (.int .i64), (.int .i64), (.int .i64), (.int .i64), (.int .i64), .bool] d := (hok _ (.head _))
  apply says_den (φ := fun _ _ => [])
  simp [e_d, tree_41, T.says, X.den, O1.den, O2.den, O3.den, callD, XArg.ev, XArg.dat, Callee'.num, backs, DArg.back, Conds.den, cloArgs]
theorem pd_41 (d : D) (Q : List D → Prop) (ho : Q [d]) : PC Try.prog 41 [.st [(.int .i64), (.int .i64), (.int .i64), (.int .i64), (.int .i64), (.int .i64), .bool] d] [.st [(.int .i64), (.int .i64), (.int .i64), (.int .i64), (.int .i64), (.int .i64), .bool]] Q := (pc_41 d).mono fun _ h => h ▸ ho
/- laws.toEventS -/
def phi_121 : Nat → List D → List D
  | 41, [d] => [d]
  | _, _ => []
theorem pc_121 (d : D) (h : (d.toL.length : Int) ≤ 1048576) : PC Try.prog 121 [.sc (.sl [(.int .i64), (.int .i64), (.int .i64), (.int .i64), (.int .i64), (.int .i64), .bool]) d] [.sc (.sl [(.int .i64), (.int .i64), (.int .i64), (.int .i64), (.int .i64), (.int .i64), .bool])] fun o => o = [d] := by
  refine PC.of_sig mix sig_121 ⟨rfl, trivial⟩ rfl fun hok => ?_
  have e_d := sl_eta (hok _ (.head _))
  have l_d := sl_len (hok _ (.head _))
  have k_d := sl_all (hok _ (.head _))
  have E_d : ∀ i, i < d.toL.length → D.lst [(d.elem i).fld 0, (d.elem i).fld 1, (d.elem i).fld 2, (d.elem i).fld 3, (d.elem i).fld 4, (d.elem i).fld 5, (d.elem i).fld 6] = d.elem i := fun i hi => by simpa [List.range, List.range.loop] using okL_eta (k_d _ (elem_mem hi))
  apply says_den (φ := (phi_121))
  simp [e_d, E_d, tree_121, T.says, X.den, O1.den, O2.den, O3.den, callD, XArg.ev, XArg.dat, Callee'.num, backs, DArg.back, Conds.den, cloArgs, phi_121, pd_41] at h ⊢
  refine fun _ => ⟨by omega, ?_⟩
  refine den_for d.toL.length 0 (fun i => [.int i, .lst (d.toL.take i ++ List.replicate (d.toL.length - i) (.lst [.int 0, .int 0, .int 0, .int 0, .int 0, .int 0, .bool false]))]) (fun _ => True) (by simp) (by simp [X.den, O1.den, O2.den]) trivial fun i hi _ => ?_
  apply says_den (φ := (phi_121))
  by_cases hlt : i < d.toL.length
  · simp [e_d, E_d, tree_121, T.says, X.den, O1.den, O2.den, O3.den, callD, XArg.ev, XArg.dat, Callee'.num, backs, DArg.back, Conds.den, cloArgs, phi_121, pd_41, hlt]
    (repeat' (first | (with_reducible apply And.intro) | intro _)) <;> first | (exact copy_step hlt rfl) | (exact copy_step hlt (eta1 (k_d _ (elem_mem hlt)))) | (first | assumption | (exact pd_41 _ _ (by first | rfl | simp | (simp; omega))) | (first | omega | (simp only [IntKind.wrap_i64, maxL] at *; omega) | (simp [IntKind.wrap_i64, maxL] at *; omega)) | rfl | contradiction | grind)
  · simp [e_d, E_d, tree_121, T.says, X.den, O1.den, O2.den, O3.den, callD, XArg.ev, XArg.dat, Callee'.num, backs, DArg.back, Conds.den, cloArgs, phi_121, pd_41, hlt]
    (repeat' (first | (with_reducible apply And.intro) | intro _)) <;> first | (rw [copy_end (by omega), e_d]) | (first | assumption | (exact pd_41 _ _ (by first | rfl | simp | (simp; omega))) | (first | omega | (simp only [IntKind.wrap_i64, maxL] at *; omega) | (simp [IntKind.wrap_i64, maxL] at *; omega)) | rfl | contradiction | grind)
theorem pd_121 (d : D) (h : (d.toL.length : Int) ≤ 1048576) (Q : List D → Prop) (ho : Q [d]) : PC Try.prog 121 [.sc (.sl [(.int .i64), (.int .i64), (.int .i64), (.int .i64), (.int .i64), (.int .i64), .bool]) d] [.sc (.sl [(.int .i64), (.int .i64), (.int .i64), (.int .i64), (.int .i64), (.int .i64), .bool])] Q := (pc_121 d h).mono fun _ h => h ▸ ho
/- laws.toAct -/
def phi_64 : Nat → List D → List D
  | 121, [d] => [d]
  | _, _ => []
theorem pc_64 (d : D) (h : ((d.fld 6).toL.length : Int) ≤ 1048576) : PC Try.prog 64 [.st [(.int .i64), (.int .i64), (.int .i64), (.int .i64), (.int .i64), .bool, (.sl [(.int .i64), (.int .i64), (.int .i64), (.int .i64), (.int .i64), (.int .i64), .bool])] d] [.st [(.int .i64), (.int .i64), (.int .i64), (.int .i64), (.int .i64), .bool, (.sl [(.int .i64), (.int .i64), (.int .i64), (.int .i64), (.int .i64), (.int .i64), .bool])]] fun o => o = [d] := by
  refine PC.of_sig mix sig_64 ⟨rfl, trivial⟩ rfl fun hok => ?_
  have e_d : D.lst [d.fld 0, d.fld 1, d.fld 2, d.fld 3, d.fld 4, d.fld 5, d.fld 6] = d := by simpa [List.range, List.range.loop] using okL_eta (hok _ (.head _))
  have k_d : okL [(.int .i64), (.int .i64), (.int .i64), (.int .i64), (.int .i64), .bool, (.sl [(.int .i64), (.int .i64), (.int .i64), (.int .i64), (.int .i64), (.int .i64), .bool])] d := (hok _ (.head _))
  have e_d_6 : D.lst (d.fld 6).toL = d.fld 6 := sl_eta (okL_at k_d (i := 6) rfl)
  have l_d_6 := sl_len (okL_at k_d (i := 6) rfl)
  have k_d_6 := sl_all (okL_at k_d (i := 6) rfl)
  have E_d_6 : ∀ i, i < (d.fld 6).toL.length → D.lst [((d.fld 6).elem i).fld 0, ((d.fld 6).elem i).fld 1, ((d.fld 6).elem i).fld 2, ((d.fld 6).elem i).fld 3, ((d.fld 6).elem i).fld 4, ((d.fld 6).elem i).fld 5, ((d.fld 6).elem i).fld 6] = (d.fld 6).elem i := fun i hi => by simpa [List.range, List.range.loop] using okL_eta (k_d_6 _ (elem_mem hi))
  apply says_den (φ := (phi_64))
  simp [e_d_6, E_d_6, e_d, tree_64, T.says, X.den, O1.den, O2.den, O3.den, callD, XArg.ev, XArg.dat, Callee'.num, backs, DArg.back, Conds.den, cloArgs, phi_64, pd_121]
  (repeat' (first | (with_reducible apply And.intro) | intro _)) <;> (first | assumption | (exact pd_121 _ (by first | (with_reducible assumption) | omega | assumption | (simp; done) | (simp; omega) | (simp [*]; done) | exact smallE_of (n := 1048576) (by omega) (by omega) | (simp [*] at *; omega) | grind [szS]) _ (by first | rfl | simp | (simp; omega))) | (first | omega | (simp only [IntKind.wrap_i64, maxL] at *; omega) | (simp [IntKind.wrap_i64, maxL] at *; omega)) | rfl | contradiction | grind)
theorem pd_64 (d : D) (h : ((d.fld 6).toL.length : Int) ≤ 1048576) (Q : List D → Prop) (ho : Q [d]) : PC Try.prog 64 [.st [(.int .i64), (.int .i64), (.int .i64), (.int .i64), (.int .i64), .bool, (.sl [(.int .i64), (.int .i64), (.int .i64), (.int .i64), (.int .i64), (.int .i64), .bool])] d] [.st [(.int .i64), (.int .i64), (.int .i64), (.int .i64), (.int .i64), .bool, (.sl [(.int .i64), (.int .i64), (.int .i64), (.int .i64), (.int .i64), (.int .i64), .bool])]] Q := (pc_64 d h).mono fun _ h => h ▸ ho
/- laws.toEffect -/
def phi_23 : Nat → List D → List D
  | 62, [d] => [d]
  | 63, [d] => [d]
  | 64, [d] => [d]
  | _, _ => []
theorem pc_23 (d : D) (h : ((d.fld 19).toL.length : Int) ≤ 1048576) : PC Try.prog 23 [.st [(.int .i64), (.int .i64), (.int .i64), (.int .i64), (.int .i64), (.int .i64), (.int .i64), (.int .i64), (.int .i64), (.int .i64), (.int .i64), (.int .i64), (.int .i64), (.int .i64), (.int .i64), (.int .i64), (.int .i64), (.int .i64), .bool, (.sl [(.int .i64), (.int .i64), (.int .i64), (.int .i64), (.int .i64), (.int .i64), .bool]), (.int .i64), (.int .i64)] d] [.st [(.int .i64), (.int .i64), (.int .i64), (.int .i64), (.int .i64), (.int .i64), (.int .i64), (.int .i64), (.int .i64), (.int .i64), (.int .i64), (.int .i64), (.int .i64), (.int .i64), (.int .i64), (.int .i64), (.int .i64), (.int .i64), .bool, (.sl [(.int .i64), (.int .i64), (.int .i64), (.int .i64), (.int .i64), (.int .i64), .bool]), (.int .i64), (.int .i64)]] fun o => o = [d] := by
  refine PC.of_sig mix sig_23 ⟨rfl, trivial⟩ rfl fun hok => ?_
  have e_d : D.lst [d.fld 0, d.fld 1, d.fld 2, d.fld 3, d.fld 4, d.fld 5, d.fld 6, d.fld 7, d.fld 8, d.fld 9, d.fld 10, d.fld 11, d.fld 12, d.fld 13, d.fld 14, d.fld 15, d.fld 16, d.fld 17, d.fld 18, d.fld 19, d.fld 20, d.fld 21] = d := by simpa [List.range, List.range.loop] using okL_eta (hok _ (.head _))
  have k_d : okL [(.int .i64), (.int .i64), (.int .i64), (.int .i64), (.int .i64), (.int .i64), (.int .i64), (.int .i64), (.int .i64), (.int .i64), (.int .i64), (.int .i64), (.int .i64), (.int .i64), (.int .i64), (.int .i64), (.int .i64), (.int .i64), .bool, (.sl [(.int .i64), (.int .i64), (.int .i64), (.int .i64), (.int .i64), (.int .i64), .bool]), (.int .i64), (.int .i64)] d := (hok _ (.head _))
  have e_d_19 : D.lst (d.fld 19).toL = d.fld 19 := sl_eta (okL_at k_d (i := 19) rfl)
  have l_d_19 := sl_len (okL_at k_d (i := 19) rfl)
  have k_d_19 := sl_all (okL_at k_d (i := 19) rfl)
  have E_d_19 : ∀ i, i < (d.fld 19).toL.length → D.lst [((d.fld 19).elem i).fld 0, ((d.fld 19).elem i).fld 1, ((d.fld 19).elem i).fld 2, ((d.fld 19).elem i).fld 3, ((d.fld 19).elem i).fld 4, ((d.fld 19).elem i).fld 5, ((d.fld 19).elem i).fld 6] = (d.fld 19).elem i := fun i hi => by simpa [List.range, List.range.loop] using okL_eta (k_d_19 _ (elem_mem hi))
  apply says_den (φ := (phi_23))
  simp [e_d_19, E_d_19, e_d, tree_23, T.says, X.den, O1.den, O2.den, O3.den, callD, XArg.ev, XArg.dat, Callee'.num, backs, DArg.back, Conds.den, cloArgs, phi_23, pd_62, pd_63, pd_64]
  (repeat' (first | (with_reducible apply And.intro) | intro _)) <;> (first | assumption | (exact pd_62 _ _ (by first | rfl | simp | (simp; omega))) | (exact pd_63 _ _ (by first | rfl | simp | (simp; omega))) | (exact pd_64 _ (by first | (with_reducible assumption) | omega | assumption | (simp; done) | (simp; omega) | (simp [*]; done) | exact smallE_of (n := 1048576) (by omega) (by omega) | (simp [*] at *; omega) | grind [szS]) _ (by first | rfl | simp | (simp; omega))) | (first | omega | (simp only [IntKind.wrap_i64, maxL] at *; omega) | (simp [IntKind.wrap_i64, maxL] at *; omega)) | rfl | contradiction | grind)
theorem pd_23 (d : D) (h : ((d.fld 19).toL.length : Int) ≤ 1048576) (Q : List D → Prop) (ho : Q [d]) : PC Try.prog 23 [.st [(.int .i64), (.int .i64), (.int .i64), (.int .i64), (.int .i64), (.int .i64), (.int .i64), (.int .i64), (.int .i64), (.int .i64), (.int .i64), (.int .i64), (.int .i64), (.int .i64), (.int .i64), (.int .i64), (.int .i64), (.int .i64), .bool, (.sl [(.int .i64), (.int .i64), (.int .i64), (.int .i64), (.int .i64), (.int .i64), .bool]), (.int .i64), (.int .i64)] d] [.st [(.int .i64), (.int .i64), (.int .i64), (.int .i64), (.int .i64), (.int .i64), (.int .i64), (.int .i64), (.int .i64), (.int .i64), (.int .i64), (.int .i64), (.int .i64), (.int .i64), (.int .i64), (.int .i64), (.int .i64), (.int .i64), .bool, (.sl [(.int .i64), (.int .i64), (.int .i64), (.int .i64), (.int .i64), (.int .i64), .bool]), (.int .i64), (.int .i64)]] Q := (pc_23 d h).mono fun _ h => h ▸ ho
/- laws.toEffectS -/
def phi_16 : Nat → List D → List D
  | 23, [d] => [d]
  | _, _ => []
theorem pc_16 (d : D) (h : smallE d) : PC Try.prog 16 [.sc (.sl [(.int .i64), (.int .i64), (.int .i64), (.int .i64), (.int .i64), (.int .i64), (.int .i64), (.int .i64), (.int .i64), (.int .i64), (.int .i64), (.int .i64), (.int .i64), (.int .i64), (.int .i64), (.int .i64), (.int .i64), (.int .i64), .bool, (.sl [(.int .i64), (.int .i64), (.int .i64), (.int .i64), (.int .i64), (.int .i64), .bool]), (.int .i64), (.int .i64)]) d] [.sc (.sl [(.int .i64), (.int .i64), (.int .i64), (.int .i64), (.int .i64), (.int .i64), (.int .i64), (.int .i64), (.int .i64), (.int .i64), (.int .i64), (.int .i64), (.int .i64), (.int .i64), (.int .i64), (.int .i64), (.int .i64), (.int .i64), .bool, (.sl [(.int .i64), (.int .i64), (.int .i64), (.int .i64), (.int .i64), (.int .i64), .bool]), (.int .i64), (.int .i64)])] fun o => o = [d] := by
  refine PC.of_sig mix sig_16 ⟨rfl, trivial⟩ rfl fun hok => ?_
  have e_d := sl_eta (hok _ (.head _))
  have l_d := sl_len (hok _ (.head _))
  have k_d := sl_all (hok _ (.head _))
  have E_d : ∀ i, i < d.toL.length → D.lst [(d.elem i).fld 0, (d.elem i).fld 1, (d.elem i).fld 2, (d.elem i).fld 3, (d.elem i).fld 4, (d.elem i).fld 5, (d.elem i).fld 6, (d.elem i).fld 7, (d.elem i).fld 8, (d.elem i).fld 9, (d.elem i).fld 10, (d.elem i).fld 11, (d.elem i).fld 12, (d.elem i).fld 13, (d.elem i).fld 14, (d.elem i).fld 15, (d.elem i).fld 16, (d.elem i).fld 17, (d.elem i).fld 18, (d.elem i).fld 19, (d.elem i).fld 20, (d.elem i).fld 21] = d.elem i := fun i hi => by simpa [List.range, List.range.loop] using okL_eta (k_d _ (elem_mem hi))
  have h1 := h.1
  apply says_den (φ := (phi_16))
  simp [e_d, E_d, tree_16, T.says, X.den, O1.den, O2.den, O3.den, callD, XArg.ev, XArg.dat, Callee'.num, backs, DArg.back, Conds.den, cloArgs, phi_16, pd_23, h1]
  refine fun _ => ⟨by omega, ?_⟩
  refine den_for d.toL.length 0 (fun i => [.int i, .lst (d.toL.take i ++ List.replicate (d.toL.length - i) (.lst [.int 0, .int 0, .int 0, .int 0, .int 0, .int 0, .int 0, .int 0, .int 0, .int 0, .int 0, .int 0, .int 0, .int 0, .int 0, .int 0, .int 0, .int 0, .bool false, .lst [], .int 0, .int 0]))]) (fun _ => True) (by simp) (by simp [X.den, O1.den, O2.den]) trivial fun i hi _ => ?_
  apply says_den (φ := (phi_16))
  by_cases hlt : i < d.toL.length
  · have h2 := h.2 i hlt
    simp [e_d, E_d, tree_16, T.says, X.den, O1.den, O2.den, O3.den, callD, XArg.ev, XArg.dat, Callee'.num, backs, DArg.back, Conds.den, cloArgs, phi_16, pd_23, hlt, h2]
    (repeat' (first | (with_reducible apply And.intro) | intro _)) <;> first | (exact copy_step hlt rfl) | (first | assumption | (exact pd_23 _ (by first | (with_reducible assumption) | omega | assumption | (simp; done) | (simp; omega) | (simp [*]; done) | exact smallE_of (n := 1048576) (by omega) (by omega) | (simp [*] at *; omega) | grind [szS]) _ (by first | rfl | simp | (simp; omega))) | (first | omega | (simp only [IntKind.wrap_i64, maxL] at *; omega) | (simp [IntKind.wrap_i64, maxL] at *; omega)) | rfl | contradiction | grind)
  · simp [e_d, E_d, tree_16, T.says, X.den, O1.den, O2.den, O3.den, callD, XArg.ev, XArg.dat, Callee'.num, backs, DArg.back, Conds.den, cloArgs, phi_16, pd_23, hlt]
    (repeat' (first | (with_reducible apply And.intro) | intro _)) <;> first | (rw [copy_end (by omega), e_d]) | (first | assumption | (exact pd_23 _ (by first | (with_reducible assumption) | omega | assumption | (simp; done) | (simp; omega) | (simp [*]; done) | exact smallE_of (n := 1048576) (by omega) (by omega) | (simp [*] at *; omega) | grind [szS]) _ (by first | rfl | simp | (simp; omega))) | (first | omega | (simp only [IntKind.wrap_i64, maxL] at *; omega) | (simp [IntKind.wrap_i64, maxL] at *; omega)) | rfl | contradiction | grind)
theorem pd_16 (d : D) (h : smallE d) (Q : List D → Prop) (ho : Q [d]) : PC Try.prog 16 [.sc (.sl [(.int .i64), (.int .i64), (.int .i64), (.int .i64), (.int .i64), (.int .i64), (.int .i64), (.int .i64), (.int .i64), (.int .i64), (.int .i64), (.int .i64), (.int .i64), (.int .i64), (.int .i64), (.int .i64), (.int .i64), (.int .i64), .bool, (.sl [(.int .i64), (.int .i64), (.int .i64), (.int .i64), (.int .i64), (.int .i64), .bool]), (.int .i64), (.int .i64)]) d] [.sc (.sl [(.int .i64), (.int .i64), (.int .i64), (.int .i64), (.int .i64), (.int .i64), (.int .i64), (.int .i64), (.int .i64), (.int .i64), (.int .i64), (.int .i64), (.int .i64), (.int .i64), (.int .i64), (.int .i64), (.int .i64), (.int .i64), .bool, (.sl [(.int .i64), (.int .i64), (.int .i64), (.int .i64), (.int .i64), (.int .i64), .bool]), (.int .i64), (.int .i64)])] Q := (pc_16 d h).mono fun _ h => h ▸ ho
/- laws.eqPat -/
theorem pc_68 (d e : D) (h : d = e) : PC Try.prog 68 [.st [(.int .i64), (.int .i64), (.int .i64), (.int .i64), (.int .i64), (.int .i64), (.int .i64)] d, .st [(.int .i64), (.int .i64), (.int .i64), (.int .i64), (.int .i64), (.int .i64), (.int .i64)] e] [.sc .bool] fun o => o = [.bool true] := by
  refine PC.of_sig mix sig_68 ⟨rfl, rfl, trivial⟩ rfl fun hok => ?_
  have e_d : D.lst [d.fld 0, d.fld 1, d.fld 2, d.fld 3, d.fld 4, d.fld 5, d.fld 6] = d := by simpa [List.range, List.range.loop] using okL_eta (hok _ (.head _))
  have k_d : okL [(.int .i64), (.int .i64), (.int .i64), (.int .i64), (.int .i64), (.int .i64), (.int .i64)] d := (hok _ (.head _))
  have e_e : D.lst [e.fld 0, e.fld 1, e.fld 2, e.fld 3, e.fld 4, e.fld 5, e.fld 6] = e := by simpa [List.range, List.range.loop] using okL_eta (hok _ (.tail _ (.head _)))
  have k_e : okL [(.int .i64), (.int .i64), (.int .i64), (.int .i64), (.int .i64), (.int .i64), (.int .i64)] e := (hok _ (.tail _ (.head _)))
  subst h
  apply says_den (φ := fun _ _ => [])
  simp [e_d, e_e, tree_68, T.says, X.den, O1.den, O2.den, O3.den, callD, XArg.ev, XArg.dat, Callee'.num, backs, DArg.back, Conds.den, cloArgs]
theorem pd_68 (d e : D) (h : d = e) (Q : List D → Prop) (ho : Q [.bool true]) : PC Try.prog 68 [.st [(.int .i64), (.int .i64), (.int .i64), (.int .i64), (.int .i64), (.int .i64), (.int .i64)] d, .st [(.int .i64), (.int .i64), (.int .i64), (.int .i64), (.int .i64), (.int .i64), (.int .i64)] e] [.sc .bool] Q := (pc_68 d e h).mono fun _ h => h ▸ ho
/- laws.eqGuard -/
theorem pc_69 (d e : D) (h : d = e) : PC Try.prog 69 [.st [(.int .i64), (.int .i64)] d, .st [(.int .i64), (.int .i64)] e] [.sc .bool] fun o => o = [.bool true] := by
  refine PC.of_sig mix sig_69 ⟨rfl, rfl, trivial⟩ rfl fun hok => ?_
  have e_d : D.lst [d.fld 0, d.fld 1] = d := by simpa [List.range, List.range.loop] using okL_eta (hok _ (.head _))
  have k_d : okL [(.int .i64), (.int .i64)] d := (hok _ (.head _))
  have e_e : D.lst [e.fld 0, e.fld 1] = e := by simpa [List.range, List.range.loop] using okL_eta (hok _ (.tail _ (.head _)))
  have k_e : okL [(.int .i64), (.int .i64)] e := (hok _ (.tail _ (.head _)))
  subst h
  apply says_den (φ := fun _ _ => [])
  simp [e_d, e_e, tree_69, T.says, X.den, O1.den, O2.den, O3.den, callD, XArg.ev, XArg.dat, Callee'.num, backs, DArg.back, Conds.den, cloArgs]
theorem pd_69 (d e : D) (h : d = e) (Q : List D → Prop) (ho : Q [.bool true]) : PC Try.prog 69 [.st [(.int .i64), (.int .i64)] d, .st [(.int .i64), (.int .i64)] e] [.sc .bool] Q := (pc_69 d e h).mono fun _ h => h ▸ ho
/- laws.eqEvent -/
theorem pc_102 (d e : D) (h : d = e) : PC Try.prog 102 [.st [(.int .i64), (.int .i64), (.int .i64), (.int .i64), (.int .i64), (.int .i64), .bool] d, .st [(.int .i64), (.int .i64), (.int .i64), (.int .i64), (.int .i64), (.int .i64), .bool] e] [.sc .bool] fun o => o = [.bool true] := by
  refine PC.of_sig mix sig_102 ⟨rfl, rfl, trivial⟩ rfl fun hok => ?_
  have e_d : D.lst [d.fld 0, d.fld 1, d.fld 2, d.fld 3, d.fld 4, d.fld 5, d.fld 6] = d := by simpa [List.range, List.range.loop] using okL_eta (hok _ (.head _))
  have k_d : okL [(.int .i64), (.int .i64), (.int .i64), (.int .i64), (.int .i64), (.int .i64), .bool] d := (hok _ (.head _))
  have e_e : D.lst [e.fld 0, e.fld 1, e.fld 2, e.fld 3, e.fld 4, e.fld 5, e.fld 6] = e := by simpa [List.range, List.range.loop] using okL_eta (hok _ (.tail _ (.head _)))
  have k_e : okL [(.int .i64), (.int .i64), (.int .i64), (.int .i64), (.int .i64), (.int .i64), .bool] e := (hok _ (.tail _ (.head _)))
  subst h
  apply says_den (φ := fun _ _ => [])
  simp [e_d, e_e, tree_102, T.says, X.den, O1.den, O2.den, O3.den, callD, XArg.ev, XArg.dat, Callee'.num, backs, DArg.back, Conds.den, cloArgs]
theorem pd_102 (d e : D) (h : d = e) (Q : List D → Prop) (ho : Q [.bool true]) : PC Try.prog 102 [.st [(.int .i64), (.int .i64), (.int .i64), (.int .i64), (.int .i64), (.int .i64), .bool] d, .st [(.int .i64), (.int .i64), (.int .i64), (.int .i64), (.int .i64), (.int .i64), .bool] e] [.sc .bool] Q := (pc_102 d e h).mono fun _ h => h ▸ ho
/- laws.eqEventS -/
def phi_43 : Nat → List D → List D
  | 102, [d, e] => [.bool true]
  | _, _ => []
theorem pc_43 (d e : D) (h : d = e) : PC Try.prog 43 [.sc (.sl [(.int .i64), (.int .i64), (.int .i64), (.int .i64), (.int .i64), (.int .i64), .bool]) d, .sc (.sl [(.int .i64), (.int .i64), (.int .i64), (.int .i64), (.int .i64), (.int .i64), .bool]) e] [.sc .bool] fun o => o = [.bool true] := by
  refine PC.of_sig mix sig_43 ⟨rfl, rfl, trivial⟩ rfl fun hok => ?_
  have e_d := sl_eta (hok _ (.head _))
  have l_d := sl_len (hok _ (.head _))
  have k_d := sl_all (hok _ (.head _))
  have E_d : ∀ i, i < d.toL.length → D.lst [(d.elem i).fld 0, (d.elem i).fld 1, (d.elem i).fld 2, (d.elem i).fld 3, (d.elem i).fld 4, (d.elem i).fld 5, (d.elem i).fld 6] = d.elem i := fun i hi => by simpa [List.range, List.range.loop] using okL_eta (k_d _ (elem_mem hi))
  have e_e := sl_eta (hok _ (.tail _ (.head _)))
  have l_e := sl_len (hok _ (.tail _ (.head _)))
  have k_e := sl_all (hok _ (.tail _ (.head _)))
  have E_e : ∀ i, i < e.toL.length → D.lst [(e.elem i).fld 0, (e.elem i).fld 1, (e.elem i).fld 2, (e.elem i).fld 3, (e.elem i).fld 4, (e.elem i).fld 5, (e.elem i).fld 6] = e.elem i := fun i hi => by simpa [List.range, List.range.loop] using okL_eta (k_e _ (elem_mem hi))
  subst h
  apply says_den (φ := (phi_43))
  simp [e_d, e_e, E_d, E_e, tree_43, T.says, X.den, O1.den, O2.den, O3.den, callD, XArg.ev, XArg.dat, Callee'.num, backs, DArg.back, Conds.den, cloArgs, phi_43, pd_102]
  refine fun _ => ?_
  refine den_for d.toL.length 0 (fun i => [.int i]) (fun _ => True) (by simp) (by simp [X.den]) trivial fun i hi _ => ?_
  apply says_den (φ := (phi_43))
  simp [e_d, e_e, E_d, E_e, tree_43, T.says, X.den, O1.den, O2.den, O3.den, callD, XArg.ev, XArg.dat, Callee'.num, backs, DArg.back, Conds.den, cloArgs, phi_43, pd_102]
  (repeat' (first | (with_reducible apply And.intro) | intro _)) <;> (first | omega | (simp only [IntKind.wrap_i64, maxL] at *; omega) | (simp [IntKind.wrap_i64, maxL] at *; omega))
theorem pd_43 (d e : D) (h : d = e) (Q : List D → Prop) (ho : Q [.bool true]) : PC Try.prog 43 [.sc (.sl [(.int .i64), (.int .i64), (.int .i64), (.int .i64), (.int .i64), (.int .i64), .bool]) d, .sc (.sl [(.int .i64), (.int .i64), (.int .i64), (.int .i64), (.int .i64), (.int .i64), .bool]) e] [.sc .bool] Q := (pc_43 d e h).mono fun _ h => h ▸ ho
/- laws.eqAct -/
def phi_70 : Nat → List D → List D
  | 43, [d, e] => [.bool true]
  | _, _ => []
theorem pc_70 (d e : D) (h : d = e) : PC Try.prog 70 [.st [(.int .i64), (.int .i64), (.int .i64), (.int .i64), (.int .i64), .bool, (.sl [(.int .i64), (.int .i64), (.int .i64), (.int .i64), (.int .i64), (.int .i64), .bool])] d, .st [(.int .i64), (.int .i64), (.int .i64), (.int .i64), (.int .i64), .bool, (.sl [(.int .i64), (.int .i64), (.int .i64), (.int .i64), (.int .i64), (.int .i64), .bool])] e] [.sc .bool] fun o => o = [.bool true] := by
  refine PC.of_sig mix sig_70 ⟨rfl, rfl, trivial⟩ rfl fun hok => ?_
  have e_d : D.lst [d.fld 0, d.fld 1, d.fld 2, d.fld 3, d.fld 4, d.fld 5, d.fld 6] = d := by simpa [List.range, List.range.loop] using okL_eta (hok _ (.head _))
  have k_d : okL [(.int .i64), (.int .i64), (.int .i64), (.int .i64), (.int .i64), .bool, (.sl [(.int .i64), (.int .i64), (.int .i64), (.int .i64), (.int .i64), (.int .i64), .bool])] d := (hok _ (.head _))
  have e_d_6 : D.lst (d.fld 6).toL = d.fld 6 := sl_eta (okL_at k_d (i := 6) rfl)
  have l_d_6 := sl_len (okL_at k_d (i := 6) rfl)
  have k_d_6 := sl_all (okL_at k_d (i := 6) rfl)
  have E_d_6 : ∀ i, i < (d.fld 6).toL.length → D.lst [((d.fld 6).elem i).fld 0, ((d.fld 6).elem i).fld 1, ((d.fld 6).elem i).fld 2, ((d.fld 6).elem i).fld 3, ((d.fld 6).elem i).fld 4, ((d.fld 6).elem i).fld 5, ((d.fld 6).elem i).fld 6] = (d.fld 6).elem i := fun i hi => by simpa [List.range, List.range.loop] using okL_eta (k_d_6 _ (elem_mem hi))
  have e_e : D.lst [e.fld 0, e.fld 1, e.fld 2, e.fld 3, e.fld 4, e.fld 5, e.fld 6] = e := by simpa [List.range, List.range.loop] using okL_eta (hok _ (.tail _ (.head _)))
  have k_e : okL [(.int .i64), (.int .i64), (.int .i64), (.int .i64), (.int .i64), .bool, (.sl [(.int .i64), (.int .i64), (.int .i64), (.int .i64), (.int .i64), (.int .i64), .bool])] e := (hok _ (.tail _ (.head _)))
  have e_e_6 : D.lst (e.fld 6).toL = e.fld 6 := sl_eta (okL_at k_e (i := 6) rfl)
  have l_e_6 := sl_len (okL_at k_e (i := 6) rfl)
  have k_e_6 := sl_all (okL_at k_e (i := 6) rfl)
  have E_e_6 : ∀ i, i < (e.fld 6).toL.length → D.lst [((e.fld 6).elem i).fld 0, ((e.fld 6).elem i).fld 1, ((e.fld 6).elem i).fld 2, ((e.fld 6).elem i).fld 3, ((e.fld 6).elem i).fld 4, ((e.fld 6).elem i).fld 5, ((e.fld 6).elem i).fld 6] = (e.fld 6).elem i := fun i hi => by simpa [List.range, List.range.loop] using okL_eta (k_e_6 _ (elem_mem hi))
  subst h
  apply says_den (φ := (phi_70))
  simp [e_d_6, E_d_6, e_e_6, E_e_6, e_d, e_e, tree_70, T.says, X.den, O1.den, O2.den, O3.den, callD, XArg.ev, XArg.dat, Callee'.num, backs, DArg.back, Conds.den, cloArgs, phi_70, pd_43]
theorem pd_70 (d e : D) (h : d = e) (Q : List D → Prop) (ho : Q [.bool true]) : PC Try.prog 70 [.st [(.int .i64), (.int .i64), (.int .i64), (.int .i64), (.int .i64), .bool, (.sl [(.int .i64), (.int .i64), (.int .i64), (.int .i64), (.int .i64), (.int .i64), .bool])] d, .st [(.int .i64), (.int .i64), (.int .i64), (.int .i64), (.int .i64), .bool, (.sl [(.int .i64), (.int .i64), (.int .i64), (.int .i64), (.int .i64), (.int .i64), .bool])] e] [.sc .bool] Q := (pc_70 d e h).mono fun _ h => h ▸ ho
/- laws.eqEffect -/
def phi_25 : Nat → List D → List D
  | 68, [d, e] => [.bool true]
  | 69, [d, e] => [.bool true]
  | 70, [d, e] => [.bool true]
  | _, _ => []
theorem pc_25 (d e : D) (h : d = e) : PC Try.prog 25 [.st [(.int .i64), (.int .i64), (.int .i64), (.int .i64), (.int .i64), (.int .i64), (.int .i64), (.int .i64), (.int .i64), (.int .i64), (.int .i64), (.int .i64), (.int .i64), (.int .i64), (.int .i64), (.int .i64), (.int .i64), (.int .i64), .bool, (.sl [(.int .i64), (.int .i64), (.int .i64), (.int .i64), (.int .i64), (.int .i64), .bool]), (.int .i64), (.int .i64)] d, .st [(.int .i64), (.int .i64), (.int .i64), (.int .i64), (.int .i64), (.int .i64), (.int .i64), (.int .i64), (.int .i64), (.int .i64), (.int .i64), (.int .i64), (.int .i64), (.int .i64), (.int .i64), (.int .i64), (.int .i64), (.int .i64), .bool, (.sl [(.int .i64), (.int .i64), (.int .i64), (.int .i64), (.int .i64), (.int .i64), .bool]), (.int .i64), (.int .i64)] e] [.sc .bool] fun o => o = [.bool true] := by
  refine PC.of_sig mix sig_25 ⟨rfl, rfl, trivial⟩ rfl fun hok => ?_
  have e_d : D.lst [d.fld 0, d.fld 1, d.fld 2, d.fld 3, d.fld 4, d.fld 5, d.fld 6, d.fld 7, d.fld 8, d.fld 9, d.fld 10, d.fld 11, d.fld 12, d.fld 13, d.fld 14, d.fld 15, d.fld 16, d.fld 17, d.fld 18, d.fld 19, d.fld 20, d.fld 21] = d := by simpa [List.range, List.range.loop] using okL_eta (hok _ (.head _))
  have k_d : okL [(.int .i64), (.int .i64), (.int .i64), (.int .i64), (.int .i64), (.int .i64), (.int .i64), (.int .i64), (.int .i64), (.int .i64), (.int .i64), (.int .i64), (.int .i64), (.int .i64), (.int .i64), (.int .i64), (.int .i64), (.int .i64), .bool, (.sl [(.int .i64), (.int .i64), (.int .i64), (.int .i64), (.int .i64), (.int .i64), .bool]), (.int .i64), (.int .i64)] d := (hok _ (.head _))
  have e_d_19 : D.lst (d.fld 19).toL = d.fld 19 := sl_eta (okL_at k_d (i := 19) rfl)
  have l_d_19 := sl_len (okL_at k_d (i := 19) rfl)
  have k_d_19 := sl_all (okL_at k_d (i := 19) rfl)
  have E_d_19 : ∀ i, i < (d.fld 19).toL.length → D.lst [((d.fld 19).elem i).fld 0, ((d.fld 19).elem i).fld 1, ((d.fld 19).elem i).fld 2, ((d.fld 19).elem i).fld 3, ((d.fld 19).elem i).fld 4, ((d.fld 19).elem i).fld 5, ((d.fld 19).elem i).fld 6] = (d.fld 19).elem i := fun i hi => by simpa [List.range, List.range.loop] using okL_eta (k_d_19 _ (elem_mem hi))
  have e_e : D.lst [e.fld 0, e.fld 1, e.fld 2, e.fld 3, e.fld 4, e.fld 5, e.fld 6, e.fld 7, e.fld 8, e.fld 9, e.fld 10, e.fld 11, e.fld 12, e.fld 13, e.fld 14, e.fld 15, e.fld 16, e.fld 17, e.fld 18, e.fld 19, e.fld 20, e.fld 21] = e := by simpa [List.range, List.range.loop] using okL_eta (hok _ (.tail _ (.head _)))
  have k_e : okL [(.int .i64), (.int .i64), (.int .i64), (.int .i64), (.int .i64), (.int .i64), (.int .i64), (.int .i64), (.int .i64), (.int .i64), (.int .i64), (.int .i64), (.int .i64), (.int .i64), (.int .i64), (.int .i64), (.int .i64), (.int .i64), .bool, (.sl [(.int .i64), (.int .i64), (.int .i64), (.int .i64), (.int .i64), (.int .i64), .bool]), (.int .i64), (.int .i64)] e := (hok _ (.tail _ (.head _)))
  have e_e_19 : D.lst (e.fld 19).toL = e.fld 19 := sl_eta (okL_at k_e (i := 19) rfl)
  have l_e_19 := sl_len (okL_at k_e (i := 19) rfl)
  have k_e_19 := sl_all (okL_at k_e (i := 19) rfl)
  have E_e_19 : ∀ i, i < (e.fld 19).toL.length → D.lst [((e.fld 19).elem i).fld 0, ((e.fld 19).elem i).fld 1, ((e.fld 19).elem i).fld 2, ((e.fld 19).elem i).fld 3, ((e.fld 19).elem i).fld 4, ((e.fld 19).elem i).fld 5, ((e.fld 19).elem i).fld 6] = (e.fld 19).elem i := fun i hi => by simpa [List.range, List.range.loop] using okL_eta (k_e_19 _ (elem_mem hi))
  subst h
  apply says_den (φ := (phi_25))
  simp [e_d_19, E_d_19, e_e_19, E_e_19, e_d, e_e, tree_25, T.says, X.den, O1.den, O2.den, O3.den, callD, XArg.ev, XArg.dat, Callee'.num, backs, DArg.back, Conds.den, cloArgs, phi_25, pd_68, pd_69, pd_70]
theorem pd_25 (d e : D) (h : d = e) (Q : List D → Prop) (ho : Q [.bool true]) : PC Try.prog 25 [.st [(.int .i64), (.int .i64), (.int .i64), (.int .i64), (.int .i64), (.int .i64), (.int .i64), (.int .i64), (.int .i64), (.int .i64), (.int .i64), (.int .i64), (.int .i64), (.int .i64), (.int .i64), (.int .i64), (.int .i64), (.int .i64), .bool, (.sl [(.int .i64), (.int .i64), (.int .i64), (.int .i64), (.int .i64), (.int .i64), .bool]), (.int .i64), (.int .i64)] d, .st [(.int .i64), (.int .i64), (.int .i64), (.int .i64), (.int .i64), (.int .i64), (.int .i64), (.int .i64), (.int .i64), (.int .i64), (.int .i64), (.int .i64), (.int .i64), (.int .i64), (.int .i64), (.int .i64), (.int .i64), (.int .i64), .bool, (.sl [(.int .i64), (.int .i64), (.int .i64), (.int .i64), (.int .i64), (.int .i64), .bool]), (.int .i64), (.int .i64)] e] [.sc .bool] Q := (pc_25 d e h).mono fun _ h => h ▸ ho
/- laws.eqEffectS -/
def phi_18 : Nat → List D → List D
  | 25, [d, e] => [.bool true]
  | _, _ => []
theorem pc_18 (d e : D) (h : d = e) : PC Try.prog 18 [.sc (.sl [(.int .i64), (.int .i64), (.int .i64), (.int .i64), (.int .i64), (.int .i64), (.int .i64), (.int .i64), (.int .i64), (.int .i64), (.int .i64), (.int .i64), (.int .i64), (.int .i64), (.int .i64), (.int .i64), (.int .i64), (.int .i64), .bool, (.sl [(.int .i64), (.int .i64), (.int .i64), (.int .i64), (.int .i64), (.int .i64), .bool]), (.int .i64), (.int .i64)]) d, .sc (.sl [(.int .i64), (.int .i64), (.int .i64), (.int .i64), (.int .i64), (.int .i64), (.int .i64), (.int .i64), (.int .i64), (.int .i64), (.int .i64), (.int .i64), (.int .i64), (.int .i64), (.int .i64), (.int .i64), (.int .i64), (.int .i64), .bool, (.sl [(.int .i64), (.int .i64), (.int .i64), (.int .i64), (.int .i64), (.int .i64), .bool]), (.int .i64), (.int .i64)]) e] [.sc .bool] fun o => o = [.bool true] := by
  refine PC.of_sig mix sig_18 ⟨rfl, rfl, trivial⟩ rfl fun hok => ?_
  have e_d := sl_eta (hok _ (.head _))
  have l_d := sl_len (hok _ (.head _))
  have k_d := sl_all (hok _ (.head _))
  have E_d : ∀ i, i < d.toL.length → D.lst [(d.elem i).fld 0, (d.elem i).fld 1, (d.elem i).fld 2, (d.elem i).fld 3, (d.elem i).fld 4, (d.elem i).fld 5, (d.elem i).fld 6, (d.elem i).fld 7, (d.elem i).fld 8, (d.elem i).fld 9, (d.elem i).fld 10, (d.elem i).fld 11, (d.elem i).fld 12, (d.elem i).fld 13, (d.elem i).fld 14, (d.elem i).fld 15, (d.elem i).fld 16, (d.elem i).fld 17, (d.elem i).fld 18, (d.elem i).fld 19, (d.elem i).fld 20, (d.elem i).fld 21] = d.elem i := fun i hi => by simpa [List.range, List.range.loop] using okL_eta (k_d _ (elem_mem hi))
  have e_e := sl_eta (hok _ (.tail _ (.head _)))
  have l_e := sl_len (hok _ (.tail _ (.head _)))
  have k_e := sl_all (hok _ (.tail _ (.head _)))
  have E_e : ∀ i, i < e.toL.length → D.lst [(e.elem i).fld 0, (e.elem i).fld 1, (e.elem i).fld 2, (e.elem i).fld 3, (e.elem i).fld 4, (e.elem i).fld 5, (e.elem i).fld 6, (e.elem i).fld 7, (e.elem i).fld 8, (e.elem i).fld 9, (e.elem i).fld 10, (e.elem i).fld 11, (e.elem i).fld 12, (e.elem i).fld 13, (e.elem i).fld 14, (e.elem i).fld 15, (e.elem i).fld 16, (e.elem i).fld 17, (e.elem i).fld 18, (e.elem i).fld 19, (e.elem i).fld 20, (e.elem i).fld 21] = e.elem i := fun i hi => by simpa [List.range, List.range.loop] using okL_eta (k_e _ (elem_mem hi))
  subst h
  apply says_den (φ := (phi_18))
  simp [e_d, e_e, E_d, E_e, tree_18, T.says, X.den, O1.den, O2.den, O3.den, callD, XArg.ev, XArg.dat, Callee'.num, backs, DArg.back, Conds.den, cloArgs, phi_18, pd_25]
  refine fun _ => ?_
  refine den_for d.toL.length 0 (fun i => [.int i]) (fun _ => True) (by simp) (by simp [X.den]) trivial fun i hi _ => ?_
  apply says_den (φ := (phi_18))
  simp [e_d, e_e, E_d, E_e, tree_18, T.says, X.den, O1.den, O2.den, O3.den, callD, XArg.ev, XArg.dat, Callee'.num, backs, DArg.back, Conds.den, cloArgs, phi_18, pd_25]
  (repeat' (first | (with_reducible apply And.intro) | intro _)) <;> (first | omega | (simp only [IntKind.wrap_i64, maxL] at *; omega) | (simp [IntKind.wrap_i64, maxL] at *; omega))
theorem pd_18 (d e : D) (h : d = e) (Q : List D → Prop) (ho : Q [.bool true]) : PC Try.prog 18 [.sc (.sl [(.int .i64), (.int .i64), (.int .i64), (.int .i64), (.int .i64), (.int .i64), (.int .i64), (.int .i64), (.int .i64), (.int .i64), (.int .i64), (.int .i64), (.int .i64), (.int .i64), (.int .i64), (.int .i64), (.int .i64), (.int .i64), .bool, (.sl [(.int .i64), (.int .i64), (.int .i64), (.int .i64), (.int .i64), (.int .i64), .bool]), (.int .i64), (.int .i64)]) d, .sc (.sl [(.int .i64), (.int .i64), (.int .i64), (.int .i64), (.int .i64), (.int .i64), (.int .i64), (.int .i64), (.int .i64), (.int .i64), (.int .i64), (.int .i64), (.int .i64), (.int .i64), (.int .i64), (.int .i64), (.int .i64), (.int .i64), .bool, (.sl [(.int .i64), (.int .i64), (.int .i64), (.int .i64), (.int .i64), (.int .i64), .bool]), (.int .i64), (.int .i64)]) e] [.sc .bool] Q := (pc_18 d e h).mono fun _ h => h ▸ ho
/- laws.markEventS -/
theorem pc_44 (d n : D) (h : (d.toL.length : Int) ≤ 1048576) (hn : 0 ≤ n.toI ∧ n.toI ≤ 1125899906842624) : PC Try.prog 44 [.row [(.int .i64), (.int .i64), (.int .i64), (.int .i64), (.int .i64), (.int .i64), .bool] d, .sc (.int .i64) n] [.sc (.int .i64)] fun o => o = [.int (n.toI + 7 * d.toL.length), .lst (markedE n.toI d.toL.length)] := by
  refine PC.of_sig mix sig_44 ⟨rfl, rfl, trivial⟩ rfl fun hok => ?_
  have e_d := sl_eta (hok _ (.head _))
  have l_d := sl_len (hok _ (.head _))
  have k_d := sl_all (hok _ (.head _))
  have E_d : ∀ i, i < d.toL.length → D.lst [(d.elem i).fld 0, (d.elem i).fld 1, (d.elem i).fld 2, (d.elem i).fld 3, (d.elem i).fld 4, (d.elem i).fld 5, (d.elem i).fld 6] = d.elem i := fun i hi => by simpa [List.range, List.range.loop] using okL_eta (k_d _ (elem_mem hi))
  have e_n := int_eta (hok _ (.tail _ (.head _)))
  have b_n := int_range (hok _ (.tail _ (.head _)))
  apply says_den (φ := fun _ _ => [])
  simp [e_d, e_n, E_d, tree_44, T.says, X.den, O1.den, O2.den, O3.den, callD, XArg.ev, XArg.dat, Callee'.num, backs, DArg.back, Conds.den, cloArgs] at h ⊢
  refine den_for d.toL.length 1 (fun i => [.int (n.toI + 7 * i), .int i, .lst (markedE n.toI i ++ d.toL.drop i)]) (fun _ => True) (by simp) (by simp [X.den, e_n, e_d, markedE]) trivial fun i hi _ => ?_
  apply says_den (φ := fun _ _ => [])
  by_cases hlt : i < d.toL.length
  · have hT : (d.elem i).toL = [(d.elem i).fld 0, (d.elem i).fld 1, (d.elem i).fld 2, (d.elem i).fld 3, (d.elem i).fld 4, (d.elem i).fld 5, (d.elem i).fld 6] := by
      have := E_d i hlt
      rw [← this]; rfl
    have hM := elem_mark (n := n.toI) hlt
    have hS := fun x => elem_mark_set (n := n.toI) (x := x) hlt
    have hw : ∀ m : Int, 0 ≤ m → m ≤ 2000000000000000 → IntKind.i64.wrap m = m := fun m h1 h2 => by rw [IntKind.wrap_i64]; omega
    have w1 := hw (n.toI + 7 * i + 1) (by omega) (by omega)
    have w2 := hw (n.toI + 7 * i + 2) (by omega) (by omega)
    have w3 := hw (n.toI + 7 * i + 3) (by omega) (by omega)
    have w4 := hw (n.toI + 7 * i + 4) (by omega) (by omega)
    have w5 := hw (n.toI + 7 * i + 5) (by omega) (by omega)
    have w6 := hw (n.toI + 7 * i + 6) (by omega) (by omega)
    have w7 := hw (n.toI + 7 * i + 7) (by omega) (by omega)
    have wi := hw (i + 1) (by omega) (by omega)
    have s2 : n.toI + 7 * (i : Int) + 1 + 1 = n.toI + 7 * i + 2 := by omega
    have s3 : n.toI + 7 * (i : Int) + 2 + 1 = n.toI + 7 * i + 3 := by omega
    have s4 : n.toI + 7 * (i : Int) + 3 + 1 = n.toI + 7 * i + 4 := by omega
    have s5 : n.toI + 7 * (i : Int) + 4 + 1 = n.toI + 7 * i + 5 := by omega
    have s6 : n.toI + 7 * (i : Int) + 5 + 1 = n.toI + 7 * i + 6 := by omega
    have s7 : n.toI + 7 * (i : Int) + 6 + 1 = n.toI + 7 * i + 7 := by omega
    simp [e_d, e_n, E_d, tree_44, T.says, X.den, O1.den, O2.den, O3.den, callD, XArg.ev, XArg.dat, Callee'.num, backs, DArg.back, Conds.den, cloArgs, hlt, hM, hT, hS, w1, w2, w3, w4, w5, w6, w7, wi, s2, s3, s4, s5, s6, s7]
    (repeat' (first | (with_reducible apply And.intro) | intro _)) <;> first | omega | (rw [← markE_step hlt, evMark]) | skip
  · simp [e_d, e_n, E_d, tree_44, T.says, X.den, O1.den, O2.den, O3.den, callD, XArg.ev, XArg.dat, Callee'.num, backs, DArg.back, Conds.den, cloArgs, hlt]
    (repeat' (first | (with_reducible apply And.intro) | intro _)) <;> first | omega | (rw [show i = d.toL.length by omega]; simp) | skip
theorem pd_44 (d n : D) (h : (d.toL.length : Int) ≤ 1048576) (hn : 0 ≤ n.toI ∧ n.toI ≤ 1125899906842624) (Q : List D → Prop) (ho : Q [.int (n.toI + 7 * d.toL.length), .lst (markedE n.toI d.toL.length)]) : PC Try.prog 44 [.row [(.int .i64), (.int .i64), (.int .i64), (.int .i64), (.int .i64), (.int .i64), .bool] d, .sc (.int .i64) n] [.sc (.int .i64)] Q := (pc_44 d n h hn).mono fun _ h => h ▸ ho
/- laws.markAct -/
def phi_71 : Nat → List D → List D
  | 44, [d, n] => [.int (n.toI + 7 * d.toL.length), .lst (markedE n.toI d.toL.length)]
  | _, _ => []
theorem pc_71 (d n : D) (h : ((d.fld 6).toL.length : Int) ≤ 1048576) (hn : 0 ≤ n.toI ∧ n.toI ≤ 1125899906842624) : PC Try.prog 71 [.stw [(.int .i64), (.int .i64), (.int .i64), (.int .i64), (.int .i64), .bool, (.sl [(.int .i64), (.int .i64), (.int .i64), (.int .i64), (.int .i64), (.int .i64), .bool])] d, .sc (.int .i64) n] [.sc (.int .i64)] fun o => o = [.int (n.toI + 7 * (d.fld 6).toL.length), .lst [d.fld 0, d.fld 1, d.fld 2, d.fld 3, d.fld 4, d.fld 5, .lst (markedE n.toI (d.fld 6).toL.length)]] := by
  refine PC.of_sig mix sig_71 ⟨⟨rfl, by decide⟩, rfl, trivial⟩ rfl fun hok => ?_
  have e_d : D.lst [d.fld 0, d.fld 1, d.fld 2, d.fld 3, d.fld 4, d.fld 5, d.fld 6] = d := by simpa [List.range, List.range.loop] using okL_eta (hok _ (.head _))
  have k_d : okL [(.int .i64), (.int .i64), (.int .i64), (.int .i64), (.int .i64), .bool, (.sl [(.int .i64), (.int .i64), (.int .i64), (.int .i64), (.int .i64), (.int .i64), .bool])] d := (hok _ (.head _))
  have e_d_6 : D.lst (d.fld 6).toL = d.fld 6 := sl_eta (okL_at k_d (i := 6) rfl)
  have l_d_6 := sl_len (okL_at k_d (i := 6) rfl)
  have k_d_6 := sl_all (okL_at k_d (i := 6) rfl)
  have E_d_6 : ∀ i, i < (d.fld 6).toL.length → D.lst [((d.fld 6).elem i).fld 0, ((d.fld 6).elem i).fld 1, ((d.fld 6).elem i).fld 2, ((d.fld 6).elem i).fld 3, ((d.fld 6).elem i).fld 4, ((d.fld 6).elem i).fld 5, ((d.fld 6).elem i).fld 6] = (d.fld 6).elem i := fun i hi => by simpa [List.range, List.range.loop] using okL_eta (k_d_6 _ (elem_mem hi))
  have e_n := int_eta (hok _ (.tail _ (.head _)))
  have b_n := int_range (hok _ (.tail _ (.head _)))
  apply says_den (φ := (phi_71))
  simp [e_d_6, E_d_6, e_d, e_n, tree_71, T.says, X.den, O1.den, O2.den, O3.den, callD, XArg.ev, XArg.dat, Callee'.num, backs, DArg.back, Conds.den, cloArgs, phi_71, pd_44, h, hn]
  all_goals ((repeat' (first | (with_reducible apply And.intro) | intro _)) <;> (first | assumption | (exact pd_44 _ _ (by first | (with_reducible assumption) | omega | assumption | (simp; done) | (simp; omega) | (simp [*]; done) | exact smallE_of (n := 1048576) (by omega) (by omega) | (simp [*] at *; omega) | grind [szS]) (by first | (with_reducible assumption) | omega | assumption | (simp; done) | (simp; omega) | (simp [*]; done) | exact smallE_of (n := 1048576) (by omega) (by omega) | (simp [*] at *; omega) | grind [szS]) _ (by first | rfl | simp | (simp; omega))) | (first | omega | (simp only [IntKind.wrap_i64, maxL] at *; omega) | (simp [IntKind.wrap_i64, maxL] at *; omega)) | rfl | contradiction | grind))
theorem pd_71 (d n : D) (h : ((d.fld 6).toL.length : Int) ≤ 1048576) (hn : 0 ≤ n.toI ∧ n.toI ≤ 1125899906842624) (Q : List D → Prop) (ho : Q [.int (n.toI + 7 * (d.fld 6).toL.length), .lst [d.fld 0, d.fld 1, d.fld 2, d.fld 3, d.fld 4, d.fld 5, .lst (markedE n.toI (d.fld 6).toL.length)]]) : PC Try.prog 71 [.stw [(.int .i64), (.int .i64), (.int .i64), (.int .i64), (.int .i64), .bool, (.sl [(.int .i64), (.int .i64), (.int .i64), (.int .i64), (.int .i64), (.int .i64), .bool])] d, .sc (.int .i64) n] [.sc (.int .i64)] Q := (pc_71 d n h hn).mono fun _ h => h ▸ ho
/- laws.markEffect -/
def phi_26 : Nat → List D → List D
  | 71, [d, n] => [.int (n.toI + 7 * (d.fld 6).toL.length), .lst [d.fld 0, d.fld 1, d.fld 2, d.fld 3, d.fld 4, d.fld 5, .lst (markedE n.toI (d.fld 6).toL.length)]]
  | _, _ => []
theorem pc_26 (d n : D) (h : ((d.fld 19).toL.length : Int) ≤ 1048576) (hn : 0 ≤ n.toI ∧ n.toI ≤ 1125899906842624) : PC Try.prog 26 [.stw [(.int .i64), (.int .i64), (.int .i64), (.int .i64), (.int .i64), (.int .i64), (.int .i64), (.int .i64), (.int .i64), (.int .i64), (.int .i64), (.int .i64), (.int .i64), (.int .i64), (.int .i64), (.int .i64), (.int .i64), (.int .i64), .bool, (.sl [(.int .i64), (.int .i64), (.int .i64), (.int .i64), (.int .i64), (.int .i64), .bool]), (.int .i64), (.int .i64)] d, .sc (.int .i64) n] [.sc (.int .i64)] fun o => o = [.int (n.toI + 7 * (d.fld 19).toL.length), withL d (.lst (markedE n.toI (d.fld 19).toL.length))] := by
  refine PC.of_sig mix sig_26 ⟨⟨rfl, by decide⟩, rfl, trivial⟩ rfl fun hok => ?_
  have e_d : D.lst [d.fld 0, d.fld 1, d.fld 2, d.fld 3, d.fld 4, d.fld 5, d.fld 6, d.fld 7, d.fld 8, d.fld 9, d.fld 10, d.fld 11, d.fld 12, d.fld 13, d.fld 14, d.fld 15, d.fld 16, d.fld 17, d.fld 18, d.fld 19, d.fld 20, d.fld 21] = d := by simpa [List.range, List.range.loop] using okL_eta (hok _ (.head _))
  have k_d : okL [(.int .i64), (.int .i64), (.int .i64), (.int .i64), (.int .i64), (.int .i64), (.int .i64), (.int .i64), (.int .i64), (.int .i64), (.int .i64), (.int .i64), (.int .i64), (.int .i64), (.int .i64), (.int .i64), (.int .i64), (.int .i64), .bool, (.sl [(.int .i64), (.int .i64), (.int .i64), (.int .i64), (.int .i64), (.int .i64), .bool]), (.int .i64), (.int .i64)] d := (hok _ (.head _))
  have e_d_19 : D.lst (d.fld 19).toL = d.fld 19 := sl_eta (okL_at k_d (i := 19) rfl)
  have l_d_19 := sl_len (okL_at k_d (i := 19) rfl)
  have k_d_19 := sl_all (okL_at k_d (i := 19) rfl)
  have E_d_19 : ∀ i, i < (d.fld 19).toL.length → D.lst [((d.fld 19).elem i).fld 0, ((d.fld 19).elem i).fld 1, ((d.fld 19).elem i).fld 2, ((d.fld 19).elem i).fld 3, ((d.fld 19).elem i).fld 4, ((d.fld 19).elem i).fld 5, ((d.fld 19).elem i).fld 6] = (d.fld 19).elem i := fun i hi => by simpa [List.range, List.range.loop] using okL_eta (k_d_19 _ (elem_mem hi))
  have e_n := int_eta (hok _ (.tail _ (.head _)))
  have b_n := int_range (hok _ (.tail _ (.head _)))
  apply says_den (φ := (phi_26))
  simp [e_d_19, E_d_19, e_d, e_n, tree_26, T.says, X.den, O1.den, O2.den, O3.den, callD, XArg.ev, XArg.dat, Callee'.num, backs, DArg.back, Conds.den, cloArgs, phi_26, pd_71, h, hn, withL]
  all_goals ((repeat' (first | (with_reducible apply And.intro) | intro _)) <;> (first | assumption | (exact pd_71 _ _ (by first | (with_reducible assumption) | omega | assumption | (simp; done) | (simp; omega) | (simp [*]; done) | exact smallE_of (n := 1048576) (by omega) (by omega) | (simp [*] at *; omega) | grind [szS]) (by first | (with_reducible assumption) | omega | assumption | (simp; done) | (simp; omega) | (simp [*]; done) | exact smallE_of (n := 1048576) (by omega) (by omega) | (simp [*] at *; omega) | grind [szS]) _ (by first | rfl | simp | (simp; omega))) | (first | omega | (simp only [IntKind.wrap_i64, maxL] at *; omega) | (simp [IntKind.wrap_i64, maxL] at *; omega)) | rfl | contradiction | grind))
theorem pd_26 (d n : D) (h : ((d.fld 19).toL.length : Int) ≤ 1048576) (hn : 0 ≤ n.toI ∧ n.toI ≤ 1125899906842624) (Q : List D → Prop) (ho : Q [.int (n.toI + 7 * (d.fld 19).toL.length), withL d (.lst (markedE n.toI (d.fld 19).toL.length))]) : PC Try.prog 26 [.stw [(.int .i64), (.int .i64), (.int .i64), (.int .i64), (.int .i64), (.int .i64), (.int .i64), (.int .i64), (.int .i64), (.int .i64), (.int .i64), (.int .i64), (.int .i64), (.int .i64), (.int .i64), (.int .i64), (.int .i64), (.int .i64), .bool, (.sl [(.int .i64), (.int .i64), (.int .i64), (.int .i64), (.int .i64), (.int .i64), .bool]), (.int .i64), (.int .i64)] d, .sc (.int .i64) n] [.sc (.int .i64)] Q := (pc_26 d n h hn).mono fun _ h => h ▸ ho
/- laws.markEffectS -/
def phi_34 : Nat → List D → List D
  | 44, [d, n] => [.int (n.toI + 7 * d.toL.length), .lst (markedE n.toI d.toL.length)]
  | _, _ => []
theorem pc_34 (d n : D) (h : smallE d) (hn : 0 ≤ n.toI ∧ n.toI ≤ 1073741824) : PC Try.prog 34 [.row [(.int .i64), (.int .i64), (.int .i64), (.int .i64), (.int .i64), (.int .i64), (.int .i64), (.int .i64), (.int .i64), (.int .i64), (.int .i64), (.int .i64), (.int .i64), (.int .i64), (.int .i64), (.int .i64), (.int .i64), (.int .i64), .bool, (.sl [(.int .i64), (.int .i64), (.int .i64), (.int .i64), (.int .i64), (.int .i64), .bool]), (.int .i64), (.int .i64)] d, .sc (.int .i64) n] [.sc (.int .i64)] fun o => o = [.int (endE n.toI d), .lst (markEfs n.toI d d.toL.length)] := by
  refine PC.of_sig mix sig_34 ⟨rfl, rfl, trivial⟩ rfl fun hok => ?_
  have e_d := sl_eta (hok _ (.head _))
  have l_d := sl_len (hok _ (.head _))
  have k_d := sl_all (hok _ (.head _))
  have E_d : ∀ i, i < d.toL.length → D.lst [(d.elem i).fld 0, (d.elem i).fld 1, (d.elem i).fld 2, (d.elem i).fld 3, (d.elem i).fld 4, (d.elem i).fld 5, (d.elem i).fld 6, (d.elem i).fld 7, (d.elem i).fld 8, (d.elem i).fld 9, (d.elem i).fld 10, (d.elem i).fld 11, (d.elem i).fld 12, (d.elem i).fld 13, (d.elem i).fld 14, (d.elem i).fld 15, (d.elem i).fld 16, (d.elem i).fld 17, (d.elem i).fld 18, (d.elem i).fld 19, (d.elem i).fld 20, (d.elem i).fld 21] = d.elem i := fun i hi => by simpa [List.range, List.range.loop] using okL_eta (k_d _ (elem_mem hi))
  have e_n := int_eta (hok _ (.tail _ (.head _)))
  have b_n := int_range (hok _ (.tail _ (.head _)))
  have h1 := h.1
  apply says_den (φ := (phi_34))
  simp [e_d, e_n, E_d, tree_34, T.says, X.den, O1.den, O2.den, O3.den, callD, XArg.ev, XArg.dat, Callee'.num, backs, DArg.back, Conds.den, cloArgs, phi_34, pd_44]
  refine den_for d.toL.length 1 (fun i => [.int (offE n.toI d i), .int i, .lst (markEfs n.toI d i ++ d.toL.drop i)]) (fun _ => True) (by simp) (by simp [X.den, e_n, e_d, markEfs, mkL, offE, sumR]) trivial fun i hi _ => ?_
  apply says_den (φ := (phi_34))
  by_cases hlt : i < d.toL.length
  · have hT : (d.elem i).toL = [(d.elem i).fld 0, (d.elem i).fld 1, (d.elem i).fld 2, (d.elem i).fld 3, (d.elem i).fld 4, (d.elem i).fld 5, (d.elem i).fld 6, (d.elem i).fld 7, (d.elem i).fld 8, (d.elem i).fld 9, (d.elem i).fld 10, (d.elem i).fld 11, (d.elem i).fld 12, (d.elem i).fld 13, (d.elem i).fld 14, (d.elem i).fld 15, (d.elem i).fld 16, (d.elem i).fld 17, (d.elem i).fld 18, (d.elem i).fld 19, (d.elem i).fld 20, (d.elem i).fld 21] := by
      have := E_d i hlt
      rw [← this]; rfl
    have hM : (D.lst (markEfs n.toI d i ++ d.toL.drop i)).elem i = d.elem i := elem_mkL hlt
    have hS : ∀ x, (D.lst (markEfs n.toI d i ++ (d.toL.drop i).set 0 x)).elem i = x := fun x => elem_mkL_set hlt
    have hr := offE_range hn h (i := i) (by omega)
    have h2 := h.2 i hlt
    have hq := offE_succ (n := n.toI) (d := d) (i := i)
    have hin : innerE d i = ((d.elem i).fld 19).toL.length := rfl
    have hw : ∀ m : Int, 0 ≤ m → m ≤ 2000000000000000 → IntKind.i64.wrap m = m := fun m h1 h2 => by rw [IntKind.wrap_i64]; omega
    have wj : ∀ j : Int, 0 ≤ j → j ≤ 100 → IntKind.i64.wrap (offE n.toI d i + j) = offE n.toI d i + j := fun j h1 h2 => hw _ (by omega) (by omega)
    have sj : ∀ j : Int, offE n.toI d i + j + 1 = offE n.toI d i + (j + 1) := fun j => by omega
    have wi := hw (i + 1) (by omega) (by omega)
    have v0 : offE n.toI d i + 19 + 7 * ((d.elem i).fld 19).toL.length + 1 = offE n.toI d i + 20 + 7 * ((d.elem i).fld 19).toL.length := by omega
    have v1 := hw (offE n.toI d i + 20 + 7 * ((d.elem i).fld 19).toL.length) (by omega) (by omega)
    have v2 : offE n.toI d i + 20 + 7 * ((d.elem i).fld 19).toL.length + 1 = offE n.toI d (i + 1) := by omega
    have v3 := hw (offE n.toI d (i + 1)) (by omega) (by omega)
    simp [e_d, e_n, E_d, tree_34, T.says, X.den, O1.den, O2.den, O3.den, callD, XArg.ev, XArg.dat, Callee'.num, backs, DArg.back, Conds.den, cloArgs, phi_34, pd_44, hlt, hM, hT, hS, wj, sj, wi, v0, v1, v2, v3, h2, hr]
    (repeat' (first | (with_reducible apply And.intro) | intro _)) <;> first | omega | (first | assumption | (exact pd_44 _ _ (by first | (with_reducible assumption) | omega | assumption | (simp; done) | (simp; omega) | (simp [*]; done) | exact smallE_of (n := 1048576) (by omega) (by omega) | (simp [*] at *; omega) | grind [szS]) (by first | (with_reducible assumption) | omega | assumption | (simp; done) | (simp; omega) | (simp [*]; done) | exact smallE_of (n := 1048576) (by omega) (by omega) | (simp [*] at *; omega) | grind [szS]) _ (by first | rfl | simp | (simp; omega))) | (first | omega | (simp only [IntKind.wrap_i64, maxL] at *; omega) | (simp [IntKind.wrap_i64, maxL] at *; omega)) | rfl | contradiction | grind) | (rw [markEfs, markEfs, ← mkL_step hlt, effMark]; rfl) | skip
  · simp [e_d, e_n, E_d, tree_34, T.says, X.den, O1.den, O2.den, O3.den, callD, XArg.ev, XArg.dat, Callee'.num, backs, DArg.back, Conds.den, cloArgs, phi_34, pd_44, hlt]
    have : i = d.toL.length := by omega
    subst this
    (repeat' (first | (with_reducible apply And.intro) | intro _)) <;> first | omega | (simp [endE]; done) | skip
theorem pd_34 (d n : D) (h : smallE d) (hn : 0 ≤ n.toI ∧ n.toI ≤ 1073741824) (Q : List D → Prop) (ho : Q [.int (endE n.toI d), .lst (markEfs n.toI d d.toL.length)]) : PC Try.prog 34 [.row [(.int .i64), (.int .i64), (.int .i64), (.int .i64), (.int .i64), (.int .i64), (.int .i64), (.int .i64), (.int .i64), (.int .i64), (.int .i64), (.int .i64), (.int .i64), (.int .i64), (.int .i64), (.int .i64), (.int .i64), (.int .i64), .bool, (.sl [(.int .i64), (.int .i64), (.int .i64), (.int .i64), (.int .i64), (.int .i64), .bool]), (.int .i64), (.int .i64)] d, .sc (.int .i64) n] [.sc (.int .i64)] Q := (pc_34 d n h hn).mono fun _ h => h ▸ ho
/- laws.heldEventS -/
theorem pc_45 (d n : D) (h : (d.toL.length : Int) ≤ 1048576) (hn : 0 ≤ n.toI ∧ n.toI ≤ 1125899906842624) (hd : markedE n.toI d.toL.length = d.toL) : PC Try.prog 45 [.sc (.sl [(.int .i64), (.int .i64), (.int .i64), (.int .i64), (.int .i64), (.int .i64), .bool]) d, .sc (.int .i64) n] [.sc (.int .i64)] fun o => o = [.int (n.toI + 7 * d.toL.length)] := by
  refine PC.of_sig mix sig_45 ⟨rfl, rfl, trivial⟩ rfl fun hok => ?_
  have e_d := sl_eta (hok _ (.head _))
  have l_d := sl_len (hok _ (.head _))
  have k_d := sl_all (hok _ (.head _))
  have E_d : ∀ i, i < d.toL.length → D.lst [(d.elem i).fld 0, (d.elem i).fld 1, (d.elem i).fld 2, (d.elem i).fld 3, (d.elem i).fld 4, (d.elem i).fld 5, (d.elem i).fld 6] = d.elem i := fun i hi => by simpa [List.range, List.range.loop] using okL_eta (k_d _ (elem_mem hi))
  have e_n := int_eta (hok _ (.tail _ (.head _)))
  have b_n := int_range (hok _ (.tail _ (.head _)))
  apply says_den (φ := fun _ _ => [])
  simp [e_d, e_n, E_d, tree_45, T.says, X.den, O1.den, O2.den, O3.den, callD, XArg.ev, XArg.dat, Callee'.num, backs, DArg.back, Conds.den, cloArgs] at h ⊢
  refine den_for d.toL.length 1 (fun i => [.int (n.toI + 7 * i), .int i]) (fun _ => True) (by simp) (by simp [X.den, e_n]) trivial fun i hi _ => ?_
  apply says_den (φ := fun _ _ => [])
  by_cases hlt : i < d.toL.length
  · have hE := heldE_at hd hlt
    have hw : ∀ m : Int, 0 ≤ m → m ≤ 2000000000000000 → IntKind.i64.wrap m = m := fun m h1 h2 => by rw [IntKind.wrap_i64]; omega
    have w1 := hw (n.toI + 7 * i + 1) (by omega) (by omega)
    have w2 := hw (n.toI + 7 * i + 2) (by omega) (by omega)
    have w3 := hw (n.toI + 7 * i + 3) (by omega) (by omega)
    have w4 := hw (n.toI + 7 * i + 4) (by omega) (by omega)
    have w5 := hw (n.toI + 7 * i + 5) (by omega) (by omega)
    have w6 := hw (n.toI + 7 * i + 6) (by omega) (by omega)
    have w7 := hw (n.toI + 7 * i + 7) (by omega) (by omega)
    have wi := hw (i + 1) (by omega) (by omega)
    have s2 : n.toI + 7 * (i : Int) + 1 + 1 = n.toI + 7 * i + 2 := by omega
    have s3 : n.toI + 7 * (i : Int) + 2 + 1 = n.toI + 7 * i + 3 := by omega
    have s4 : n.toI + 7 * (i : Int) + 3 + 1 = n.toI + 7 * i + 4 := by omega
    have s5 : n.toI + 7 * (i : Int) + 4 + 1 = n.toI + 7 * i + 5 := by omega
    have s6 : n.toI + 7 * (i : Int) + 5 + 1 = n.toI + 7 * i + 6 := by omega
    have s7 : n.toI + 7 * (i : Int) + 6 + 1 = n.toI + 7 * i + 7 := by omega
    simp [e_d, e_n, E_d, tree_45, T.says, X.den, O1.den, O2.den, O3.den, callD, XArg.ev, XArg.dat, Callee'.num, backs, DArg.back, Conds.den, cloArgs, hlt, hE, evMark, w1, w2, w3, w4, w5, w6, w7, wi, s2, s3, s4, s5, s6, s7]
    (repeat' (first | (with_reducible apply And.intro) | intro _)) <;> first | omega | skip
  · simp [e_d, e_n, E_d, tree_45, T.says, X.den, O1.den, O2.den, O3.den, callD, XArg.ev, XArg.dat, Callee'.num, backs, DArg.back, Conds.den, cloArgs, hlt]
    (repeat' (first | (with_reducible apply And.intro) | intro _)) <;> first | omega | skip
theorem pd_45 (d n : D) (h : (d.toL.length : Int) ≤ 1048576) (hn : 0 ≤ n.toI ∧ n.toI ≤ 1125899906842624) (hd : markedE n.toI d.toL.length = d.toL) (Q : List D → Prop) (ho : Q [.int (n.toI + 7 * d.toL.length)]) : PC Try.prog 45 [.sc (.sl [(.int .i64), (.int .i64), (.int .i64), (.int .i64), (.int .i64), (.int .i64), .bool]) d, .sc (.int .i64) n] [.sc (.int .i64)] Q := (pc_45 d n h hn hd).mono fun _ h => h ▸ ho
/- laws.heldEffectS -/
def phi_35 : Nat → List D → List D
  | 45, [d, n] => [.int (n.toI + 7 * d.toL.length)]
  | _, _ => []
theorem pc_35 (d n : D) (h : smallE d) (hn : 0 ≤ n.toI ∧ n.toI ≤ 1073741824) (hd : markEfs n.toI d d.toL.length = d.toL) : PC Try.prog 35 [.sc (.sl [(.int .i64), (.int .i64), (.int .i64), (.int .i64), (.int .i64), (.int .i64), (.int .i64), (.int .i64), (.int .i64), (.int .i64), (.int .i64), (.int .i64), (.int .i64), (.int .i64), (.int .i64), (.int .i64), (.int .i64), (.int .i64), .bool, (.sl [(.int .i64), (.int .i64), (.int .i64), (.int .i64), (.int .i64), (.int .i64), .bool]), (.int .i64), (.int .i64)]) d, .sc (.int .i64) n] [.sc (.int .i64)] fun o => o = [.int (endE n.toI d)] := by
  refine PC.of_sig mix sig_35 ⟨rfl, rfl, trivial⟩ rfl fun hok => ?_
  have e_d := sl_eta (hok _ (.head _))
  have l_d := sl_len (hok _ (.head _))
  have k_d := sl_all (hok _ (.head _))
  have E_d : ∀ i, i < d.toL.length → D.lst [(d.elem i).fld 0, (d.elem i).fld 1, (d.elem i).fld 2, (d.elem i).fld 3, (d.elem i).fld 4, (d.elem i).fld 5, (d.elem i).fld 6, (d.elem i).fld 7, (d.elem i).fld 8, (d.elem i).fld 9, (d.elem i).fld 10, (d.elem i).fld 11, (d.elem i).fld 12, (d.elem i).fld 13, (d.elem i).fld 14, (d.elem i).fld 15, (d.elem i).fld 16, (d.elem i).fld 17, (d.elem i).fld 18, (d.elem i).fld 19, (d.elem i).fld 20, (d.elem i).fld 21] = d.elem i := fun i hi => by simpa [List.range, List.range.loop] using okL_eta (k_d _ (elem_mem hi))
  have e_n := int_eta (hok _ (.tail _ (.head _)))
  have b_n := int_range (hok _ (.tail _ (.head _)))
  have h1 := h.1
  apply says_den (φ := (phi_35))
  simp [e_d, e_n, E_d, tree_35, T.says, X.den, O1.den, O2.den, O3.den, callD, XArg.ev, XArg.dat, Callee'.num, backs, DArg.back, Conds.den, cloArgs, phi_35, pd_45]
  refine den_for d.toL.length 1 (fun i => [.int (offE n.toI d i), .int i]) (fun _ => True) (by simp) (by simp [X.den, e_n, offE, sumR]) trivial fun i hi _ => ?_
  apply says_den (φ := (phi_35))
  by_cases hlt : i < d.toL.length
  · have hE : d.elem i = effMark (offE n.toI d i) (innerE d i) := mkL_at hd hlt
    have hr := offE_range hn h (i := i) (by omega)
    have h2 := h.2 i hlt
    have hq := offE_succ (n := n.toI) (d := d) (i := i)
    have hin : innerE d i = ((d.elem i).fld 19).toL.length := rfl
    have hw : ∀ m : Int, 0 ≤ m → m ≤ 2000000000000000 → IntKind.i64.wrap m = m := fun m h1 h2 => by rw [IntKind.wrap_i64]; omega
    have wj : ∀ j : Int, 0 ≤ j → j ≤ 100 → IntKind.i64.wrap (offE n.toI d i + j) = offE n.toI d i + j := fun j h1 h2 => hw _ (by omega) (by omega)
    have sj : ∀ j : Int, offE n.toI d i + j + 1 = offE n.toI d i + (j + 1) := fun j => by omega
    have wi := hw (i + 1) (by omega) (by omega)
    have v0 : offE n.toI d i + 19 + 7 * innerE d i + 1 = offE n.toI d i + 20 + 7 * innerE d i := by omega
    have v1 := hw (offE n.toI d i + 20 + 7 * innerE d i) (by omega) (by omega)
    have v2 : offE n.toI d i + 20 + 7 * innerE d i + 1 = offE n.toI d (i + 1) := by omega
    have v3 := hw (offE n.toI d (i + 1)) (by omega) (by omega)
    have v4 : (innerE d i : Int) ≤ 1048576 := by omega
    simp [e_d, e_n, E_d, tree_35, T.says, X.den, O1.den, O2.den, O3.den, callD, XArg.ev, XArg.dat, Callee'.num, backs, DArg.back, Conds.den, cloArgs, phi_35, pd_45, hlt, hE, effMark, wj, sj, wi, v0, v1, v2, v3, v4, hr]
    (repeat' (first | (with_reducible apply And.intro) | intro _)) <;> first | omega | (first | assumption | (exact pd_45 _ _ (by first | (with_reducible assumption) | omega | assumption | (simp; done) | (simp; omega) | (simp [*]; done) | exact smallE_of (n := 1048576) (by omega) (by omega) | (simp [*] at *; omega) | grind [szS]) (by first | (with_reducible assumption) | omega | assumption | (simp; done) | (simp; omega) | (simp [*]; done) | exact smallE_of (n := 1048576) (by omega) (by omega) | (simp [*] at *; omega) | grind [szS]) (by first | (with_reducible assumption) | omega | assumption | (simp; done) | (simp; omega) | (simp [*]; done) | exact smallE_of (n := 1048576) (by omega) (by omega) | (simp [*] at *; omega) | grind [szS]) _ (by first | rfl | simp | (simp; omega))) | (first | omega | (simp only [IntKind.wrap_i64, maxL] at *; omega) | (simp [IntKind.wrap_i64, maxL] at *; omega)) | rfl | contradiction | grind) | skip
  · simp [e_d, e_n, E_d, tree_35, T.says, X.den, O1.den, O2.den, O3.den, callD, XArg.ev, XArg.dat, Callee'.num, backs, DArg.back, Conds.den, cloArgs, phi_35, pd_45, hlt]
    have : i = d.toL.length := by omega
    subst this
    (repeat' (first | (with_reducible apply And.intro) | intro _)) <;> first | omega | (simp [endE]; done) | skip
theorem pd_35 (d n : D) (h : smallE d) (hn : 0 ≤ n.toI ∧ n.toI ≤ 1073741824) (hd : markEfs n.toI d d.toL.length = d.toL) (Q : List D → Prop) (ho : Q [.int (endE n.toI d)]) : PC Try.prog 35 [.sc (.sl [(.int .i64), (.int .i64), (.int .i64), (.int .i64), (.int .i64), (.int .i64), (.int .i64), (.int .i64), (.int .i64), (.int .i64), (.int .i64), (.int .i64), (.int .i64), (.int .i64), (.int .i64), (.int .i64), (.int .i64), (.int .i64), .bool, (.sl [(.int .i64), (.int .i64), (.int .i64), (.int .i64), (.int .i64), (.int .i64), .bool]), (.int .i64), (.int .i64)]) d, .sc (.int .i64) n] [.sc (.int .i64)] Q := (pc_35 d n h hn hd).mono fun _ h => h ▸ ho
/- spec.EffectAt -/
theorem pc_15 (d n : D) : PC Try.prog 15 [.sc (.sl [(.int .i64), (.int .i64), (.int .i64), (.int .i64), (.int .i64), (.int .i64), (.int .i64), (.int .i64), (.int .i64), (.int .i64), (.int .i64), (.int .i64), (.int .i64), (.int .i64), (.int .i64), (.int .i64), (.int .i64), (.int .i64), .bool, (.sl [(.int .i64), (.int .i64), (.int .i64), (.int .i64), (.int .i64), (.int .i64), .bool]), (.int .i64), (.int .i64)]) d, .sc (.int .i64) n] [.sc (.int .i64)] fun o => o = [.int (effAt d n.toI)] := by
  refine PC.of_sig mix sig_15 ⟨rfl, rfl, trivial⟩ rfl fun hok => ?_
  have e_d := sl_eta (hok _ (.head _))
  have l_d := sl_len (hok _ (.head _))
  have k_d := sl_all (hok _ (.head _))
  have E_d : ∀ i, i < d.toL.length → D.lst [(d.elem i).fld 0, (d.elem i).fld 1, (d.elem i).fld 2, (d.elem i).fld 3, (d.elem i).fld 4, (d.elem i).fld 5, (d.elem i).fld 6, (d.elem i).fld 7, (d.elem i).fld 8, (d.elem i).fld 9, (d.elem i).fld 10, (d.elem i).fld 11, (d.elem i).fld 12, (d.elem i).fld 13, (d.elem i).fld 14, (d.elem i).fld 15, (d.elem i).fld 16, (d.elem i).fld 17, (d.elem i).fld 18, (d.elem i).fld 19, (d.elem i).fld 20, (d.elem i).fld 21] = d.elem i := fun i hi => by simpa [List.range, List.range.loop] using okL_eta (k_d _ (elem_mem hi))
  have e_n := int_eta (hok _ (.tail _ (.head _)))
  have b_n := int_range (hok _ (.tail _ (.head _)))
  apply says_den (φ := fun _ _ => [])
  simp [e_d, e_n, E_d, tree_15, T.says, X.den, O1.den, O2.den, O3.den, callD, XArg.ev, XArg.dat, Callee'.num, backs, DArg.back, Conds.den, cloArgs, effAt]
  refine den_for d.toL.length 0 (fun i => [.int i]) (fun i => ∀ j, j < i → (((d.elem j).fld 0).toI == n.toI) = false) (by simp) (by simp [X.den]) (by simp) fun i hi hR => ?_
  apply says_den (φ := fun _ _ => [])
  by_cases hlt : i < d.toL.length
  · simp [e_d, e_n, E_d, tree_15, T.says, X.den, O1.den, O2.den, O3.den, callD, XArg.ev, XArg.dat, Callee'.num, backs, DArg.back, Conds.den, cloArgs, hlt]
    (repeat' (first | (with_reducible apply And.intro) | intro _))
    · exact (findR_some (p := fun i => ((d.elem i).fld 0).toI == n.toI) hlt (by simp_all) hR).symm
    · (first | omega | (simp only [IntKind.wrap_i64, maxL] at *; omega) | (simp [IntKind.wrap_i64, maxL] at *; omega))
    · grind
  · simp [e_d, e_n, E_d, tree_15, T.says, X.den, O1.den, O2.den, O3.den, callD, XArg.ev, XArg.dat, Callee'.num, backs, DArg.back, Conds.den, cloArgs, hlt]
    (repeat' (first | (with_reducible apply And.intro) | intro _))
    · exact (findR_none fun j hj => hR j (by omega)).symm
theorem pd_15 (d n : D) (Q : List D → Prop) (ho : Q [.int (effAt d n.toI)]) : PC Try.prog 15 [.sc (.sl [(.int .i64), (.int .i64), (.int .i64), (.int .i64), (.int .i64), (.int .i64), (.int .i64), (.int .i64), (.int .i64), (.int .i64), (.int .i64), (.int .i64), (.int .i64), (.int .i64), (.int .i64), (.int .i64), (.int .i64), (.int .i64), .bool, (.sl [(.int .i64), (.int .i64), (.int .i64), (.int .i64), (.int .i64), (.int .i64), .bool]), (.int .i64), (.int .i64)]) d, .sc (.int .i64) n] [.sc (.int .i64)] Q := (pc_15 d n).mono fun _ h => h ▸ ho
/- spec.l1In -/
theorem pc_73 (a b c : D) : PC Try.prog 73 [.sc (.int .i64) a, .sc (.int .i64) b, .sc (.int .i64) c] [.sc .bool] fun o => o = [.bool (inR a.toI b.toI c.toI)] := by
  refine PC.of_sig mix sig_73 ⟨rfl, rfl, rfl, trivial⟩ rfl fun hok => ?_
  have e_a := int_eta (hok _ (.head _))
  have b_a := int_range (hok _ (.head _))
  have e_b := int_eta (hok _ (.tail _ (.head _)))
  have b_b := int_range (hok _ (.tail _ (.head _)))
  have e_c := int_eta (hok _ (.tail _ (.tail _ (.head _))))
  have b_c := int_range (hok _ (.tail _ (.tail _ (.head _))))
  apply says_den (φ := fun _ _ => [])
  simp [e_a, e_b, e_c, tree_73, T.says, X.den, O1.den, O2.den, O3.den, callD, XArg.ev, XArg.dat, Callee'.num, backs, DArg.back, Conds.den, cloArgs, inR]
theorem pd_73 (a b c : D) (Q : List D → Prop) (ho : Q [.bool (inR a.toI b.toI c.toI)]) : PC Try.prog 73 [.sc (.int .i64) a, .sc (.int .i64) b, .sc (.int .i64) c] [.sc .bool] Q := (pc_73 a b c).mono fun _ h => h ▸ ho
/- spec.PatOk -/
def phi_74 : Nat → List D → List D
  | 73, [a, b, c] => [.bool (inR a.toI b.toI c.toI)]
  | _, _ => []
theorem pc_74 (d : D) : PC Try.prog 74 [.st [(.int .i64), (.int .i64), (.int .i64), (.int .i64), (.int .i64), (.int .i64), (.int .i64)] d] [.sc .bool] fun o => o = [.bool (patOk d)] := by
  refine PC.of_sig mix sig_74 ⟨rfl, trivial⟩ rfl fun hok => ?_
  have e_d : D.lst [d.fld 0, d.fld 1, d.fld 2, d.fld 3, d.fld 4, d.fld 5, d.fld 6] = d := by simpa [List.range, List.range.loop] using okL_eta (hok _ (.head _))
  have k_d : okL [(.int .i64), (.int .i64), (.int .i64), (.int .i64), (.int .i64), (.int .i64), (.int .i64)] d := (hok _ (.head _))
  apply says_den (φ := (phi_74))
  simp [e_d, tree_74, T.says, X.den, O1.den, O2.den, O3.den, callD, XArg.ev, XArg.dat, Callee'.num, backs, DArg.back, Conds.den, cloArgs, phi_74, pd_73]
  (repeat' (first | (with_reducible apply And.intro) | intro _)) <;> grind [patOk]
theorem pd_74 (d : D) (Q : List D → Prop) (ho : Q [.bool (patOk d)]) : PC Try.prog 74 [.st [(.int .i64), (.int .i64), (.int .i64), (.int .i64), (.int .i64), (.int .i64), (.int .i64)] d] [.sc .bool] Q := (pc_74 d).mono fun _ h => h ▸ ho
/- spec.GuardOk -/
def phi_75 : Nat → List D → List D
  | 73, [a, b, c] => [.bool (inR a.toI b.toI c.toI)]
  | _, _ => []
theorem pc_75 (d : D) : PC Try.prog 75 [.st [(.int .i64), (.int .i64)] d] [.sc .bool] fun o => o = [.bool (guardOk d)] := by
  refine PC.of_sig mix sig_75 ⟨rfl, trivial⟩ rfl fun hok => ?_
  have e_d : D.lst [d.fld 0, d.fld 1] = d := by simpa [List.range, List.range.loop] using okL_eta (hok _ (.head _))
  have k_d : okL [(.int .i64), (.int .i64)] d := (hok _ (.head _))
  apply says_den (φ := (phi_75))
  simp [e_d, tree_75, T.says, X.den, O1.den, O2.den, O3.den, callD, XArg.ev, XArg.dat, Callee'.num, backs, DArg.back, Conds.den, cloArgs, phi_75, pd_73]
  (repeat' (first | (with_reducible apply And.intro) | intro _)) <;> grind [guardOk]
theorem pd_75 (d : D) (Q : List D → Prop) (ho : Q [.bool (guardOk d)]) : PC Try.prog 75 [.st [(.int .i64), (.int .i64)] d] [.sc .bool] Q := (pc_75 d).mono fun _ h => h ▸ ho
/- spec.l9Plain -/
theorem pc_124 (a : D) : PC Try.prog 124 [.st [(.int .i64), (.int .i64), (.int .i64), (.int .i64), (.int .i64), .bool, (.sl [(.int .i64), (.int .i64), (.int .i64), (.int .i64), (.int .i64), (.int .i64), .bool])] a] [.sc .bool] fun o => o = [.bool (plain a)] := by
  refine PC.of_sig mix sig_124 ⟨rfl, trivial⟩ rfl fun hok => ?_
  have e_a : D.lst [a.fld 0, a.fld 1, a.fld 2, a.fld 3, a.fld 4, a.fld 5, a.fld 6] = a := by simpa [List.range, List.range.loop] using okL_eta (hok _ (.head _))
  have k_a : okL [(.int .i64), (.int .i64), (.int .i64), (.int .i64), (.int .i64), .bool, (.sl [(.int .i64), (.int .i64), (.int .i64), (.int .i64), (.int .i64), (.int .i64), .bool])] a := (hok _ (.head _))
  have e_a_6 : D.lst (a.fld 6).toL = a.fld 6 := sl_eta (okL_at k_a (i := 6) rfl)
  have l_a_6 := sl_len (okL_at k_a (i := 6) rfl)
  have k_a_6 := sl_all (okL_at k_a (i := 6) rfl)
  have E_a_6 : ∀ i, i < (a.fld 6).toL.length → D.lst [((a.fld 6).elem i).fld 0, ((a.fld 6).elem i).fld 1, ((a.fld 6).elem i).fld 2, ((a.fld 6).elem i).fld 3, ((a.fld 6).elem i).fld 4, ((a.fld 6).elem i).fld 5, ((a.fld 6).elem i).fld 6] = (a.fld 6).elem i := fun i hi => by simpa [List.range, List.range.loop] using okL_eta (k_a_6 _ (elem_mem hi))
  apply says_den (φ := fun _ _ => [])
  simp [e_a_6, E_a_6, e_a, tree_124, T.says, X.den, O1.den, O2.den, O3.den, callD, XArg.ev, XArg.dat, Callee'.num, backs, DArg.back, Conds.den, cloArgs, plain]
theorem pd_124 (a : D) (Q : List D → Prop) (ho : Q [.bool (plain a)]) : PC Try.prog 124 [.st [(.int .i64), (.int .i64), (.int .i64), (.int .i64), (.int .i64), .bool, (.sl [(.int .i64), (.int .i64), (.int .i64), (.int .i64), (.int .i64), (.int .i64), .bool])] a] [.sc .bool] Q := (pc_124 a).mono fun _ h => h ▸ ho
/- spec.EventOk -/
def phi_92 : Nat → List D → List D
  | 73, [a, b, c] => [.bool (inR a.toI b.toI c.toI)]
  | _, _ => []
theorem pc_92 (e : D) : PC Try.prog 92 [.st [(.int .i64), (.int .i64), (.int .i64), (.int .i64), (.int .i64), (.int .i64), .bool] e] [.sc .bool] fun o => o = [.bool (eventOk e)] := by
  refine PC.of_sig mix sig_92 ⟨rfl, trivial⟩ rfl fun hok => ?_
  have e_e : D.lst [e.fld 0, e.fld 1, e.fld 2, e.fld 3, e.fld 4, e.fld 5, e.fld 6] = e := by simpa [List.range, List.range.loop] using okL_eta (hok _ (.head _))
  have k_e : okL [(.int .i64), (.int .i64), (.int .i64), (.int .i64), (.int .i64), (.int .i64), .bool] e := (hok _ (.head _))
  apply says_den (φ := (phi_92))
  simp [e_e, tree_92, T.says, X.den, O1.den, O2.den, O3.den, callD, XArg.ev, XArg.dat, Callee'.num, backs, DArg.back, Conds.den, cloArgs, phi_92, pd_73]
  (repeat' (first | (with_reducible apply And.intro) | intro _)) <;> grind [eventOk, onPiece, onPlayer]
theorem pd_92 (e : D) (Q : List D → Prop) (ho : Q [.bool (eventOk e)]) : PC Try.prog 92 [.st [(.int .i64), (.int .i64), (.int .i64), (.int .i64), (.int .i64), (.int .i64), .bool] e] [.sc .bool] Q := (pc_92 e).mono fun _ h => h ▸ ho
/- spec.l9Part -/
def phi_125 : Nat → List D → List D
  | 92, [e] => [.bool (eventOk e)]
  | _, _ => []
theorem pc_125 (e : D) : PC Try.prog 125 [.st [(.int .i64), (.int .i64), (.int .i64), (.int .i64), (.int .i64), (.int .i64), .bool] e] [.sc .bool] fun o => o = [.bool (partOk e)] := by
  refine PC.of_sig mix sig_125 ⟨rfl, trivial⟩ rfl fun hok => ?_
  have e_e : D.lst [e.fld 0, e.fld 1, e.fld 2, e.fld 3, e.fld 4, e.fld 5, e.fld 6] = e := by simpa [List.range, List.range.loop] using okL_eta (hok _ (.head _))
  have k_e : okL [(.int .i64), (.int .i64), (.int .i64), (.int .i64), (.int .i64), (.int .i64), .bool] e := (hok _ (.head _))
  apply says_den (φ := (phi_125))
  simp [e_e, tree_125, T.says, X.den, O1.den, O2.den, O3.den, callD, XArg.ev, XArg.dat, Callee'.num, backs, DArg.back, Conds.den, cloArgs, phi_125, pd_92, partOk, ev0]
  all_goals grind
theorem pd_125 (e : D) (Q : List D → Prop) (ho : Q [.bool (partOk e)]) : PC Try.prog 125 [.st [(.int .i64), (.int .i64), (.int .i64), (.int .i64), (.int .i64), (.int .i64), .bool] e] [.sc .bool] Q := (pc_125 e).mono fun _ h => h ▸ ho
/- spec.ActOk -/
def phi_76 : Nat → List D → List D
  | 73, [a, b, c] => [.bool (inR a.toI b.toI c.toI)]
  | 124, [a] => [.bool (plain a)]
  | 125, [e] => [.bool (partOk e)]
  | _, _ => []
theorem pc_76 (a : D) : PC Try.prog 76 [.st [(.int .i64), (.int .i64), (.int .i64), (.int .i64), (.int .i64), .bool, (.sl [(.int .i64), (.int .i64), (.int .i64), (.int .i64), (.int .i64), (.int .i64), .bool])] a] [.sc .bool] fun o => o = [.bool (actOk a)] := by
  refine PC.of_sig mix sig_76 ⟨rfl, trivial⟩ rfl fun hok => ?_
  have e_a : D.lst [a.fld 0, a.fld 1, a.fld 2, a.fld 3, a.fld 4, a.fld 5, a.fld 6] = a := by simpa [List.range, List.range.loop] using okL_eta (hok _ (.head _))
  have k_a : okL [(.int .i64), (.int .i64), (.int .i64), (.int .i64), (.int .i64), .bool, (.sl [(.int .i64), (.int .i64), (.int .i64), (.int .i64), (.int .i64), (.int .i64), .bool])] a := (hok _ (.head _))
  have e_a_6 : D.lst (a.fld 6).toL = a.fld 6 := sl_eta (okL_at k_a (i := 6) rfl)
  have l_a_6 := sl_len (okL_at k_a (i := 6) rfl)
  have k_a_6 := sl_all (okL_at k_a (i := 6) rfl)
  have E_a_6 : ∀ i, i < (a.fld 6).toL.length → D.lst [((a.fld 6).elem i).fld 0, ((a.fld 6).elem i).fld 1, ((a.fld 6).elem i).fld 2, ((a.fld 6).elem i).fld 3, ((a.fld 6).elem i).fld 4, ((a.fld 6).elem i).fld 5, ((a.fld 6).elem i).fld 6] = (a.fld 6).elem i := fun i hi => by simpa [List.range, List.range.loop] using okL_eta (k_a_6 _ (elem_mem hi))
  apply says_den (φ := (phi_76))
  simp [e_a_6, E_a_6, e_a, tree_76, T.says, X.den, O1.den, O2.den, O3.den, callD, XArg.ev, XArg.dat, Callee'.num, backs, DArg.back, Conds.den, cloArgs, phi_76, pd_73, pd_124, pd_125]
  (repeat' (first | (with_reducible apply And.intro) | intro _))
  all_goals first | (exfalso; omega) | (grind [actOk, plain]) | skip
  refine den_for (a.fld 6).toL.length 0 (fun i => [.int i]) (fun i => ∀ j, j < i → partOk ((a.fld 6).elem j) = true) (by simp) (by simp [X.den]) (by simp) fun i hi hR => ?_
  have hs : actOk a = ((a.fld 1).toI == 0 && (a.fld 2).toI == 0 && (a.fld 3).toI == -1 && (a.fld 4).toI == 0 && !(a.fld 5).toB && inR (a.fld 6).toL.length 1 3 && allR (fun i => partOk ((a.fld 6).elem i)) (a.fld 6).toL.length) := by
    simp [actOk, *]
  rw [hs]
  apply says_den (φ := (phi_76))
  by_cases hlt : i < (a.fld 6).toL.length
  · simp [e_a_6, E_a_6, e_a, tree_76, T.says, X.den, O1.den, O2.den, O3.den, callD, XArg.ev, XArg.dat, Callee'.num, backs, DArg.back, Conds.den, cloArgs, phi_76, pd_73, pd_124, pd_125, hlt]
    (repeat' (first | (with_reducible apply And.intro) | intro _))
    · rw [allR_false (p := fun i => partOk ((a.fld 6).elem i)) hlt ‹_›]
    · (first | omega | (simp only [IntKind.wrap_i64, maxL] at *; omega) | (simp [IntKind.wrap_i64, maxL] at *; omega))
    · grind
  · have ht := allR_true (p := fun i => partOk ((a.fld 6).elem i)) (n := (a.fld 6).toL.length) (fun j hj => hR j (by omega))
    simp [e_a_6, E_a_6, e_a, tree_76, T.says, X.den, O1.den, O2.den, O3.den, callD, XArg.ev, XArg.dat, Callee'.num, backs, DArg.back, Conds.den, cloArgs, phi_76, pd_73, pd_124, pd_125, hlt, ht]
    all_goals grind
theorem pd_76 (a : D) (Q : List D → Prop) (ho : Q [.bool (actOk a)]) : PC Try.prog 76 [.st [(.int .i64), (.int .i64), (.int .i64), (.int .i64), (.int .i64), .bool, (.sl [(.int .i64), (.int .i64), (.int .i64), (.int .i64), (.int .i64), (.int .i64), .bool])] a] [.sc .bool] Q := (pc_76 a).mono fun _ h => h ▸ ho
/- spec.ActFits -/
def phi_77 : Nat → List D → List D
  | 73, [a, b, c] => [.bool (inR a.toI b.toI c.toI)]
  | _, _ => []
theorem pc_77 (a n : D) : PC Try.prog 77 [.st [(.int .i64), (.int .i64), (.int .i64), (.int .i64), (.int .i64), .bool, (.sl [(.int .i64), (.int .i64), (.int .i64), (.int .i64), (.int .i64), (.int .i64), .bool])] a, .sc (.int .i64) n] [.sc .bool] fun o => o = [.bool (actFits a n.toI)] := by
  refine PC.of_sig mix sig_77 ⟨rfl, rfl, trivial⟩ rfl fun hok => ?_
  have e_a : D.lst [a.fld 0, a.fld 1, a.fld 2, a.fld 3, a.fld 4, a.fld 5, a.fld 6] = a := by simpa [List.range, List.range.loop] using okL_eta (hok _ (.head _))
  have k_a : okL [(.int .i64), (.int .i64), (.int .i64), (.int .i64), (.int .i64), .bool, (.sl [(.int .i64), (.int .i64), (.int .i64), (.int .i64), (.int .i64), (.int .i64), .bool])] a := (hok _ (.head _))
  have e_a_6 : D.lst (a.fld 6).toL = a.fld 6 := sl_eta (okL_at k_a (i := 6) rfl)
  have l_a_6 := sl_len (okL_at k_a (i := 6) rfl)
  have k_a_6 := sl_all (okL_at k_a (i := 6) rfl)
  have E_a_6 : ∀ i, i < (a.fld 6).toL.length → D.lst [((a.fld 6).elem i).fld 0, ((a.fld 6).elem i).fld 1, ((a.fld 6).elem i).fld 2, ((a.fld 6).elem i).fld 3, ((a.fld 6).elem i).fld 4, ((a.fld 6).elem i).fld 5, ((a.fld 6).elem i).fld 6] = (a.fld 6).elem i := fun i hi => by simpa [List.range, List.range.loop] using okL_eta (k_a_6 _ (elem_mem hi))
  have e_n := int_eta (hok _ (.tail _ (.head _)))
  have b_n := int_range (hok _ (.tail _ (.head _)))
  apply says_den (φ := (phi_77))
  simp [e_a_6, E_a_6, e_a, e_n, tree_77, T.says, X.den, O1.den, O2.den, O3.den, callD, XArg.ev, XArg.dat, Callee'.num, backs, DArg.back, Conds.den, cloArgs, phi_77, pd_73]
  (repeat' (first | (with_reducible apply And.intro) | intro _)) <;> grind [actFits]
theorem pd_77 (a n : D) (Q : List D → Prop) (ho : Q [.bool (actFits a n.toI)]) : PC Try.prog 77 [.st [(.int .i64), (.int .i64), (.int .i64), (.int .i64), (.int .i64), .bool, (.sl [(.int .i64), (.int .i64), (.int .i64), (.int .i64), (.int .i64), (.int .i64), .bool])] a, .sc (.int .i64) n] [.sc .bool] Q := (pc_77 a n).mono fun _ h => h ▸ ho
/- spec.EffectOk -/
def phi_28 : Nat → List D → List D
  | 73, [a, b, c] => [.bool (inR a.toI b.toI c.toI)]
  | 74, [d] => [.bool (patOk d)]
  | 75, [d] => [.bool (guardOk d)]
  | 76, [a] => [.bool (actOk a)]
  | 77, [a, n] => [.bool (actFits a n.toI)]
  | _, _ => []
theorem pc_28 (e : D) : PC Try.prog 28 [.st [(.int .i64), (.int .i64), (.int .i64), (.int .i64), (.int .i64), (.int .i64), (.int .i64), (.int .i64), (.int .i64), (.int .i64), (.int .i64), (.int .i64), (.int .i64), (.int .i64), (.int .i64), (.int .i64), (.int .i64), (.int .i64), .bool, (.sl [(.int .i64), (.int .i64), (.int .i64), (.int .i64), (.int .i64), (.int .i64), .bool]), (.int .i64), (.int .i64)] e] [.sc .bool] fun o => o = [.bool (effectOk e)] := by
  refine PC.of_sig mix sig_28 ⟨rfl, trivial⟩ rfl fun hok => ?_
  have e_e : D.lst [e.fld 0, e.fld 1, e.fld 2, e.fld 3, e.fld 4, e.fld 5, e.fld 6, e.fld 7, e.fld 8, e.fld 9, e.fld 10, e.fld 11, e.fld 12, e.fld 13, e.fld 14, e.fld 15, e.fld 16, e.fld 17, e.fld 18, e.fld 19, e.fld 20, e.fld 21] = e := by simpa [List.range, List.range.loop] using okL_eta (hok _ (.head _))
  have k_e : okL [(.int .i64), (.int .i64), (.int .i64), (.int .i64), (.int .i64), (.int .i64), (.int .i64), (.int .i64), (.int .i64), (.int .i64), (.int .i64), (.int .i64), (.int .i64), (.int .i64), (.int .i64), (.int .i64), (.int .i64), (.int .i64), .bool, (.sl [(.int .i64), (.int .i64), (.int .i64), (.int .i64), (.int .i64), (.int .i64), .bool]), (.int .i64), (.int .i64)] e := (hok _ (.head _))
  have e_e_19 : D.lst (e.fld 19).toL = e.fld 19 := sl_eta (okL_at k_e (i := 19) rfl)
  have l_e_19 := sl_len (okL_at k_e (i := 19) rfl)
  have k_e_19 := sl_all (okL_at k_e (i := 19) rfl)
  have E_e_19 : ∀ i, i < (e.fld 19).toL.length → D.lst [((e.fld 19).elem i).fld 0, ((e.fld 19).elem i).fld 1, ((e.fld 19).elem i).fld 2, ((e.fld 19).elem i).fld 3, ((e.fld 19).elem i).fld 4, ((e.fld 19).elem i).fld 5, ((e.fld 19).elem i).fld 6] = (e.fld 19).elem i := fun i hi => by simpa [List.range, List.range.loop] using okL_eta (k_e_19 _ (elem_mem hi))
  apply says_den (φ := (phi_28))
  simp [e_e_19, E_e_19, e_e, tree_28, T.says, X.den, O1.den, O2.den, O3.den, callD, XArg.ev, XArg.dat, Callee'.num, backs, DArg.back, Conds.den, cloArgs, phi_28, pd_73, pd_74, pd_75, pd_76, pd_77, effectOk, patOf, grdOf, actOf]
  all_goals grind
theorem pd_28 (e : D) (Q : List D → Prop) (ho : Q [.bool (effectOk e)]) : PC Try.prog 28 [.st [(.int .i64), (.int .i64), (.int .i64), (.int .i64), (.int .i64), (.int .i64), (.int .i64), (.int .i64), (.int .i64), (.int .i64), (.int .i64), (.int .i64), (.int .i64), (.int .i64), (.int .i64), (.int .i64), (.int .i64), (.int .i64), .bool, (.sl [(.int .i64), (.int .i64), (.int .i64), (.int .i64), (.int .i64), (.int .i64), .bool]), (.int .i64), (.int .i64)] e] [.sc .bool] Q := (pc_28 e).mono fun _ h => h ▸ ho
/- spec.TableOk -/
def phi_30 : Nat → List D → List D
  | 28, [e] => [.bool (effectOk e)]
  | _, _ => []
theorem pc_30 (d : D) : PC Try.prog 30 [.sc (.sl [(.int .i64), (.int .i64), (.int .i64), (.int .i64), (.int .i64), (.int .i64), (.int .i64), (.int .i64), (.int .i64), (.int .i64), (.int .i64), (.int .i64), (.int .i64), (.int .i64), (.int .i64), (.int .i64), (.int .i64), (.int .i64), .bool, (.sl [(.int .i64), (.int .i64), (.int .i64), (.int .i64), (.int .i64), (.int .i64), .bool]), (.int .i64), (.int .i64)]) d] [.sc .bool] fun o => o = [.bool (tableOk d)] := by
  refine PC.of_sig mix sig_30 ⟨rfl, trivial⟩ rfl fun hok => ?_
  have e_d := sl_eta (hok _ (.head _))
  have l_d := sl_len (hok _ (.head _))
  have k_d := sl_all (hok _ (.head _))
  have E_d : ∀ i, i < d.toL.length → D.lst [(d.elem i).fld 0, (d.elem i).fld 1, (d.elem i).fld 2, (d.elem i).fld 3, (d.elem i).fld 4, (d.elem i).fld 5, (d.elem i).fld 6, (d.elem i).fld 7, (d.elem i).fld 8, (d.elem i).fld 9, (d.elem i).fld 10, (d.elem i).fld 11, (d.elem i).fld 12, (d.elem i).fld 13, (d.elem i).fld 14, (d.elem i).fld 15, (d.elem i).fld 16, (d.elem i).fld 17, (d.elem i).fld 18, (d.elem i).fld 19, (d.elem i).fld 20, (d.elem i).fld 21] = d.elem i := fun i hi => by simpa [List.range, List.range.loop] using okL_eta (k_d _ (elem_mem hi))
  apply says_den (φ := (phi_30))
  simp [e_d, E_d, tree_30, T.says, X.den, O1.den, O2.den, O3.den, callD, XArg.ev, XArg.dat, Callee'.num, backs, DArg.back, Conds.den, cloArgs, phi_30, pd_28]
  refine den_for d.toL.length 0 (fun i => [.int i]) (fun i => ∀ j, j < i → rowOk d j = true) (by simp) (by simp [X.den]) (by simp) fun i hi hR => ?_
  apply says_den (φ := (phi_30))
  by_cases hlt : i < d.toL.length
  · have hz : IntKind.i64.wrap ((i : Int) + 1) = i + 1 := by (first | omega | (simp only [IntKind.wrap_i64, maxL] at *; omega) | (simp [IntKind.wrap_i64, maxL] at *; omega))
    by_cases h0 : i = 0
    · subst h0
      have hm : IntKind.i64.wrap (((0 : Nat) : Int) - 1) = -1 := by (first | omega | (simp only [IntKind.wrap_i64, maxL] at *; omega) | (simp [IntKind.wrap_i64, maxL] at *; omega))
      simp [e_d, E_d, tree_30, T.says, X.den, O1.den, O2.den, O3.den, callD, XArg.ev, XArg.dat, Callee'.num, backs, DArg.back, Conds.den, cloArgs, phi_30, pd_28, hlt, hm]
      (repeat' (first | (with_reducible apply And.intro) | intro _))
      · rw [tableOk, allR_false (p := rowOk d) hlt (by simp [rowOk, *])]; simp
      · (first | omega | (simp only [IntKind.wrap_i64, maxL] at *; omega) | (simp [IntKind.wrap_i64, maxL] at *; omega))
      · simp [rowOk, *]
    · have hm : IntKind.i64.wrap ((i : Int) - 1) = ((i - 1 : Nat) : Int) := by (first | omega | (simp only [IntKind.wrap_i64, maxL] at *; omega) | (simp [IntKind.wrap_i64, maxL] at *; omega))
      simp [e_d, E_d, tree_30, T.says, X.den, O1.den, O2.den, O3.den, callD, XArg.ev, XArg.dat, Callee'.num, backs, DArg.back, Conds.den, cloArgs, phi_30, pd_28, hlt, hm, hz]
      (repeat' (first | (with_reducible apply And.intro) | intro _))
      · omega
      · rw [tableOk, allR_false (p := rowOk d) hlt (by grind [rowOk])]; simp
      · grind [rowOk]
  · have ht := allR_true (p := rowOk d) (n := d.toL.length) (fun j hj => hR j (by omega))
    simp [e_d, E_d, tree_30, T.says, X.den, O1.den, O2.den, O3.den, callD, XArg.ev, XArg.dat, Callee'.num, backs, DArg.back, Conds.den, cloArgs, phi_30, pd_28, hlt, tableOk, ht]
    all_goals omega
theorem pd_30 (d : D) (Q : List D → Prop) (ho : Q [.bool (tableOk d)]) : PC Try.prog 30 [.sc (.sl [(.int .i64), (.int .i64), (.int .i64), (.int .i64), (.int .i64), (.int .i64), (.int .i64), (.int .i64), (.int .i64), (.int .i64), (.int .i64), (.int .i64), (.int .i64), (.int .i64), (.int .i64), (.int .i64), (.int .i64), (.int .i64), .bool, (.sl [(.int .i64), (.int .i64), (.int .i64), (.int .i64), (.int .i64), (.int .i64), .bool]), (.int .i64), (.int .i64)]) d] [.sc .bool] Q := (pc_30 d).mono fun _ h => h ▸ ho
/- spec.l9Copy -/
theorem pc_119 (a : D) (h : ((a.fld 6).toL.length : Int) ≤ 1048576) : PC Try.prog 119 [.st [(.int .i64), (.int .i64), (.int .i64), (.int .i64), (.int .i64), .bool, (.sl [(.int .i64), (.int .i64), (.int .i64), (.int .i64), (.int .i64), (.int .i64), .bool])] a] [.st [(.int .i64), (.int .i64), (.int .i64), (.int .i64), (.int .i64), .bool, (.sl [(.int .i64), (.int .i64), (.int .i64), (.int .i64), (.int .i64), (.int .i64), .bool])]] fun o => o = [a] := by
  refine PC.of_sig mix sig_119 ⟨rfl, trivial⟩ rfl fun hok => ?_
  have e_a : D.lst [a.fld 0, a.fld 1, a.fld 2, a.fld 3, a.fld 4, a.fld 5, a.fld 6] = a := by simpa [List.range, List.range.loop] using okL_eta (hok _ (.head _))
  have k_a : okL [(.int .i64), (.int .i64), (.int .i64), (.int .i64), (.int .i64), .bool, (.sl [(.int .i64), (.int .i64), (.int .i64), (.int .i64), (.int .i64), (.int .i64), .bool])] a := (hok _ (.head _))
  have e_a_6 : D.lst (a.fld 6).toL = a.fld 6 := sl_eta (okL_at k_a (i := 6) rfl)
  have l_a_6 := sl_len (okL_at k_a (i := 6) rfl)
  have k_a_6 := sl_all (okL_at k_a (i := 6) rfl)
  have E_a_6 : ∀ i, i < (a.fld 6).toL.length → D.lst [((a.fld 6).elem i).fld 0, ((a.fld 6).elem i).fld 1, ((a.fld 6).elem i).fld 2, ((a.fld 6).elem i).fld 3, ((a.fld 6).elem i).fld 4, ((a.fld 6).elem i).fld 5, ((a.fld 6).elem i).fld 6] = (a.fld 6).elem i := fun i hi => by simpa [List.range, List.range.loop] using okL_eta (k_a_6 _ (elem_mem hi))
  apply says_den (φ := fun _ _ => [])
  simp [e_a_6, E_a_6, e_a, tree_119, T.says, X.den, O1.den, O2.den, O3.den, callD, XArg.ev, XArg.dat, Callee'.num, backs, DArg.back, Conds.den, cloArgs]
  all_goals omega
theorem pd_119 (a : D) (h : ((a.fld 6).toL.length : Int) ≤ 1048576) (Q : List D → Prop) (ho : Q [a]) : PC Try.prog 119 [.st [(.int .i64), (.int .i64), (.int .i64), (.int .i64), (.int .i64), .bool, (.sl [(.int .i64), (.int .i64), (.int .i64), (.int .i64), (.int .i64), (.int .i64), .bool])] a] [.st [(.int .i64), (.int .i64), (.int .i64), (.int .i64), (.int .i64), .bool, (.sl [(.int .i64), (.int .i64), (.int .i64), (.int .i64), (.int .i64), (.int .i64), .bool])]] Q := (pc_119 a h).mono fun _ h => h ▸ ho
/- spec.l10Copy -/
def phi_59 : Nat → List D → List D
  | 119, [a] => [a]
  | _, _ => []
theorem pc_59 (e : D) (h : ((e.fld 19).toL.length : Int) ≤ 1048576) : PC Try.prog 59 [.st [(.int .i64), (.int .i64), (.int .i64), (.int .i64), (.int .i64), (.int .i64), (.int .i64), (.int .i64), (.int .i64), (.int .i64), (.int .i64), (.int .i64), (.int .i64), (.int .i64), (.int .i64), (.int .i64), (.int .i64), (.int .i64), .bool, (.sl [(.int .i64), (.int .i64), (.int .i64), (.int .i64), (.int .i64), (.int .i64), .bool]), (.int .i64), (.int .i64)] e] [.st [(.int .i64), (.int .i64), (.int .i64), (.int .i64), (.int .i64), (.int .i64), (.int .i64), (.int .i64), (.int .i64), (.int .i64), (.int .i64), (.int .i64), (.int .i64), (.int .i64), (.int .i64), (.int .i64), (.int .i64), (.int .i64), .bool, (.sl [(.int .i64), (.int .i64), (.int .i64), (.int .i64), (.int .i64), (.int .i64), .bool]), (.int .i64), (.int .i64)]] fun o => o = [e] := by
  refine PC.of_sig mix sig_59 ⟨rfl, trivial⟩ rfl fun hok => ?_
  have e_e : D.lst [e.fld 0, e.fld 1, e.fld 2, e.fld 3, e.fld 4, e.fld 5, e.fld 6, e.fld 7, e.fld 8, e.fld 9, e.fld 10, e.fld 11, e.fld 12, e.fld 13, e.fld 14, e.fld 15, e.fld 16, e.fld 17, e.fld 18, e.fld 19, e.fld 20, e.fld 21] = e := by simpa [List.range, List.range.loop] using okL_eta (hok _ (.head _))
  have k_e : okL [(.int .i64), (.int .i64), (.int .i64), (.int .i64), (.int .i64), (.int .i64), (.int .i64), (.int .i64), (.int .i64), (.int .i64), (.int .i64), (.int .i64), (.int .i64), (.int .i64), (.int .i64), (.int .i64), (.int .i64), (.int .i64), .bool, (.sl [(.int .i64), (.int .i64), (.int .i64), (.int .i64), (.int .i64), (.int .i64), .bool]), (.int .i64), (.int .i64)] e := (hok _ (.head _))
  have e_e_19 : D.lst (e.fld 19).toL = e.fld 19 := sl_eta (okL_at k_e (i := 19) rfl)
  have l_e_19 := sl_len (okL_at k_e (i := 19) rfl)
  have k_e_19 := sl_all (okL_at k_e (i := 19) rfl)
  have E_e_19 : ∀ i, i < (e.fld 19).toL.length → D.lst [((e.fld 19).elem i).fld 0, ((e.fld 19).elem i).fld 1, ((e.fld 19).elem i).fld 2, ((e.fld 19).elem i).fld 3, ((e.fld 19).elem i).fld 4, ((e.fld 19).elem i).fld 5, ((e.fld 19).elem i).fld 6] = (e.fld 19).elem i := fun i hi => by simpa [List.range, List.range.loop] using okL_eta (k_e_19 _ (elem_mem hi))
  apply says_den (φ := (phi_59))
  simp [e_e_19, E_e_19, e_e, tree_59, T.says, X.den, O1.den, O2.den, O3.den, callD, XArg.ev, XArg.dat, Callee'.num, backs, DArg.back, Conds.den, cloArgs, phi_59, pd_119, h]
theorem pd_59 (e : D) (h : ((e.fld 19).toL.length : Int) ≤ 1048576) (Q : List D → Prop) (ho : Q [e]) : PC Try.prog 59 [.st [(.int .i64), (.int .i64), (.int .i64), (.int .i64), (.int .i64), (.int .i64), (.int .i64), (.int .i64), (.int .i64), (.int .i64), (.int .i64), (.int .i64), (.int .i64), (.int .i64), (.int .i64), (.int .i64), (.int .i64), (.int .i64), .bool, (.sl [(.int .i64), (.int .i64), (.int .i64), (.int .i64), (.int .i64), (.int .i64), .bool]), (.int .i64), (.int .i64)] e] [.st [(.int .i64), (.int .i64), (.int .i64), (.int .i64), (.int .i64), (.int .i64), (.int .i64), (.int .i64), (.int .i64), (.int .i64), (.int .i64), (.int .i64), (.int .i64), (.int .i64), (.int .i64), (.int .i64), (.int .i64), (.int .i64), .bool, (.sl [(.int .i64), (.int .i64), (.int .i64), (.int .i64), (.int .i64), (.int .i64), .bool]), (.int .i64), (.int .i64)]] Q := (pc_59 e h).mono fun _ h => h ▸ ho
/- spec.l11Copy -/
def phi_90 : Nat → List D → List D
  | 59, [e] => [e]
  | _, _ => []
theorem pc_90 (d : D) (h : smallE d) : PC Try.prog 90 [.sc (.sl [(.int .i64), (.int .i64), (.int .i64), (.int .i64), (.int .i64), (.int .i64), (.int .i64), (.int .i64), (.int .i64), (.int .i64), (.int .i64), (.int .i64), (.int .i64), (.int .i64), (.int .i64), (.int .i64), (.int .i64), (.int .i64), .bool, (.sl [(.int .i64), (.int .i64), (.int .i64), (.int .i64), (.int .i64), (.int .i64), .bool]), (.int .i64), (.int .i64)]) d] [.sc (.sl [(.int .i64), (.int .i64), (.int .i64), (.int .i64), (.int .i64), (.int .i64), (.int .i64), (.int .i64), (.int .i64), (.int .i64), (.int .i64), (.int .i64), (.int .i64), (.int .i64), (.int .i64), (.int .i64), (.int .i64), (.int .i64), .bool, (.sl [(.int .i64), (.int .i64), (.int .i64), (.int .i64), (.int .i64), (.int .i64), .bool]), (.int .i64), (.int .i64)])] fun o => o = [d] := by
  refine PC.of_sig mix sig_90 ⟨rfl, trivial⟩ rfl fun hok => ?_
  have e_d := sl_eta (hok _ (.head _))
  have l_d := sl_len (hok _ (.head _))
  have k_d := sl_all (hok _ (.head _))
  have E_d : ∀ i, i < d.toL.length → D.lst [(d.elem i).fld 0, (d.elem i).fld 1, (d.elem i).fld 2, (d.elem i).fld 3, (d.elem i).fld 4, (d.elem i).fld 5, (d.elem i).fld 6, (d.elem i).fld 7, (d.elem i).fld 8, (d.elem i).fld 9, (d.elem i).fld 10, (d.elem i).fld 11, (d.elem i).fld 12, (d.elem i).fld 13, (d.elem i).fld 14, (d.elem i).fld 15, (d.elem i).fld 16, (d.elem i).fld 17, (d.elem i).fld 18, (d.elem i).fld 19, (d.elem i).fld 20, (d.elem i).fld 21] = d.elem i := fun i hi => by simpa [List.range, List.range.loop] using okL_eta (k_d _ (elem_mem hi))
  have h1 := h.1
  apply says_den (φ := (phi_90))
  simp [e_d, E_d, tree_90, T.says, X.den, O1.den, O2.den, O3.den, callD, XArg.ev, XArg.dat, Callee'.num, backs, DArg.back, Conds.den, cloArgs, phi_90, pd_59]
  refine den_for d.toL.length 0 (fun i => [.int i, .lst (d.toL.take i)]) (fun _ => True) (by simp) (by simp [X.den]) trivial fun i hi _ => ?_
  apply says_den (φ := (phi_90))
  by_cases hlt : i < d.toL.length
  · have h2 := h.2 i hlt
    simp [e_d, E_d, tree_90, T.says, X.den, O1.den, O2.den, O3.den, callD, XArg.ev, XArg.dat, Callee'.num, backs, DArg.back, Conds.den, cloArgs, phi_90, pd_59, hlt, h2, take_elem hlt]
    (repeat' (first | (with_reducible apply And.intro) | intro _)) <;> first | omega | (first | omega | (simp only [IntKind.wrap_i64, maxL] at *; omega) | (simp [IntKind.wrap_i64, maxL] at *; omega)) | (first | assumption | (exact pd_59 _ (by first | (with_reducible assumption) | omega | assumption | (simp; done) | (simp; omega) | (simp [*]; done) | exact smallE_of (n := 1048576) (by omega) (by omega) | (simp [*] at *; omega) | grind [szS]) _ (by first | rfl | simp | (simp; omega))) | (first | omega | (simp only [IntKind.wrap_i64, maxL] at *; omega) | (simp [IntKind.wrap_i64, maxL] at *; omega)) | rfl | contradiction | grind) | skip
  · simp [e_d, E_d, tree_90, T.says, X.den, O1.den, O2.den, O3.den, callD, XArg.ev, XArg.dat, Callee'.num, backs, DArg.back, Conds.den, cloArgs, phi_90, pd_59, hlt]
    (repeat' (first | (with_reducible apply And.intro) | intro _)) <;> first | omega | (rw [List.take_of_length_le (by omega), e_d]) | skip
theorem pd_90 (d : D) (h : smallE d) (Q : List D → Prop) (ho : Q [d]) : PC Try.prog 90 [.sc (.sl [(.int .i64), (.int .i64), (.int .i64), (.int .i64), (.int .i64), (.int .i64), (.int .i64), (.int .i64), (.int .i64), (.int .i64), (.int .i64), (.int .i64), (.int .i64), (.int .i64), (.int .i64), (.int .i64), (.int .i64), (.int .i64), .bool, (.sl [(.int .i64), (.int .i64), (.int .i64), (.int .i64), (.int .i64), (.int .i64), .bool]), (.int .i64), (.int .i64)]) d] [.sc (.sl [(.int .i64), (.int .i64), (.int .i64), (.int .i64), (.int .i64), (.int .i64), (.int .i64), (.int .i64), (.int .i64), (.int .i64), (.int .i64), (.int .i64), (.int .i64), (.int .i64), (.int .i64), (.int .i64), (.int .i64), (.int .i64), .bool, (.sl [(.int .i64), (.int .i64), (.int .i64), (.int .i64), (.int .i64), (.int .i64), .bool]), (.int .i64), (.int .i64)])] Q := (pc_90 d h).mono fun _ h => h ▸ ho
/- spec.Install -/
def phi_51 : Nat → List D → List D
  | 15, [d, n] => [.int (effAt d n.toI)]
  | 30, [d] => [.bool (tableOk d)]
  | 59, [e] => [e]
  | 90, [d] => [d]
  | _, _ => []
theorem pc_51 (d e : D) (h : smallE d) (he : ((e.fld 19).toL.length : Int) ≤ 1048576) : PC Try.prog 51 [.sc (.sl [(.int .i64), (.int .i64), (.int .i64), (.int .i64), (.int .i64), (.int .i64), (.int .i64), (.int .i64), (.int .i64), (.int .i64), (.int .i64), (.int .i64), (.int .i64), (.int .i64), (.int .i64), (.int .i64), (.int .i64), (.int .i64), .bool, (.sl [(.int .i64), (.int .i64), (.int .i64), (.int .i64), (.int .i64), (.int .i64), .bool]), (.int .i64), (.int .i64)]) d, .st [(.int .i64), (.int .i64), (.int .i64), (.int .i64), (.int .i64), (.int .i64), (.int .i64), (.int .i64), (.int .i64), (.int .i64), (.int .i64), (.int .i64), (.int .i64), (.int .i64), (.int .i64), (.int .i64), (.int .i64), (.int .i64), .bool, (.sl [(.int .i64), (.int .i64), (.int .i64), (.int .i64), (.int .i64), (.int .i64), .bool]), (.int .i64), (.int .i64)] e] [.sc (.sl [(.int .i64), (.int .i64), (.int .i64), (.int .i64), (.int .i64), (.int .i64), (.int .i64), (.int .i64), (.int .i64), (.int .i64), (.int .i64), (.int .i64), (.int .i64), (.int .i64), (.int .i64), (.int .i64), (.int .i64), (.int .i64), .bool, (.sl [(.int .i64), (.int .i64), (.int .i64), (.int .i64), (.int .i64), (.int .i64), .bool]), (.int .i64), (.int .i64)]), .sc .bool] fun o => o = [(if insOk d e then insT d e else d), .bool (insOk d e)] := by
  refine PC.of_sig mix sig_51 ⟨rfl, rfl, trivial⟩ rfl fun hok => ?_
  have e_d := sl_eta (hok _ (.head _))
  have l_d := sl_len (hok _ (.head _))
  have k_d := sl_all (hok _ (.head _))
  have E_d : ∀ i, i < d.toL.length → D.lst [(d.elem i).fld 0, (d.elem i).fld 1, (d.elem i).fld 2, (d.elem i).fld 3, (d.elem i).fld 4, (d.elem i).fld 5, (d.elem i).fld 6, (d.elem i).fld 7, (d.elem i).fld 8, (d.elem i).fld 9, (d.elem i).fld 10, (d.elem i).fld 11, (d.elem i).fld 12, (d.elem i).fld 13, (d.elem i).fld 14, (d.elem i).fld 15, (d.elem i).fld 16, (d.elem i).fld 17, (d.elem i).fld 18, (d.elem i).fld 19, (d.elem i).fld 20, (d.elem i).fld 21] = d.elem i := fun i hi => by simpa [List.range, List.range.loop] using okL_eta (k_d _ (elem_mem hi))
  have e_e : D.lst [e.fld 0, e.fld 1, e.fld 2, e.fld 3, e.fld 4, e.fld 5, e.fld 6, e.fld 7, e.fld 8, e.fld 9, e.fld 10, e.fld 11, e.fld 12, e.fld 13, e.fld 14, e.fld 15, e.fld 16, e.fld 17, e.fld 18, e.fld 19, e.fld 20, e.fld 21] = e := by simpa [List.range, List.range.loop] using okL_eta (hok _ (.tail _ (.head _)))
  have k_e : okL [(.int .i64), (.int .i64), (.int .i64), (.int .i64), (.int .i64), (.int .i64), (.int .i64), (.int .i64), (.int .i64), (.int .i64), (.int .i64), (.int .i64), (.int .i64), (.int .i64), (.int .i64), (.int .i64), (.int .i64), (.int .i64), .bool, (.sl [(.int .i64), (.int .i64), (.int .i64), (.int .i64), (.int .i64), (.int .i64), .bool]), (.int .i64), (.int .i64)] e := (hok _ (.tail _ (.head _)))
  have e_e_19 : D.lst (e.fld 19).toL = e.fld 19 := sl_eta (okL_at k_e (i := 19) rfl)
  have l_e_19 := sl_len (okL_at k_e (i := 19) rfl)
  have k_e_19 := sl_all (okL_at k_e (i := 19) rfl)
  have E_e_19 : ∀ i, i < (e.fld 19).toL.length → D.lst [((e.fld 19).elem i).fld 0, ((e.fld 19).elem i).fld 1, ((e.fld 19).elem i).fld 2, ((e.fld 19).elem i).fld 3, ((e.fld 19).elem i).fld 4, ((e.fld 19).elem i).fld 5, ((e.fld 19).elem i).fld 6] = (e.fld 19).elem i := fun i hi => by simpa [List.range, List.range.loop] using okL_eta (k_e_19 _ (elem_mem hi))
  have h1 := h.1
  have hr := effAt_range d (e.fld 0).toI
  have hle := insAt_le d (e.fld 0).toI
  have s1 := smallE_take h (insAt d (e.fld 0).toI)
  have s2 := smallE_drop h (insAt d (e.fld 0).toI)
  have hfin : ∀ T : D, insT d e = T → (0 ≤ effAt d (e.fld 0).toI ∨ tableOk T = false → (insOk d e = true → d = insT d e) ∧ insOk d e = false) ∧ (effAt d (e.fld 0).toI < 0 → tableOk T = true → (T = if insOk d e = true then insT d e else d) ∧ insOk d e = true) := fun T hT => by
    refine ⟨fun hc => ?_, fun hc1 hc2 => ?_⟩
    · have : insOk d e = false := by
        rw [insOk, hT]
        rcases hc with hc | hc
        · simp; omega
        · simp [hc]
      exact ⟨fun hh => by (rw [this] at hh; cases hh), this⟩
    · have : insOk d e = true := by
        rw [insOk, hT, hc2]
        simpa using hc1
      exact ⟨by rw [if_pos this, hT], this⟩
  apply says_den (φ := (phi_51))
  refine den_for (insAt d (e.fld 0).toI) 0 (fun i => [.int i]) (fun _ => True) (by simp) (by simp [X.den]) trivial fun i hi _ => ?_
  apply says_den (φ := (phi_51))
  by_cases hlt : i < insAt d (e.fld 0).toI
  · have hb := insAt_before hlt
    have hl2 : i < d.toL.length := by omega
    simp [e_e_19, E_e_19, e_d, e_e, E_d, tree_51, T.says, X.den, O1.den, O2.den, O3.den, callD, XArg.ev, XArg.dat, Callee'.num, backs, DArg.back, Conds.den, cloArgs, phi_51, pd_15, pd_30, pd_59, pd_90, hlt, hb, hl2]
    (repeat' (first | (with_reducible apply And.intro) | intro _)) <;> first | omega | (first | omega | (simp only [IntKind.wrap_i64, maxL] at *; omega) | (simp [IntKind.wrap_i64, maxL] at *; omega)) | (first | assumption | (exact pd_15 _ _ _ (by first | rfl | simp | (simp; omega))) | (exact pd_30 _ _ (by first | rfl | simp | (simp; omega))) | (exact pd_59 _ (by first | (with_reducible assumption) | omega | assumption | (simp; done) | (simp; omega) | (simp [*]; done) | exact smallE_of (n := 1048576) (by omega) (by omega) | (simp [*] at *; omega) | grind [szS]) _ (by first | rfl | simp | (simp; omega))) | (exact pd_90 _ (by first | (with_reducible assumption) | omega | assumption | (simp; done) | (simp; omega) | (simp [*]; done) | exact smallE_of (n := 1048576) (by omega) (by omega) | (simp [*] at *; omega) | grind [szS]) _ (by first | rfl | simp | (simp; omega))) | (first | omega | (simp only [IntKind.wrap_i64, maxL] at *; omega) | (simp [IntKind.wrap_i64, maxL] at *; omega)) | rfl | contradiction | grind)
  · have hie : i = insAt d (e.fld 0).toI := by omega
    subst hie
    have hnb := insAt_stop (d := d) (n := (e.fld 0).toI)
    simp [e_e_19, E_e_19, e_d, e_e, E_d, tree_51, T.says, X.den, O1.den, O2.den, O3.den, callD, XArg.ev, XArg.dat, Callee'.num, backs, DArg.back, Conds.den, cloArgs, phi_51, pd_15, pd_30, pd_59, pd_90]
    (repeat' (first | (with_reducible apply And.intro) | intro _)) <;> first | omega | (exact ((hfin _ rfl).1 (by assumption)).2) | (exact ((hfin _ rfl).1 (by assumption)).1 (by assumption)) | (exact ((hfin _ rfl).2 (by assumption) (by assumption)).1) | (exact ((hfin _ rfl).2 (by assumption) (by assumption)).2) | (first | assumption | (exact pd_15 _ _ _ (by first | rfl | simp | (simp; omega))) | (exact pd_30 _ _ (by first | rfl | simp | (simp; omega))) | (exact pd_59 _ (by first | (with_reducible assumption) | omega | assumption | (simp; done) | (simp; omega) | (simp [*]; done) | exact smallE_of (n := 1048576) (by omega) (by omega) | (simp [*] at *; omega) | grind [szS]) _ (by first | rfl | simp | (simp; omega))) | (exact pd_90 _ (by first | (with_reducible assumption) | omega | assumption | (simp; done) | (simp; omega) | (simp [*]; done) | exact smallE_of (n := 1048576) (by omega) (by omega) | (simp [*] at *; omega) | grind [szS]) _ (by first | rfl | simp | (simp; omega))) | (first | omega | (simp only [IntKind.wrap_i64, maxL] at *; omega) | (simp [IntKind.wrap_i64, maxL] at *; omega)) | rfl | contradiction | grind)
theorem pd_51 (d e : D) (h : smallE d) (he : ((e.fld 19).toL.length : Int) ≤ 1048576) (Q : List D → Prop) (ho : Q [(if insOk d e then insT d e else d), .bool (insOk d e)]) : PC Try.prog 51 [.sc (.sl [(.int .i64), (.int .i64), (.int .i64), (.int .i64), (.int .i64), (.int .i64), (.int .i64), (.int .i64), (.int .i64), (.int .i64), (.int .i64), (.int .i64), (.int .i64), (.int .i64), (.int .i64), (.int .i64), (.int .i64), (.int .i64), .bool, (.sl [(.int .i64), (.int .i64), (.int .i64), (.int .i64), (.int .i64), (.int .i64), .bool]), (.int .i64), (.int .i64)]) d, .st [(.int .i64), (.int .i64), (.int .i64), (.int .i64), (.int .i64), (.int .i64), (.int .i64), (.int .i64), (.int .i64), (.int .i64), (.int .i64), (.int .i64), (.int .i64), (.int .i64), (.int .i64), (.int .i64), (.int .i64), (.int .i64), .bool, (.sl [(.int .i64), (.int .i64), (.int .i64), (.int .i64), (.int .i64), (.int .i64), .bool]), (.int .i64), (.int .i64)] e] [.sc (.sl [(.int .i64), (.int .i64), (.int .i64), (.int .i64), (.int .i64), (.int .i64), (.int .i64), (.int .i64), (.int .i64), (.int .i64), (.int .i64), (.int .i64), (.int .i64), (.int .i64), (.int .i64), (.int .i64), (.int .i64), (.int .i64), .bool, (.sl [(.int .i64), (.int .i64), (.int .i64), (.int .i64), (.int .i64), (.int .i64), .bool]), (.int .i64), (.int .i64)]), .sc .bool] Q := (pc_51 d e h he).mono fun _ h => h ▸ ho
/- impl.EffectAt$1 -/
theorem pc_54 (e c : D) : PC Try.prog 54 [.st [(.int .i64), (.int .i64), (.int .i64), (.int .i64), (.int .i64), (.int .i64), (.int .i64), (.int .i64), (.int .i64), (.int .i64), (.int .i64), (.int .i64), (.int .i64), (.int .i64), (.int .i64), (.int .i64), (.int .i64), (.int .i64), .bool, (.sl [(.int .i64), (.int .i64), (.int .i64), (.int .i64), (.int .i64), (.int .i64), .bool]), (.int .i64), (.int .i64)] e, .bx [(.int .i64)] c] [.sc .bool] fun o => o = [.bool ((e.fld 0).toI == (c.fld 0).toI)] := by
  refine PC.of_sigC («as» := [.st [(.int .i64), (.int .i64), (.int .i64), (.int .i64), (.int .i64), (.int .i64), (.int .i64), (.int .i64), (.int .i64), (.int .i64), (.int .i64), (.int .i64), (.int .i64), (.int .i64), (.int .i64), (.int .i64), (.int .i64), (.int .i64), .bool, (.sl [(.int .i64), (.int .i64), (.int .i64), (.int .i64), (.int .i64), (.int .i64), .bool]), (.int .i64), (.int .i64)] e]) [([(.int .i64)], c)] mix sig_54 ⟨rfl, trivial⟩ rfl fun hok => ?_
  have e_e : D.lst [e.fld 0, e.fld 1, e.fld 2, e.fld 3, e.fld 4, e.fld 5, e.fld 6, e.fld 7, e.fld 8, e.fld 9, e.fld 10, e.fld 11, e.fld 12, e.fld 13, e.fld 14, e.fld 15, e.fld 16, e.fld 17, e.fld 18, e.fld 19, e.fld 20, e.fld 21] = e := by simpa [List.range, List.range.loop] using okL_eta (hok _ (.head _))
  have k_e : okL [(.int .i64), (.int .i64), (.int .i64), (.int .i64), (.int .i64), (.int .i64), (.int .i64), (.int .i64), (.int .i64), (.int .i64), (.int .i64), (.int .i64), (.int .i64), (.int .i64), (.int .i64), (.int .i64), (.int .i64), (.int .i64), .bool, (.sl [(.int .i64), (.int .i64), (.int .i64), (.int .i64), (.int .i64), (.int .i64), .bool]), (.int .i64), (.int .i64)] e := (hok _ (.head _))
  have e_e_19 : D.lst (e.fld 19).toL = e.fld 19 := sl_eta (okL_at k_e (i := 19) rfl)
  have l_e_19 := sl_len (okL_at k_e (i := 19) rfl)
  have k_e_19 := sl_all (okL_at k_e (i := 19) rfl)
  have E_e_19 : ∀ i, i < (e.fld 19).toL.length → D.lst [((e.fld 19).elem i).fld 0, ((e.fld 19).elem i).fld 1, ((e.fld 19).elem i).fld 2, ((e.fld 19).elem i).fld 3, ((e.fld 19).elem i).fld 4, ((e.fld 19).elem i).fld 5, ((e.fld 19).elem i).fld 6] = (e.fld 19).elem i := fun i hi => by simpa [List.range, List.range.loop] using okL_eta (k_e_19 _ (elem_mem hi))
  apply says_den (φ := fun _ _ => [])
  simp [e_e_19, E_e_19, e_e, tree_54, T.says, X.den, O1.den, O2.den, O3.den, callD, XArg.ev, XArg.dat, Callee'.num, backs, DArg.back, Conds.den, cloArgs]
theorem pd_54 (e c : D) (Q : List D → Prop) (ho : Q [.bool ((e.fld 0).toI == (c.fld 0).toI)]) : PC Try.prog 54 [.st [(.int .i64), (.int .i64), (.int .i64), (.int .i64), (.int .i64), (.int .i64), (.int .i64), (.int .i64), (.int .i64), (.int .i64), (.int .i64), (.int .i64), (.int .i64), (.int .i64), (.int .i64), (.int .i64), (.int .i64), (.int .i64), .bool, (.sl [(.int .i64), (.int .i64), (.int .i64), (.int .i64), (.int .i64), (.int .i64), .bool]), (.int .i64), (.int .i64)] e, .bx [(.int .i64)] c] [.sc .bool] Q := (pc_54 e c).mono fun _ h => h ▸ ho
/- slices.IndexFunc[[]impl.Effect,impl.Effect] -/
def phi_53 (a c : D) : Nat → List D → List D
  | 54, [e, c] => [.bool ((e.fld 0).toI == (c.fld 0).toI)]
  | 0, [e] => [.bool ((e.fld 0).toI == (c.fld 0).toI)]
  | _, _ => []
theorem pc_53 (a c : D) : PC Try.prog 53 [.sc (.sl [(.int .i64), (.int .i64), (.int .i64), (.int .i64), (.int .i64), (.int .i64), (.int .i64), (.int .i64), (.int .i64), (.int .i64), (.int .i64), (.int .i64), (.int .i64), (.int .i64), (.int .i64), (.int .i64), (.int .i64), (.int .i64), .bool, (.sl [(.int .i64), (.int .i64), (.int .i64), (.int .i64), (.int .i64), (.int .i64), .bool]), (.int .i64), (.int .i64)]) a, .clo 54 [([(.int .i64)], c)]] [.sc (.int .i64)] fun o => o = [.int (findR (fun i => ((a.elem i).fld 0).toI == (c.fld 0).toI) a.toL.length)] := by
  refine PC.of_sig mix sig_53 ⟨rfl, trivial, trivial⟩ rfl fun hok => ?_
  have e_a := sl_eta (hok _ (.head _))
  have l_a := sl_len (hok _ (.head _))
  have k_a := sl_all (hok _ (.head _))
  have E_a : ∀ i, i < a.toL.length → D.lst [(a.elem i).fld 0, (a.elem i).fld 1, (a.elem i).fld 2, (a.elem i).fld 3, (a.elem i).fld 4, (a.elem i).fld 5, (a.elem i).fld 6, (a.elem i).fld 7, (a.elem i).fld 8, (a.elem i).fld 9, (a.elem i).fld 10, (a.elem i).fld 11, (a.elem i).fld 12, (a.elem i).fld 13, (a.elem i).fld 14, (a.elem i).fld 15, (a.elem i).fld 16, (a.elem i).fld 17, (a.elem i).fld 18, (a.elem i).fld 19, (a.elem i).fld 20, (a.elem i).fld 21] = a.elem i := fun i hi => by simpa [List.range, List.range.loop] using okL_eta (k_a _ (elem_mem hi))
  apply says_den (φ := (phi_53 a c))
  simp [e_a, E_a, tree_53, T.says, X.den, O1.den, O2.den, O3.den, callD, XArg.ev, XArg.dat, Callee'.num, backs, DArg.back, Conds.den, cloArgs, phi_53, pd_54]
  refine fun _ => ?_
  refine den_for a.toL.length 0 (fun i => [.int i]) (fun i => ∀ j, j < i → (((a.elem j).fld 0).toI == (c.fld 0).toI) = false) (by simp) (by simp [X.den]) (by simp) fun i hi hR => ?_
  apply says_den (φ := (phi_53 a c))
  by_cases hlt : i < a.toL.length
  · simp [e_a, E_a, tree_53, T.says, X.den, O1.den, O2.den, O3.den, callD, XArg.ev, XArg.dat, Callee'.num, backs, DArg.back, Conds.den, cloArgs, phi_53, pd_54, hlt]
    (repeat' (first | (with_reducible apply And.intro) | intro _))
    · exact (findR_some (p := fun i => ((a.elem i).fld 0).toI == (c.fld 0).toI) hlt (by simp_all) hR).symm
    · (first | omega | (simp only [IntKind.wrap_i64, maxL] at *; omega) | (simp [IntKind.wrap_i64, maxL] at *; omega))
    · grind
  · simp [e_a, E_a, tree_53, T.says, X.den, O1.den, O2.den, O3.den, callD, XArg.ev, XArg.dat, Callee'.num, backs, DArg.back, Conds.den, cloArgs, phi_53, pd_54, hlt]
    (repeat' (first | (with_reducible apply And.intro) | intro _))
    · exact (findR_none fun j hj => hR j (by omega)).symm
theorem pd_53 (a c : D) (Q : List D → Prop) (ho : Q [.int (findR (fun i => ((a.elem i).fld 0).toI == (c.fld 0).toI) a.toL.length)]) : PC Try.prog 53 [.sc (.sl [(.int .i64), (.int .i64), (.int .i64), (.int .i64), (.int .i64), (.int .i64), (.int .i64), (.int .i64), (.int .i64), (.int .i64), (.int .i64), (.int .i64), (.int .i64), (.int .i64), (.int .i64), (.int .i64), (.int .i64), (.int .i64), .bool, (.sl [(.int .i64), (.int .i64), (.int .i64), (.int .i64), (.int .i64), (.int .i64), .bool]), (.int .i64), (.int .i64)]) a, .clo 54 [([(.int .i64)], c)]] [.sc (.int .i64)] Q := (pc_53 a c).mono fun _ h => h ▸ ho
/- impl.EffectAt -/
def phi_17 (d n : D) : Nat → List D → List D
  | 53, [a, _] => [.int (findR (fun i => ((a.elem i).fld 0).toI == n.toI) a.toL.length)]
  | 54, [e, c] => [.bool ((e.fld 0).toI == (c.fld 0).toI)]
  | _, _ => []
theorem pc_17 (d n : D) : PC Try.prog 17 [.sc (.sl [(.int .i64), (.int .i64), (.int .i64), (.int .i64), (.int .i64), (.int .i64), (.int .i64), (.int .i64), (.int .i64), (.int .i64), (.int .i64), (.int .i64), (.int .i64), (.int .i64), (.int .i64), (.int .i64), (.int .i64), (.int .i64), .bool, (.sl [(.int .i64), (.int .i64), (.int .i64), (.int .i64), (.int .i64), (.int .i64), .bool]), (.int .i64), (.int .i64)]) d, .sc (.int .i64) n] [.sc (.int .i64)] fun o => o = [.int (effAt d n.toI)] := by
  refine PC.of_sig mix sig_17 ⟨rfl, rfl, trivial⟩ rfl fun hok => ?_
  have e_d := sl_eta (hok _ (.head _))
  have l_d := sl_len (hok _ (.head _))
  have k_d := sl_all (hok _ (.head _))
  have E_d : ∀ i, i < d.toL.length → D.lst [(d.elem i).fld 0, (d.elem i).fld 1, (d.elem i).fld 2, (d.elem i).fld 3, (d.elem i).fld 4, (d.elem i).fld 5, (d.elem i).fld 6, (d.elem i).fld 7, (d.elem i).fld 8, (d.elem i).fld 9, (d.elem i).fld 10, (d.elem i).fld 11, (d.elem i).fld 12, (d.elem i).fld 13, (d.elem i).fld 14, (d.elem i).fld 15, (d.elem i).fld 16, (d.elem i).fld 17, (d.elem i).fld 18, (d.elem i).fld 19, (d.elem i).fld 20, (d.elem i).fld 21] = d.elem i := fun i hi => by simpa [List.range, List.range.loop] using okL_eta (k_d _ (elem_mem hi))
  have e_n := int_eta (hok _ (.tail _ (.head _)))
  have b_n := int_range (hok _ (.tail _ (.head _)))
  apply says_den (φ := (phi_17 d n))
  simp [e_d, e_n, E_d, tree_17, T.says, X.den, O1.den, O2.den, O3.den, callD, XArg.ev, XArg.dat, Callee'.num, backs, DArg.back, Conds.den, cloArgs, phi_17, pd_53, pd_54, effAt]
theorem pd_17 (d n : D) (Q : List D → Prop) (ho : Q [.int (effAt d n.toI)]) : PC Try.prog 17 [.sc (.sl [(.int .i64), (.int .i64), (.int .i64), (.int .i64), (.int .i64), (.int .i64), (.int .i64), (.int .i64), (.int .i64), (.int .i64), (.int .i64), (.int .i64), (.int .i64), (.int .i64), (.int .i64), (.int .i64), (.int .i64), (.int .i64), .bool, (.sl [(.int .i64), (.int .i64), (.int .i64), (.int .i64), (.int .i64), (.int .i64), .bool]), (.int .i64), (.int .i64)]) d, .sc (.int .i64) n] [.sc (.int .i64)] Q := (pc_17 d n).mono fun _ h => h ▸ ho
/- impl.from -/
theorem pc_80 (a b c : D) : PC Try.prog 80 [.sc (.int .i64) a, .sc (.int .i64) b, .sc (.int .i64) c] [.sc .bool] fun o => o = [.bool (inR a.toI b.toI c.toI)] := by
  refine PC.of_sig mix sig_80 ⟨rfl, rfl, rfl, trivial⟩ rfl fun hok => ?_
  have e_a := int_eta (hok _ (.head _))
  have b_a := int_range (hok _ (.head _))
  have e_b := int_eta (hok _ (.tail _ (.head _)))
  have b_b := int_range (hok _ (.tail _ (.head _)))
  have e_c := int_eta (hok _ (.tail _ (.tail _ (.head _))))
  have b_c := int_range (hok _ (.tail _ (.tail _ (.head _))))
  apply says_den (φ := fun _ _ => [])
  simp [e_a, e_b, e_c, tree_80, T.says, X.den, O1.den, O2.den, O3.den, callD, XArg.ev, XArg.dat, Callee'.num, backs, DArg.back, Conds.den, cloArgs, inR]
theorem pd_80 (a b c : D) (Q : List D → Prop) (ho : Q [.bool (inR a.toI b.toI c.toI)]) : PC Try.prog 80 [.sc (.int .i64) a, .sc (.int .i64) b, .sc (.int .i64) c] [.sc .bool] Q := (pc_80 a b c).mono fun _ h => h ▸ ho
/- impl.isId -/
def phi_78 : Nat → List D → List D
  | 80, [a, b, c] => [.bool (inR a.toI b.toI c.toI)]
  | _, _ => []
theorem pc_78 (a : D) : PC Try.prog 78 [.sc (.int .i64) a] [.sc .bool] fun o => o = [.bool (inR a.toI 1 99)] := by
  refine PC.of_sig mix sig_78 ⟨rfl, trivial⟩ rfl fun hok => ?_
  have e_a := int_eta (hok _ (.head _))
  have b_a := int_range (hok _ (.head _))
  apply says_den (φ := (phi_78))
  simp [e_a, tree_78, T.says, X.den, O1.den, O2.den, O3.den, callD, XArg.ev, XArg.dat, Callee'.num, backs, DArg.back, Conds.den, cloArgs, phi_78, pd_80]
theorem pd_78 (a : D) (Q : List D → Prop) (ho : Q [.bool (inR a.toI 1 99)]) : PC Try.prog 78 [.sc (.int .i64) a] [.sc .bool] Q := (pc_78 a).mono fun _ h => h ▸ ho
/- impl.isPlayer -/
def phi_79 : Nat → List D → List D
  | 80, [a, b, c] => [.bool (inR a.toI b.toI c.toI)]
  | _, _ => []
theorem pc_79 (a : D) : PC Try.prog 79 [.sc (.int .i64) a] [.sc .bool] fun o => o = [.bool (inR a.toI 0 2)] := by
  refine PC.of_sig mix sig_79 ⟨rfl, trivial⟩ rfl fun hok => ?_
  have e_a := int_eta (hok _ (.head _))
  have b_a := int_range (hok _ (.head _))
  apply says_den (φ := (phi_79))
  simp [e_a, tree_79, T.says, X.den, O1.den, O2.den, O3.den, callD, XArg.ev, XArg.dat, Callee'.num, backs, DArg.back, Conds.den, cloArgs, phi_79, pd_80]
theorem pd_79 (a : D) (Q : List D → Prop) (ho : Q [.bool (inR a.toI 0 2)]) : PC Try.prog 79 [.sc (.int .i64) a] [.sc .bool] Q := (pc_79 a).mono fun _ h => h ▸ ho
/- impl.isKind -/
def phi_126 : Nat → List D → List D
  | 80, [a, b, c] => [.bool (inR a.toI b.toI c.toI)]
  | _, _ => []
theorem pc_126 (a : D) : PC Try.prog 126 [.sc (.int .i64) a] [.sc .bool] fun o => o = [.bool (inR a.toI 1 6)] := by
  refine PC.of_sig mix sig_126 ⟨rfl, trivial⟩ rfl fun hok => ?_
  have e_a := int_eta (hok _ (.head _))
  have b_a := int_range (hok _ (.head _))
  apply says_den (φ := (phi_126))
  simp [e_a, tree_126, T.says, X.den, O1.den, O2.den, O3.den, callD, XArg.ev, XArg.dat, Callee'.num, backs, DArg.back, Conds.den, cloArgs, phi_126, pd_80]
theorem pd_126 (a : D) (Q : List D → Prop) (ho : Q [.bool (inR a.toI 1 6)]) : PC Try.prog 126 [.sc (.int .i64) a] [.sc .bool] Q := (pc_126 a).mono fun _ h => h ▸ ho
/- impl.isTraits -/
def phi_127 : Nat → List D → List D
  | 80, [a, b, c] => [.bool (inR a.toI b.toI c.toI)]
  | _, _ => []
theorem pc_127 (a : D) : PC Try.prog 127 [.sc (.int .i64) a] [.sc .bool] fun o => o = [.bool (inR a.toI 0 63)] := by
  refine PC.of_sig mix sig_127 ⟨rfl, trivial⟩ rfl fun hok => ?_
  have e_a := int_eta (hok _ (.head _))
  have b_a := int_range (hok _ (.head _))
  apply says_den (φ := (phi_127))
  simp [e_a, tree_127, T.says, X.den, O1.den, O2.den, O3.den, callD, XArg.ev, XArg.dat, Callee'.num, backs, DArg.back, Conds.den, cloArgs, phi_127, pd_80]
theorem pd_127 (a : D) (Q : List D → Prop) (ho : Q [.bool (inR a.toI 0 63)]) : PC Try.prog 127 [.sc (.int .i64) a] [.sc .bool] Q := (pc_127 a).mono fun _ h => h ▸ ho
/- impl.isAmount -/
def phi_128 : Nat → List D → List D
  | 80, [a, b, c] => [.bool (inR a.toI b.toI c.toI)]
  | _, _ => []
theorem pc_128 (a : D) : PC Try.prog 128 [.sc (.int .i64) a] [.sc .bool] fun o => o = [.bool (inR a.toI 0 2147483647)] := by
  refine PC.of_sig mix sig_128 ⟨rfl, trivial⟩ rfl fun hok => ?_
  have e_a := int_eta (hok _ (.head _))
  have b_a := int_range (hok _ (.head _))
  apply says_den (φ := (phi_128))
  simp [e_a, tree_128, T.says, X.den, O1.den, O2.den, O3.den, callD, XArg.ev, XArg.dat, Callee'.num, backs, DArg.back, Conds.den, cloArgs, phi_128, pd_80]
theorem pd_128 (a : D) (Q : List D → Prop) (ho : Q [.bool (inR a.toI 0 2147483647)]) : PC Try.prog 128 [.sc (.int .i64) a] [.sc .bool] Q := (pc_128 a).mono fun _ h => h ▸ ho
/- impl.PatOk -/
def phi_81 : Nat → List D → List D
  | 80, [a, b, c] => [.bool (inR a.toI b.toI c.toI)]
  | 126, [a] => [.bool (inR a.toI 1 6)]
  | 127, [a] => [.bool (inR a.toI 0 63)]
  | 128, [a] => [.bool (inR a.toI 0 2147483647)]
  | _, _ => []
theorem pc_81 (d : D) : PC Try.prog 81 [.st [(.int .i64), (.int .i64), (.int .i64), (.int .i64), (.int .i64), (.int .i64), (.int .i64)] d] [.sc .bool] fun o => o = [.bool (patOk d)] := by
  refine PC.of_sig mix sig_81 ⟨rfl, trivial⟩ rfl fun hok => ?_
  have e_d : D.lst [d.fld 0, d.fld 1, d.fld 2, d.fld 3, d.fld 4, d.fld 5, d.fld 6] = d := by simpa [List.range, List.range.loop] using okL_eta (hok _ (.head _))
  have k_d : okL [(.int .i64), (.int .i64), (.int .i64), (.int .i64), (.int .i64), (.int .i64), (.int .i64)] d := (hok _ (.head _))
  apply says_den (φ := (phi_81))
  simp [e_d, tree_81, T.says, X.den, O1.den, O2.den, O3.den, callD, XArg.ev, XArg.dat, Callee'.num, backs, DArg.back, Conds.den, cloArgs, phi_81, pd_80, pd_126, pd_127, pd_128]
  (repeat' (first | (with_reducible apply And.intro) | intro _)) <;> grind [patOk]
theorem pd_81 (d : D) (Q : List D → Prop) (ho : Q [.bool (patOk d)]) : PC Try.prog 81 [.st [(.int .i64), (.int .i64), (.int .i64), (.int .i64), (.int .i64), (.int .i64), (.int .i64)] d] [.sc .bool] Q := (pc_81 d).mono fun _ h => h ▸ ho
/- impl.Bound -/
theorem pc_123 (a : D) : PC Try.prog 123 [.sc (.int .i64) a] [.sc (.int .i64)] fun o => o = [.int (bound a.toI)] := by
  refine PC.of_sig mix sig_123 ⟨rfl, trivial⟩ rfl fun hok => ?_
  have e_a := int_eta (hok _ (.head _))
  have b_a := int_range (hok _ (.head _))
  apply says_den (φ := fun _ _ => [])
  simp [e_a, tree_123, T.says, X.den, O1.den, O2.den, O3.den, callD, XArg.ev, XArg.dat, Callee'.num, backs, DArg.back, Conds.den, cloArgs]
  (repeat' (first | (with_reducible apply And.intro) | intro _)) <;> grind [bound]
theorem pd_123 (a : D) (Q : List D → Prop) (ho : Q [.int (bound a.toI)]) : PC Try.prog 123 [.sc (.int .i64) a] [.sc (.int .i64)] Q := (pc_123 a).mono fun _ h => h ▸ ho
/- impl.GuardOk -/
def phi_82 : Nat → List D → List D
  | 80, [a, b, c] => [.bool (inR a.toI b.toI c.toI)]
  | 123, [a] => [.int (bound a.toI)]
  | _, _ => []
theorem pc_82 (d : D) : PC Try.prog 82 [.st [(.int .i64), (.int .i64)] d] [.sc .bool] fun o => o = [.bool (guardOk d)] := by
  refine PC.of_sig mix sig_82 ⟨rfl, trivial⟩ rfl fun hok => ?_
  have e_d : D.lst [d.fld 0, d.fld 1] = d := by simpa [List.range, List.range.loop] using okL_eta (hok _ (.head _))
  have k_d : okL [(.int .i64), (.int .i64)] d := (hok _ (.head _))
  apply says_den (φ := (phi_82))
  simp [e_d, tree_82, T.says, X.den, O1.den, O2.den, O3.den, callD, XArg.ev, XArg.dat, Callee'.num, backs, DArg.back, Conds.den, cloArgs, phi_82, pd_80, pd_123]
  (repeat' (first | (with_reducible apply And.intro) | intro _)) <;> grind [guardOk, inR, bound]
theorem pd_82 (d : D) (Q : List D → Prop) (ho : Q [.bool (guardOk d)]) : PC Try.prog 82 [.st [(.int .i64), (.int .i64)] d] [.sc .bool] Q := (pc_82 d).mono fun _ h => h ▸ ho
/- impl.isZone -/
def phi_129 : Nat → List D → List D
  | 80, [a, b, c] => [.bool (inR a.toI b.toI c.toI)]
  | _, _ => []
theorem pc_129 (a : D) : PC Try.prog 129 [.sc (.int .i64) a] [.sc .bool] fun o => o = [.bool (inR a.toI 1 4)] := by
  refine PC.of_sig mix sig_129 ⟨rfl, trivial⟩ rfl fun hok => ?_
  have e_a := int_eta (hok _ (.head _))
  have b_a := int_range (hok _ (.head _))
  apply says_den (φ := (phi_129))
  simp [e_a, tree_129, T.says, X.den, O1.den, O2.den, O3.den, callD, XArg.ev, XArg.dat, Callee'.num, backs, DArg.back, Conds.den, cloArgs, phi_129, pd_80]
theorem pd_129 (a : D) (Q : List D → Prop) (ho : Q [.bool (inR a.toI 1 4)]) : PC Try.prog 129 [.sc (.int .i64) a] [.sc .bool] Q := (pc_129 a).mono fun _ h => h ▸ ho
/- impl.onPiece -/
def phi_134 : Nat → List D → List D
  | 78, [a] => [.bool (inR a.toI 1 99)]
  | _, _ => []
theorem pc_134 (e : D) : PC Try.prog 134 [.st [(.int .i64), (.int .i64), (.int .i64), (.int .i64), (.int .i64), (.int .i64), .bool] e] [.sc .bool] fun o => o = [.bool (onPiece e)] := by
  refine PC.of_sig mix sig_134 ⟨rfl, trivial⟩ rfl fun hok => ?_
  have e_e : D.lst [e.fld 0, e.fld 1, e.fld 2, e.fld 3, e.fld 4, e.fld 5, e.fld 6] = e := by simpa [List.range, List.range.loop] using okL_eta (hok _ (.head _))
  have k_e : okL [(.int .i64), (.int .i64), (.int .i64), (.int .i64), (.int .i64), (.int .i64), .bool] e := (hok _ (.head _))
  apply says_den (φ := (phi_134))
  simp [e_e, tree_134, T.says, X.den, O1.den, O2.den, O3.den, callD, XArg.ev, XArg.dat, Callee'.num, backs, DArg.back, Conds.den, cloArgs, phi_134, pd_78, onPiece]
theorem pd_134 (e : D) (Q : List D → Prop) (ho : Q [.bool (onPiece e)]) : PC Try.prog 134 [.st [(.int .i64), (.int .i64), (.int .i64), (.int .i64), (.int .i64), (.int .i64), .bool] e] [.sc .bool] Q := (pc_134 e).mono fun _ h => h ▸ ho
/- impl.onPlayer -/
def phi_135 : Nat → List D → List D
  | 79, [a] => [.bool (inR a.toI 0 2)]
  | _, _ => []
theorem pc_135 (e : D) : PC Try.prog 135 [.st [(.int .i64), (.int .i64), (.int .i64), (.int .i64), (.int .i64), (.int .i64), .bool] e] [.sc .bool] fun o => o = [.bool (onPlayer e)] := by
  refine PC.of_sig mix sig_135 ⟨rfl, trivial⟩ rfl fun hok => ?_
  have e_e : D.lst [e.fld 0, e.fld 1, e.fld 2, e.fld 3, e.fld 4, e.fld 5, e.fld 6] = e := by simpa [List.range, List.range.loop] using okL_eta (hok _ (.head _))
  have k_e : okL [(.int .i64), (.int .i64), (.int .i64), (.int .i64), (.int .i64), (.int .i64), .bool] e := (hok _ (.head _))
  apply says_den (φ := (phi_135))
  simp [e_e, tree_135, T.says, X.den, O1.den, O2.den, O3.den, callD, XArg.ev, XArg.dat, Callee'.num, backs, DArg.back, Conds.den, cloArgs, phi_135, pd_79, onPlayer]
theorem pd_135 (e : D) (Q : List D → Prop) (ho : Q [.bool (onPlayer e)]) : PC Try.prog 135 [.st [(.int .i64), (.int .i64), (.int .i64), (.int .i64), (.int .i64), (.int .i64), .bool] e] [.sc .bool] Q := (pc_135 e).mono fun _ h => h ▸ ho
/- impl.EventOk -/
def phi_97 : Nat → List D → List D
  | 78, [a] => [.bool (inR a.toI 1 99)]
  | 128, [a] => [.bool (inR a.toI 0 2147483647)]
  | 129, [a] => [.bool (inR a.toI 1 4)]
  | 134, [e] => [.bool (onPiece e)]
  | 135, [e] => [.bool (onPlayer e)]
  | _, _ => []
theorem pc_97 (e : D) : PC Try.prog 97 [.st [(.int .i64), (.int .i64), (.int .i64), (.int .i64), (.int .i64), (.int .i64), .bool] e] [.sc .bool] fun o => o = [.bool (eventOk e)] := by
  refine PC.of_sig mix sig_97 ⟨rfl, trivial⟩ rfl fun hok => ?_
  have e_e : D.lst [e.fld 0, e.fld 1, e.fld 2, e.fld 3, e.fld 4, e.fld 5, e.fld 6] = e := by simpa [List.range, List.range.loop] using okL_eta (hok _ (.head _))
  have k_e : okL [(.int .i64), (.int .i64), (.int .i64), (.int .i64), (.int .i64), (.int .i64), .bool] e := (hok _ (.head _))
  apply says_den (φ := (phi_97))
  simp [e_e, tree_97, T.says, X.den, O1.den, O2.den, O3.den, callD, XArg.ev, XArg.dat, Callee'.num, backs, DArg.back, Conds.den, cloArgs, phi_97, pd_78, pd_128, pd_129, pd_134, pd_135]
  (repeat' (first | (with_reducible apply And.intro) | intro _)) <;> grind [eventOk, inR]
theorem pd_97 (e : D) (Q : List D → Prop) (ho : Q [.bool (eventOk e)]) : PC Try.prog 97 [.st [(.int .i64), (.int .i64), (.int .i64), (.int .i64), (.int .i64), (.int .i64), .bool] e] [.sc .bool] Q := (pc_97 e).mono fun _ h => h ▸ ho
/- impl.partOk -/
def phi_132 : Nat → List D → List D
  | 97, [e] => [.bool (eventOk e)]
  | _, _ => []
theorem pc_132 (e : D) : PC Try.prog 132 [.st [(.int .i64), (.int .i64), (.int .i64), (.int .i64), (.int .i64), (.int .i64), .bool] e] [.sc .bool] fun o => o = [.bool (partOk e)] := by
  refine PC.of_sig mix sig_132 ⟨rfl, trivial⟩ rfl fun hok => ?_
  have e_e : D.lst [e.fld 0, e.fld 1, e.fld 2, e.fld 3, e.fld 4, e.fld 5, e.fld 6] = e := by simpa [List.range, List.range.loop] using okL_eta (hok _ (.head _))
  have k_e : okL [(.int .i64), (.int .i64), (.int .i64), (.int .i64), (.int .i64), (.int .i64), .bool] e := (hok _ (.head _))
  apply says_den (φ := (phi_132))
  have hneg : (e.fld 4).toI = -1 → eventOk e = false := by intro h; simp [eventOk, inR, h]
  simp [e_e, tree_132, T.says, X.den, O1.den, O2.den, O3.den, callD, XArg.ev, XArg.dat, Callee'.num, backs, DArg.back, Conds.den, cloArgs, phi_132, pd_97, partOk, ev0]
  all_goals grind
theorem pd_132 (e : D) (Q : List D → Prop) (ho : Q [.bool (partOk e)]) : PC Try.prog 132 [.st [(.int .i64), (.int .i64), (.int .i64), (.int .i64), (.int .i64), (.int .i64), .bool] e] [.sc .bool] Q := (pc_132 e).mono fun _ h => h ▸ ho
/- impl.ActOk$1 -/
def phi_131 : Nat → List D → List D
  | 132, [e] => [.bool (partOk e)]
  | _, _ => []
theorem pc_131 (e : D) : PC Try.prog 131 [.st [(.int .i64), (.int .i64), (.int .i64), (.int .i64), (.int .i64), (.int .i64), .bool] e] [.sc .bool] fun o => o = [.bool (!partOk e)] := by
  refine PC.of_sig mix sig_131 ⟨rfl, trivial⟩ rfl fun hok => ?_
  have e_e : D.lst [e.fld 0, e.fld 1, e.fld 2, e.fld 3, e.fld 4, e.fld 5, e.fld 6] = e := by simpa [List.range, List.range.loop] using okL_eta (hok _ (.head _))
  have k_e : okL [(.int .i64), (.int .i64), (.int .i64), (.int .i64), (.int .i64), (.int .i64), .bool] e := (hok _ (.head _))
  apply says_den (φ := (phi_131))
  simp [e_e, tree_131, T.says, X.den, O1.den, O2.den, O3.den, callD, XArg.ev, XArg.dat, Callee'.num, backs, DArg.back, Conds.den, cloArgs, phi_131, pd_132]
theorem pd_131 (e : D) (Q : List D → Prop) (ho : Q [.bool (!partOk e)]) : PC Try.prog 131 [.st [(.int .i64), (.int .i64), (.int .i64), (.int .i64), (.int .i64), (.int .i64), .bool] e] [.sc .bool] Q := (pc_131 e).mono fun _ h => h ▸ ho
/- slices.IndexFunc[[]impl.Event,impl.Event] -/
def phi_139 : Nat → List D → List D
  | 131, [e] => [.bool (!partOk e)]
  | 0, [e] => [.bool (!partOk e)]
  | _, _ => []
theorem pc_139 (a : D) : PC Try.prog 139 [.sc (.sl [(.int .i64), (.int .i64), (.int .i64), (.int .i64), (.int .i64), (.int .i64), .bool]) a, .clo 131 []] [.sc (.int .i64)] fun o => o = [.int (findR (fun i => !partOk (a.elem i)) a.toL.length)] := by
  refine PC.of_sig mix sig_139 ⟨rfl, trivial, trivial⟩ rfl fun hok => ?_
  have e_a := sl_eta (hok _ (.head _))
  have l_a := sl_len (hok _ (.head _))
  have k_a := sl_all (hok _ (.head _))
  have E_a : ∀ i, i < a.toL.length → D.lst [(a.elem i).fld 0, (a.elem i).fld 1, (a.elem i).fld 2, (a.elem i).fld 3, (a.elem i).fld 4, (a.elem i).fld 5, (a.elem i).fld 6] = a.elem i := fun i hi => by simpa [List.range, List.range.loop] using okL_eta (k_a _ (elem_mem hi))
  apply says_den (φ := (phi_139))
  simp [e_a, E_a, tree_139, T.says, X.den, O1.den, O2.den, O3.den, callD, XArg.ev, XArg.dat, Callee'.num, backs, DArg.back, Conds.den, cloArgs, phi_139, pd_131]
  refine fun _ => ?_
  refine den_for a.toL.length 0 (fun i => [.int i]) (fun i => ∀ j, j < i → (!partOk (a.elem j)) = false) (by simp) (by simp [X.den]) (by simp) fun i hi hR => ?_
  apply says_den (φ := (phi_139))
  by_cases hlt : i < a.toL.length
  · simp [e_a, E_a, tree_139, T.says, X.den, O1.den, O2.den, O3.den, callD, XArg.ev, XArg.dat, Callee'.num, backs, DArg.back, Conds.den, cloArgs, phi_139, pd_131, hlt]
    (repeat' (first | (with_reducible apply And.intro) | intro _))
    · exact (findR_some (p := fun i => !partOk (a.elem i)) hlt (by simp_all) hR).symm
    · (first | omega | (simp only [IntKind.wrap_i64, maxL] at *; omega) | (simp [IntKind.wrap_i64, maxL] at *; omega))
    · grind
  · simp [e_a, E_a, tree_139, T.says, X.den, O1.den, O2.den, O3.den, callD, XArg.ev, XArg.dat, Callee'.num, backs, DArg.back, Conds.den, cloArgs, phi_139, pd_131, hlt]
    (repeat' (first | (with_reducible apply And.intro) | intro _))
    · exact (findR_none fun j hj => hR j (by omega)).symm
theorem pd_139 (a : D) (Q : List D → Prop) (ho : Q [.int (findR (fun i => !partOk (a.elem i)) a.toL.length)]) : PC Try.prog 139 [.sc (.sl [(.int .i64), (.int .i64), (.int .i64), (.int .i64), (.int .i64), (.int .i64), .bool]) a, .clo 131 []] [.sc (.int .i64)] Q := (pc_139 a).mono fun _ h => h ▸ ho
/- slices.ContainsFunc[[]impl.Event,impl.Event] -/
def phi_130 : Nat → List D → List D
  | 131, [e] => [.bool (!partOk e)]
  | 139, [a, _] => [.int (findR (fun i => !partOk (a.elem i)) a.toL.length)]
  | 0, [e] => [.bool (!partOk e)]
  | _, _ => []
theorem pc_130 (a : D) : PC Try.prog 130 [.sc (.sl [(.int .i64), (.int .i64), (.int .i64), (.int .i64), (.int .i64), (.int .i64), .bool]) a, .clo 131 []] [.sc .bool] fun o => o = [.bool (!allR (fun i => partOk (a.elem i)) a.toL.length)] := by
  refine PC.of_sig mix sig_130 ⟨rfl, trivial, trivial⟩ rfl fun hok => ?_
  have e_a := sl_eta (hok _ (.head _))
  have l_a := sl_len (hok _ (.head _))
  have k_a := sl_all (hok _ (.head _))
  have E_a : ∀ i, i < a.toL.length → D.lst [(a.elem i).fld 0, (a.elem i).fld 1, (a.elem i).fld 2, (a.elem i).fld 3, (a.elem i).fld 4, (a.elem i).fld 5, (a.elem i).fld 6] = a.elem i := fun i hi => by simpa [List.range, List.range.loop] using okL_eta (k_a _ (elem_mem hi))
  apply says_den (φ := (phi_130))
  simp [e_a, E_a, tree_130, T.says, X.den, O1.den, O2.den, O3.den, callD, XArg.ev, XArg.dat, Callee'.num, backs, DArg.back, Conds.den, cloArgs, phi_130, pd_131, pd_139, findR_nn]
theorem pd_130 (a : D) (Q : List D → Prop) (ho : Q [.bool (!allR (fun i => partOk (a.elem i)) a.toL.length)]) : PC Try.prog 130 [.sc (.sl [(.int .i64), (.int .i64), (.int .i64), (.int .i64), (.int .i64), (.int .i64), .bool]) a, .clo 131 []] [.sc .bool] Q := (pc_130 a).mono fun _ h => h ▸ ho
/- impl.ActOk -/
def phi_83 : Nat → List D → List D
  | 78, [a] => [.bool (inR a.toI 1 99)]
  | 79, [a] => [.bool (inR a.toI 0 2)]
  | 80, [a, b, c] => [.bool (inR a.toI b.toI c.toI)]
  | 129, [a] => [.bool (inR a.toI 1 4)]
  | 130, [a, _] => [.bool (!allR (fun i => partOk (a.elem i)) a.toL.length)]
  | 131, [e] => [.bool (!partOk e)]
  | _, _ => []
theorem pc_83 (a : D) : PC Try.prog 83 [.st [(.int .i64), (.int .i64), (.int .i64), (.int .i64), (.int .i64), .bool, (.sl [(.int .i64), (.int .i64), (.int .i64), (.int .i64), (.int .i64), (.int .i64), .bool])] a] [.sc .bool] fun o => o = [.bool (actOk a)] := by
  refine PC.of_sig mix sig_83 ⟨rfl, trivial⟩ rfl fun hok => ?_
  have e_a : D.lst [a.fld 0, a.fld 1, a.fld 2, a.fld 3, a.fld 4, a.fld 5, a.fld 6] = a := by simpa [List.range, List.range.loop] using okL_eta (hok _ (.head _))
  have k_a : okL [(.int .i64), (.int .i64), (.int .i64), (.int .i64), (.int .i64), .bool, (.sl [(.int .i64), (.int .i64), (.int .i64), (.int .i64), (.int .i64), (.int .i64), .bool])] a := (hok _ (.head _))
  have e_a_6 : D.lst (a.fld 6).toL = a.fld 6 := sl_eta (okL_at k_a (i := 6) rfl)
  have l_a_6 := sl_len (okL_at k_a (i := 6) rfl)
  have k_a_6 := sl_all (okL_at k_a (i := 6) rfl)
  have E_a_6 : ∀ i, i < (a.fld 6).toL.length → D.lst [((a.fld 6).elem i).fld 0, ((a.fld 6).elem i).fld 1, ((a.fld 6).elem i).fld 2, ((a.fld 6).elem i).fld 3, ((a.fld 6).elem i).fld 4, ((a.fld 6).elem i).fld 5, ((a.fld 6).elem i).fld 6] = (a.fld 6).elem i := fun i hi => by simpa [List.range, List.range.loop] using okL_eta (k_a_6 _ (elem_mem hi))
  apply says_den (φ := (phi_83))
  simp [e_a_6, E_a_6, e_a, tree_83, T.says, X.den, O1.den, O2.den, O3.den, callD, XArg.ev, XArg.dat, Callee'.num, backs, DArg.back, Conds.den, cloArgs, phi_83, pd_78, pd_79, pd_80, pd_129, pd_130, pd_131]
  (repeat' (first | (with_reducible apply And.intro) | intro _))
  all_goals first | (exfalso; omega) | (grind [actOk, plain, inR]) | skip
theorem pd_83 (a : D) (Q : List D → Prop) (ho : Q [.bool (actOk a)]) : PC Try.prog 83 [.st [(.int .i64), (.int .i64), (.int .i64), (.int .i64), (.int .i64), .bool, (.sl [(.int .i64), (.int .i64), (.int .i64), (.int .i64), (.int .i64), (.int .i64), .bool])] a] [.sc .bool] Q := (pc_83 a).mono fun _ h => h ▸ ho
/- impl.ActFits -/
def phi_84 : Nat → List D → List D
  | 126, [a] => [.bool (inR a.toI 1 6)]
  | _, _ => []
theorem pc_84 (a n : D) : PC Try.prog 84 [.st [(.int .i64), (.int .i64), (.int .i64), (.int .i64), (.int .i64), .bool, (.sl [(.int .i64), (.int .i64), (.int .i64), (.int .i64), (.int .i64), (.int .i64), .bool])] a, .sc (.int .i64) n] [.sc .bool] fun o => o = [.bool (actFits a n.toI)] := by
  refine PC.of_sig mix sig_84 ⟨rfl, rfl, trivial⟩ rfl fun hok => ?_
  have e_a : D.lst [a.fld 0, a.fld 1, a.fld 2, a.fld 3, a.fld 4, a.fld 5, a.fld 6] = a := by simpa [List.range, List.range.loop] using okL_eta (hok _ (.head _))
  have k_a : okL [(.int .i64), (.int .i64), (.int .i64), (.int .i64), (.int .i64), .bool, (.sl [(.int .i64), (.int .i64), (.int .i64), (.int .i64), (.int .i64), (.int .i64), .bool])] a := (hok _ (.head _))
  have e_a_6 : D.lst (a.fld 6).toL = a.fld 6 := sl_eta (okL_at k_a (i := 6) rfl)
  have l_a_6 := sl_len (okL_at k_a (i := 6) rfl)
  have k_a_6 := sl_all (okL_at k_a (i := 6) rfl)
  have E_a_6 : ∀ i, i < (a.fld 6).toL.length → D.lst [((a.fld 6).elem i).fld 0, ((a.fld 6).elem i).fld 1, ((a.fld 6).elem i).fld 2, ((a.fld 6).elem i).fld 3, ((a.fld 6).elem i).fld 4, ((a.fld 6).elem i).fld 5, ((a.fld 6).elem i).fld 6] = (a.fld 6).elem i := fun i hi => by simpa [List.range, List.range.loop] using okL_eta (k_a_6 _ (elem_mem hi))
  have e_n := int_eta (hok _ (.tail _ (.head _)))
  have b_n := int_range (hok _ (.tail _ (.head _)))
  apply says_den (φ := (phi_84))
  simp [e_a_6, E_a_6, e_a, e_n, tree_84, T.says, X.den, O1.den, O2.den, O3.den, callD, XArg.ev, XArg.dat, Callee'.num, backs, DArg.back, Conds.den, cloArgs, phi_84, pd_126]
  (repeat' (first | (with_reducible apply And.intro) | intro _)) <;> grind [actFits]
theorem pd_84 (a n : D) (Q : List D → Prop) (ho : Q [.bool (actFits a n.toI)]) : PC Try.prog 84 [.st [(.int .i64), (.int .i64), (.int .i64), (.int .i64), (.int .i64), .bool, (.sl [(.int .i64), (.int .i64), (.int .i64), (.int .i64), (.int .i64), (.int .i64), .bool])] a, .sc (.int .i64) n] [.sc .bool] Q := (pc_84 a n).mono fun _ h => h ▸ ho
/- impl.EffectOk -/
def phi_29 : Nat → List D → List D
  | 78, [a] => [.bool (inR a.toI 1 99)]
  | 79, [a] => [.bool (inR a.toI 0 2)]
  | 80, [a, b, c] => [.bool (inR a.toI b.toI c.toI)]
  | 81, [d] => [.bool (patOk d)]
  | 82, [d] => [.bool (guardOk d)]
  | 83, [a] => [.bool (actOk a)]
  | 84, [a, n] => [.bool (actFits a n.toI)]
  | _, _ => []
theorem pc_29 (e : D) : PC Try.prog 29 [.st [(.int .i64), (.int .i64), (.int .i64), (.int .i64), (.int .i64), (.int .i64), (.int .i64), (.int .i64), (.int .i64), (.int .i64), (.int .i64), (.int .i64), (.int .i64), (.int .i64), (.int .i64), (.int .i64), (.int .i64), (.int .i64), .bool, (.sl [(.int .i64), (.int .i64), (.int .i64), (.int .i64), (.int .i64), (.int .i64), .bool]), (.int .i64), (.int .i64)] e] [.sc .bool] fun o => o = [.bool (effectOk e)] := by
  refine PC.of_sig mix sig_29 ⟨rfl, trivial⟩ rfl fun hok => ?_
  have e_e : D.lst [e.fld 0, e.fld 1, e.fld 2, e.fld 3, e.fld 4, e.fld 5, e.fld 6, e.fld 7, e.fld 8, e.fld 9, e.fld 10, e.fld 11, e.fld 12, e.fld 13, e.fld 14, e.fld 15, e.fld 16, e.fld 17, e.fld 18, e.fld 19, e.fld 20, e.fld 21] = e := by simpa [List.range, List.range.loop] using okL_eta (hok _ (.head _))
  have k_e : okL [(.int .i64), (.int .i64), (.int .i64), (.int .i64), (.int .i64), (.int .i64), (.int .i64), (.int .i64), (.int .i64), (.int .i64), (.int .i64), (.int .i64), (.int .i64), (.int .i64), (.int .i64), (.int .i64), (.int .i64), (.int .i64), .bool, (.sl [(.int .i64), (.int .i64), (.int .i64), (.int .i64), (.int .i64), (.int .i64), .bool]), (.int .i64), (.int .i64)] e := (hok _ (.head _))
  have e_e_19 : D.lst (e.fld 19).toL = e.fld 19 := sl_eta (okL_at k_e (i := 19) rfl)
  have l_e_19 := sl_len (okL_at k_e (i := 19) rfl)
  have k_e_19 := sl_all (okL_at k_e (i := 19) rfl)
  have E_e_19 : ∀ i, i < (e.fld 19).toL.length → D.lst [((e.fld 19).elem i).fld 0, ((e.fld 19).elem i).fld 1, ((e.fld 19).elem i).fld 2, ((e.fld 19).elem i).fld 3, ((e.fld 19).elem i).fld 4, ((e.fld 19).elem i).fld 5, ((e.fld 19).elem i).fld 6] = (e.fld 19).elem i := fun i hi => by simpa [List.range, List.range.loop] using okL_eta (k_e_19 _ (elem_mem hi))
  apply says_den (φ := (phi_29))
  simp [e_e_19, E_e_19, e_e, tree_29, T.says, X.den, O1.den, O2.den, O3.den, callD, XArg.ev, XArg.dat, Callee'.num, backs, DArg.back, Conds.den, cloArgs, phi_29, pd_78, pd_79, pd_80, pd_81, pd_82, pd_83, pd_84, effectOk, patOf, grdOf, actOf]
  all_goals grind [inR]
theorem pd_29 (e : D) (Q : List D → Prop) (ho : Q [.bool (effectOk e)]) : PC Try.prog 29 [.st [(.int .i64), (.int .i64), (.int .i64), (.int .i64), (.int .i64), (.int .i64), (.int .i64), (.int .i64), (.int .i64), (.int .i64), (.int .i64), (.int .i64), (.int .i64), (.int .i64), (.int .i64), (.int .i64), (.int .i64), (.int .i64), .bool, (.sl [(.int .i64), (.int .i64), (.int .i64), (.int .i64), (.int .i64), (.int .i64), .bool]), (.int .i64), (.int .i64)] e] [.sc .bool] Q := (pc_29 e).mono fun _ h => h ▸ ho
/- impl.TableOk -/
def phi_31 : Nat → List D → List D
  | 29, [e] => [.bool (effectOk e)]
  | _, _ => []
theorem pc_31 (d : D) : PC Try.prog 31 [.sc (.sl [(.int .i64), (.int .i64), (.int .i64), (.int .i64), (.int .i64), (.int .i64), (.int .i64), (.int .i64), (.int .i64), (.int .i64), (.int .i64), (.int .i64), (.int .i64), (.int .i64), (.int .i64), (.int .i64), (.int .i64), (.int .i64), .bool, (.sl [(.int .i64), (.int .i64), (.int .i64), (.int .i64), (.int .i64), (.int .i64), .bool]), (.int .i64), (.int .i64)]) d] [.sc .bool] fun o => o = [.bool (tableOk d)] := by
  refine PC.of_sig mix sig_31 ⟨rfl, trivial⟩ rfl fun hok => ?_
  have e_d := sl_eta (hok _ (.head _))
  have l_d := sl_len (hok _ (.head _))
  have k_d := sl_all (hok _ (.head _))
  have E_d : ∀ i, i < d.toL.length → D.lst [(d.elem i).fld 0, (d.elem i).fld 1, (d.elem i).fld 2, (d.elem i).fld 3, (d.elem i).fld 4, (d.elem i).fld 5, (d.elem i).fld 6, (d.elem i).fld 7, (d.elem i).fld 8, (d.elem i).fld 9, (d.elem i).fld 10, (d.elem i).fld 11, (d.elem i).fld 12, (d.elem i).fld 13, (d.elem i).fld 14, (d.elem i).fld 15, (d.elem i).fld 16, (d.elem i).fld 17, (d.elem i).fld 18, (d.elem i).fld 19, (d.elem i).fld 20, (d.elem i).fld 21] = d.elem i := fun i hi => by simpa [List.range, List.range.loop] using okL_eta (k_d _ (elem_mem hi))
  apply says_den (φ := (phi_31))
  simp [e_d, E_d, tree_31, T.says, X.den, O1.den, O2.den, O3.den, callD, XArg.ev, XArg.dat, Callee'.num, backs, DArg.back, Conds.den, cloArgs, phi_31, pd_29]
  refine fun _ => ?_
  refine den_for d.toL.length 0 (fun i => [.int i]) (fun i => ∀ j, j < i → rowOk d j = true) (by simp) (by simp [X.den]) (by simp) fun i hi hR => ?_
  apply says_den (φ := (phi_31))
  by_cases hlt : i < d.toL.length
  · have hz : IntKind.i64.wrap ((i : Int) + 1) = i + 1 := by (first | omega | (simp only [IntKind.wrap_i64, maxL] at *; omega) | (simp [IntKind.wrap_i64, maxL] at *; omega))
    by_cases h0 : i = 0
    · subst h0
      have hm : IntKind.i64.wrap (((0 : Nat) : Int) - 1) = -1 := by (first | omega | (simp only [IntKind.wrap_i64, maxL] at *; omega) | (simp [IntKind.wrap_i64, maxL] at *; omega))
      simp [e_d, E_d, tree_31, T.says, X.den, O1.den, O2.den, O3.den, callD, XArg.ev, XArg.dat, Callee'.num, backs, DArg.back, Conds.den, cloArgs, phi_31, pd_29, hlt, hm]
      (repeat' (first | (with_reducible apply And.intro) | intro _))
      · rw [tableOk, allR_false (p := rowOk d) hlt (by simp [rowOk, *])]; simp
      · (first | omega | (simp only [IntKind.wrap_i64, maxL] at *; omega) | (simp [IntKind.wrap_i64, maxL] at *; omega))
      · simp [rowOk, *]
    · have hm : IntKind.i64.wrap ((i : Int) - 1) = ((i - 1 : Nat) : Int) := by (first | omega | (simp only [IntKind.wrap_i64, maxL] at *; omega) | (simp [IntKind.wrap_i64, maxL] at *; omega))
      simp [e_d, E_d, tree_31, T.says, X.den, O1.den, O2.den, O3.den, callD, XArg.ev, XArg.dat, Callee'.num, backs, DArg.back, Conds.den, cloArgs, phi_31, pd_29, hlt, hm, hz]
      (repeat' (first | (with_reducible apply And.intro) | intro _))
      · omega
      · rw [tableOk, allR_false (p := rowOk d) hlt (by grind [rowOk])]; simp
      · grind [rowOk]
  · have ht := allR_true (p := rowOk d) (n := d.toL.length) (fun j hj => hR j (by omega))
    simp [e_d, E_d, tree_31, T.says, X.den, O1.den, O2.den, O3.den, callD, XArg.ev, XArg.dat, Callee'.num, backs, DArg.back, Conds.den, cloArgs, phi_31, pd_29, hlt, tableOk, ht]
    all_goals omega
theorem pd_31 (d : D) (Q : List D → Prop) (ho : Q [.bool (tableOk d)]) : PC Try.prog 31 [.sc (.sl [(.int .i64), (.int .i64), (.int .i64), (.int .i64), (.int .i64), (.int .i64), (.int .i64), (.int .i64), (.int .i64), (.int .i64), (.int .i64), (.int .i64), (.int .i64), (.int .i64), (.int .i64), (.int .i64), (.int .i64), (.int .i64), .bool, (.sl [(.int .i64), (.int .i64), (.int .i64), (.int .i64), (.int .i64), (.int .i64), .bool]), (.int .i64), (.int .i64)]) d] [.sc .bool] Q := (pc_31 d).mono fun _ h => h ▸ ho
/- slices.Clone[[]impl.Event,impl.Event] -/
theorem pc_122 (d : D) (h : (d.toL.length : Int) ≤ 1048576) : PC Try.prog 122 [.sc (.sl [(.int .i64), (.int .i64), (.int .i64), (.int .i64), (.int .i64), (.int .i64), .bool]) d] [.sc (.sl [(.int .i64), (.int .i64), (.int .i64), (.int .i64), (.int .i64), (.int .i64), .bool])] fun o => o = [d] := by
  refine PC.of_sig mix sig_122 ⟨rfl, trivial⟩ rfl fun hok => ?_
  have e_d := sl_eta (hok _ (.head _))
  have l_d := sl_len (hok _ (.head _))
  have k_d := sl_all (hok _ (.head _))
  have E_d : ∀ i, i < d.toL.length → D.lst [(d.elem i).fld 0, (d.elem i).fld 1, (d.elem i).fld 2, (d.elem i).fld 3, (d.elem i).fld 4, (d.elem i).fld 5, (d.elem i).fld 6] = d.elem i := fun i hi => by simpa [List.range, List.range.loop] using okL_eta (k_d _ (elem_mem hi))
  apply says_den (φ := fun _ _ => [])
  simp [e_d, E_d, tree_122, T.says, X.den, O1.den, O2.den, O3.den, callD, XArg.ev, XArg.dat, Callee'.num, backs, DArg.back, Conds.den, cloArgs] at h ⊢
  (repeat' (first | (with_reducible apply And.intro) | intro _))
  · omega
  · have e0 := e_d; rw [‹d.toL = []›] at e0; exact e0
theorem pd_122 (d : D) (h : (d.toL.length : Int) ≤ 1048576) (Q : List D → Prop) (ho : Q [d]) : PC Try.prog 122 [.sc (.sl [(.int .i64), (.int .i64), (.int .i64), (.int .i64), (.int .i64), (.int .i64), .bool]) d] [.sc (.sl [(.int .i64), (.int .i64), (.int .i64), (.int .i64), (.int .i64), (.int .i64), .bool])] Q := (pc_122 d h).mono fun _ h => h ▸ ho
/- impl.copyEffect -/
def phi_65 : Nat → List D → List D
  | 122, [d] => [d]
  | _, _ => []
theorem pc_65 (e : D) (h : ((e.fld 19).toL.length : Int) ≤ 1048576) : PC Try.prog 65 [.st [(.int .i64), (.int .i64), (.int .i64), (.int .i64), (.int .i64), (.int .i64), (.int .i64), (.int .i64), (.int .i64), (.int .i64), (.int .i64), (.int .i64), (.int .i64), (.int .i64), (.int .i64), (.int .i64), (.int .i64), (.int .i64), .bool, (.sl [(.int .i64), (.int .i64), (.int .i64), (.int .i64), (.int .i64), (.int .i64), .bool]), (.int .i64), (.int .i64)] e] [.st [(.int .i64), (.int .i64), (.int .i64), (.int .i64), (.int .i64), (.int .i64), (.int .i64), (.int .i64), (.int .i64), (.int .i64), (.int .i64), (.int .i64), (.int .i64), (.int .i64), (.int .i64), (.int .i64), (.int .i64), (.int .i64), .bool, (.sl [(.int .i64), (.int .i64), (.int .i64), (.int .i64), (.int .i64), (.int .i64), .bool]), (.int .i64), (.int .i64)]] fun o => o = [e] := by
  refine PC.of_sig mix sig_65 ⟨rfl, trivial⟩ rfl fun hok => ?_
  have e_e : D.lst [e.fld 0, e.fld 1, e.fld 2, e.fld 3, e.fld 4, e.fld 5, e.fld 6, e.fld 7, e.fld 8, e.fld 9, e.fld 10, e.fld 11, e.fld 12, e.fld 13, e.fld 14, e.fld 15, e.fld 16, e.fld 17, e.fld 18, e.fld 19, e.fld 20, e.fld 21] = e := by simpa [List.range, List.range.loop] using okL_eta (hok _ (.head _))
  have k_e : okL [(.int .i64), (.int .i64), (.int .i64), (.int .i64), (.int .i64), (.int .i64), (.int .i64), (.int .i64), (.int .i64), (.int .i64), (.int .i64), (.int .i64), (.int .i64), (.int .i64), (.int .i64), (.int .i64), (.int .i64), (.int .i64), .bool, (.sl [(.int .i64), (.int .i64), (.int .i64), (.int .i64), (.int .i64), (.int .i64), .bool]), (.int .i64), (.int .i64)] e := (hok _ (.head _))
  have e_e_19 : D.lst (e.fld 19).toL = e.fld 19 := sl_eta (okL_at k_e (i := 19) rfl)
  have l_e_19 := sl_len (okL_at k_e (i := 19) rfl)
  have k_e_19 := sl_all (okL_at k_e (i := 19) rfl)
  have E_e_19 : ∀ i, i < (e.fld 19).toL.length → D.lst [((e.fld 19).elem i).fld 0, ((e.fld 19).elem i).fld 1, ((e.fld 19).elem i).fld 2, ((e.fld 19).elem i).fld 3, ((e.fld 19).elem i).fld 4, ((e.fld 19).elem i).fld 5, ((e.fld 19).elem i).fld 6] = (e.fld 19).elem i := fun i hi => by simpa [List.range, List.range.loop] using okL_eta (k_e_19 _ (elem_mem hi))
  apply says_den (φ := (phi_65))
  simp [e_e_19, E_e_19, e_e, tree_65, T.says, X.den, O1.den, O2.den, O3.den, callD, XArg.ev, XArg.dat, Callee'.num, backs, DArg.back, Conds.den, cloArgs, phi_65, pd_122, h]
theorem pd_65 (e : D) (h : ((e.fld 19).toL.length : Int) ≤ 1048576) (Q : List D → Prop) (ho : Q [e]) : PC Try.prog 65 [.st [(.int .i64), (.int .i64), (.int .i64), (.int .i64), (.int .i64), (.int .i64), (.int .i64), (.int .i64), (.int .i64), (.int .i64), (.int .i64), (.int .i64), (.int .i64), (.int .i64), (.int .i64), (.int .i64), (.int .i64), (.int .i64), .bool, (.sl [(.int .i64), (.int .i64), (.int .i64), (.int .i64), (.int .i64), (.int .i64), .bool]), (.int .i64), (.int .i64)] e] [.st [(.int .i64), (.int .i64), (.int .i64), (.int .i64), (.int .i64), (.int .i64), (.int .i64), (.int .i64), (.int .i64), (.int .i64), (.int .i64), (.int .i64), (.int .i64), (.int .i64), (.int .i64), (.int .i64), (.int .i64), (.int .i64), .bool, (.sl [(.int .i64), (.int .i64), (.int .i64), (.int .i64), (.int .i64), (.int .i64), .bool]), (.int .i64), (.int .i64)]] Q := (pc_65 e h).mono fun _ h => h ▸ ho
/- impl.copyTable -/
def phi_87 : Nat → List D → List D
  | 65, [e] => [e]
  | _, _ => []
theorem pc_87 (d : D) (h : smallE d) : PC Try.prog 87 [.sc (.sl [(.int .i64), (.int .i64), (.int .i64), (.int .i64), (.int .i64), (.int .i64), (.int .i64), (.int .i64), (.int .i64), (.int .i64), (.int .i64), (.int .i64), (.int .i64), (.int .i64), (.int .i64), (.int .i64), (.int .i64), (.int .i64), .bool, (.sl [(.int .i64), (.int .i64), (.int .i64), (.int .i64), (.int .i64), (.int .i64), .bool]), (.int .i64), (.int .i64)]) d] [.sc (.sl [(.int .i64), (.int .i64), (.int .i64), (.int .i64), (.int .i64), (.int .i64), (.int .i64), (.int .i64), (.int .i64), (.int .i64), (.int .i64), (.int .i64), (.int .i64), (.int .i64), (.int .i64), (.int .i64), (.int .i64), (.int .i64), .bool, (.sl [(.int .i64), (.int .i64), (.int .i64), (.int .i64), (.int .i64), (.int .i64), .bool]), (.int .i64), (.int .i64)])] fun o => o = [d] := by
  refine PC.of_sig mix sig_87 ⟨rfl, trivial⟩ rfl fun hok => ?_
  have e_d := sl_eta (hok _ (.head _))
  have l_d := sl_len (hok _ (.head _))
  have k_d := sl_all (hok _ (.head _))
  have E_d : ∀ i, i < d.toL.length → D.lst [(d.elem i).fld 0, (d.elem i).fld 1, (d.elem i).fld 2, (d.elem i).fld 3, (d.elem i).fld 4, (d.elem i).fld 5, (d.elem i).fld 6, (d.elem i).fld 7, (d.elem i).fld 8, (d.elem i).fld 9, (d.elem i).fld 10, (d.elem i).fld 11, (d.elem i).fld 12, (d.elem i).fld 13, (d.elem i).fld 14, (d.elem i).fld 15, (d.elem i).fld 16, (d.elem i).fld 17, (d.elem i).fld 18, (d.elem i).fld 19, (d.elem i).fld 20, (d.elem i).fld 21] = d.elem i := fun i hi => by simpa [List.range, List.range.loop] using okL_eta (k_d _ (elem_mem hi))
  have h1 := h.1
  apply says_den (φ := (phi_87))
  simp [e_d, E_d, tree_87, T.says, X.den, O1.den, O2.den, O3.den, callD, XArg.ev, XArg.dat, Callee'.num, backs, DArg.back, Conds.den, cloArgs, phi_87, pd_65]
  refine fun _ => ?_
  refine den_for d.toL.length 0 (fun i => [.int i, .lst (d.toL.take i)]) (fun _ => True) (by simp) (by simp [X.den]) trivial fun i hi _ => ?_
  apply says_den (φ := (phi_87))
  by_cases hlt : i < d.toL.length
  · have h2 := h.2 i hlt
    simp [e_d, E_d, tree_87, T.says, X.den, O1.den, O2.den, O3.den, callD, XArg.ev, XArg.dat, Callee'.num, backs, DArg.back, Conds.den, cloArgs, phi_87, pd_65, hlt, h2, take_elem hlt]
    (repeat' (first | (with_reducible apply And.intro) | intro _)) <;> first | omega | (first | omega | (simp only [IntKind.wrap_i64, maxL] at *; omega) | (simp [IntKind.wrap_i64, maxL] at *; omega)) | (first | assumption | (exact pd_65 _ (by first | (with_reducible assumption) | omega | assumption | (simp; done) | (simp; omega) | (simp [*]; done) | exact smallE_of (n := 1048576) (by omega) (by omega) | (simp [*] at *; omega) | grind [szS]) _ (by first | rfl | simp | (simp; omega))) | (first | omega | (simp only [IntKind.wrap_i64, maxL] at *; omega) | (simp [IntKind.wrap_i64, maxL] at *; omega)) | rfl | contradiction | grind) | skip
  · simp [e_d, E_d, tree_87, T.says, X.den, O1.den, O2.den, O3.den, callD, XArg.ev, XArg.dat, Callee'.num, backs, DArg.back, Conds.den, cloArgs, phi_87, pd_65, hlt]
    (repeat' (first | (with_reducible apply And.intro) | intro _)) <;> first | omega | (rw [List.take_of_length_le (by omega), e_d]) | skip
theorem pd_87 (d : D) (h : smallE d) (Q : List D → Prop) (ho : Q [d]) : PC Try.prog 87 [.sc (.sl [(.int .i64), (.int .i64), (.int .i64), (.int .i64), (.int .i64), (.int .i64), (.int .i64), (.int .i64), (.int .i64), (.int .i64), (.int .i64), (.int .i64), (.int .i64), (.int .i64), (.int .i64), (.int .i64), (.int .i64), (.int .i64), .bool, (.sl [(.int .i64), (.int .i64), (.int .i64), (.int .i64), (.int .i64), (.int .i64), .bool]), (.int .i64), (.int .i64)]) d] [.sc (.sl [(.int .i64), (.int .i64), (.int .i64), (.int .i64), (.int .i64), (.int .i64), (.int .i64), (.int .i64), (.int .i64), (.int .i64), (.int .i64), (.int .i64), (.int .i64), (.int .i64), (.int .i64), (.int .i64), (.int .i64), (.int .i64), .bool, (.sl [(.int .i64), (.int .i64), (.int .i64), (.int .i64), (.int .i64), (.int .i64), .bool]), (.int .i64), (.int .i64)])] Q := (pc_87 d h).mono fun _ h => h ▸ ho
/- impl.Install$1 -/
theorem pc_115 (x e : D) : PC Try.prog 115 [.st [(.int .i64), (.int .i64), (.int .i64), (.int .i64), (.int .i64), (.int .i64), (.int .i64), (.int .i64), (.int .i64), (.int .i64), (.int .i64), (.int .i64), (.int .i64), (.int .i64), (.int .i64), (.int .i64), (.int .i64), (.int .i64), .bool, (.sl [(.int .i64), (.int .i64), (.int .i64), (.int .i64), (.int .i64), (.int .i64), .bool]), (.int .i64), (.int .i64)] x, .bx [(.int .i64), (.int .i64), (.int .i64), (.int .i64), (.int .i64), (.int .i64), (.int .i64), (.int .i64), (.int .i64), (.int .i64), (.int .i64), (.int .i64), (.int .i64), (.int .i64), (.int .i64), (.int .i64), (.int .i64), (.int .i64), .bool, (.sl [(.int .i64), (.int .i64), (.int .i64), (.int .i64), (.int .i64), (.int .i64), .bool]), (.int .i64), (.int .i64)] e] [.sc .bool] fun o => o = [.bool (decide ((e.fld 0).toI ≤ (x.fld 0).toI))] := by
  refine PC.of_sigC («as» := [.st [(.int .i64), (.int .i64), (.int .i64), (.int .i64), (.int .i64), (.int .i64), (.int .i64), (.int .i64), (.int .i64), (.int .i64), (.int .i64), (.int .i64), (.int .i64), (.int .i64), (.int .i64), (.int .i64), (.int .i64), (.int .i64), .bool, (.sl [(.int .i64), (.int .i64), (.int .i64), (.int .i64), (.int .i64), (.int .i64), .bool]), (.int .i64), (.int .i64)] x]) [([(.int .i64), (.int .i64), (.int .i64), (.int .i64), (.int .i64), (.int .i64), (.int .i64), (.int .i64), (.int .i64), (.int .i64), (.int .i64), (.int .i64), (.int .i64), (.int .i64), (.int .i64), (.int .i64), (.int .i64), (.int .i64), .bool, (.sl [(.int .i64), (.int .i64), (.int .i64), (.int .i64), (.int .i64), (.int .i64), .bool]), (.int .i64), (.int .i64)], e)] mix sig_115 ⟨rfl, trivial⟩ rfl fun hok => ?_
  have e_x : D.lst [x.fld 0, x.fld 1, x.fld 2, x.fld 3, x.fld 4, x.fld 5, x.fld 6, x.fld 7, x.fld 8, x.fld 9, x.fld 10, x.fld 11, x.fld 12, x.fld 13, x.fld 14, x.fld 15, x.fld 16, x.fld 17, x.fld 18, x.fld 19, x.fld 20, x.fld 21] = x := by simpa [List.range, List.range.loop] using okL_eta (hok _ (.head _))
  have k_x : okL [(.int .i64), (.int .i64), (.int .i64), (.int .i64), (.int .i64), (.int .i64), (.int .i64), (.int .i64), (.int .i64), (.int .i64), (.int .i64), (.int .i64), (.int .i64), (.int .i64), (.int .i64), (.int .i64), (.int .i64), (.int .i64), .bool, (.sl [(.int .i64), (.int .i64), (.int .i64), (.int .i64), (.int .i64), (.int .i64), .bool]), (.int .i64), (.int .i64)] x := (hok _ (.head _))
  have e_x_19 : D.lst (x.fld 19).toL = x.fld 19 := sl_eta (okL_at k_x (i := 19) rfl)
  have l_x_19 := sl_len (okL_at k_x (i := 19) rfl)
  have k_x_19 := sl_all (okL_at k_x (i := 19) rfl)
  have E_x_19 : ∀ i, i < (x.fld 19).toL.length → D.lst [((x.fld 19).elem i).fld 0, ((x.fld 19).elem i).fld 1, ((x.fld 19).elem i).fld 2, ((x.fld 19).elem i).fld 3, ((x.fld 19).elem i).fld 4, ((x.fld 19).elem i).fld 5, ((x.fld 19).elem i).fld 6] = (x.fld 19).elem i := fun i hi => by simpa [List.range, List.range.loop] using okL_eta (k_x_19 _ (elem_mem hi))
  apply says_den (φ := fun _ _ => [])
  simp [e_x_19, E_x_19, e_x, tree_115, T.says, X.den, O1.den, O2.den, O3.den, callD, XArg.ev, XArg.dat, Callee'.num, backs, DArg.back, Conds.den, cloArgs]
theorem pd_115 (x e : D) (Q : List D → Prop) (ho : Q [.bool (decide ((e.fld 0).toI ≤ (x.fld 0).toI))]) : PC Try.prog 115 [.st [(.int .i64), (.int .i64), (.int .i64), (.int .i64), (.int .i64), (.int .i64), (.int .i64), (.int .i64), (.int .i64), (.int .i64), (.int .i64), (.int .i64), (.int .i64), (.int .i64), (.int .i64), (.int .i64), (.int .i64), (.int .i64), .bool, (.sl [(.int .i64), (.int .i64), (.int .i64), (.int .i64), (.int .i64), (.int .i64), .bool]), (.int .i64), (.int .i64)] x, .bx [(.int .i64), (.int .i64), (.int .i64), (.int .i64), (.int .i64), (.int .i64), (.int .i64), (.int .i64), (.int .i64), (.int .i64), (.int .i64), (.int .i64), (.int .i64), (.int .i64), (.int .i64), (.int .i64), (.int .i64), (.int .i64), .bool, (.sl [(.int .i64), (.int .i64), (.int .i64), (.int .i64), (.int .i64), (.int .i64), .bool]), (.int .i64), (.int .i64)] e] [.sc .bool] Q := (pc_115 x e).mono fun _ h => h ▸ ho
/- slices.Insert[[]impl.Effect,impl.Effect] -/
namespace L116
open Go.RowKit
theorem setCells_row {w : World} {b off : Nat} {vs : List Value} {cur : Array Value} {T : TypeId} (hh : w.heap[b]? = some (.cells cur T (0, 0))) (hle : off + vs.length ≤ cur.size) (h1 : ∀ v ∈ vs, v.oneCell' = true) : w.setCells b off vs = w.setRow b (spl cur.toList off vs).toArray := by
  have h2 := run_storeCells_at Try.prog b off T vs 0 cur w hh (by simpa using hle) h1
  have hc : ∀ j, j < vs.length → (w.cell? ⟨b, off + j, none⟩).isSome = true := fun j hj => by
    simp only [World.cell?, hh, Option.isSome_none, Bool.false_eq_true, if_false]
    rw [Array.getElem?_eq_getElem (by omega)]
    rfl
  have hf : ∀ j, j < vs.length → w.frozen? ⟨b, off + j, none⟩ = false := fun j hj => by
    simp [World.frozen?, hh]
  have h3 := run_storeCells_cells (P := Try.prog) b off vs 0 w (by simpa using hc) (by simpa using hf) h1
  rw [h2] at h3
  injection h3 with _ h4
  simpa [spl] using h4.symm
theorem setRow_setRow (w : World) (b : Nat) (c1 c2 : Array Value) : (w.setRow b c1).setRow b c2 = w.setRow b c2 := by
  unfold World.setRow
  congr 1
  apply Array.ext_getElem?
  intro i
  simp only [Array.getElem?_modify]
  split
  · cases w.heap[i]? with
    | none => rfl
    | some o => cases o <;> rfl
  · rfl
theorem drew_heap (w : World) : w.drew.heap = w.heap := rfl
theorem zc_size (z : Array Value) (n : Nat) : (Builtin.zeroCells z n).size = n * z.size := by simp [Builtin.zeroCells]
theorem zc_one (z : Array Value) (h : ∀ v ∈ z.toList, v.oneCell' = true) (n : Nat) : ∀ v ∈ (Builtin.zeroCells z n).toList, v.oneCell' = true := by
  intro v hv
  simp only [Builtin.zeroCells, Array.toList_map, List.mem_map, Array.mem_toList_iff, Array.mem_range] at hv
  obtain ⟨i, hi, rfl⟩ := hv
  have hlt : i % z.size < z.size := Nat.mod_lt _ (by rcases Nat.eq_zero_or_pos z.size with h0 | h0; (rw [h0] at hi; simp at hi); exact h0)
  rw [getElem!_pos z _ hlt]
  exact h _ (by simp)
def zeroV : Value := .agg #[.int .i64 0, .int .i64 0, .int .i64 0, .int .i64 0, .int .i64 0, .int .i64 0, .int .i64 0, .int .i64 0, .int .i64 0, .int .i64 0, .int .i64 0, .int .i64 0, .int .i64 0, .int .i64 0, .int .i64 0, .int .i64 0, .int .i64 0, .int .i64 0, .bool false, .slice none 0 0, .int .i64 0, .int .i64 0]
theorem zero_size : zeroV.cells.size = 22 := rfl
theorem zero_one : ∀ v ∈ zeroV.cells.toList, v.oneCell' = true := by
  intro v hv
  have : zeroV.cells.toList.all Value.oneCell' = true := by kernel_rfl
  exact List.all_eq_true.1 this v hv
theorem clear_run {w : World} {b off n c : Nat} {cur : Array Value} {T : TypeId} (ty : TypeId) (hn : 0 < n) (hh : w.heap[b]? = some (.cells cur T (0, 0))) (hle : off + n * 22 ≤ cur.size) :
    (Builtin.clear_ #[25] ty #[.slice (some ⟨b, off, none⟩) n c]).run Try.prog w = .ok (.tuple #[]) (w.setRow b (spl cur.toList off (Builtin.zeroCells zeroV.cells n).toList).toArray) := by
  have h2 := run_storeCells_at Try.prog b off T (Builtin.zeroCells zeroV.cells n).toList 0 cur w hh (by rw [Array.length_toList, zc_size, zero_size]; simpa using hle) (zc_one _ zero_one n)
  obtain ⟨m, rfl⟩ : ∃ m, n = m + 1 := ⟨n - 1, by omega⟩
  simp only [Builtin.clear_, List.getElem?_toArray, List.getElem?_cons_zero, Sem.run_bind, Sem.run_pure, Result.andThen_ok, run_underlying Try.underlying25]
  simp only [Nat.add_zero] at h2
  simp only [spl]
  have hz : ∀ w, (zeroValue 46).run Try.prog w = .ok zeroV w := Try.zeroValue46
  simp [hz, h2]
section
variable {P : Program} {ops : Array Oper} {rest : List Oper} {a : Act} {w : World} {Q : Exit → Act → World → Prop}
theorem wpList_loadE {dst : Option Tmp} {t ty : TypeId} {x : Operand} {pos : String} {after : Array Edge} (A : Addr) (v : Value) (hx : a.eval x = .pointer (some A)) (hr : (Instr.loadAt t (.pointer (some A))).run P w = .ok v w) (h : wpList P ops Q rest (a.put dst v) w) :
    wpList P ops Q ({ dst := dst, op := .load t x, type := ty, pos := pos, after := after, guard := none } :: rest) a w := by
  refine wpList_plain rfl fun K hK => ?_
  unfold Oper.wp
  have he : (execOp a.eval { dst := dst, op := .load t x, type := ty, pos := pos, after := after, guard := none }).run P w = .ok (.value v) w := by simp [execOp, hx, hr]
  rw [he, Oper.upon_value]
  exact hK _ _ h
theorem wpList_storeE {t ty : TypeId} {x y : Operand} {pos : String} {after : Array Edge} {w' : World} (A : Addr) (v : Value) (hx : a.eval x = .pointer (some A)) (hy : a.eval y = v) (hr : (Instr.storeAt t (.pointer (some A)) v).run P w = .ok () w') (h : wpList P ops Q rest a w') :
    wpList P ops Q ({ dst := none, op := .store t x y, type := ty, pos := pos, after := after, guard := none } :: rest) a w := by
  refine wpList_plain rfl fun K hK => ?_
  unfold Oper.wp
  have he : (execOp a.eval { dst := none, op := .store t x y, type := ty, pos := pos, after := after, guard := none }).run P w = .ok .skip w' := by simp only [execOp, hx, hy, Sem.run_bind, hr, Result.andThen_ok, Sem.run_pure]
  rw [he, Oper.upon_skip]
  exact hK _ _ h
end
theorem loadAt_var {P : Program} {t : TypeId} {A : Addr} {v : Value} {w : World} (h : (loadVar t A).run P w = .ok v w) : (Instr.loadAt t (.pointer (some A))).run P w = .ok v w := by
  simp [Instr.loadAt, Instr.sureAddr, h]
/-- An element of a block of cells, read. -/
theorem load_elem {w : World} {b q : Nat} {dk : Array Value} {T : TypeId} (hb : w.heap[b]? = some (.cells dk T (0, 0))) (hq : q + 22 ≤ dk.size) : (Instr.loadAt 46 (.pointer (some ⟨b, q, none⟩))).run Try.prog w = .ok (.agg ((List.range 22).map fun c => dk.getD (q + c) undef).toArray) w := by
  refine loadAt_var (run_loadVar_agg (n := 22) (by kernel_rfl) (by kernel_rfl) b q (fun c => dk.getD (q + c) undef) fun c hc => ?_)
  simp only [World.cell?, hb, Option.isSome_none, Bool.false_eq_true, if_false]
  rw [Array.getD_eq_getD_getElem?, Array.getElem?_eq_getElem (by omega)]
  rfl
/-- The world has grown: what was there is there still. -/
structure Keep (w w' : World) : Prop where
  os : w'.os = w.os
  tape : w'.tape = w.tape
  output : w'.output = w.output
  size : w.heap.size ≤ w'.heap.size
  block : ∀ b, b < w.heap.size → w'.heap[b]? = w.heap[b]?
/-- .. but for one block. -/
structure KeepBut (b : Nat) (w w' : World) : Prop where
  os : w'.os = w.os
  tape : w'.tape = w.tape
  output : w'.output = w.output
  size : w.heap.size ≤ w'.heap.size
  block : ∀ b', b' < w.heap.size → b' ≠ b → w'.heap[b']? = w.heap[b']?
theorem flatIdx {k q n : Nat} (hk : 0 < k) (h : q < n * k) : q / k < n ∧ q % k < k ∧ q / k * k + q % k = q := ⟨Nat.div_lt_of_lt_mul (by rwa [Nat.mul_comm]), Nat.mod_lt _ hk, by rw [Nat.mul_comm]; exact Nat.div_add_mod q k⟩
theorem fp_mono {n m k : Nat} {fps fpq : Nat → Nat → List Nat} (p : Nat → Nat) (hp : ∀ i, i < n → p i < m) (hinj : ∀ i j, i < n → j < n → p i = p j → i = j) (he : ∀ i c, i < n → fpq i c = fps (p i) c) (h : (fpAll m k fps).Nodup) : (fpAll n k fpq).Nodup ∧ ∀ b ∈ fpAll n k fpq, b ∈ fpAll m k fps := by
  obtain ⟨a1, a2⟩ := fpAll_inv h
  refine ⟨fpAll_nodup (fun i c hi hc => ?_) (fun i c i' c' hi hc hi' hc' hne b hb hb' => ?_), fun b hb => ?_⟩
  · rw [he i c hi]; exact a1 _ c (hp i hi) hc
  · rw [he i c hi] at hb
    rw [he i' c' hi'] at hb'
    refine a2 _ c _ c' (hp i hi) hc (hp i' hi') hc' (fun e => hne ?_) b hb hb'
    injection e with e1 e2
    rw [hinj i i' hi hi' e1, e2]
  · obtain ⟨i, c, hi, hc, hm⟩ := fpAll_mem hb
    rw [he i c hi] at hm
    exact mem_fpAll (hp i hi) hc hm
/-- A list whose elements are some of an owned list's, at their places now. -/
theorem own_pick {w w' : World} {ks : List CK} {xs : List D} {b cap m : Nat} {cs cs' : Array Value} {T : TypeId} {fps : Nat → Nat → List Nat} (hk : 0 < ks.length) (hh' : w'.heap[b]? = some (.cells cs' T (0, 0))) (hsz : cap * ks.length ≤ cs'.size) (hmc : m ≤ cap) (hmax : xs.length ≤ maxL)
    (hsh : ∀ i, i < xs.length → Shp ks.length (xs.getD i default)) (hown : ∀ i c, i < xs.length → c < ks.length → Own w (ks.getD c default) ((xs.getD i default).fld c) (cs.getD (i * ks.length + c) undef) (fps i c))
    (hnd : (b :: fpAll xs.length ks.length fps).Nodup) (hold : ∀ b', b' ≠ b → w'.heap[b']? = w.heap[b']?) (ys : List D) (hym : ys.length = m) (p : Nat → Nat) (hp : ∀ i, i < m → p i < xs.length) (hinj : ∀ i j, i < m → j < m → p i = p j → i = j) (hml : m ≤ xs.length)
    (hy : ∀ i, i < m → ys.getD i default = xs.getD (p i) default) (hc : ∀ i c, i < m → c < ks.length → cs'.getD (i * ks.length + c) undef = cs.getD (p i * ks.length + c) undef) :
    ∃ fp', Own w' (.sl ks) (.lst ys) (.slice (some ⟨b, 0, none⟩) m cap) fp' ∧ fp'.Nodup ∧ ∀ b' ∈ fp', b' ∈ b :: fpAll xs.length ks.length fps := by
  obtain ⟨n1, n2⟩ := List.nodup_cons.1 hnd
  obtain ⟨f1, f2⟩ := fp_mono (fpq := fun i c => fps (p i) c) p hp hinj (fun _ _ _ => rfl) n2
  subst hym
  refine ⟨b :: fpAll ys.length ks.length (fun i c => fps (p i) c), ?_, List.nodup_cons.2 ⟨fun h => n1 (f2 b h), f1⟩, fun b' hb' => ?_⟩
  · refine .sl b cap cs' T ys _ hh' hsz hmc (by omega) (fun i hi => ?_) (fun i c hi hc' => ?_)
    · rw [hy i hi]; exact hsh _ (hp i hi)
    · rw [hy i hi, hc i c hi hc']
      exact (hown _ c (hp i hi) hc').frame fun b' hb' => hold b' fun e => n1 (e ▸ mem_fpAll (hp i hi) hc' hb')
  · rcases List.mem_cons.1 hb' with rfl | hb'
    · simp
    · exact List.mem_cons_of_mem _ (f2 b' hb')
/-- A list whose elements are some of an owned list's, at their places now. -/
theorem own_pick2 {w w' : World} {ks : List CK} {xs : List D} {b cap m : Nat} {cs cs' : Array Value} {T : TypeId} {fps : Nat → Nat → List Nat} (hk : 0 < ks.length) (hh' : w'.heap[b]? = some (.cells cs' T (0, 0))) (hsz : cap * ks.length ≤ cs'.size) (hmc : m ≤ cap) (hmax : xs.length ≤ maxL)
    (hsh : ∀ i, i < xs.length → Shp ks.length (xs.getD i default)) (hown : ∀ i c, i < xs.length → c < ks.length → Own w (ks.getD c default) ((xs.getD i default).fld c) (cs.getD (i * ks.length + c) undef) (fps i c))
    (hnd : (b :: fpAll xs.length ks.length fps).Nodup) (hbl : b < w.heap.size) (hold : ∀ b', b' < w.heap.size → b' ≠ b → w'.heap[b']? = w.heap[b']?) (ys : List D) (hym : ys.length = m) (p : Nat → Nat) (hp : ∀ i, i < m → p i < xs.length) (hinj : ∀ i j, i < m → j < m → p i = p j → i = j) (hml : m ≤ xs.length)
    (hy : ∀ i, i < m → ys.getD i default = xs.getD (p i) default) (hc : ∀ i c, i < m → c < ks.length → cs'.getD (i * ks.length + c) undef = cs.getD (p i * ks.length + c) undef) :
    ∃ fp', Own w' (.sl ks) (.lst ys) (.slice (some ⟨b, 0, none⟩) m cap) fp' ∧ fp'.Nodup ∧ ∀ b' ∈ fp', b' ∈ b :: fpAll xs.length ks.length fps := by
  obtain ⟨n1, n2⟩ := List.nodup_cons.1 hnd
  obtain ⟨f1, f2⟩ := fp_mono (fpq := fun i c => fps (p i) c) p hp hinj (fun _ _ _ => rfl) n2
  subst hym
  refine ⟨b :: fpAll ys.length ks.length (fun i c => fps (p i) c), ?_, List.nodup_cons.2 ⟨fun h => n1 (f2 b h), f1⟩, fun b' hb' => ?_⟩
  · refine .sl b cap cs' T ys _ hh' hsz hmc (by omega) (fun i hi => ?_) (fun i c hi hc' => ?_)
    · rw [hy i hi]; exact hsh _ (hp i hi)
    · rw [hy i hi, hc i c hi hc']
      exact (hown _ c (hp i hi) hc').frame fun b' hb' => hold b' ((hown _ c (hp i hi) hc').lt b' hb') fun e => n1 (e ▸ mem_fpAll (hp i hi) hc' hb')
  · rcases List.mem_cons.1 hb' with rfl | hb'
    · simp
    · exact List.mem_cons_of_mem _ (f2 b' hb')
theorem int_arg {w : World} {S G : Nat → Prop} {i : D} {v : Value} {fp : List Nat} (h : ArgR w S G (.sc (.int .i64) i) v fp) : ∃ n : Int, i = .int n ∧ v = .int .i64 n ∧ fp = [] ∧ inK .i64 n = true := by
  cases h with
  | sc h => cases h with
    | flat h => cases h with
      | int h => exact ⟨_, rfl, rfl, rfl, h⟩
theorem copy_run {w : World} {db dO dLen dCap sb sO sLen sCap k : Nat} {cur cs : Array Value} {T T2 : TypeId} (ty : TypeId) (hk : Nat.min sLen dLen = k) (hd : w.heap[db]? = some (.cells cur T (0, 0))) (hs : w.heap[sb]? = some (.cells cs T2 (0, 0))) (hle : dO + k * 22 ≤ cur.size) (hls : sO + k * 22 ≤ cs.size)
    (h1 : ∀ q, q < k * 22 → (cs.getD (sO + q) undef).oneCell' = true) :
    (Builtin.copy_ #[25, 25] ty #[.slice (some ⟨db, dO, none⟩) dLen dCap, .slice (some ⟨sb, sO, none⟩) sLen sCap]).run Try.prog w = .ok (goInt k) (w.setRow db (spl cur.toList dO ((List.range (k * 22)).map fun q => cs.getD (sO + q) undef)).toArray) := by
  have hl := run_loadCells (P := Try.prog) w ⟨sb, sO, none⟩ (k * 22) (fun q => cs.getD (sO + q) undef) (fun q hq => by
    rw [Addr.add_lit]
    simp only [World.cell?, hs, Option.isSome_none, Bool.false_eq_true, if_false]
    rw [Array.getD_eq_getD_getElem?, Array.getElem?_eq_getElem (by omega)]
    rfl)
  have h2 := run_storeCells_at Try.prog db dO T ((List.range (k * 22)).map fun q => cs.getD (sO + q) undef) 0 cur w hd (by simp; omega) (fun v hv => by
    obtain ⟨q, hq, rfl⟩ := List.mem_map.1 hv
    exact h1 q (List.mem_range.1 hq))
  simp only [Nat.add_zero] at h2
  simp only [spl]
  obtain ⟨L, hL⟩ : ∃ L : List Value, L = (List.range (k * 22)).map fun q => cs.getD (sO + q) undef := ⟨_, rfl⟩
  rw [← hL] at hl h2 ⊢
  clear hL
  simp only [Builtin.copy_, List.getElem?_toArray, List.getElem?_cons_zero, List.getElem?_cons_succ, Sem.run_bind, Sem.run_pure, Result.andThen_ok, run_underlying Try.underlying25, Try.sizeOf46, Builtin.lenOf, Builtin.firstCells, hk, hl, h2]
theorem ins_end {w w' : World} {base ad' : Option Addr} {n cap cap' m vb vc : Nat} (hm : 0 < m) (hn : n ≤ 140737488355328) (hrun : ∀ ty, (Builtin.append_ #[25, 25] ty #[.slice base n cap, .slice (some ⟨vb, 0, none⟩) m vc]).run Try.prog w = .ok (.slice ad' (n + m) cap') w') (hnil : base = none → n = 0) :
    Calls Try.prog 116 #[.slice base n cap, .int .i64 n, .slice (some ⟨vb, 0, none⟩) m vc] w fun e w2 => e = .returned (.slice ad' (n + m) cap') ∧ w2 = w' := by
  have mixed := mix
  have hz1 : ¬ ((m : Int) = 0) := by omega
  go_enter Try.func116, Try.ntmps116
  cases base with
  | none =>
    have h0 := hnil rfl
    subst h0
    go_wp2_with (at_builtin; refine Lib.wpList_append_run _ rfl _ _ _ _ rfl _ _ rfl rfl _ _ (hrun _) ?_)
    go_ret
    exact ⟨rfl, rfl⟩
  | some a =>
    obtain ⟨ab, ao, asp⟩ := a
    go_wp2_with (at_builtin; refine Lib.wpList_append_run _ rfl _ _ _ _ rfl _ _ rfl rfl _ _ (hrun _) ?_)
    all_goals (go_ret; exact ⟨rfl, rfl⟩)
theorem ins_shift {w : World} {b n c i vb m vc : Nat} {cs vs : Array Value} {T T2 : TypeId} (hi : i < n) (hm : 0 < m) (hroom : n + m ≤ c) (hmax : n + m ≤ 140737488355328) (hvb : vb ≠ b) (hb : w.heap[b]? = some (.cells cs T (0, 0))) (hv : w.heap[vb]? = some (.cells vs T2 (0, 0)))
    (hcs : c * 22 ≤ cs.size) (hvs : m * 22 ≤ vs.size) (h1c : ∀ q, q < n * 22 → (cs.getD q undef).oneCell' = true) (h1v : ∀ q, q < m * 22 → (vs.getD q undef).oneCell' = true) :
    Calls Try.prog 116 #[.slice (some ⟨b, 0, none⟩) n c, .int .i64 i, .slice (some ⟨vb, 0, none⟩) m vc] w fun e w' => e = .returned (.slice (some ⟨b, 0, none⟩) (n + m) c) ∧
      ∃ (w1 : World) (cs' : Array Value), w1.heap = w.heap ∧ w1.os = w.os ∧ w1.tape = w.tape ∧ w1.output = w.output ∧ w' = w1.setRow b cs' ∧ cs'.size = cs.size ∧
        ∀ q k, q < n + m → k < 22 → cs'.getD (q * 22 + k) undef = if q < i then cs.getD (q * 22 + k) undef else if q < i + m then vs.getD ((q - i) * 22 + k) undef else cs.getD ((q - m) * 22 + k) undef := by
  have mixed := mix
  have hz1 : ¬ ((m : Int) = 0) := by omega
  have hz2 : ¬ ((i : Int) = (n : Int)) := by omega
  have hov : ∀ lb cb, (callFunc 153 #[.slice (some ⟨vb, 0, none⟩) m vc, .slice (some ⟨b, (i + m) * 22, none⟩) lb cb]).run Try.prog w = .ok (.value (.bool false)) w := fun lb cb => by
    rw [run_callFunc_extern Try.func153 (by kernel_rfl) (by kernel_rfl) (by kernel_rfl) (e := Extern.SlicesOverlaps.overlaps #[25, 25] #[4]) (by kernel_rfl),
      Lib.run_overlaps_apart w 25 4 46 Try.underlying25 22 Try.sizeOf46 ⟨vb, 0, none⟩ ⟨b, (i + m) * 22, none⟩ m vc lb cb hvb T2 T vs.size cs.size (by simp [World.shape?, hv]) (by simp [World.shape?, hb]) (by omega) (by simp [World.frozen?, hv]) (by simp [World.frozen?, hv])]
    rfl
  have hw1 : IntKind.i64.wrap ((i : Int) + (m : Int)) = (i : Int) + (m : Int) := by rw [IntKind.wrap_i64]; omega
  have hb1 : (0 : Int) ≤ (i : Int) + (m : Int) := by omega
  have hin : i ≤ n := by omega
  have htn : ((i : Int) + (m : Int)).toNat = i + m := by omega
  have hb2 : ¬ (c = i + m) := by omega
  have hb3 : (i : Int) ≤ (n : Int) + (m : Int) := by omega
  have hb4 : ¬ (c = i) := by omega
  obtain ⟨c1, hc1⟩ : ∃ c1 : Array Value, c1 = (spl cs.toList ((i + m) * 22) ((List.range ((n - i) * 22)).map fun q => cs.getD (i * 22 + q) undef)).toArray := ⟨_, rfl⟩
  have hs1 : c1.size = cs.size := by rw [hc1, List.size_toArray, spl_length (by simp; omega), Array.length_toList]
  have hcp1 : ∀ ty dc sc, (Builtin.copy_ #[25, 25] ty #[.slice (some ⟨b, (i + m) * 22, none⟩) (n + m - (i + m)) dc, .slice (some ⟨b, i * 22, none⟩) (n + m - i) sc]).run Try.prog w.drew = .ok (goInt (n - i : Nat)) (w.drew.setRow b c1) := fun ty dc sc => by
    rw [hc1]
    exact copy_run (w := w.drew) ty (by simp only [Nat.min_def]; split <;> omega) hb hb (by omega) (by omega) fun q hq => h1c _ (by omega)
  obtain ⟨W1, hW1⟩ : ∃ W1, W1 = w.drew.setRow b c1 := ⟨_, rfl⟩
  have hbl : b < w.heap.size := (Array.getElem?_eq_some_iff.1 hb).1
  have hW1b : W1.heap[b]? = some (.cells c1 T (0, 0)) := by rw [hW1]; exact setRow_heap _ b cs c1 T (0, 0) hb
  have hW1v : W1.heap[vb]? = some (.cells vs T2 (0, 0)) := by rw [hW1, setRow_old _ _ hvb]; exact hv
  obtain ⟨c2, hc2⟩ : ∃ c2 : Array Value, c2 = (spl c1.toList (i * 22) ((List.range (m * 22)).map fun q => vs.getD (0 + q) undef)).toArray := ⟨_, rfl⟩
  have hs2 : c2.size = cs.size := by rw [hc2, List.size_toArray, spl_length (by simp; omega), Array.length_toList, hs1]
  have hcp2 : ∀ (W : World), W.heap = W1.heap → ∀ ty dc, (Builtin.copy_ #[25, 25] ty #[.slice (some ⟨b, i * 22, none⟩) (n + m - i) dc, .slice (some ⟨vb, 0, none⟩) m vc]).run Try.prog W = .ok (goInt (m : Nat)) (W.setRow b c2) := fun W hW ty dc => by
    rw [hc2]
    exact copy_run (w := W) ty (by simp only [Nat.min_def]; split <;> omega) (by rw [hW]; exact hW1b) (by rw [hW]; exact hW1v) (by omega) (by omega) fun q hq => h1v _ (by omega)
  rw [← hW1] at hcp1
  have HC1 : Aside (c1 = (spl cs.toList ((i + m) * 22) ((List.range ((n - i) * 22)).map fun q => cs.getD (i * 22 + q) undef)).toArray) := hc1
  have HC2 : Aside (c2 = (spl c1.toList (i * 22) ((List.range (m * 22)).map fun q => vs.getD (0 + q) undef)).toArray) := hc2
  have HW1 : Aside (W1 = w.drew.setRow b c1) := hW1
  have HS : Aside (c1.size = cs.size ∧ c2.size = cs.size) := ⟨hs1, hs2⟩
  clear hc1 hc2 hW1 hs1 hs2 hb hv h1c h1v hW1b hW1v
  go_enter Try.func116, Try.ntmps116
  go_wp2_with (simp only [hov])
  go_region_law_o (refine step_copy_runI rfl _ _ 25 25 rfl _ _ (by simp [Act.eval, Act.put]) (by simp [Act.eval, Act.put]) (hcp1 _ _ _) ?_)
  go_wp2_with (at_builtin; refine wpList_copy_runI _ rfl _ _ 25 25 rfl _ _ rfl rfl (hcp2 _ rfl _ _) ?_)
  go_ret
  refine ⟨rfl, w.drew, c2, rfl, rfl, rfl, rfl, ?_, HS.out.2, fun q k hq hk => ?_⟩
  · rw [HW1.out, setRow_setRow]
  · have hs1 := HS.out.1
    have e1 := spl_getD (es := cs.toList) (ys := (List.range ((n - i) * 22)).map fun q => cs.getD (i * 22 + q) undef) (off := (i + m) * 22) (by simp; omega)
    have e2 := spl_getD (es := c1.toList) (ys := (List.range (m * 22)).map fun q => vs.getD (0 + q) undef) (off := i * 22) (by simp; omega)
    rw [HC2.out, Array.getD_eq_getD_getElem?, List.getElem?_toArray, ← List.getD_eq_getElem?_getD, e2]
    simp only [List.length_map, List.length_range]
    by_cases h1 : q < i
    · rw [if_pos h1, if_neg (by omega), HC1.out, e1]
      simp only [List.length_map, List.length_range]
      rw [if_neg (by omega), List.getD_eq_getElem?_getD, Array.getElem?_toList, ← Array.getD_eq_getD_getElem?]
    · rw [if_neg h1]
      by_cases h2 : q < i + m
      · rw [if_pos h2, if_pos (by omega), List.getD_eq_getElem?_getD, List.getElem?_map, List.getElem?_range (by omega)]
        show vs.getD _ undef = _
        congr 1
        omega
      · rw [if_neg h2, if_neg (by omega), HC1.out, e1]
        simp only [List.length_map, List.length_range]
        rw [if_pos (by omega), List.getD_eq_getElem?_getD, List.getElem?_map, List.getElem?_range (by omega)]
        show cs.getD _ undef = _
        congr 1
        omega
theorem ins_grow {w : World} {b n c i vb m vc : Nat} {cs vs : Array Value} {T T2 : TypeId} (hi : i < n) (hm : 0 < m) (hnc : n ≤ c) (hroom : c < n + m) (hbig : (n + m) * 192 ≤ 140737488355328) (hb : w.heap[b]? = some (.cells cs T (0, 0))) (hv : w.heap[vb]? = some (.cells vs T2 (0, 0)))
    (hcs : c * 22 ≤ cs.size) (hvs : m * 22 ≤ vs.size) (h1c : ∀ q, q < n * 22 → (cs.getD q undef).oneCell' = true) (h1v : ∀ q, q < m * 22 → (vs.getD q undef).oneCell' = true) :
    Calls Try.prog 116 #[.slice (some ⟨b, 0, none⟩) n c, .int .i64 i, .slice (some ⟨vb, 0, none⟩) m vc] w fun e w' => ∃ (G : Nat) (cs' : Array Value), e = .returned (.slice (some ⟨w.heap.size, 0, none⟩) (n + m) G) ∧
      Keep w w' ∧ w'.heap[w.heap.size]? = some (.cells cs' 46 (0, 0)) ∧ w.heap.size < w'.heap.size ∧ n + m ≤ G ∧ G * 22 ≤ cs'.size ∧
        ∀ q k, q < n + m → k < 22 → cs'.getD (q * 22 + k) undef = if q < i then cs.getD (q * 22 + k) undef else if q < i + m then vs.getD ((q - i) * 22 + k) undef else cs.getD ((q - m) * 22 + k) undef := by
  have mixed := mix
  have hsz : (Try.prog.info? 46).map (fun i => (i.size, i.bytes, i.zero)) = some (22, 192, some zeroV) := by kernel_rfl
  obtain ⟨i0, hi0, hz0⟩ := Option.map_eq_some_iff.1 hsz
  injection hz0 with hzs hz1
  injection hz1 with hzb hzz
  have hz1 : ¬ ((m : Int) = 0) := by omega
  have hz2 : ¬ ((i : Int) = (n : Int)) := by omega
  have hz3 : (c : Int) < (n : Int) + (m : Int) := by omega
  have hbw : b < w.heap.size := (Array.getElem?_eq_some_iff.1 hb).1
  have hvw : vb < w.heap.size := (Array.getElem?_eq_some_iff.1 hv).1
  have hkk : (n : Int) + (m : Int) - (i : Int) = ((n + m - i : Nat) : Int) := by omega
  have hik : i + (n + m - i) = n + m := by omega
  obtain ⟨olds, holds⟩ : ∃ olds : List Value, olds = (List.range (i * 22)).map fun q => cs.getD q undef := ⟨_, rfl⟩
  have hold : (Builtin.firstCells i0.size i (.slice (some ⟨b, 0, none⟩) i c)).run Try.prog w.drew = .ok olds.toArray w.drew := by
    have hl := run_loadCells (P := Try.prog) w.drew ⟨b, 0, none⟩ (i * 22) (fun q => cs.getD q undef) (fun q hq => by
      rw [Addr.add_lit]
      simp only [World.cell?, drew_heap, hb, Option.isSome_none, Bool.false_eq_true, if_false, Nat.zero_add]
      rw [Array.getD_eq_getD_getElem?, Array.getElem?_eq_getElem (by omega)]
      rfl)
    rw [hzs, holds]
    exact hl
  obtain ⟨G, hG⟩ : ∃ G, G = grownCap w (n + m) c 46 := ⟨_, rfl⟩
  have hGn : n + m ≤ G := by rw [hG]; exact grownCap_ge w _ _ _
  have hG63 : G ≤ 9223372036854775807 := by
    have := grownCap_le_maxLen w (n + m) c 46 (by unfold maxLen; omega)
    rw [← hG] at this
    unfold maxLen at this
    omega
  obtain ⟨ROW, hROW⟩ : ∃ ROW : Array Value, ROW = olds.toArray ++ Builtin.zeroCells zeroV.cells (n + m - i) ++ Builtin.zeroCells zeroV.cells (G - (n + m)) := ⟨_, rfl⟩
  have hRs : ROW.size = G * 22 := by
    rw [hROW, Array.size_append, Array.size_append, zc_size, zc_size, zero_size, List.size_toArray, holds, List.length_map, List.length_range]
    omega
  have hR0 : ∀ q, q < i * 22 → ROW.getD q undef = cs.getD q undef := fun q hq => by
    rw [hROW, Array.getD_eq_getD_getElem?, Array.append_assoc, Array.getElem?_append_left (by rw [List.size_toArray, holds]; simpa using hq), List.getElem?_toArray, holds, List.getElem?_map, List.getElem?_range hq]
    rfl
  have hrz : ∀ ty, (Builtin.append_ #[25, 3] ty #[.slice (some ⟨b, 0, none⟩) i c, .int .i64 ((n : Int) + (m : Int) - (i : Int))]).run Try.prog w = .ok (.slice (some ⟨w.heap.size, 0, none⟩) (n + m) G) (w.drew.alloc (.cells ROW 46)) := fun ty => by
    have h := Lib.run_append_grow_zeros w 25 3 ty 46 i0 _ .i64 .i64 Try.underlying25 Try.underlying3 hi0 hzz (some ⟨b, 0, none⟩) i c olds hold (n + m - i) (by omega) (by omega) (by omega) (by omega) (by rw [hzb]; omega) (by rw [hzb, hik]; exact growslice_fits hroom hbig)
    rw [hik] at h
    rw [hkk, hROW, hG]
    exact h
  obtain ⟨W1, hW1⟩ : ∃ W1, W1 = w.drew.alloc (.cells ROW 46) := ⟨_, rfl⟩
  have hN : W1.heap[w.heap.size]? = some (.cells ROW 46 (0, 0)) := by rw [hW1]; exact heap_new w.drew _
  have hO : ∀ b', b' < w.heap.size → W1.heap[b']? = w.heap[b']? := fun b' h => by rw [hW1]; exact heap_old w.drew _ h
  have hZ : W1.heap.size = w.heap.size + 1 := by rw [hW1]; simp [World.alloc, drew_heap]
  obtain ⟨c1, hc1⟩ : ∃ c1 : Array Value, c1 = (spl ROW.toList (i * 22) ((List.range (m * 22)).map fun q => vs.getD (0 + q) undef)).toArray := ⟨_, rfl⟩
  have hs1 : c1.size = ROW.size := by rw [hc1, List.size_toArray, spl_length (by simp; omega), Array.length_toList]
  have hcpA : ∀ (W : World), W.heap = W1.heap → ∀ ty dc, (Builtin.copy_ #[25, 25] ty #[.slice (some ⟨w.heap.size, i * 22, none⟩) (n + m - i) dc, .slice (some ⟨vb, 0, none⟩) m vc]).run Try.prog W = .ok (goInt (m : Nat)) (W.setRow w.heap.size c1) := fun W hW ty dc => by
    rw [hc1]
    exact copy_run (w := W) ty (by simp only [Nat.min_def]; split <;> omega) (by rw [hW]; exact hN) (by rw [hW, hO vb hvw]; exact hv) (by omega) (by omega) fun q hq => h1v _ (by omega)
  obtain ⟨c2, hc2⟩ : ∃ c2 : Array Value, c2 = (spl c1.toList ((i + m) * 22) ((List.range ((n - i) * 22)).map fun q => cs.getD (i * 22 + q) undef)).toArray := ⟨_, rfl⟩
  have hs2 : c2.size = ROW.size := by rw [hc2, List.size_toArray, spl_length (by simp; omega), Array.length_toList, hs1]
  have hcpB : ∀ (W W2 : World), W2.heap = W1.heap → W.heap = (W2.setRow w.heap.size c1).heap → ∀ ty dc sc, (Builtin.copy_ #[25, 25] ty #[.slice (some ⟨w.heap.size, (i + m) * 22, none⟩) (n + m - (i + m)) dc, .slice (some ⟨b, i * 22, none⟩) (n - i) sc]).run Try.prog W = .ok (goInt (n - i : Nat)) (W.setRow w.heap.size c2) := fun W W2 h2 hW ty dc sc => by
    rw [hc2]
    exact copy_run (w := W) ty (by simp only [Nat.min_def]; split <;> omega) (by rw [hW]; exact setRow_heap _ _ ROW c1 46 (0, 0) (by rw [h2]; exact hN)) (by rw [hW, setRow_old _ _ (by omega), h2, hO b hbw]; exact hb) (by omega) (by omega) fun q hq => h1c _ (by omega)
  have hGi : ¬ (G = i) := by omega
  have hGim : ¬ (G = i + m) := by omega
  have hci : ¬ (c = i) := by omega
  have hw1 : IntKind.i64.wrap ((i : Int) + (m : Int)) = (i : Int) + (m : Int) := by rw [IntKind.wrap_i64]; omega
  have hb1 : (0 : Int) ≤ (i : Int) + (m : Int) := by omega
  have hin : i ≤ n := by omega
  have htn : ((i : Int) + (m : Int)).toNat = i + m := by omega
  have hb3 : (i : Int) ≤ (n : Int) := by omega
  have HC1 : Aside (c1 = (spl ROW.toList (i * 22) ((List.range (m * 22)).map fun q => vs.getD (0 + q) undef)).toArray) := hc1
  have HC2 : Aside (c2 = (spl c1.toList ((i + m) * 22) ((List.range ((n - i) * 22)).map fun q => cs.getD (i * 22 + q) undef)).toArray) := hc2
  have HN : Aside (W1.heap[w.heap.size]? = some (.cells ROW 46 (0, 0))) := hN
  have HO : Aside (∀ b', b' < w.heap.size → W1.heap[b']? = w.heap[b']?) := hO
  have HZ : Aside (W1.heap.size = w.heap.size + 1) := hZ
  have HS : Aside (c1.size = ROW.size ∧ c2.size = ROW.size ∧ ROW.size = G * 22) := ⟨hs1, hs2, hRs⟩
  have HR0 : Aside (∀ q, q < i * 22 → ROW.getD q undef = cs.getD q undef) := hR0
  have HW1 : Aside (W1.os = w.os ∧ W1.tape = w.tape ∧ W1.output = w.output) := by rw [hW1]; exact ⟨rfl, rfl, rfl⟩
  rw [← hW1] at hrz
  clear hW1 hc1 hc2 hs1 hs2 hRs hR0 hN hO hZ hROW hG hold holds hkk hik hb hv h1c h1v hsz
  go_enter Try.func116, Try.ntmps116
  go_wp2_with (first
    | (at_builtin; refine Lib.wpList_append_run _ rfl _ _ _ _ rfl _ _ rfl rfl _ _ (hrz _) ?_)
    | (at_builtin; refine wpList_copy_runI _ rfl _ _ 25 25 rfl _ _ rfl rfl (hcpA _ rfl _ _) ?_)
    | (at_builtin; refine wpList_copy_runI _ rfl _ _ 25 25 rfl _ _ rfl rfl (hcpB _ _ rfl rfl _ _ _) ?_))
  go_region_law_o (refine step_copy_runI rfl _ _ 25 25 rfl (.slice (some ⟨w.heap.size, (i + m) * 22, none⟩) (n + m - (i + m)) (G - (i + m))) (.slice (some ⟨b, i * 22, none⟩) (n - i) (c - i)) (by simp [Act.eval, Act.put]) (by simp [Act.eval, Act.put]) (hcpB (W1.setRow w.heap.size c1).drew W1 rfl rfl 3 (G - (i + m)) (c - i)) ?_)
  go_wp2
  go_ret
  have hs1 := HS.out.1
  have hs2 := HS.out.2.1
  have hRs := HS.out.2.2
  have hN := HN.out
  have hO := HO.out
  have hZ := HZ.out
  refine ⟨G, c2, rfl, ⟨HW1.out.1, HW1.out.2.1, HW1.out.2.2, by rw [setRow_size, drew_heap, setRow_size, hZ]; omega, fun b' h => by rw [setRow_old _ _ (by omega), drew_heap, setRow_old _ _ (by omega)]; exact hO b' h⟩,
    setRow_heap _ _ c1 c2 46 (0, 0) (by rw [drew_heap]; exact setRow_heap _ _ ROW c1 46 (0, 0) hN), by rw [setRow_size, drew_heap, setRow_size, hZ]; omega, hGn, by rw [hs2, hRs]; exact Nat.le_refl _, fun q k hq hk => ?_⟩
  have e1 := spl_getD (es := ROW.toList) (ys := (List.range (m * 22)).map fun q => vs.getD (0 + q) undef) (off := i * 22) (by simp; omega)
  have e2 := spl_getD (es := c1.toList) (ys := (List.range ((n - i) * 22)).map fun q => cs.getD (i * 22 + q) undef) (off := (i + m) * 22) (by simp; omega)
  rw [HC2.out, Array.getD_eq_getD_getElem?, List.getElem?_toArray, ← List.getD_eq_getElem?_getD, e2]
  simp only [List.length_map, List.length_range]
  by_cases h1 : q < i
  · rw [if_pos h1, if_neg (by omega), HC1.out, e1]
    simp only [List.length_map, List.length_range]
    rw [if_neg (by omega), List.getD_eq_getElem?_getD, Array.getElem?_toList, ← Array.getD_eq_getD_getElem?]
    exact HR0.out _ (by omega)
  · rw [if_neg h1]
    by_cases h2 : q < i + m
    · rw [if_pos h2, if_neg (by omega), HC1.out, e1]
      simp only [List.length_map, List.length_range]
      rw [if_pos (by omega), List.getD_eq_getElem?_getD, List.getElem?_map, List.getElem?_range (by omega)]
      show vs.getD _ undef = _
      congr 1
      omega
    · rw [if_neg h2, if_pos (by omega), List.getD_eq_getElem?_getD, List.getElem?_map, List.getElem?_range (by omega)]
      show cs.getD _ undef = _
      congr 1
      omega
def fpsC (n : Nat) (fps fpv : Nat → Nat → List Nat) (j c : Nat) : List Nat := if j < n then fps j c else fpv (j - n) c
theorem fpsC_left {n j c : Nat} {fps fpv : Nat → Nat → List Nat} (h : j < n) : fpsC n fps fpv j c = fps j c := if_pos h
theorem fpsC_right {n j c : Nat} {fps fpv : Nat → Nat → List Nat} : fpsC n fps fpv (n + j) c = fpv j c := by
  unfold fpsC
  rw [if_neg (by omega), Nat.add_sub_cancel_left]
theorem own_two {w' : World} {ks : List CK} {zs : List D} {b cap n m : Nat} {cs' : Array Value} {T : TypeId} {fps fpv : Nat → Nat → List Nat} (hh : w'.heap[b]? = some (.cells cs' T (0, 0))) (hsz : cap * ks.length ≤ cs'.size) (hcap : n + m ≤ cap) (hmax : n + m ≤ maxL) (hz : zs.length = n + m)
    (hn1 : (fpAll n ks.length fps).Nodup) (hn2 : (fpAll m ks.length fpv).Nodup) (hdis : ∀ b' ∈ fpAll n ks.length fps, b' ∉ fpAll m ks.length fpv) (hb1 : b ∉ fpAll n ks.length fps) (hb2 : b ∉ fpAll m ks.length fpv) (p : Nat → Nat) (hp : ∀ i, i < n + m → p i < n + m) (hinj : ∀ i j, i < n + m → j < n + m → p i = p j → i = j)
    (hsh : ∀ q, q < n + m → Shp ks.length (zs.getD q default)) (hown : ∀ q c, q < n + m → c < ks.length → Own w' (ks.getD c default) ((zs.getD q default).fld c) (cs'.getD (q * ks.length + c) undef) (fpsC n fps fpv (p q) c)) :
    ∃ fp', Own w' (.sl ks) (.lst zs) (.slice (some ⟨b, 0, none⟩) (n + m) cap) fp' ∧ fp'.Nodup ∧ ∀ b' ∈ fp', b' = b ∨ b' ∈ fpAll n ks.length fps ∨ b' ∈ fpAll m ks.length fpv := by
  obtain ⟨h1, h2⟩ := both_nodup hn1 hn2 hdis
  obtain ⟨f1, f2⟩ := fp_mono (fpq := fun q c => fpsC n fps fpv (p q) c) p hp hinj (fun _ _ _ => rfl) h1
  have hm : ∀ b' ∈ fpAll (n + m) ks.length (fun q c => fpsC n fps fpv (p q) c), b' ∈ fpAll n ks.length fps ∨ b' ∈ fpAll m ks.length fpv := fun b' hb' => h2 b' (f2 b' hb')
  refine ⟨b :: fpAll (n + m) ks.length (fun q c => fpsC n fps fpv (p q) c), ?_, List.nodup_cons.2 ⟨fun h => ?_, f1⟩, fun b' hb' => ?_⟩
  · have := Own.sl (w := w') (ks := ks) b cap cs' T zs (fun q c => fpsC n fps fpv (p q) c) hh hsz (by omega) (by omega) (fun q hq => hsh q (by omega)) (fun q c hq hc => hown q c (by omega) hc)
    rw [hz] at this
    exact this
  · rcases hm b h with h | h
    · exact hb1 h
    · exact hb2 h
  · rcases List.mem_cons.1 hb' with rfl | hb'
    · exact .inl rfl
    · exact .inr (hm b' hb')
def insP (n m i q : Nat) : Nat := if q < i then q else if q < i + m then n + (q - i) else q - m
theorem ins_list {xs ys : List D} {i q : Nat} (hi : i ≤ xs.length) (hq : q < xs.length + ys.length) : (xs.take i ++ ys ++ xs.drop i).getD q default = if q < i then xs.getD q default else if q < i + ys.length then ys.getD (q - i) default else xs.getD (q - ys.length) default := by
  have hl : (xs.take i).length = i := by simp; omega
  by_cases h1 : q < i
  · rw [if_pos h1, List.getD_eq_getElem?_getD, List.append_assoc, List.getElem?_append_left (by omega), List.getElem?_take, if_pos h1, ← List.getD_eq_getElem?_getD]
  · rw [if_neg h1, List.getD_eq_getElem?_getD, List.append_assoc, List.getElem?_append_right (by omega), hl]
    by_cases h2 : q < i + ys.length
    · rw [if_pos h2, List.getElem?_append_left (by omega), ← List.getD_eq_getElem?_getD]
    · rw [if_neg h2, List.getElem?_append_right (by omega), List.getElem?_drop, ← List.getD_eq_getElem?_getD]
      congr 1
      omega
theorem args3 {w : World} {S G : Nat → Prop} {a1 a2 a3 : DArg} {vs : List Value} {F : List Nat} (h : ArgsR w S G [a1, a2, a3] vs F) : ∃ v1 v2 v3 f1 f2 f3, vs = [v1, v2, v3] ∧ F = f1 ++ (f2 ++ (f3 ++ [])) ∧ ArgR w S G a1 v1 f1 ∧ ArgR w S G a2 v2 f2 ∧ ArgR w S G a3 v3 f3 := by
  cases h with
  | cons h1 h2 =>
    cases h2 with
    | cons h2 h3 =>
      cases h3 with
      | cons h3 h4 =>
        cases h4
        exact ⟨_, _, _, _, _, _, rfl, rfl, h1, h2, h3⟩
theorem take_inv3 {w : World} {S G : Nat → Prop} {ks : List CK} {d : D} {v : Value} {fp : List Nat} (h : ArgR w S G (.take ks d) v fp) : Own w (.sl ks) d v fp := by
  cases h
  assumption
theorem ins_post {w w' : World} {G : Nat → Prop} {F : List Nat} {d i v : D} {v1 v2 v3 sv : Value} {zs : List D} {fp' : List Nat} (ho : Own w' (.sl [(.int .i64), (.int .i64), (.int .i64), (.int .i64), (.int .i64), (.int .i64), (.int .i64), (.int .i64), (.int .i64), (.int .i64), (.int .i64), (.int .i64), (.int .i64), (.int .i64), (.int .i64), (.int .i64), (.int .i64), (.int .i64), .bool, (.sl [(.int .i64), (.int .i64), (.int .i64), (.int .i64), (.int .i64), (.int .i64), .bool]), (.int .i64), (.int .i64)]) (.lst zs) sv fp') (hn : fp'.Nodup) (hm : ∀ b ∈ fp', b ∈ F ∨ w.heap.size ≤ b) (hk : KeptS (outside w F) w w') :
    Post w F G [.take [(.int .i64), (.int .i64), (.int .i64), (.int .i64), (.int .i64), (.int .i64), (.int .i64), (.int .i64), (.int .i64), (.int .i64), (.int .i64), (.int .i64), (.int .i64), (.int .i64), (.int .i64), (.int .i64), (.int .i64), (.int .i64), .bool, (.sl [(.int .i64), (.int .i64), (.int .i64), (.int .i64), (.int .i64), (.int .i64), .bool]), (.int .i64), (.int .i64)] d, .sc (.int .i64) i, .take [(.int .i64), (.int .i64), (.int .i64), (.int .i64), (.int .i64), (.int .i64), (.int .i64), (.int .i64), (.int .i64), (.int .i64), (.int .i64), (.int .i64), (.int .i64), (.int .i64), (.int .i64), (.int .i64), (.int .i64), (.int .i64), .bool, (.sl [(.int .i64), (.int .i64), (.int .i64), (.int .i64), (.int .i64), (.int .i64), .bool]), (.int .i64), (.int .i64)] v] [v1, v2, v3] [.sc (.sl [(.int .i64), (.int .i64), (.int .i64), (.int .i64), (.int .i64), (.int .i64), (.int .i64), (.int .i64), (.int .i64), (.int .i64), (.int .i64), (.int .i64), (.int .i64), (.int .i64), (.int .i64), (.int .i64), (.int .i64), (.int .i64), .bool, (.sl [(.int .i64), (.int .i64), (.int .i64), (.int .i64), (.int .i64), (.int .i64), .bool]), (.int .i64), (.int .i64)])] (fun o => o = [.lst zs]) w' sv := by
  refine ⟨[_], [_], [], fp', [], rfl, ?_, .skip trivial (.skip trivial (.skip trivial .nil)), rfl, by simpa using hn, fun b hb => hm b (by simpa using hb), hk⟩
  have := RetsR.cons (r := .sc (.sl [(.int .i64), (.int .i64), (.int .i64), (.int .i64), (.int .i64), (.int .i64), (.int .i64), (.int .i64), (.int .i64), (.int .i64), (.int .i64), (.int .i64), (.int .i64), (.int .i64), (.int .i64), (.int .i64), (.int .i64), (.int .i64), .bool, (.sl [(.int .i64), (.int .i64), (.int .i64), (.int .i64), (.int .i64), (.int .i64), .bool]), (.int .i64), (.int .i64)])) (w := w') (G := G) (.sc ho) .nil
  simpa using this
theorem lib_pc (d i v : D) (h : 0 ≤ i.toI ∧ i.toI ≤ d.toL.length) (hv : 0 < v.toL.length) (hl : (d.toL.length + v.toL.length) * 192 ≤ 140737488355328) : PC Try.prog 116 [.take [(.int .i64), (.int .i64), (.int .i64), (.int .i64), (.int .i64), (.int .i64), (.int .i64), (.int .i64), (.int .i64), (.int .i64), (.int .i64), (.int .i64), (.int .i64), (.int .i64), (.int .i64), (.int .i64), (.int .i64), (.int .i64), .bool, (.sl [(.int .i64), (.int .i64), (.int .i64), (.int .i64), (.int .i64), (.int .i64), .bool]), (.int .i64), (.int .i64)] d, .sc (.int .i64) i, .take [(.int .i64), (.int .i64), (.int .i64), (.int .i64), (.int .i64), (.int .i64), (.int .i64), (.int .i64), (.int .i64), (.int .i64), (.int .i64), (.int .i64), (.int .i64), (.int .i64), (.int .i64), (.int .i64), (.int .i64), (.int .i64), .bool, (.sl [(.int .i64), (.int .i64), (.int .i64), (.int .i64), (.int .i64), (.int .i64), .bool]), (.int .i64), (.int .i64)] v] [.sc (.sl [(.int .i64), (.int .i64), (.int .i64), (.int .i64), (.int .i64), (.int .i64), (.int .i64), (.int .i64), (.int .i64), (.int .i64), (.int .i64), (.int .i64), (.int .i64), (.int .i64), (.int .i64), (.int .i64), (.int .i64), (.int .i64), .bool, (.sl [(.int .i64), (.int .i64), (.int .i64), (.int .i64), (.int .i64), (.int .i64), .bool]), (.int .i64), (.int .i64)])] fun o => o = [.lst (d.toL.take i.toI.toNat ++ v.toL ++ d.toL.drop i.toI.toNat)] := by
  refine ⟨⟨Try.f116, Try.func116, by kernel_rfl, by kernel_rfl⟩, fun w vs F G hF hG ha => ?_⟩
  obtain ⟨v1, v2, v3, f1, f2, f3, rfl, rfl, h1, h2, h3⟩ := args3 ha
  replace h1 := take_inv3 h1
  replace h3 := take_inv3 h3
  obtain ⟨n0, rfl, rfl, rfl, _⟩ := int_arg h2
  simp only [D.toI, List.append_nil, List.nil_append] at h hF hG ⊢
  clear ha h2
  obtain ⟨i, rfl⟩ := Int.eq_ofNat_of_zero_le h.1
  simp only [Int.toNat_natCast]
  obtain ⟨hF1, hF3, hFd⟩ := List.nodup_append.1 hF
  have hK : ([(.int .i64), (.int .i64), (.int .i64), (.int .i64), (.int .i64), (.int .i64), (.int .i64), (.int .i64), (.int .i64), (.int .i64), (.int .i64), (.int .i64), (.int .i64), (.int .i64), (.int .i64), (.int .i64), (.int .i64), (.int .i64), .bool, (.sl [(.int .i64), (.int .i64), (.int .i64), (.int .i64), (.int .i64), (.int .i64), .bool]), (.int .i64), (.int .i64)] : List CK).length = 22 := rfl
  have hse : sliceElem Try.prog 25 = some (46, [(.int .i64), (.int .i64), (.int .i64), (.int .i64), (.int .i64), (.int .i64), (.int .i64), (.int .i64), (.int .i64), (.int .i64), (.int .i64), (.int .i64), (.int .i64), (.int .i64), (.int .i64), (.int .i64), (.int .i64), (.int .i64), .bool, (.sl [(.int .i64), (.int .i64), (.int .i64), (.int .i64), (.int .i64), (.int .i64), .bool]), (.int .i64), (.int .i64)]) := by kernel_rfl
  have hu := (sliceElem_ok hse).1
  have hd13 : ∀ b ∈ f1, b ∉ f3 := fun b hb hb' => hFd b hb b hb' rfl
  obtain ⟨ys, hys0⟩ : ∃ ys, v = .lst ys := by
    cases h3 with
    | flat h => cases h
    | nil => exact ⟨_, rfl⟩
    | sl => exact ⟨_, rfl⟩
  subst hys0
  have hsrc := src_own (P := Try.prog) (t := 25) hu h3 hF3
  have hlt3 := h3.lt
  cases h3 with
  | flat h => cases h
  | nil => simp [D.toL] at hv
  | sl vb vcap vcs T2 _ fpv hvb hvsz hvcap hvmax hvsh hvown =>
    simp only [toL_lst] at hv hl ⊢
    rw [hK] at hvsz
    obtain ⟨hvn1, hvn2⟩ := List.nodup_cons.1 hF3
    have h1v : ∀ q, q < ys.length * 22 → (vcs.getD q undef).oneCell' = true := fun q hq => by
      obtain ⟨q1, q2, q3⟩ := flatIdx (k := 22) (by decide) hq
      have := (hvown (q / 22) (q % 22) q1 q2).one
      rwa [hK, q3] at this
    have hvbl : vb < w.heap.size := (Array.getElem?_eq_some_iff.1 hvb).1
    by_cases hend : i = d.toL.length
    · -- at the end: an append
      obtain ⟨xs, hxs⟩ : ∃ xs, d = .lst xs := by
        cases h1 with
        | flat h => cases h
        | nil => exact ⟨_, rfl⟩
        | sl => exact ⟨_, rfl⟩
      subst hxs
      obtain ⟨ad, cap, hv1⟩ : ∃ ad cap, v1 = .slice ad xs.length cap := by
        cases h1 with
        | flat h => cases h
        | nil => exact ⟨_, _, rfl⟩
        | sl => exact ⟨_, _, rfl⟩
      subst hv1
      have hnil : ad = none → xs.length = 0 := by
        intro e
        subst e
        cases h1 with
        | flat h => cases h
        | nil => rfl
      simp only [toL_lst] at hend hl ⊢
      subst hend
      have hinfo : (Try.prog.info? 46).map (fun i => (i.bytes, i.zero.map fun z => z.cells.size == i.size)) = some (192, some true) := by kernel_rfl
      obtain ⟨i0, hi0, hz0⟩ := Option.map_eq_some_iff.1 hinfo
      injection hz0 with hzb hzz
      obtain ⟨z, hz1, hz2⟩ := Option.map_eq_some_iff.1 hzz
      obtain ⟨news, fpn, s1, s2⟩ := hsrc
      have hmaxb : Nat.max i0.bytes 1 = 192 := by rw [hzb]; rfl
      obtain ⟨w', ad', cap', fp', r1, r2, r3, r4, r5, r6, r7, r8, r9⟩ := (append_run (P := Try.prog) (w := w) (t := 25) (ty := 0) hse hi0 ⟨z, hz1, by simpa using hz2⟩ h1 hF1 (fun b hb => hlt3 b (s2 b hb)) s1 (fun b hb hb' => hd13 b hb (s2 b hb')) (by rw [hmaxb]; exact hl)).ex
      refine (ins_end hv (by omega) (fun ty => r1) hnil).mono ?_
      rintro e w2 ⟨rfl, rfl⟩
      refine ⟨_, rfl, ?_⟩
      have hz : xs.take xs.length ++ ys ++ xs.drop xs.length = xs ++ ys := by simp
      rw [hz]
      refine ins_post r2 r3 (fun b hb => ?_) ⟨r6, r7, r8, r9, fun b hb => r5 b hb.1 fun e => hb.2 (List.mem_append_left _ e)⟩
      rcases r4 b hb with h | h | h
      · exact .inl (List.mem_append_left _ h)
      · exact .inl (List.mem_append_right _ (s2 b h))
      · exact .inr h.1
    · have hi : i < d.toL.length := by omega
      cases h1 with
      | flat h => cases h
      | nil => simp [D.toL] at hi
      | sl b cap cs T xs fps hb hsz hcap hmax hsh hown =>
        simp only [toL_lst] at hi hl ⊢
        rw [hK] at hsz
        obtain ⟨hn1, hn2⟩ := List.nodup_cons.1 hF1
        have hbl : b < w.heap.size := (Array.getElem?_eq_some_iff.1 hb).1
        have h1c : ∀ q, q < xs.length * 22 → (cs.getD q undef).oneCell' = true := fun q hq => by
          obtain ⟨q1, q2, q3⟩ := flatIdx (k := 22) (by decide) hq
          have := (hown (q / 22) (q % 22) q1 q2).one
          rwa [hK, q3] at this
        have hvb2 : vb ≠ b := fun e => hd13 b (by simp) (by rw [e]; simp)
        have hzl : (xs.take i ++ ys ++ xs.drop i).length = xs.length + ys.length := by simp; omega
        have hmx : xs.length + ys.length ≤ maxL := by unfold maxL; omega
        have hdd : ∀ b' ∈ fpAll xs.length ([(.int .i64), (.int .i64), (.int .i64), (.int .i64), (.int .i64), (.int .i64), (.int .i64), (.int .i64), (.int .i64), (.int .i64), (.int .i64), (.int .i64), (.int .i64), (.int .i64), (.int .i64), (.int .i64), (.int .i64), (.int .i64), .bool, (.sl [(.int .i64), (.int .i64), (.int .i64), (.int .i64), (.int .i64), (.int .i64), .bool]), (.int .i64), (.int .i64)] : List CK).length fps, b' ∉ fpAll ys.length ([(.int .i64), (.int .i64), (.int .i64), (.int .i64), (.int .i64), (.int .i64), (.int .i64), (.int .i64), (.int .i64), (.int .i64), (.int .i64), (.int .i64), (.int .i64), (.int .i64), (.int .i64), (.int .i64), (.int .i64), (.int .i64), .bool, (.sl [(.int .i64), (.int .i64), (.int .i64), (.int .i64), (.int .i64), (.int .i64), .bool]), (.int .i64), (.int .i64)] : List CK).length fpv := fun b' h1 h2 => hd13 b' (List.mem_cons_of_mem _ h1) (List.mem_cons_of_mem _ h2)
        have hpl : ∀ q, q < xs.length + ys.length → insP xs.length ys.length i q < xs.length + ys.length := fun q hq => by
          simp only [insP]
          split
          · omega
          · split <;> omega
        have hpi : ∀ q q', q < xs.length + ys.length → q' < xs.length + ys.length → insP xs.length ys.length i q = insP xs.length ys.length i q' → q = q' := fun q q' hq hq' e => by
          simp only [insP] at e
          split at e <;> split at e <;> (try split at e) <;> (try split at e) <;> omega
        have hshz : ∀ q, q < xs.length + ys.length → Shp ([(.int .i64), (.int .i64), (.int .i64), (.int .i64), (.int .i64), (.int .i64), (.int .i64), (.int .i64), (.int .i64), (.int .i64), (.int .i64), (.int .i64), (.int .i64), (.int .i64), (.int .i64), (.int .i64), (.int .i64), (.int .i64), .bool, (.sl [(.int .i64), (.int .i64), (.int .i64), (.int .i64), (.int .i64), (.int .i64), .bool]), (.int .i64), (.int .i64)] : List CK).length ((xs.take i ++ ys ++ xs.drop i).getD q default) := fun q hq => by
          rw [ins_list (by omega) hq]
          by_cases h1 : q < i
          · rw [if_pos h1]; exact hsh _ (by omega)
          · rw [if_neg h1]
            by_cases h2 : q < i + ys.length
            · rw [if_pos h2]; exact hvsh _ (by omega)
            · rw [if_neg h2]; exact hsh _ (by omega)
        -- the elements where they lie now
        have key : ∀ (w' : World) (cs' : Array Value), (∀ b', b' < w.heap.size → b' ≠ b → w'.heap[b']? = w.heap[b']?) → (∀ q k, q < xs.length + ys.length → k < 22 → cs'.getD (q * 22 + k) undef = if q < i then cs.getD (q * 22 + k) undef else if q < i + ys.length then vcs.getD ((q - i) * 22 + k) undef else cs.getD ((q - ys.length) * 22 + k) undef) →
            ∀ q c, q < xs.length + ys.length → c < ([(.int .i64), (.int .i64), (.int .i64), (.int .i64), (.int .i64), (.int .i64), (.int .i64), (.int .i64), (.int .i64), (.int .i64), (.int .i64), (.int .i64), (.int .i64), (.int .i64), (.int .i64), (.int .i64), (.int .i64), (.int .i64), .bool, (.sl [(.int .i64), (.int .i64), (.int .i64), (.int .i64), (.int .i64), (.int .i64), .bool]), (.int .i64), (.int .i64)] : List CK).length → Own w' (([(.int .i64), (.int .i64), (.int .i64), (.int .i64), (.int .i64), (.int .i64), (.int .i64), (.int .i64), (.int .i64), (.int .i64), (.int .i64), (.int .i64), (.int .i64), (.int .i64), (.int .i64), (.int .i64), (.int .i64), (.int .i64), .bool, (.sl [(.int .i64), (.int .i64), (.int .i64), (.int .i64), (.int .i64), (.int .i64), .bool]), (.int .i64), (.int .i64)] : List CK).getD c default) (((xs.take i ++ ys ++ xs.drop i).getD q default).fld c) (cs'.getD (q * ([(.int .i64), (.int .i64), (.int .i64), (.int .i64), (.int .i64), (.int .i64), (.int .i64), (.int .i64), (.int .i64), (.int .i64), (.int .i64), (.int .i64), (.int .i64), (.int .i64), (.int .i64), (.int .i64), (.int .i64), (.int .i64), .bool, (.sl [(.int .i64), (.int .i64), (.int .i64), (.int .i64), (.int .i64), (.int .i64), .bool]), (.int .i64), (.int .i64)] : List CK).length + c) undef) (fpsC xs.length fps fpv (insP xs.length ys.length i q) c) := fun w' cs' hold hcell q c hq hc => by
          have ox : ∀ j, j < xs.length → Own w' (([(.int .i64), (.int .i64), (.int .i64), (.int .i64), (.int .i64), (.int .i64), (.int .i64), (.int .i64), (.int .i64), (.int .i64), (.int .i64), (.int .i64), (.int .i64), (.int .i64), (.int .i64), (.int .i64), (.int .i64), (.int .i64), .bool, (.sl [(.int .i64), (.int .i64), (.int .i64), (.int .i64), (.int .i64), (.int .i64), .bool]), (.int .i64), (.int .i64)] : List CK).getD c default) ((xs.getD j default).fld c) (cs.getD (j * ([(.int .i64), (.int .i64), (.int .i64), (.int .i64), (.int .i64), (.int .i64), (.int .i64), (.int .i64), (.int .i64), (.int .i64), (.int .i64), (.int .i64), (.int .i64), (.int .i64), (.int .i64), (.int .i64), (.int .i64), (.int .i64), .bool, (.sl [(.int .i64), (.int .i64), (.int .i64), (.int .i64), (.int .i64), (.int .i64), .bool]), (.int .i64), (.int .i64)] : List CK).length + c) undef) (fps j c) := fun j hj =>
            (hown j c hj hc).frame fun b' hb' => hold b' ((hown j c hj hc).lt b' hb') fun e => hn1 (e ▸ mem_fpAll hj hc hb')
          have oy : ∀ j, j < ys.length → Own w' (([(.int .i64), (.int .i64), (.int .i64), (.int .i64), (.int .i64), (.int .i64), (.int .i64), (.int .i64), (.int .i64), (.int .i64), (.int .i64), (.int .i64), (.int .i64), (.int .i64), (.int .i64), (.int .i64), (.int .i64), (.int .i64), .bool, (.sl [(.int .i64), (.int .i64), (.int .i64), (.int .i64), (.int .i64), (.int .i64), .bool]), (.int .i64), (.int .i64)] : List CK).getD c default) ((ys.getD j default).fld c) (vcs.getD (j * ([(.int .i64), (.int .i64), (.int .i64), (.int .i64), (.int .i64), (.int .i64), (.int .i64), (.int .i64), (.int .i64), (.int .i64), (.int .i64), (.int .i64), (.int .i64), (.int .i64), (.int .i64), (.int .i64), (.int .i64), (.int .i64), .bool, (.sl [(.int .i64), (.int .i64), (.int .i64), (.int .i64), (.int .i64), (.int .i64), .bool]), (.int .i64), (.int .i64)] : List CK).length + c) undef) (fpv j c) := fun j hj =>
            (hvown j c hj hc).frame fun b' hb' => hold b' ((hvown j c hj hc).lt b' hb') fun e => hd13 b (by simp) (e ▸ List.mem_cons_of_mem _ (mem_fpAll hj hc hb'))
          rw [hK] at hc ox oy ⊢
          rw [ins_list (by omega) hq, hcell q c hq hc]
          by_cases h1 : q < i
          · have e0 : insP xs.length ys.length i q = q := by simp only [insP, if_pos h1]
            have ep : fpsC xs.length fps fpv (insP xs.length ys.length i q) c = fps q c := by
              rw [e0]
              exact fpsC_left (by omega)
            rw [ep, if_pos h1, if_pos h1]
            exact ox q (by omega)
          · by_cases h2 : q < i + ys.length
            · have e0 : insP xs.length ys.length i q = xs.length + (q - i) := by simp only [insP, if_neg h1, if_pos h2]
              have ep : fpsC xs.length fps fpv (insP xs.length ys.length i q) c = fpv (q - i) c := by
                rw [e0]
                exact fpsC_right
              rw [ep, if_neg h1, if_neg h1, if_pos h2, if_pos h2]
              exact oy _ (by omega)
            · have e0 : insP xs.length ys.length i q = q - ys.length := by simp only [insP, if_neg h1, if_neg h2]
              have ep : fpsC xs.length fps fpv (insP xs.length ys.length i q) c = fps (q - ys.length) c := by
                rw [e0]
                exact fpsC_left (by omega)
              rw [ep, if_neg h1, if_neg h1, if_neg h2, if_neg h2]
              exact ox _ (by omega)
        by_cases hroom : xs.length + ys.length ≤ cap
        · refine (ins_shift hi hv hroom (by omega) hvb2 hb hvb hsz (Nat.le_trans (Nat.mul_le_mul_right _ hvcap) hvsz) h1c h1v).mono ?_
          rintro e w' ⟨rfl, w1, cs', g1, g2, g3, g4, rfl, g5, g6⟩
          have hold : ∀ b', b' < w.heap.size → b' ≠ b → (w1.setRow b cs').heap[b']? = w.heap[b']? := fun b' _ hne => by rw [setRow_old w1 cs' hne, g1]
          obtain ⟨fp', o1, o2, o3⟩ := own_two (w' := w1.setRow b cs') (setRow_heap w1 b cs cs' T (0, 0) (by rw [g1]; exact hb)) (by rw [hK, g5]; exact hsz) hroom hmx hzl hn2 hvn2 hdd hn1 (fun e => hd13 b (by simp) (List.mem_cons_of_mem _ e)) (insP xs.length ys.length i) hpl hpi hshz (key _ cs' hold g6)
          refine ⟨_, rfl, ins_post o1 o2 (fun b' hb' => ?_) ⟨by rw [setRow_os, g2], by rw [setRow_tape, g3], by rw [setRow_output, g4], by rw [setRow_size, g1]; exact Nat.le_refl _, fun b' hb' => hold b' hb'.1 fun e => hb'.2 (by rw [e]; simp)⟩⟩
          rcases o3 b' hb' with rfl | h | h
          · exact .inl (by simp)
          · exact .inl (List.mem_append_left _ (List.mem_cons_of_mem _ h))
          · exact .inl (List.mem_append_right _ (List.mem_cons_of_mem _ h))
        · refine (ins_grow hi hv hcap (by omega) hl hb hvb hsz (Nat.le_trans (Nat.mul_le_mul_right _ hvcap) hvsz) h1c h1v).mono ?_
          rintro e w' ⟨G', cs', rfl, k, g4, g5, g6, g7, g8⟩
          have hnn : w.heap.size ∉ fpAll xs.length ([(.int .i64), (.int .i64), (.int .i64), (.int .i64), (.int .i64), (.int .i64), (.int .i64), (.int .i64), (.int .i64), (.int .i64), (.int .i64), (.int .i64), (.int .i64), (.int .i64), (.int .i64), (.int .i64), (.int .i64), (.int .i64), .bool, (.sl [(.int .i64), (.int .i64), (.int .i64), (.int .i64), (.int .i64), (.int .i64), .bool]), (.int .i64), (.int .i64)] : List CK).length fps := fun e => by
            obtain ⟨j, c, hj, hc, hm⟩ := fpAll_mem e
            exact Nat.lt_irrefl _ ((hown j c hj hc).lt _ hm)
          have hnv : w.heap.size ∉ fpAll ys.length ([(.int .i64), (.int .i64), (.int .i64), (.int .i64), (.int .i64), (.int .i64), (.int .i64), (.int .i64), (.int .i64), (.int .i64), (.int .i64), (.int .i64), (.int .i64), (.int .i64), (.int .i64), (.int .i64), (.int .i64), (.int .i64), .bool, (.sl [(.int .i64), (.int .i64), (.int .i64), (.int .i64), (.int .i64), (.int .i64), .bool]), (.int .i64), (.int .i64)] : List CK).length fpv := fun e => by
            obtain ⟨j, c, hj, hc, hm⟩ := fpAll_mem e
            exact Nat.lt_irrefl _ ((hvown j c hj hc).lt _ hm)
          obtain ⟨fp', o1, o2, o3⟩ := own_two (w' := w') g4 (by rw [hK]; exact g7) g6 hmx hzl hn2 hvn2 hdd hnn hnv (insP xs.length ys.length i) hpl hpi hshz (key w' cs' (fun b' h1 _ => k.block b' h1) g8)
          refine ⟨_, rfl, ins_post o1 o2 (fun b' hb' => ?_) ⟨k.os, k.tape, k.output, k.size, fun b' hb' => k.block b' hb'.1⟩⟩
          rcases o3 b' hb' with rfl | h | h
          · exact .inr (Nat.le_refl _)
          · exact .inl (List.mem_append_left _ (List.mem_cons_of_mem _ h))
          · exact .inl (List.mem_append_right _ (List.mem_cons_of_mem _ h))
def phiI (p : D → Bool) : Nat → List D → List D
  | 0, [x] => [.bool (p x)]
  | _, _ => []
theorem idx_pc (a : D) (g : Nat) (caps : List (List CK × D)) (p : D → Bool) (hd : ∀ x, PC Try.prog g (.st [(.int .i64), (.int .i64), (.int .i64), (.int .i64), (.int .i64), (.int .i64), (.int .i64), (.int .i64), (.int .i64), (.int .i64), (.int .i64), (.int .i64), (.int .i64), (.int .i64), (.int .i64), (.int .i64), (.int .i64), (.int .i64), .bool, (.sl [(.int .i64), (.int .i64), (.int .i64), (.int .i64), (.int .i64), (.int .i64), .bool]), (.int .i64), (.int .i64)] x :: caps.map fun q => .bx q.1 q.2) [.sc .bool] fun o => o = [.bool (p x)]) :
    PC Try.prog 53 [.sc (.sl [(.int .i64), (.int .i64), (.int .i64), (.int .i64), (.int .i64), (.int .i64), (.int .i64), (.int .i64), (.int .i64), (.int .i64), (.int .i64), (.int .i64), (.int .i64), (.int .i64), (.int .i64), (.int .i64), (.int .i64), (.int .i64), .bool, (.sl [(.int .i64), (.int .i64), (.int .i64), (.int .i64), (.int .i64), (.int .i64), .bool]), (.int .i64), (.int .i64)]) a, .clo g caps] [.sc (.int .i64)] fun o => o = [.int (findR (fun i => p (a.elem i)) a.toL.length)] := by
  refine PC.of_sig mix sig_53 ⟨rfl, trivial, trivial⟩ rfl fun hok => ?_
  have e_a := sl_eta (hok _ (.head _))
  have l_a := sl_len (hok _ (.head _))
  have k_a := sl_all (hok _ (.head _))
  have E_a : ∀ i, i < a.toL.length → D.lst [(a.elem i).fld 0, (a.elem i).fld 1, (a.elem i).fld 2, (a.elem i).fld 3, (a.elem i).fld 4, (a.elem i).fld 5, (a.elem i).fld 6, (a.elem i).fld 7, (a.elem i).fld 8, (a.elem i).fld 9, (a.elem i).fld 10, (a.elem i).fld 11, (a.elem i).fld 12, (a.elem i).fld 13, (a.elem i).fld 14, (a.elem i).fld 15, (a.elem i).fld 16, (a.elem i).fld 17, (a.elem i).fld 18, (a.elem i).fld 19, (a.elem i).fld 20, (a.elem i).fld 21] = a.elem i := fun i hi => by simpa [List.range, List.range.loop] using okL_eta (k_a _ (elem_mem hi))
  have hd' : ∀ (x : D) (Q : List D → Prop), Q [.bool (p x)] → PC Try.prog g (.st [(.int .i64), (.int .i64), (.int .i64), (.int .i64), (.int .i64), (.int .i64), (.int .i64), (.int .i64), (.int .i64), (.int .i64), (.int .i64), (.int .i64), (.int .i64), (.int .i64), (.int .i64), (.int .i64), (.int .i64), (.int .i64), .bool, (.sl [(.int .i64), (.int .i64), (.int .i64), (.int .i64), (.int .i64), (.int .i64), .bool]), (.int .i64), (.int .i64)] x :: caps.map fun q => .bx q.1 q.2) [.sc .bool] Q := fun x Q h => (hd x).mono fun _ e => e ▸ h
  apply says_den (φ := phiI p)
  simp [e_a, tree_53, T.says, X.den, O1.den, O2.den, O3.den, callD, XArg.ev, XArg.dat, Callee'.num, backs, DArg.back, Conds.den, cloArgs, phiI]
  refine fun _ => ?_
  refine den_for a.toL.length 0 (fun i => [.int i]) (fun i => ∀ j, j < i → (p (a.elem j)) = false) (by simp) (by simp [X.den]) (by simp) fun i hi hR => ?_
  apply says_den (φ := phiI p)
  by_cases hlt : i < a.toL.length
  · simp [e_a, E_a i hlt, tree_53, T.says, X.den, O1.den, O2.den, O3.den, callD, XArg.ev, XArg.dat, Callee'.num, backs, DArg.back, Conds.den, cloArgs, phiI, hlt]
    (repeat' (first | (with_reducible apply And.intro) | intro _))
    · exact hd' _ _ rfl
    · exact (findR_some (p := fun i => p (a.elem i)) hlt (by simp_all) hR).symm
    · (first | omega | (simp only [IntKind.wrap_i64, maxL] at *; omega))
    · rename_i j hj
      by_cases hji : j = i
      · subst hji; assumption
      · exact hR j (by omega)
  · simp [e_a, tree_53, T.says, X.den, O1.den, O2.den, O3.den, callD, XArg.ev, XArg.dat, Callee'.num, backs, DArg.back, Conds.den, cloArgs, phiI, hlt]
    (repeat' (first | (with_reducible apply And.intro) | intro _))
    · exact (findR_none fun j hj => hR j (by omega)).symm
end L116
theorem pc_116 (d i v : D) (h : 0 ≤ i.toI ∧ i.toI ≤ d.toL.length) (hv : 0 < v.toL.length) (hl : (d.toL.length + v.toL.length) * 192 ≤ 140737488355328) : PC Try.prog 116 [.take [(.int .i64), (.int .i64), (.int .i64), (.int .i64), (.int .i64), (.int .i64), (.int .i64), (.int .i64), (.int .i64), (.int .i64), (.int .i64), (.int .i64), (.int .i64), (.int .i64), (.int .i64), (.int .i64), (.int .i64), (.int .i64), .bool, (.sl [(.int .i64), (.int .i64), (.int .i64), (.int .i64), (.int .i64), (.int .i64), .bool]), (.int .i64), (.int .i64)] d, .sc (.int .i64) i, .take [(.int .i64), (.int .i64), (.int .i64), (.int .i64), (.int .i64), (.int .i64), (.int .i64), (.int .i64), (.int .i64), (.int .i64), (.int .i64), (.int .i64), (.int .i64), (.int .i64), (.int .i64), (.int .i64), (.int .i64), (.int .i64), .bool, (.sl [(.int .i64), (.int .i64), (.int .i64), (.int .i64), (.int .i64), (.int .i64), .bool]), (.int .i64), (.int .i64)] v] [.sc (.sl [(.int .i64), (.int .i64), (.int .i64), (.int .i64), (.int .i64), (.int .i64), (.int .i64), (.int .i64), (.int .i64), (.int .i64), (.int .i64), (.int .i64), (.int .i64), (.int .i64), (.int .i64), (.int .i64), (.int .i64), (.int .i64), .bool, (.sl [(.int .i64), (.int .i64), (.int .i64), (.int .i64), (.int .i64), (.int .i64), .bool]), (.int .i64), (.int .i64)])] fun o => o = [.lst (d.toL.take i.toI.toNat ++ v.toL ++ d.toL.drop i.toI.toNat)] := L116.lib_pc d i v h hv hl
theorem pd_116 (d i v : D) (h : 0 ≤ i.toI ∧ i.toI ≤ d.toL.length) (hv : 0 < v.toL.length) (hl : (d.toL.length + v.toL.length) * 192 ≤ 140737488355328) (Q : List D → Prop) (ho : Q [.lst (d.toL.take i.toI.toNat ++ v.toL ++ d.toL.drop i.toI.toNat)]) : PC Try.prog 116 [.take [(.int .i64), (.int .i64), (.int .i64), (.int .i64), (.int .i64), (.int .i64), (.int .i64), (.int .i64), (.int .i64), (.int .i64), (.int .i64), (.int .i64), (.int .i64), (.int .i64), (.int .i64), (.int .i64), (.int .i64), (.int .i64), .bool, (.sl [(.int .i64), (.int .i64), (.int .i64), (.int .i64), (.int .i64), (.int .i64), .bool]), (.int .i64), (.int .i64)] d, .sc (.int .i64) i, .take [(.int .i64), (.int .i64), (.int .i64), (.int .i64), (.int .i64), (.int .i64), (.int .i64), (.int .i64), (.int .i64), (.int .i64), (.int .i64), (.int .i64), (.int .i64), (.int .i64), (.int .i64), (.int .i64), (.int .i64), (.int .i64), .bool, (.sl [(.int .i64), (.int .i64), (.int .i64), (.int .i64), (.int .i64), (.int .i64), .bool]), (.int .i64), (.int .i64)] v] [.sc (.sl [(.int .i64), (.int .i64), (.int .i64), (.int .i64), (.int .i64), (.int .i64), (.int .i64), (.int .i64), (.int .i64), (.int .i64), (.int .i64), (.int .i64), (.int .i64), (.int .i64), (.int .i64), (.int .i64), (.int .i64), (.int .i64), .bool, (.sl [(.int .i64), (.int .i64), (.int .i64), (.int .i64), (.int .i64), (.int .i64), .bool]), (.int .i64), (.int .i64)])] Q := (pc_116 d i v h hv hl).mono fun _ h => h ▸ ho
/- impl.Install -/
def phi_52 (d e : D) : Nat → List D → List D
  | 53, [a, _] => [.int (findR (fun i => decide ((e.fld 0).toI ≤ ((a.elem i).fld 0).toI)) a.toL.length)]
  | 17, [d, n] => [.int (effAt d n.toI)]
  | 31, [d] => [.bool (tableOk d)]
  | 65, [e] => [e]
  | 87, [d] => [d]
  | 115, [x, e] => [.bool (decide ((e.fld 0).toI ≤ (x.fld 0).toI))]
  | 116, [d, i, v] => [.lst (d.toL.take i.toI.toNat ++ v.toL ++ d.toL.drop i.toI.toNat)]
  | _, _ => []
theorem pc_52 (d e : D) (h : smallE d) (he : ((e.fld 19).toL.length : Int) ≤ 1048576) : PC Try.prog 52 [.sc (.sl [(.int .i64), (.int .i64), (.int .i64), (.int .i64), (.int .i64), (.int .i64), (.int .i64), (.int .i64), (.int .i64), (.int .i64), (.int .i64), (.int .i64), (.int .i64), (.int .i64), (.int .i64), (.int .i64), (.int .i64), (.int .i64), .bool, (.sl [(.int .i64), (.int .i64), (.int .i64), (.int .i64), (.int .i64), (.int .i64), .bool]), (.int .i64), (.int .i64)]) d, .st [(.int .i64), (.int .i64), (.int .i64), (.int .i64), (.int .i64), (.int .i64), (.int .i64), (.int .i64), (.int .i64), (.int .i64), (.int .i64), (.int .i64), (.int .i64), (.int .i64), (.int .i64), (.int .i64), (.int .i64), (.int .i64), .bool, (.sl [(.int .i64), (.int .i64), (.int .i64), (.int .i64), (.int .i64), (.int .i64), .bool]), (.int .i64), (.int .i64)] e] [.sc (.sl [(.int .i64), (.int .i64), (.int .i64), (.int .i64), (.int .i64), (.int .i64), (.int .i64), (.int .i64), (.int .i64), (.int .i64), (.int .i64), (.int .i64), (.int .i64), (.int .i64), (.int .i64), (.int .i64), (.int .i64), (.int .i64), .bool, (.sl [(.int .i64), (.int .i64), (.int .i64), (.int .i64), (.int .i64), (.int .i64), .bool]), (.int .i64), (.int .i64)]), .sc .bool] fun o => o = [(if insOk d e then insT d e else d), .bool (insOk d e)] := by
  refine PC.of_sig mix sig_52 ⟨rfl, rfl, trivial⟩ rfl fun hok => ?_
  have e_d := sl_eta (hok _ (.head _))
  have l_d := sl_len (hok _ (.head _))
  have k_d := sl_all (hok _ (.head _))
  have E_d : ∀ i, i < d.toL.length → D.lst [(d.elem i).fld 0, (d.elem i).fld 1, (d.elem i).fld 2, (d.elem i).fld 3, (d.elem i).fld 4, (d.elem i).fld 5, (d.elem i).fld 6, (d.elem i).fld 7, (d.elem i).fld 8, (d.elem i).fld 9, (d.elem i).fld 10, (d.elem i).fld 11, (d.elem i).fld 12, (d.elem i).fld 13, (d.elem i).fld 14, (d.elem i).fld 15, (d.elem i).fld 16, (d.elem i).fld 17, (d.elem i).fld 18, (d.elem i).fld 19, (d.elem i).fld 20, (d.elem i).fld 21] = d.elem i := fun i hi => by simpa [List.range, List.range.loop] using okL_eta (k_d _ (elem_mem hi))
  have e_e : D.lst [e.fld 0, e.fld 1, e.fld 2, e.fld 3, e.fld 4, e.fld 5, e.fld 6, e.fld 7, e.fld 8, e.fld 9, e.fld 10, e.fld 11, e.fld 12, e.fld 13, e.fld 14, e.fld 15, e.fld 16, e.fld 17, e.fld 18, e.fld 19, e.fld 20, e.fld 21] = e := by simpa [List.range, List.range.loop] using okL_eta (hok _ (.tail _ (.head _)))
  have k_e : okL [(.int .i64), (.int .i64), (.int .i64), (.int .i64), (.int .i64), (.int .i64), (.int .i64), (.int .i64), (.int .i64), (.int .i64), (.int .i64), (.int .i64), (.int .i64), (.int .i64), (.int .i64), (.int .i64), (.int .i64), (.int .i64), .bool, (.sl [(.int .i64), (.int .i64), (.int .i64), (.int .i64), (.int .i64), (.int .i64), .bool]), (.int .i64), (.int .i64)] e := (hok _ (.tail _ (.head _)))
  have e_e_19 : D.lst (e.fld 19).toL = e.fld 19 := sl_eta (okL_at k_e (i := 19) rfl)
  have l_e_19 := sl_len (okL_at k_e (i := 19) rfl)
  have k_e_19 := sl_all (okL_at k_e (i := 19) rfl)
  have E_e_19 : ∀ i, i < (e.fld 19).toL.length → D.lst [((e.fld 19).elem i).fld 0, ((e.fld 19).elem i).fld 1, ((e.fld 19).elem i).fld 2, ((e.fld 19).elem i).fld 3, ((e.fld 19).elem i).fld 4, ((e.fld 19).elem i).fld 5, ((e.fld 19).elem i).fld 6] = (e.fld 19).elem i := fun i hi => by simpa [List.range, List.range.loop] using okL_eta (k_e_19 _ (elem_mem hi))
  have h1 := h.1
  have hr := effAt_range d (e.fld 0).toI
  have hi := insAt_find d (e.fld 0).toI
  have hle := insAt_le d (e.fld 0).toI
  have hx : ∀ (a : D), PC Try.prog 53 [.sc (.sl [.int .i64, .int .i64, .int .i64, .int .i64, .int .i64, .int .i64, .int .i64, .int .i64, .int .i64, .int .i64, .int .i64, .int .i64, .int .i64, .int .i64, .int .i64, .int .i64, .int .i64, .int .i64, .bool, .sl [.int .i64, .int .i64, .int .i64, .int .i64, .int .i64, .int .i64, .bool], .int .i64, .int .i64]) a, .clo 115 [([.int .i64, .int .i64, .int .i64, .int .i64, .int .i64, .int .i64, .int .i64, .int .i64, .int .i64, .int .i64, .int .i64, .int .i64, .int .i64, .int .i64, .int .i64, .int .i64, .int .i64, .int .i64, .bool, .sl [.int .i64, .int .i64, .int .i64, .int .i64, .int .i64, .int .i64, .bool], .int .i64, .int .i64], e)]] [.sc (.int .i64)] fun o => o = [.int (findR (fun i => decide ((e.fld 0).toI ≤ ((a.elem i).fld 0).toI)) a.toL.length)] := fun a =>
    L116.idx_pc a 115 [([.int .i64, .int .i64, .int .i64, .int .i64, .int .i64, .int .i64, .int .i64, .int .i64, .int .i64, .int .i64, .int .i64, .int .i64, .int .i64, .int .i64, .int .i64, .int .i64, .int .i64, .int .i64, .bool, .sl [.int .i64, .int .i64, .int .i64, .int .i64, .int .i64, .int .i64, .bool], .int .i64, .int .i64], e)] (fun x => decide ((e.fld 0).toI ≤ (x.fld 0).toI)) fun x => pc_115 x e
  apply says_den (φ := (phi_52 d e))
  simp [e_e_19, E_e_19, e_d, e_e, E_d, tree_52, T.says, X.den, O1.den, O2.den, O3.den, callD, XArg.ev, XArg.dat, Callee'.num, backs, DArg.back, Conds.den, cloArgs, phi_52, pd_17, pd_31, pd_53, pd_65, pd_87, pd_115, pd_116, h, he]
  intro _
  have hfin : ∀ T : D, insT d e = T → (0 ≤ effAt d (e.fld 0).toI ∨ tableOk T = false → (insOk d e = true → d = insT d e) ∧ insOk d e = false) ∧ (effAt d (e.fld 0).toI < 0 → tableOk T = true → (T = if insOk d e = true then insT d e else d) ∧ insOk d e = true) := fun T hT => by
    refine ⟨fun hc => ?_, fun hc1 hc2 => ?_⟩
    · have : insOk d e = false := by
        rw [insOk, hT]
        rcases hc with hc | hc
        · simp; omega
        · simp [hc]
      exact ⟨fun hh => by (rw [this] at hh; cases hh), this⟩
    · have : insOk d e = true := by
        rw [insOk, hT, hc2]
        simpa using hc1
      exact ⟨by rw [if_pos this, hT], this⟩
  refine ⟨hx d, fun _ => ⟨fun hneg _ _ _ => ?_, fun hpos _ _ => ?_⟩⟩
  · rw [if_pos hneg] at hi
    have hil : insAt d (e.fld 0).toI = d.toL.length := by omega
    have hT : insT d e = .lst (d.toL ++ [e]) := by simp [insT, hil]
    exact ⟨(pc_116 d (.int d.toL.length) (.lst [e]) (by simp) (by simp) (by simp; omega)).mono fun o ho => by (rw [ho]; simp), fun _ _ => hfin _ hT⟩
  · rw [if_neg (by omega)] at hi
    rw [hi]
    simp only [Int.toNat_natCast]
    exact ⟨(pc_116 d (.int (insAt d (e.fld 0).toI)) (.lst [e]) (by simp; exact hle) (by simp) (by simp; omega)).mono fun o ho => by (rw [ho]; simp), fun _ _ => hfin _ rfl⟩
theorem pd_52 (d e : D) (h : smallE d) (he : ((e.fld 19).toL.length : Int) ≤ 1048576) (Q : List D → Prop) (ho : Q [(if insOk d e then insT d e else d), .bool (insOk d e)]) : PC Try.prog 52 [.sc (.sl [(.int .i64), (.int .i64), (.int .i64), (.int .i64), (.int .i64), (.int .i64), (.int .i64), (.int .i64), (.int .i64), (.int .i64), (.int .i64), (.int .i64), (.int .i64), (.int .i64), (.int .i64), (.int .i64), (.int .i64), (.int .i64), .bool, (.sl [(.int .i64), (.int .i64), (.int .i64), (.int .i64), (.int .i64), (.int .i64), .bool]), (.int .i64), (.int .i64)]) d, .st [(.int .i64), (.int .i64), (.int .i64), (.int .i64), (.int .i64), (.int .i64), (.int .i64), (.int .i64), (.int .i64), (.int .i64), (.int .i64), (.int .i64), (.int .i64), (.int .i64), (.int .i64), (.int .i64), (.int .i64), (.int .i64), .bool, (.sl [(.int .i64), (.int .i64), (.int .i64), (.int .i64), (.int .i64), (.int .i64), .bool]), (.int .i64), (.int .i64)] e] [.sc (.sl [(.int .i64), (.int .i64), (.int .i64), (.int .i64), (.int .i64), (.int .i64), (.int .i64), (.int .i64), (.int .i64), (.int .i64), (.int .i64), (.int .i64), (.int .i64), (.int .i64), (.int .i64), (.int .i64), (.int .i64), (.int .i64), .bool, (.sl [(.int .i64), (.int .i64), (.int .i64), (.int .i64), (.int .i64), (.int .i64), .bool]), (.int .i64), (.int .i64)]), .sc .bool] Q := (pc_52 d e h he).mono fun _ h => h ▸ ho
end Go.Proofs.Ytfbahdalemajcaa
