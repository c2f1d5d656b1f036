/- The contracts of the functions that this claim reaches: what each hands back, for all data. -/
import Derived.Test.YtfbahdalemajcaaT
import Derived.Test.YtfbahdalemajcaaS
import Derived.Deep.LoopGhost
import Derived.Deep.RegionLaw
import Derived.Lib.SliceRun
import Derived.Lib.Walk
import Derived.ProofKit
import Derived.Shelf.RegionOpenPlain
import Derived.WalkKit
namespace Go.Proofs.Ytfbahdalemajcaa
open Go.Proofs.Ytfbahdalemajcaa.Eng
set_option maxRecDepth 100000
set_option maxHeartbeats 2000000
set_option linter.unusedSimpArgs false
set_option linter.unusedVariables false
/- laws.szEventS -/
theorem pc_118 (d n : D) (hn : 0 ≤ n.toI) : PC Try.prog 118 [.sc (.sl [(.int .i64), (.int .i64), (.int .i64), (.int .i64), (.int .i64), (.int .i64), .bool]) d, .sc (.int .i64) n] [.sc (.int .i64)] fun o => o = [.int (szS n.toI d.toL.length)] := by
  refine PC.of_sig mix sig_118 ⟨rfl, rfl, trivial⟩ rfl fun hok => ?_
  have e_d := sl_eta (hok _ (.head _))
  have l_d := sl_len (hok _ (.head _))
  have k_d := sl_all (hok _ (.head _))
  have E_d : ∀ i, i < d.toL.length → D.lst [(d.elem i).fld 0, (d.elem i).fld 1, (d.elem i).fld 2, (d.elem i).fld 3, (d.elem i).fld 4, (d.elem i).fld 5, (d.elem i).fld 6] = d.elem i := fun i hi => by simpa [List.range, List.range.loop] using okL_eta (k_d _ (elem_mem hi))
  have e_n := int_eta (hok _ (.tail _ (.head _)))
  have b_n := int_range (hok _ (.tail _ (.head _)))
  have hw : IntKind.i64.wrap (n.toI - d.toL.length) = n.toI - d.toL.length := by (first | omega | (simp only [IntKind.wrap_i64, maxL] at *; omega) | (simp [IntKind.wrap_i64, maxL] at *; omega))
  apply says_den (φ := fun _ _ => [])
  simp [e_d, e_n, E_d, tree_118, T.says, X.den, O1.den, O2.den, O3.den, callD, XArg.ev, XArg.dat, Callee'.num, backs, DArg.back, Conds.den, cloArgs, hw, szS]
  all_goals grind
theorem pd_118 (d n : D) (hn : 0 ≤ n.toI) (Q : List D → Prop) (ho : Q [.int (szS n.toI d.toL.length)]) : PC Try.prog 118 [.sc (.sl [(.int .i64), (.int .i64), (.int .i64), (.int .i64), (.int .i64), (.int .i64), .bool]) d, .sc (.int .i64) n] [.sc (.int .i64)] Q := (pc_118 d n hn).mono fun _ h => h ▸ ho
/- laws.szAct -/
def phi_58 : Nat → List D → List D
  | 118, [d, n] => [.int (szS n.toI d.toL.length)]
  | _, _ => []
theorem pc_58 (d n : D) (hn : 0 ≤ n.toI) : PC Try.prog 58 [.st [(.int .i64), (.int .i64), (.int .i64), (.int .i64), (.int .i64), .bool, (.sl [(.int .i64), (.int .i64), (.int .i64), (.int .i64), (.int .i64), (.int .i64), .bool])] d, .sc (.int .i64) n] [.sc (.int .i64)] fun o => o = [.int (szS n.toI (d.fld 6).toL.length)] := by
  refine PC.of_sig mix sig_58 ⟨rfl, rfl, trivial⟩ rfl fun hok => ?_
  have e_d : D.lst [d.fld 0, d.fld 1, d.fld 2, d.fld 3, d.fld 4, d.fld 5, d.fld 6] = d := by simpa [List.range, List.range.loop] using okL_eta (hok _ (.head _))
  have k_d : okL [(.int .i64), (.int .i64), (.int .i64), (.int .i64), (.int .i64), .bool, (.sl [(.int .i64), (.int .i64), (.int .i64), (.int .i64), (.int .i64), (.int .i64), .bool])] d := (hok _ (.head _))
  have e_d_6 : D.lst (d.fld 6).toL = d.fld 6 := sl_eta (okL_at k_d (i := 6) rfl)
  have l_d_6 := sl_len (okL_at k_d (i := 6) rfl)
  have k_d_6 := sl_all (okL_at k_d (i := 6) rfl)
  have E_d_6 : ∀ i, i < (d.fld 6).toL.length → D.lst [((d.fld 6).elem i).fld 0, ((d.fld 6).elem i).fld 1, ((d.fld 6).elem i).fld 2, ((d.fld 6).elem i).fld 3, ((d.fld 6).elem i).fld 4, ((d.fld 6).elem i).fld 5, ((d.fld 6).elem i).fld 6] = (d.fld 6).elem i := fun i hi => by simpa [List.range, List.range.loop] using okL_eta (k_d_6 _ (elem_mem hi))
  have e_n := int_eta (hok _ (.tail _ (.head _)))
  have b_n := int_range (hok _ (.tail _ (.head _)))
  apply says_den (φ := (phi_58))
  simp [e_d_6, E_d_6, e_d, e_n, tree_58, T.says, X.den, O1.den, O2.den, O3.den, callD, XArg.ev, XArg.dat, Callee'.num, backs, DArg.back, Conds.den, cloArgs, phi_58, pd_118]
  (repeat' (first | (with_reducible apply And.intro) | intro _)) <;> first | (first | assumption | (exact pd_118 _ _ (by first | (with_reducible assumption) | omega | assumption | (simp; done) | (simp; omega) | (simp [*]; done) | exact smallE_of (n := 1048576) (by omega) (by omega) | (simp [*] at *; omega) | grind [szS]) _ (by first | rfl | simp | (simp; omega))) | (first | omega | (simp only [IntKind.wrap_i64, maxL] at *; omega) | (simp [IntKind.wrap_i64, maxL] at *; omega)) | rfl | contradiction | grind) | grind [szS]
theorem pd_58 (d n : D) (hn : 0 ≤ n.toI) (Q : List D → Prop) (ho : Q [.int (szS n.toI (d.fld 6).toL.length)]) : PC Try.prog 58 [.st [(.int .i64), (.int .i64), (.int .i64), (.int .i64), (.int .i64), .bool, (.sl [(.int .i64), (.int .i64), (.int .i64), (.int .i64), (.int .i64), (.int .i64), .bool])] d, .sc (.int .i64) n] [.sc (.int .i64)] Q := (pc_58 d n hn).mono fun _ h => h ▸ ho
/- laws.szEffect -/
def phi_21 : Nat → List D → List D
  | 58, [d, n] => [.int (szS n.toI (d.fld 6).toL.length)]
  | _, _ => []
theorem pc_21 (d n : D) (hn : 0 ≤ n.toI) : PC Try.prog 21 [.st [(.int .i64), (.int .i64), (.int .i64), (.int .i64), (.int .i64), (.int .i64), (.int .i64), (.int .i64), (.int .i64), (.int .i64), (.int .i64), (.int .i64), (.int .i64), (.int .i64), (.int .i64), (.int .i64), (.int .i64), (.int .i64), .bool, (.sl [(.int .i64), (.int .i64), (.int .i64), (.int .i64), (.int .i64), (.int .i64), .bool]), (.int .i64), (.int .i64)] d, .sc (.int .i64) n] [.sc (.int .i64)] fun o => o = [.int (szS n.toI (d.fld 19).toL.length)] := by
  refine PC.of_sig mix sig_21 ⟨rfl, rfl, trivial⟩ rfl fun hok => ?_
  have e_d : D.lst [d.fld 0, d.fld 1, d.fld 2, d.fld 3, d.fld 4, d.fld 5, d.fld 6, d.fld 7, d.fld 8, d.fld 9, d.fld 10, d.fld 11, d.fld 12, d.fld 13, d.fld 14, d.fld 15, d.fld 16, d.fld 17, d.fld 18, d.fld 19, d.fld 20, d.fld 21] = d := by simpa [List.range, List.range.loop] using okL_eta (hok _ (.head _))
  have k_d : okL [(.int .i64), (.int .i64), (.int .i64), (.int .i64), (.int .i64), (.int .i64), (.int .i64), (.int .i64), (.int .i64), (.int .i64), (.int .i64), (.int .i64), (.int .i64), (.int .i64), (.int .i64), (.int .i64), (.int .i64), (.int .i64), .bool, (.sl [(.int .i64), (.int .i64), (.int .i64), (.int .i64), (.int .i64), (.int .i64), .bool]), (.int .i64), (.int .i64)] d := (hok _ (.head _))
  have e_d_19 : D.lst (d.fld 19).toL = d.fld 19 := sl_eta (okL_at k_d (i := 19) rfl)
  have l_d_19 := sl_len (okL_at k_d (i := 19) rfl)
  have k_d_19 := sl_all (okL_at k_d (i := 19) rfl)
  have E_d_19 : ∀ i, i < (d.fld 19).toL.length → D.lst [((d.fld 19).elem i).fld 0, ((d.fld 19).elem i).fld 1, ((d.fld 19).elem i).fld 2, ((d.fld 19).elem i).fld 3, ((d.fld 19).elem i).fld 4, ((d.fld 19).elem i).fld 5, ((d.fld 19).elem i).fld 6] = (d.fld 19).elem i := fun i hi => by simpa [List.range, List.range.loop] using okL_eta (k_d_19 _ (elem_mem hi))
  have e_n := int_eta (hok _ (.tail _ (.head _)))
  have b_n := int_range (hok _ (.tail _ (.head _)))
  apply says_den (φ := (phi_21))
  simp [e_d_19, E_d_19, e_d, e_n, tree_21, T.says, X.den, O1.den, O2.den, O3.den, callD, XArg.ev, XArg.dat, Callee'.num, backs, DArg.back, Conds.den, cloArgs, phi_21, pd_58]
  (repeat' (first | (with_reducible apply And.intro) | intro _)) <;> first | (first | assumption | (exact pd_58 _ _ (by first | (with_reducible assumption) | omega | assumption | (simp; done) | (simp; omega) | (simp [*]; done) | exact smallE_of (n := 1048576) (by omega) (by omega) | (simp [*] at *; omega) | grind [szS]) _ (by first | rfl | simp | (simp; omega))) | (first | omega | (simp only [IntKind.wrap_i64, maxL] at *; omega) | (simp [IntKind.wrap_i64, maxL] at *; omega)) | rfl | contradiction | grind) | grind [szS]
theorem pd_21 (d n : D) (hn : 0 ≤ n.toI) (Q : List D → Prop) (ho : Q [.int (szS n.toI (d.fld 19).toL.length)]) : PC Try.prog 21 [.st [(.int .i64), (.int .i64), (.int .i64), (.int .i64), (.int .i64), (.int .i64), (.int .i64), (.int .i64), (.int .i64), (.int .i64), (.int .i64), (.int .i64), (.int .i64), (.int .i64), (.int .i64), (.int .i64), (.int .i64), (.int .i64), .bool, (.sl [(.int .i64), (.int .i64), (.int .i64), (.int .i64), (.int .i64), (.int .i64), .bool]), (.int .i64), (.int .i64)] d, .sc (.int .i64) n] [.sc (.int .i64)] Q := (pc_21 d n hn).mono fun _ h => h ▸ ho
/- laws.toPat -/
theorem pc_62 (d : D) : PC Try.prog 62 [.st [(.int .i64), (.int .i64), (.int .i64), (.int .i64), (.int .i64), (.int .i64), (.int .i64)] d] [.st [(.int .i64), (.int .i64), (.int .i64), (.int .i64), (.int .i64), (.int .i64), (.int .i64)]] fun o => o = [d] := by
  refine PC.of_sig mix sig_62 ⟨rfl, trivial⟩ rfl fun hok => ?_
  have e_d : D.lst [d.fld 0, d.fld 1, d.fld 2, d.fld 3, d.fld 4, d.fld 5, d.fld 6] = d := by simpa [List.range, List.range.loop] using okL_eta (hok _ (.head _))
  have k_d : okL [(.int .i64), (.int .i64), (.int .i64), (.int .i64), (.int .i64), (.int .i64), (.int .i64)] d := (hok _ (.head _))
  apply says_den (φ := fun _ _ => [])
  simp [e_d, tree_62, T.says, X.den, O1.den, O2.den, O3.den, callD, XArg.ev, XArg.dat, Callee'.num, backs, DArg.back, Conds.den, cloArgs]
theorem pd_62 (d : D) (Q : List D → Prop) (ho : Q [d]) : PC Try.prog 62 [.st [(.int .i64), (.int .i64), (.int .i64), (.int .i64), (.int .i64), (.int .i64), (.int .i64)] d] [.st [(.int .i64), (.int .i64), (.int .i64), (.int .i64), (.int .i64), (.int .i64), (.int .i64)]] Q := (pc_62 d).mono fun _ h => h ▸ ho
/- laws.toGuard -/
theorem pc_63 (d : D) : PC Try.prog 63 [.st [(.int .i64), (.int .i64)] d] [.st [(.int .i64), (.int .i64)]] fun o => o = [d] := by
  refine PC.of_sig mix sig_63 ⟨rfl, trivial⟩ rfl fun hok => ?_
  have e_d : D.lst [d.fld 0, d.fld 1] = d := by simpa [List.range, List.range.loop] using okL_eta (hok _ (.head _))
  have k_d : okL [(.int .i64), (.int .i64)] d := (hok _ (.head _))
  apply says_den (φ := fun _ _ => [])
  simp [e_d, tree_63, T.says, X.den, O1.den, O2.den, O3.den, callD, XArg.ev, XArg.dat, Callee'.num, backs, DArg.back, Conds.den, cloArgs]
theorem pd_63 (d : D) (Q : List D → Prop) (ho : Q [d]) : PC Try.prog 63 [.st [(.int .i64), (.int .i64)] d] [.st [(.int .i64), (.int .i64)]] Q := (pc_63 d).mono fun _ h => h ▸ ho
/- laws.toEvent -/
theorem pc_41 (d : D) : PC Try.prog 41 [.st [(.int .i64), (.int .i64), (.int .i64), (.int .i64), (.int .i64), (.int .i64), .bool] d] [.st [(.int .i64), (.int .i64), (.int .i64), (.int .i64), (.int .i64), (.int .i64), .bool]] fun o => o = [d] := by
  refine PC.of_sig mix sig_41 ⟨rfl, trivial⟩ rfl fun hok => ?_
  have e_d : D.lst [d.fld 0, d.fld 1, d.fld 2, d.fld 3, d.fld 4, d.fld 5, d.fld 6] = d := by simpa [List.range, List.range.loop] using okL_eta (hok _ (.head _))
  have k_d : okL [(.int .i64), (.int .i64), (.int .i64), (.int .i64), (.int .i64), (.int .i64), .bool] d := (hok _ (.head _))
  apply says_den (φ := fun _ _ => [])
  simp [e_d, tree_41, T.says, X.den, O1.den, O2.den, O3.den, callD, XArg.ev, XArg.dat, Callee'.num, backs, DArg.back, Conds.den, cloArgs]
theorem pd_41 (d : D) (Q : List D → Prop) (ho : Q [d]) : PC Try.prog 41 [.st [(.int .i64), (.int .i64), (.int .i64), (.int .i64), (.int .i64), (.int .i64), .bool] d] [.st [(.int .i64), (.int .i64), (.int .i64), (.int .i64), (.int .i64), (.int .i64), .bool]] Q := (pc_41 d).mono fun _ h => h ▸ ho
/- laws.toEventS -/
def phi_121 : Nat → List D → List D
  | 41, [d] => [d]
  | _, _ => []
theorem pc_121 (d : D) (h : (d.toL.length : Int) ≤ 1048576) : PC Try.prog 121 [.sc (.sl [(.int .i64), (.int .i64), (.int .i64), (.int .i64), (.int .i64), (.int .i64), .bool]) d] [.sc (.sl [(.int .i64), (.int .i64), (.int .i64), (.int .i64), (.int .i64), (.int .i64), .bool])] fun o => o = [d] := by
  refine PC.of_sig mix sig_121 ⟨rfl, trivial⟩ rfl fun hok => ?_
  have e_d := sl_eta (hok _ (.head _))
  have l_d := sl_len (hok _ (.head _))
  have k_d := sl_all (hok _ (.head _))
  have E_d : ∀ i, i < d.toL.length → D.lst [(d.elem i).fld 0, (d.elem i).fld 1, (d.elem i).fld 2, (d.elem i).fld 3, (d.elem i).fld 4, (d.elem i).fld 5, (d.elem i).fld 6] = d.elem i := fun i hi => by simpa [List.range, List.range.loop] using okL_eta (k_d _ (elem_mem hi))
  apply says_den (φ := (phi_121))
  simp [e_d, E_d, tree_121, T.says, X.den, O1.den, O2.den, O3.den, callD, XArg.ev, XArg.dat, Callee'.num, backs, DArg.back, Conds.den, cloArgs, phi_121, pd_41] at h ⊢
  refine fun _ => ⟨by omega, ?_⟩
  refine den_for d.toL.length 0 (fun i => [.int i, .lst (d.toL.take i ++ List.replicate (d.toL.length - i) (.lst [.int 0, .int 0, .int 0, .int 0, .int 0, .int 0, .bool false]))]) (fun _ => True) (by simp) (by simp [X.den, O1.den, O2.den]) trivial fun i hi _ => ?_
  apply says_den (φ := (phi_121))
  by_cases hlt : i < d.toL.length
  · simp [e_d, E_d, tree_121, T.says, X.den, O1.den, O2.den, O3.den, callD, XArg.ev, XArg.dat, Callee'.num, backs, DArg.back, Conds.den, cloArgs, phi_121, pd_41, hlt]
    (repeat' (first | (with_reducible apply And.intro) | intro _)) <;> first | (exact copy_step hlt rfl) | (exact copy_step hlt (eta1 (k_d _ (elem_mem hlt)))) | (first | assumption | (exact pd_41 _ _ (by first | rfl | simp | (simp; omega))) | (first | omega | (simp only [IntKind.wrap_i64, maxL] at *; omega) | (simp [IntKind.wrap_i64, maxL] at *; omega)) | rfl | contradiction | grind)
  · simp [e_d, E_d, tree_121, T.says, X.den, O1.den, O2.den, O3.den, callD, XArg.ev, XArg.dat, Callee'.num, backs, DArg.back, Conds.den, cloArgs, phi_121, pd_41, hlt]
    (repeat' (first | (with_reducible apply And.intro) | intro _)) <;> first | (rw [copy_end (by omega), e_d]) | (first | assumption | (exact pd_41 _ _ (by first | rfl | simp | (simp; omega))) | (first | omega | (simp only [IntKind.wrap_i64, maxL] at *; omega) | (simp [IntKind.wrap_i64, maxL] at *; omega)) | rfl | contradiction | grind)
theorem pd_121 (d : D) (h : (d.toL.length : Int) ≤ 1048576) (Q : List D → Prop) (ho : Q [d]) : PC Try.prog 121 [.sc (.sl [(.int .i64), (.int .i64), (.int .i64), (.int .i64), (.int .i64), (.int .i64), .bool]) d] [.sc (.sl [(.int .i64), (.int .i64), (.int .i64), (.int .i64), (.int .i64), (.int .i64), .bool])] Q := (pc_121 d h).mono fun _ h => h ▸ ho
/- laws.toAct -/
def phi_64 : Nat → List D → List D
  | 121, [d] => [d]
  | _, _ => []
theorem pc_64 (d : D) (h : ((d.fld 6).toL.length : Int) ≤ 1048576) : PC Try.prog 64 [.st [(.int .i64), (.int .i64), (.int .i64), (.int .i64), (.int .i64), .bool, (.sl [(.int .i64), (.int .i64), (.int .i64), (.int .i64), (.int .i64), (.int .i64), .bool])] d] [.st [(.int .i64), (.int .i64), (.int .i64), (.int .i64), (.int .i64), .bool, (.sl [(.int .i64), (.int .i64), (.int .i64), (.int .i64), (.int .i64), (.int .i64), .bool])]] fun o => o = [d] := by
  refine PC.of_sig mix sig_64 ⟨rfl, trivial⟩ rfl fun hok => ?_
  have e_d : D.lst [d.fld 0, d.fld 1, d.fld 2, d.fld 3, d.fld 4, d.fld 5, d.fld 6] = d := by simpa [List.range, List.range.loop] using okL_eta (hok _ (.head _))
  have k_d : okL [(.int .i64), (.int .i64), (.int .i64), (.int .i64), (.int .i64), .bool, (.sl [(.int .i64), (.int .i64), (.int .i64), (.int .i64), (.int .i64), (.int .i64), .bool])] d := (hok _ (.head _))
  have e_d_6 : D.lst (d.fld 6).toL = d.fld 6 := sl_eta (okL_at k_d (i := 6) rfl)
  have l_d_6 := sl_len (okL_at k_d (i := 6) rfl)
  have k_d_6 := sl_all (okL_at k_d (i := 6) rfl)
  have E_d_6 : ∀ i, i < (d.fld 6).toL.length → D.lst [((d.fld 6).elem i).fld 0, ((d.fld 6).elem i).fld 1, ((d.fld 6).elem i).fld 2, ((d.fld 6).elem i).fld 3, ((d.fld 6).elem i).fld 4, ((d.fld 6).elem i).fld 5, ((d.fld 6).elem i).fld 6] = (d.fld 6).elem i := fun i hi => by simpa [List.range, List.range.loop] using okL_eta (k_d_6 _ (elem_mem hi))
  apply says_den (φ := (phi_64))
  simp [e_d_6, E_d_6, e_d, tree_64, T.says, X.den, O1.den, O2.den, O3.den, callD, XArg.ev, XArg.dat, Callee'.num, backs, DArg.back, Conds.den, cloArgs, phi_64, pd_121]
  (repeat' (first | (with_reducible apply And.intro) | intro _)) <;> (first | assumption | (exact pd_121 _ (by first | (with_reducible assumption) | omega | assumption | (simp; done) | (simp; omega) | (simp [*]; done) | exact smallE_of (n := 1048576) (by omega) (by omega) | (simp [*] at *; omega) | grind [szS]) _ (by first | rfl | simp | (simp; omega))) | (first | omega | (simp only [IntKind.wrap_i64, maxL] at *; omega) | (simp [IntKind.wrap_i64, maxL] at *; omega)) | rfl | contradiction | grind)
theorem pd_64 (d : D) (h : ((d.fld 6).toL.length : Int) ≤ 1048576) (Q : List D → Prop) (ho : Q [d]) : PC Try.prog 64 [.st [(.int .i64), (.int .i64), (.int .i64), (.int .i64), (.int .i64), .bool, (.sl [(.int .i64), (.int .i64), (.int .i64), (.int .i64), (.int .i64), (.int .i64), .bool])] d] [.st [(.int .i64), (.int .i64), (.int .i64), (.int .i64), (.int .i64), .bool, (.sl [(.int .i64), (.int .i64), (.int .i64), (.int .i64), (.int .i64), (.int .i64), .bool])]] Q := (pc_64 d h).mono fun _ h => h ▸ ho
/- laws.toEffect -/
def phi_23 : Nat → List D → List D
  | 62, [d] => [d]
  | 63, [d] => [d]
  | 64, [d] => [d]
  | _, _ => []
theorem pc_23 (d : D) (h : ((d.fld 19).toL.length : Int) ≤ 1048576) : PC Try.prog 23 [.st [(.int .i64), (.int .i64), (.int .i64), (.int .i64), (.int .i64), (.int .i64), (.int .i64), (.int .i64), (.int .i64), (.int .i64), (.int .i64), (.int .i64), (.int .i64), (.int .i64), (.int .i64), (.int .i64), (.int .i64), (.int .i64), .bool, (.sl [(.int .i64), (.int .i64), (.int .i64), (.int .i64), (.int .i64), (.int .i64), .bool]), (.int .i64), (.int .i64)] d] [.st [(.int .i64), (.int .i64), (.int .i64), (.int .i64), (.int .i64), (.int .i64), (.int .i64), (.int .i64), (.int .i64), (.int .i64), (.int .i64), (.int .i64), (.int .i64), (.int .i64), (.int .i64), (.int .i64), (.int .i64), (.int .i64), .bool, (.sl [(.int .i64), (.int .i64), (.int .i64), (.int .i64), (.int .i64), (.int .i64), .bool]), (.int .i64), (.int .i64)]] fun o => o = [d] := by
  refine PC.of_sig mix sig_23 ⟨rfl, trivial⟩ rfl fun hok => ?_
  have e_d : D.lst [d.fld 0, d.fld 1, d.fld 2, d.fld 3, d.fld 4, d.fld 5, d.fld 6, d.fld 7, d.fld 8, d.fld 9, d.fld 10, d.fld 11, d.fld 12, d.fld 13, d.fld 14, d.fld 15, d.fld 16, d.fld 17, d.fld 18, d.fld 19, d.fld 20, d.fld 21] = d := by simpa [List.range, List.range.loop] using okL_eta (hok _ (.head _))
  have k_d : okL [(.int .i64), (.int .i64), (.int .i64), (.int .i64), (.int .i64), (.int .i64), (.int .i64), (.int .i64), (.int .i64), (.int .i64), (.int .i64), (.int .i64), (.int .i64), (.int .i64), (.int .i64), (.int .i64), (.int .i64), (.int .i64), .bool, (.sl [(.int .i64), (.int .i64), (.int .i64), (.int .i64), (.int .i64), (.int .i64), .bool]), (.int .i64), (.int .i64)] d := (hok _ (.head _))
  have e_d_19 : D.lst (d.fld 19).toL = d.fld 19 := sl_eta (okL_at k_d (i := 19) rfl)
  have l_d_19 := sl_len (okL_at k_d (i := 19) rfl)
  have k_d_19 := sl_all (okL_at k_d (i := 19) rfl)
  have E_d_19 : ∀ i, i < (d.fld 19).toL.length → D.lst [((d.fld 19).elem i).fld 0, ((d.fld 19).elem i).fld 1, ((d.fld 19).elem i).fld 2, ((d.fld 19).elem i).fld 3, ((d.fld 19).elem i).fld 4, ((d.fld 19).elem i).fld 5, ((d.fld 19).elem i).fld 6] = (d.fld 19).elem i := fun i hi => by simpa [List.range, List.range.loop] using okL_eta (k_d_19 _ (elem_mem hi))
  apply says_den (φ := (phi_23))
  simp [e_d_19, E_d_19, e_d, tree_23, T.says, X.den, O1.den, O2.den, O3.den, callD, XArg.ev, XArg.dat, Callee'.num, backs, DArg.back, Conds.den, cloArgs, phi_23, pd_62, pd_63, pd_64]
  (repeat' (first | (with_reducible apply And.intro) | intro _)) <;> (first | assumption | (exact pd_62 _ _ (by first | rfl | simp | (simp; omega))) | (exact pd_63 _ _ (by first | rfl | simp | (simp; omega))) | (exact pd_64 _ (by first | (with_reducible assumption) | omega | assumption | (simp; done) | (simp; omega) | (simp [*]; done) | exact smallE_of (n := 1048576) (by omega) (by omega) | (simp [*] at *; omega) | grind [szS]) _ (by first | rfl | simp | (simp; omega))) | (first | omega | (simp only [IntKind.wrap_i64, maxL] at *; omega) | (simp [IntKind.wrap_i64, maxL] at *; omega)) | rfl | contradiction | grind)
theorem pd_23 (d : D) (h : ((d.fld 19).toL.length : Int) ≤ 1048576) (Q : List D → Prop) (ho : Q [d]) : PC Try.prog 23 [.st [(.int .i64), (.int .i64), (.int .i64), (.int .i64), (.int .i64), (.int .i64), (.int .i64), (.int .i64), (.int .i64), (.int .i64), (.int .i64), (.int .i64), (.int .i64), (.int .i64), (.int .i64), (.int .i64), (.int .i64), (.int .i64), .bool, (.sl [(.int .i64), (.int .i64), (.int .i64), (.int .i64), (.int .i64), (.int .i64), .bool]), (.int .i64), (.int .i64)] d] [.st [(.int .i64), (.int .i64), (.int .i64), (.int .i64), (.int .i64), (.int .i64), (.int .i64), (.int .i64), (.int .i64), (.int .i64), (.int .i64), (.int .i64), (.int .i64), (.int .i64), (.int .i64), (.int .i64), (.int .i64), (.int .i64), .bool, (.sl [(.int .i64), (.int .i64), (.int .i64), (.int .i64), (.int .i64), (.int .i64), .bool]), (.int .i64), (.int .i64)]] Q := (pc_23 d h).mono fun _ h => h ▸ ho
/- laws.eqPat -/
theorem pc_68 (d e : D) (h : d = e) : PC Try.prog 68 [.st [(.int .i64), (.int .i64), (.int .i64), (.int .i64), (.int .i64), (.int .i64), (.int .i64)] d, .st [(.int .i64), (.int .i64), (.int .i64), (.int .i64), (.int .i64), (.int .i64), (.int .i64)] e] [.sc .bool] fun o => o = [.bool true] := by
  refine PC.of_sig mix sig_68 ⟨rfl, rfl, trivial⟩ rfl fun hok => ?_
  have e_d : D.lst [d.fld 0, d.fld 1, d.fld 2, d.fld 3, d.fld 4, d.fld 5, d.fld 6] = d := by simpa [List.range, List.range.loop] using okL_eta (hok _ (.head _))
  have k_d : okL [(.int .i64), (.int .i64), (.int .i64), (.int .i64), (.int .i64), (.int .i64), (.int .i64)] d := (hok _ (.head _))
  have e_e : D.lst [e.fld 0, e.fld 1, e.fld 2, e.fld 3, e.fld 4, e.fld 5, e.fld 6] = e := by simpa [List.range, List.range.loop] using okL_eta (hok _ (.tail _ (.head _)))
  have k_e : okL [(.int .i64), (.int .i64), (.int .i64), (.int .i64), (.int .i64), (.int .i64), (.int .i64)] e := (hok _ (.tail _ (.head _)))
  subst h
  apply says_den (φ := fun _ _ => [])
  simp [e_d, e_e, tree_68, T.says, X.den, O1.den, O2.den, O3.den, callD, XArg.ev, XArg.dat, Callee'.num, backs, DArg.back, Conds.den, cloArgs]
theorem pd_68 (d e : D) (h : d = e) (Q : List D → Prop) (ho : Q [.bool true]) : PC Try.prog 68 [.st [(.int .i64), (.int .i64), (.int .i64), (.int .i64), (.int .i64), (.int .i64), (.int .i64)] d, .st [(.int .i64), (.int .i64), (.int .i64), (.int .i64), (.int .i64), (.int .i64), (.int .i64)] e] [.sc .bool] Q := (pc_68 d e h).mono fun _ h => h ▸ ho
/- laws.eqGuard -/
theorem pc_69 (d e : D) (h : d = e) : PC Try.prog 69 [.st [(.int .i64), (.int .i64)] d, .st [(.int .i64), (.int .i64)] e] [.sc .bool] fun o => o = [.bool true] := by
  refine PC.of_sig mix sig_69 ⟨rfl, rfl, trivial⟩ rfl fun hok => ?_
  have e_d : D.lst [d.fld 0, d.fld 1] = d := by simpa [List.range, List.range.loop] using okL_eta (hok _ (.head _))
  have k_d : okL [(.int .i64), (.int .i64)] d := (hok _ (.head _))
  have e_e : D.lst [e.fld 0, e.fld 1] = e := by simpa [List.range, List.range.loop] using okL_eta (hok _ (.tail _ (.head _)))
  have k_e : okL [(.int .i64), (.int .i64)] e := (hok _ (.tail _ (.head _)))
  subst h
  apply says_den (φ := fun _ _ => [])
  simp [e_d, e_e, tree_69, T.says, X.den, O1.den, O2.den, O3.den, callD, XArg.ev, XArg.dat, Callee'.num, backs, DArg.back, Conds.den, cloArgs]
theorem pd_69 (d e : D) (h : d = e) (Q : List D → Prop) (ho : Q [.bool true]) : PC Try.prog 69 [.st [(.int .i64), (.int .i64)] d, .st [(.int .i64), (.int .i64)] e] [.sc .bool] Q := (pc_69 d e h).mono fun _ h => h ▸ ho
/- laws.eqEvent -/
theorem pc_102 (d e : D) (h : d = e) : PC Try.prog 102 [.st [(.int .i64), (.int .i64), (.int .i64), (.int .i64), (.int .i64), (.int .i64), .bool] d, .st [(.int .i64), (.int .i64), (.int .i64), (.int .i64), (.int .i64), (.int .i64), .bool] e] [.sc .bool] fun o => o = [.bool true] := by
  refine PC.of_sig mix sig_102 ⟨rfl, rfl, trivial⟩ rfl fun hok => ?_
  have e_d : D.lst [d.fld 0, d.fld 1, d.fld 2, d.fld 3, d.fld 4, d.fld 5, d.fld 6] = d := by simpa [List.range, List.range.loop] using okL_eta (hok _ (.head _))
  have k_d : okL [(.int .i64), (.int .i64), (.int .i64), (.int .i64), (.int .i64), (.int .i64), .bool] d := (hok _ (.head _))
  have e_e : D.lst [e.fld 0, e.fld 1, e.fld 2, e.fld 3, e.fld 4, e.fld 5, e.fld 6] = e := by simpa [List.range, List.range.loop] using okL_eta (hok _ (.tail _ (.head _)))
  have k_e : okL [(.int .i64), (.int .i64), (.int .i64), (.int .i64), (.int .i64), (.int .i64), .bool] e := (hok _ (.tail _ (.head _)))
  subst h
  apply says_den (φ := fun _ _ => [])
  simp [e_d, e_e, tree_102, T.says, X.den, O1.den, O2.den, O3.den, callD, XArg.ev, XArg.dat, Callee'.num, backs, DArg.back, Conds.den, cloArgs]
theorem pd_102 (d e : D) (h : d = e) (Q : List D → Prop) (ho : Q [.bool true]) : PC Try.prog 102 [.st [(.int .i64), (.int .i64), (.int .i64), (.int .i64), (.int .i64), (.int .i64), .bool] d, .st [(.int .i64), (.int .i64), (.int .i64), (.int .i64), (.int .i64), (.int .i64), .bool] e] [.sc .bool] Q := (pc_102 d e h).mono fun _ h => h ▸ ho
/- laws.eqEventS -/
def phi_43 : Nat → List D → List D
  | 102, [d, e] => [.bool true]
  | _, _ => []
theorem pc_43 (d e : D) (h : d = e) : PC Try.prog 43 [.sc (.sl [(.int .i64), (.int .i64), (.int .i64), (.int .i64), (.int .i64), (.int .i64), .bool]) d, .sc (.sl [(.int .i64), (.int .i64), (.int .i64), (.int .i64), (.int .i64), (.int .i64), .bool]) e] [.sc .bool] fun o => o = [.bool true] := by
  refine PC.of_sig mix sig_43 ⟨rfl, rfl, trivial⟩ rfl fun hok => ?_
  have e_d := sl_eta (hok _ (.head _))
  have l_d := sl_len (hok _ (.head _))
  have k_d := sl_all (hok _ (.head _))
  have E_d : ∀ i, i < d.toL.length → D.lst [(d.elem i).fld 0, (d.elem i).fld 1, (d.elem i).fld 2, (d.elem i).fld 3, (d.elem i).fld 4, (d.elem i).fld 5, (d.elem i).fld 6] = d.elem i := fun i hi => by simpa [List.range, List.range.loop] using okL_eta (k_d _ (elem_mem hi))
  have e_e := sl_eta (hok _ (.tail _ (.head _)))
  have l_e := sl_len (hok _ (.tail _ (.head _)))
  have k_e := sl_all (hok _ (.tail _ (.head _)))
  have E_e : ∀ i, i < e.toL.length → D.lst [(e.elem i).fld 0, (e.elem i).fld 1, (e.elem i).fld 2, (e.elem i).fld 3, (e.elem i).fld 4, (e.elem i).fld 5, (e.elem i).fld 6] = e.elem i := fun i hi => by simpa [List.range, List.range.loop] using okL_eta (k_e _ (elem_mem hi))
  subst h
  apply says_den (φ := (phi_43))
  simp [e_d, e_e, E_d, E_e, tree_43, T.says, X.den, O1.den, O2.den, O3.den, callD, XArg.ev, XArg.dat, Callee'.num, backs, DArg.back, Conds.den, cloArgs, phi_43, pd_102]
  refine fun _ => ?_
  refine den_for d.toL.length 0 (fun i => [.int i]) (fun _ => True) (by simp) (by simp [X.den]) trivial fun i hi _ => ?_
  apply says_den (φ := (phi_43))
  simp [e_d, e_e, E_d, E_e, tree_43, T.says, X.den, O1.den, O2.den, O3.den, callD, XArg.ev, XArg.dat, Callee'.num, backs, DArg.back, Conds.den, cloArgs, phi_43, pd_102]
  (repeat' (first | (with_reducible apply And.intro) | intro _)) <;> (first | omega | (simp only [IntKind.wrap_i64, maxL] at *; omega) | (simp [IntKind.wrap_i64, maxL] at *; omega))
theorem pd_43 (d e : D) (h : d = e) (Q : List D → Prop) (ho : Q [.bool true]) : PC Try.prog 43 [.sc (.sl [(.int .i64), (.int .i64), (.int .i64), (.int .i64), (.int .i64), (.int .i64), .bool]) d, .sc (.sl [(.int .i64), (.int .i64), (.int .i64), (.int .i64), (.int .i64), (.int .i64), .bool]) e] [.sc .bool] Q := (pc_43 d e h).mono fun _ h => h ▸ ho
/- laws.eqAct -/
def phi_70 : Nat → List D → List D
  | 43, [d, e] => [.bool true]
  | _, _ => []
theorem pc_70 (d e : D) (h : d = e) : PC Try.prog 70 [.st [(.int .i64), (.int .i64), (.int .i64), (.int .i64), (.int .i64), .bool, (.sl [(.int .i64), (.int .i64), (.int .i64), (.int .i64), (.int .i64), (.int .i64), .bool])] d, .st [(.int .i64), (.int .i64), (.int .i64), (.int .i64), (.int .i64), .bool, (.sl [(.int .i64), (.int .i64), (.int .i64), (.int .i64), (.int .i64), (.int .i64), .bool])] e] [.sc .bool] fun o => o = [.bool true] := by
  refine PC.of_sig mix sig_70 ⟨rfl, rfl, trivial⟩ rfl fun hok => ?_
  have e_d : D.lst [d.fld 0, d.fld 1, d.fld 2, d.fld 3, d.fld 4, d.fld 5, d.fld 6] = d := by simpa [List.range, List.range.loop] using okL_eta (hok _ (.head _))
  have k_d : okL [(.int .i64), (.int .i64), (.int .i64), (.int .i64), (.int .i64), .bool, (.sl [(.int .i64), (.int .i64), (.int .i64), (.int .i64), (.int .i64), (.int .i64), .bool])] d := (hok _ (.head _))
  have e_d_6 : D.lst (d.fld 6).toL = d.fld 6 := sl_eta (okL_at k_d (i := 6) rfl)
  have l_d_6 := sl_len (okL_at k_d (i := 6) rfl)
  have k_d_6 := sl_all (okL_at k_d (i := 6) rfl)
  have E_d_6 : ∀ i, i < (d.fld 6).toL.length → D.lst [((d.fld 6).elem i).fld 0, ((d.fld 6).elem i).fld 1, ((d.fld 6).elem i).fld 2, ((d.fld 6).elem i).fld 3, ((d.fld 6).elem i).fld 4, ((d.fld 6).elem i).fld 5, ((d.fld 6).elem i).fld 6] = (d.fld 6).elem i := fun i hi => by simpa [List.range, List.range.loop] using okL_eta (k_d_6 _ (elem_mem hi))
  have e_e : D.lst [e.fld 0, e.fld 1, e.fld 2, e.fld 3, e.fld 4, e.fld 5, e.fld 6] = e := by simpa [List.range, List.range.loop] using okL_eta (hok _ (.tail _ (.head _)))
  have k_e : okL [(.int .i64), (.int .i64), (.int .i64), (.int .i64), (.int .i64), .bool, (.sl [(.int .i64), (.int .i64), (.int .i64), (.int .i64), (.int .i64), (.int .i64), .bool])] e := (hok _ (.tail _ (.head _)))
  have e_e_6 : D.lst (e.fld 6).toL = e.fld 6 := sl_eta (okL_at k_e (i := 6) rfl)
  have l_e_6 := sl_len (okL_at k_e (i := 6) rfl)
  have k_e_6 := sl_all (okL_at k_e (i := 6) rfl)
  have E_e_6 : ∀ i, i < (e.fld 6).toL.length → D.lst [((e.fld 6).elem i).fld 0, ((e.fld 6).elem i).fld 1, ((e.fld 6).elem i).fld 2, ((e.fld 6).elem i).fld 3, ((e.fld 6).elem i).fld 4, ((e.fld 6).elem i).fld 5, ((e.fld 6).elem i).fld 6] = (e.fld 6).elem i := fun i hi => by simpa [List.range, List.range.loop] using okL_eta (k_e_6 _ (elem_mem hi))
  subst h
  apply says_den (φ := (phi_70))
  simp [e_d_6, E_d_6, e_e_6, E_e_6, e_d, e_e, tree_70, T.says, X.den, O1.den, O2.den, O3.den, callD, XArg.ev, XArg.dat, Callee'.num, backs, DArg.back, Conds.den, cloArgs, phi_70, pd_43]
theorem pd_70 (d e : D) (h : d = e) (Q : List D → Prop) (ho : Q [.bool true]) : PC Try.prog 70 [.st [(.int .i64), (.int .i64), (.int .i64), (.int .i64), (.int .i64), .bool, (.sl [(.int .i64), (.int .i64), (.int .i64), (.int .i64), (.int .i64), (.int .i64), .bool])] d, .st [(.int .i64), (.int .i64), (.int .i64), (.int .i64), (.int .i64), .bool, (.sl [(.int .i64), (.int .i64), (.int .i64), (.int .i64), (.int .i64), (.int .i64), .bool])] e] [.sc .bool] Q := (pc_70 d e h).mono fun _ h => h ▸ ho
/- laws.eqEffect -/
def phi_25 : Nat → List D → List D
  | 68, [d, e] => [.bool true]
  | 69, [d, e] => [.bool true]
  | 70, [d, e] => [.bool true]
  | _, _ => []
theorem pc_25 (d e : D) (h : d = e) : PC Try.prog 25 [.st [(.int .i64), (.int .i64), (.int .i64), (.int .i64), (.int .i64), (.int .i64), (.int .i64), (.int .i64), (.int .i64), (.int .i64), (.int .i64), (.int .i64), (.int .i64), (.int .i64), (.int .i64), (.int .i64), (.int .i64), (.int .i64), .bool, (.sl [(.int .i64), (.int .i64), (.int .i64), (.int .i64), (.int .i64), (.int .i64), .bool]), (.int .i64), (.int .i64)] d, .st [(.int .i64), (.int .i64), (.int .i64), (.int .i64), (.int .i64), (.int .i64), (.int .i64), (.int .i64), (.int .i64), (.int .i64), (.int .i64), (.int .i64), (.int .i64), (.int .i64), (.int .i64), (.int .i64), (.int .i64), (.int .i64), .bool, (.sl [(.int .i64), (.int .i64), (.int .i64), (.int .i64), (.int .i64), (.int .i64), .bool]), (.int .i64), (.int .i64)] e] [.sc .bool] fun o => o = [.bool true] := by
  refine PC.of_sig mix sig_25 ⟨rfl, rfl, trivial⟩ rfl fun hok => ?_
  have e_d : D.lst [d.fld 0, d.fld 1, d.fld 2, d.fld 3, d.fld 4, d.fld 5, d.fld 6, d.fld 7, d.fld 8, d.fld 9, d.fld 10, d.fld 11, d.fld 12, d.fld 13, d.fld 14, d.fld 15, d.fld 16, d.fld 17, d.fld 18, d.fld 19, d.fld 20, d.fld 21] = d := by simpa [List.range, List.range.loop] using okL_eta (hok _ (.head _))
  have k_d : okL [(.int .i64), (.int .i64), (.int .i64), (.int .i64), (.int .i64), (.int .i64), (.int .i64), (.int .i64), (.int .i64), (.int .i64), (.int .i64), (.int .i64), (.int .i64), (.int .i64), (.int .i64), (.int .i64), (.int .i64), (.int .i64), .bool, (.sl [(.int .i64), (.int .i64), (.int .i64), (.int .i64), (.int .i64), (.int .i64), .bool]), (.int .i64), (.int .i64)] d := (hok _ (.head _))
  have e_d_19 : D.lst (d.fld 19).toL = d.fld 19 := sl_eta (okL_at k_d (i := 19) rfl)
  have l_d_19 := sl_len (okL_at k_d (i := 19) rfl)
  have k_d_19 := sl_all (okL_at k_d (i := 19) rfl)
  have E_d_19 : ∀ i, i < (d.fld 19).toL.length → D.lst [((d.fld 19).elem i).fld 0, ((d.fld 19).elem i).fld 1, ((d.fld 19).elem i).fld 2, ((d.fld 19).elem i).fld 3, ((d.fld 19).elem i).fld 4, ((d.fld 19).elem i).fld 5, ((d.fld 19).elem i).fld 6] = (d.fld 19).elem i := fun i hi => by simpa [List.range, List.range.loop] using okL_eta (k_d_19 _ (elem_mem hi))
  have e_e : D.lst [e.fld 0, e.fld 1, e.fld 2, e.fld 3, e.fld 4, e.fld 5, e.fld 6, e.fld 7, e.fld 8, e.fld 9, e.fld 10, e.fld 11, e.fld 12, e.fld 13, e.fld 14, e.fld 15, e.fld 16, e.fld 17, e.fld 18, e.fld 19, e.fld 20, e.fld 21] = e := by simpa [List.range, List.range.loop] using okL_eta (hok _ (.tail _ (.head _)))
  have k_e : okL [(.int .i64), (.int .i64), (.int .i64), (.int .i64), (.int .i64), (.int .i64), (.int .i64), (.int .i64), (.int .i64), (.int .i64), (.int .i64), (.int .i64), (.int .i64), (.int .i64), (.int .i64), (.int .i64), (.int .i64), (.int .i64), .bool, (.sl [(.int .i64), (.int .i64), (.int .i64), (.int .i64), (.int .i64), (.int .i64), .bool]), (.int .i64), (.int .i64)] e := (hok _ (.tail _ (.head _)))
  have e_e_19 : D.lst (e.fld 19).toL = e.fld 19 := sl_eta (okL_at k_e (i := 19) rfl)
  have l_e_19 := sl_len (okL_at k_e (i := 19) rfl)
  have k_e_19 := sl_all (okL_at k_e (i := 19) rfl)
  have E_e_19 : ∀ i, i < (e.fld 19).toL.length → D.lst [((e.fld 19).elem i).fld 0, ((e.fld 19).elem i).fld 1, ((e.fld 19).elem i).fld 2, ((e.fld 19).elem i).fld 3, ((e.fld 19).elem i).fld 4, ((e.fld 19).elem i).fld 5, ((e.fld 19).elem i).fld 6] = (e.fld 19).elem i := fun i hi => by simpa [List.range, List.range.loop] using okL_eta (k_e_19 _ (elem_mem hi))
  subst h
  apply says_den (φ := (phi_25))
  simp [e_d_19, E_d_19, e_e_19, E_e_19, e_d, e_e, tree_25, T.says, X.den, O1.den, O2.den, O3.den, callD, XArg.ev, XArg.dat, Callee'.num, backs, DArg.back, Conds.den, cloArgs, phi_25, pd_68, pd_69, pd_70]
theorem pd_25 (d e : D) (h : d = e) (Q : List D → Prop) (ho : Q [.bool true]) : PC Try.prog 25 [.st [(.int .i64), (.int .i64), (.int .i64), (.int .i64), (.int .i64), (.int .i64), (.int .i64), (.int .i64), (.int .i64), (.int .i64), (.int .i64), (.int .i64), (.int .i64), (.int .i64), (.int .i64), (.int .i64), (.int .i64), (.int .i64), .bool, (.sl [(.int .i64), (.int .i64), (.int .i64), (.int .i64), (.int .i64), (.int .i64), .bool]), (.int .i64), (.int .i64)] d, .st [(.int .i64), (.int .i64), (.int .i64), (.int .i64), (.int .i64), (.int .i64), (.int .i64), (.int .i64), (.int .i64), (.int .i64), (.int .i64), (.int .i64), (.int .i64), (.int .i64), (.int .i64), (.int .i64), (.int .i64), (.int .i64), .bool, (.sl [(.int .i64), (.int .i64), (.int .i64), (.int .i64), (.int .i64), (.int .i64), .bool]), (.int .i64), (.int .i64)] e] [.sc .bool] Q := (pc_25 d e h).mono fun _ h => h ▸ ho
/- laws.markEventS -/
theorem pc_44 (d n : D) (h : (d.toL.length : Int) ≤ 1048576) (hn : 0 ≤ n.toI ∧ n.toI ≤ 1125899906842624) : PC Try.prog 44 [.row [(.int .i64), (.int .i64), (.int .i64), (.int .i64), (.int .i64), (.int .i64), .bool] d, .sc (.int .i64) n] [.sc (.int .i64)] fun o => o = [.int (n.toI + 7 * d.toL.length), .lst (markedE n.toI d.toL.length)] := by
  refine PC.of_sig mix sig_44 ⟨rfl, rfl, trivial⟩ rfl fun hok => ?_
  have e_d := sl_eta (hok _ (.head _))
  have l_d := sl_len (hok _ (.head _))
  have k_d := sl_all (hok _ (.head _))
  have E_d : ∀ i, i < d.toL.length → D.lst [(d.elem i).fld 0, (d.elem i).fld 1, (d.elem i).fld 2, (d.elem i).fld 3, (d.elem i).fld 4, (d.elem i).fld 5, (d.elem i).fld 6] = d.elem i := fun i hi => by simpa [List.range, List.range.loop] using okL_eta (k_d _ (elem_mem hi))
  have e_n := int_eta (hok _ (.tail _ (.head _)))
  have b_n := int_range (hok _ (.tail _ (.head _)))
  apply says_den (φ := fun _ _ => [])
  simp [e_d, e_n, E_d, tree_44, T.says, X.den, O1.den, O2.den, O3.den, callD, XArg.ev, XArg.dat, Callee'.num, backs, DArg.back, Conds.den, cloArgs] at h ⊢
  refine den_for d.toL.length 1 (fun i => [.int (n.toI + 7 * i), .int i, .lst (markedE n.toI i ++ d.toL.drop i)]) (fun _ => True) (by simp) (by simp [X.den, e_n, e_d, markedE]) trivial fun i hi _ => ?_
  apply says_den (φ := fun _ _ => [])
  by_cases hlt : i < d.toL.length
  · have hT : (d.elem i).toL = [(d.elem i).fld 0, (d.elem i).fld 1, (d.elem i).fld 2, (d.elem i).fld 3, (d.elem i).fld 4, (d.elem i).fld 5, (d.elem i).fld 6] := by
      have := E_d i hlt
      rw [← this]; rfl
    have hM := elem_mark (n := n.toI) hlt
    have hS := fun x => elem_mark_set (n := n.toI) (x := x) hlt
    have hw : ∀ m : Int, 0 ≤ m → m ≤ 2000000000000000 → IntKind.i64.wrap m = m := fun m h1 h2 => by rw [IntKind.wrap_i64]; omega
    have w1 := hw (n.toI + 7 * i + 1) (by omega) (by omega)
    have w2 := hw (n.toI + 7 * i + 2) (by omega) (by omega)
    have w3 := hw (n.toI + 7 * i + 3) (by omega) (by omega)
    have w4 := hw (n.toI + 7 * i + 4) (by omega) (by omega)
    have w5 := hw (n.toI + 7 * i + 5) (by omega) (by omega)
    have w6 := hw (n.toI + 7 * i + 6) (by omega) (by omega)
    have w7 := hw (n.toI + 7 * i + 7) (by omega) (by omega)
    have wi := hw (i + 1) (by omega) (by omega)
    have s2 : n.toI + 7 * (i : Int) + 1 + 1 = n.toI + 7 * i + 2 := by omega
    have s3 : n.toI + 7 * (i : Int) + 2 + 1 = n.toI + 7 * i + 3 := by omega
    have s4 : n.toI + 7 * (i : Int) + 3 + 1 = n.toI + 7 * i + 4 := by omega
    have s5 : n.toI + 7 * (i : Int) + 4 + 1 = n.toI + 7 * i + 5 := by omega
    have s6 : n.toI + 7 * (i : Int) + 5 + 1 = n.toI + 7 * i + 6 := by omega
    have s7 : n.toI + 7 * (i : Int) + 6 + 1 = n.toI + 7 * i + 7 := by omega
    simp [e_d, e_n, E_d, tree_44, T.says, X.den, O1.den, O2.den, O3.den, callD, XArg.ev, XArg.dat, Callee'.num, backs, DArg.back, Conds.den, cloArgs, hlt, hM, hT, hS, w1, w2, w3, w4, w5, w6, w7, wi, s2, s3, s4, s5, s6, s7]
    (repeat' (first | (with_reducible apply And.intro) | intro _)) <;> first | omega | (rw [← markE_step hlt, evMark]) | skip
  · simp [e_d, e_n, E_d, tree_44, T.says, X.den, O1.den, O2.den, O3.den, callD, XArg.ev, XArg.dat, Callee'.num, backs, DArg.back, Conds.den, cloArgs, hlt]
    (repeat' (first | (with_reducible apply And.intro) | intro _)) <;> first | omega | (rw [show i = d.toL.length by omega]; simp) | skip
theorem pd_44 (d n : D) (h : (d.toL.length : Int) ≤ 1048576) (hn : 0 ≤ n.toI ∧ n.toI ≤ 1125899906842624) (Q : List D → Prop) (ho : Q [.int (n.toI + 7 * d.toL.length), .lst (markedE n.toI d.toL.length)]) : PC Try.prog 44 [.row [(.int .i64), (.int .i64), (.int .i64), (.int .i64), (.int .i64), (.int .i64), .bool] d, .sc (.int .i64) n] [.sc (.int .i64)] Q := (pc_44 d n h hn).mono fun _ h => h ▸ ho
/- laws.markAct -/
def phi_71 : Nat → List D → List D
  | 44, [d, n] => [.int (n.toI + 7 * d.toL.length), .lst (markedE n.toI d.toL.length)]
  | _, _ => []
theorem pc_71 (d n : D) (h : ((d.fld 6).toL.length : Int) ≤ 1048576) (hn : 0 ≤ n.toI ∧ n.toI ≤ 1125899906842624) : PC Try.prog 71 [.stw [(.int .i64), (.int .i64), (.int .i64), (.int .i64), (.int .i64), .bool, (.sl [(.int .i64), (.int .i64), (.int .i64), (.int .i64), (.int .i64), (.int .i64), .bool])] d, .sc (.int .i64) n] [.sc (.int .i64)] fun o => o = [.int (n.toI + 7 * (d.fld 6).toL.length), .lst [d.fld 0, d.fld 1, d.fld 2, d.fld 3, d.fld 4, d.fld 5, .lst (markedE n.toI (d.fld 6).toL.length)]] := by
  refine PC.of_sig mix sig_71 ⟨⟨rfl, by decide⟩, rfl, trivial⟩ rfl fun hok => ?_
  have e_d : D.lst [d.fld 0, d.fld 1, d.fld 2, d.fld 3, d.fld 4, d.fld 5, d.fld 6] = d := by simpa [List.range, List.range.loop] using okL_eta (hok _ (.head _))
  have k_d : okL [(.int .i64), (.int .i64), (.int .i64), (.int .i64), (.int .i64), .bool, (.sl [(.int .i64), (.int .i64), (.int .i64), (.int .i64), (.int .i64), (.int .i64), .bool])] d := (hok _ (.head _))
  have e_d_6 : D.lst (d.fld 6).toL = d.fld 6 := sl_eta (okL_at k_d (i := 6) rfl)
  have l_d_6 := sl_len (okL_at k_d (i := 6) rfl)
  have k_d_6 := sl_all (okL_at k_d (i := 6) rfl)
  have E_d_6 : ∀ i, i < (d.fld 6).toL.length → D.lst [((d.fld 6).elem i).fld 0, ((d.fld 6).elem i).fld 1, ((d.fld 6).elem i).fld 2, ((d.fld 6).elem i).fld 3, ((d.fld 6).elem i).fld 4, ((d.fld 6).elem i).fld 5, ((d.fld 6).elem i).fld 6] = (d.fld 6).elem i := fun i hi => by simpa [List.range, List.range.loop] using okL_eta (k_d_6 _ (elem_mem hi))
  have e_n := int_eta (hok _ (.tail _ (.head _)))
  have b_n := int_range (hok _ (.tail _ (.head _)))
  apply says_den (φ := (phi_71))
  simp [e_d_6, E_d_6, e_d, e_n, tree_71, T.says, X.den, O1.den, O2.den, O3.den, callD, XArg.ev, XArg.dat, Callee'.num, backs, DArg.back, Conds.den, cloArgs, phi_71, pd_44, h, hn]
  all_goals ((repeat' (first | (with_reducible apply And.intro) | intro _)) <;> (first | assumption | (exact pd_44 _ _ (by first | (with_reducible assumption) | omega | assumption | (simp; done) | (simp; omega) | (simp [*]; done) | exact smallE_of (n := 1048576) (by omega) (by omega) | (simp [*] at *; omega) | grind [szS]) (by first | (with_reducible assumption) | omega | assumption | (simp; done) | (simp; omega) | (simp [*]; done) | exact smallE_of (n := 1048576) (by omega) (by omega) | (simp [*] at *; omega) | grind [szS]) _ (by first | rfl | simp | (simp; omega))) | (first | omega | (simp only [IntKind.wrap_i64, maxL] at *; omega) | (simp [IntKind.wrap_i64, maxL] at *; omega)) | rfl | contradiction | grind))
theorem pd_71 (d n : D) (h : ((d.fld 6).toL.length : Int) ≤ 1048576) (hn : 0 ≤ n.toI ∧ n.toI ≤ 1125899906842624) (Q : List D → Prop) (ho : Q [.int (n.toI + 7 * (d.fld 6).toL.length), .lst [d.fld 0, d.fld 1, d.fld 2, d.fld 3, d.fld 4, d.fld 5, .lst (markedE n.toI (d.fld 6).toL.length)]]) : PC Try.prog 71 [.stw [(.int .i64), (.int .i64), (.int .i64), (.int .i64), (.int .i64), .bool, (.sl [(.int .i64), (.int .i64), (.int .i64), (.int .i64), (.int .i64), (.int .i64), .bool])] d, .sc (.int .i64) n] [.sc (.int .i64)] Q := (pc_71 d n h hn).mono fun _ h => h ▸ ho
/- laws.markEffect -/
def phi_26 : Nat → List D → List D
  | 71, [d, n] => [.int (n.toI + 7 * (d.fld 6).toL.length), .lst [d.fld 0, d.fld 1, d.fld 2, d.fld 3, d.fld 4, d.fld 5, .lst (markedE n.toI (d.fld 6).toL.length)]]
  | _, _ => []
theorem pc_26 (d n : D) (h : ((d.fld 19).toL.length : Int) ≤ 1048576) (hn : 0 ≤ n.toI ∧ n.toI ≤ 1125899906842624) : PC Try.prog 26 [.stw [(.int .i64), (.int .i64), (.int .i64), (.int .i64), (.int .i64), (.int .i64), (.int .i64), (.int .i64), (.int .i64), (.int .i64), (.int .i64), (.int .i64), (.int .i64), (.int .i64), (.int .i64), (.int .i64), (.int .i64), (.int .i64), .bool, (.sl [(.int .i64), (.int .i64), (.int .i64), (.int .i64), (.int .i64), (.int .i64), .bool]), (.int .i64), (.int .i64)] d, .sc (.int .i64) n] [.sc (.int .i64)] fun o => o = [.int (n.toI + 7 * (d.fld 19).toL.length), withL d (.lst (markedE n.toI (d.fld 19).toL.length))] := by
  refine PC.of_sig mix sig_26 ⟨⟨rfl, by decide⟩, rfl, trivial⟩ rfl fun hok => ?_
  have e_d : D.lst [d.fld 0, d.fld 1, d.fld 2, d.fld 3, d.fld 4, d.fld 5, d.fld 6, d.fld 7, d.fld 8, d.fld 9, d.fld 10, d.fld 11, d.fld 12, d.fld 13, d.fld 14, d.fld 15, d.fld 16, d.fld 17, d.fld 18, d.fld 19, d.fld 20, d.fld 21] = d := by simpa [List.range, List.range.loop] using okL_eta (hok _ (.head _))
  have k_d : okL [(.int .i64), (.int .i64), (.int .i64), (.int .i64), (.int .i64), (.int .i64), (.int .i64), (.int .i64), (.int .i64), (.int .i64), (.int .i64), (.int .i64), (.int .i64), (.int .i64), (.int .i64), (.int .i64), (.int .i64), (.int .i64), .bool, (.sl [(.int .i64), (.int .i64), (.int .i64), (.int .i64), (.int .i64), (.int .i64), .bool]), (.int .i64), (.int .i64)] d := (hok _ (.head _))
  have e_d_19 : D.lst (d.fld 19).toL = d.fld 19 := sl_eta (okL_at k_d (i := 19) rfl)
  have l_d_19 := sl_len (okL_at k_d (i := 19) rfl)
  have k_d_19 := sl_all (okL_at k_d (i := 19) rfl)
  have E_d_19 : ∀ i, i < (d.fld 19).toL.length → D.lst [((d.fld 19).elem i).fld 0, ((d.fld 19).elem i).fld 1, ((d.fld 19).elem i).fld 2, ((d.fld 19).elem i).fld 3, ((d.fld 19).elem i).fld 4, ((d.fld 19).elem i).fld 5, ((d.fld 19).elem i).fld 6] = (d.fld 19).elem i := fun i hi => by simpa [List.range, List.range.loop] using okL_eta (k_d_19 _ (elem_mem hi))
  have e_n := int_eta (hok _ (.tail _ (.head _)))
  have b_n := int_range (hok _ (.tail _ (.head _)))
  apply says_den (φ := (phi_26))
  simp [e_d_19, E_d_19, e_d, e_n, tree_26, T.says, X.den, O1.den, O2.den, O3.den, callD, XArg.ev, XArg.dat, Callee'.num, backs, DArg.back, Conds.den, cloArgs, phi_26, pd_71, h, hn, withL]
  all_goals ((repeat' (first | (with_reducible apply And.intro) | intro _)) <;> (first | assumption | (exact pd_71 _ _ (by first | (with_reducible assumption) | omega | assumption | (simp; done) | (simp; omega) | (simp [*]; done) | exact smallE_of (n := 1048576) (by omega) (by omega) | (simp [*] at *; omega) | grind [szS]) (by first | (with_reducible assumption) | omega | assumption | (simp; done) | (simp; omega) | (simp [*]; done) | exact smallE_of (n := 1048576) (by omega) (by omega) | (simp [*] at *; omega) | grind [szS]) _ (by first | rfl | simp | (simp; omega))) | (first | omega | (simp only [IntKind.wrap_i64, maxL] at *; omega) | (simp [IntKind.wrap_i64, maxL] at *; omega)) | rfl | contradiction | grind))
theorem pd_26 (d n : D) (h : ((d.fld 19).toL.length : Int) ≤ 1048576) (hn : 0 ≤ n.toI ∧ n.toI ≤ 1125899906842624) (Q : List D → Prop) (ho : Q [.int (n.toI + 7 * (d.fld 19).toL.length), withL d (.lst (markedE n.toI (d.fld 19).toL.length))]) : PC Try.prog 26 [.stw [(.int .i64), (.int .i64), (.int .i64), (.int .i64), (.int .i64), (.int .i64), (.int .i64), (.int .i64), (.int .i64), (.int .i64), (.int .i64), (.int .i64), (.int .i64), (.int .i64), (.int .i64), (.int .i64), (.int .i64), (.int .i64), .bool, (.sl [(.int .i64), (.int .i64), (.int .i64), (.int .i64), (.int .i64), (.int .i64), .bool]), (.int .i64), (.int .i64)] d, .sc (.int .i64) n] [.sc (.int .i64)] Q := (pc_26 d n h hn).mono fun _ h => h ▸ ho
/- laws.heldEventS -/
theorem pc_45 (d n : D) (h : (d.toL.length : Int) ≤ 1048576) (hn : 0 ≤ n.toI ∧ n.toI ≤ 1125899906842624) (hd : markedE n.toI d.toL.length = d.toL) : PC Try.prog 45 [.sc (.sl [(.int .i64), (.int .i64), (.int .i64), (.int .i64), (.int .i64), (.int .i64), .bool]) d, .sc (.int .i64) n] [.sc (.int .i64)] fun o => o = [.int (n.toI + 7 * d.toL.length)] := by
  refine PC.of_sig mix sig_45 ⟨rfl, rfl, trivial⟩ rfl fun hok => ?_
  have e_d := sl_eta (hok _ (.head _))
  have l_d := sl_len (hok _ (.head _))
  have k_d := sl_all (hok _ (.head _))
  have E_d : ∀ i, i < d.toL.length → D.lst [(d.elem i).fld 0, (d.elem i).fld 1, (d.elem i).fld 2, (d.elem i).fld 3, (d.elem i).fld 4, (d.elem i).fld 5, (d.elem i).fld 6] = d.elem i := fun i hi => by simpa [List.range, List.range.loop] using okL_eta (k_d _ (elem_mem hi))
  have e_n := int_eta (hok _ (.tail _ (.head _)))
  have b_n := int_range (hok _ (.tail _ (.head _)))
  apply says_den (φ := fun _ _ => [])
  simp [e_d, e_n, E_d, tree_45, T.says, X.den, O1.den, O2.den, O3.den, callD, XArg.ev, XArg.dat, Callee'.num, backs, DArg.back, Conds.den, cloArgs] at h ⊢
  refine den_for d.toL.length 1 (fun i => [.int (n.toI + 7 * i), .int i]) (fun _ => True) (by simp) (by simp [X.den, e_n]) trivial fun i hi _ => ?_
  apply says_den (φ := fun _ _ => [])
  by_cases hlt : i < d.toL.length
  · have hE := heldE_at hd hlt
    have hw : ∀ m : Int, 0 ≤ m → m ≤ 2000000000000000 → IntKind.i64.wrap m = m := fun m h1 h2 => by rw [IntKind.wrap_i64]; omega
    have w1 := hw (n.toI + 7 * i + 1) (by omega) (by omega)
    have w2 := hw (n.toI + 7 * i + 2) (by omega) (by omega)
    have w3 := hw (n.toI + 7 * i + 3) (by omega) (by omega)
    have w4 := hw (n.toI + 7 * i + 4) (by omega) (by omega)
    have w5 := hw (n.toI + 7 * i + 5) (by omega) (by omega)
    have w6 := hw (n.toI + 7 * i + 6) (by omega) (by omega)
    have w7 := hw (n.toI + 7 * i + 7) (by omega) (by omega)
    have wi := hw (i + 1) (by omega) (by omega)
    have s2 : n.toI + 7 * (i : Int) + 1 + 1 = n.toI + 7 * i + 2 := by omega
    have s3 : n.toI + 7 * (i : Int) + 2 + 1 = n.toI + 7 * i + 3 := by omega
    have s4 : n.toI + 7 * (i : Int) + 3 + 1 = n.toI + 7 * i + 4 := by omega
    have s5 : n.toI + 7 * (i : Int) + 4 + 1 = n.toI + 7 * i + 5 := by omega
    have s6 : n.toI + 7 * (i : Int) + 5 + 1 = n.toI + 7 * i + 6 := by omega
    have s7 : n.toI + 7 * (i : Int) + 6 + 1 = n.toI + 7 * i + 7 := by omega
    simp [e_d, e_n, E_d, tree_45, T.says, X.den, O1.den, O2.den, O3.den, callD, XArg.ev, XArg.dat, Callee'.num, backs, DArg.back, Conds.den, cloArgs, hlt, hE, evMark, w1, w2, w3, w4, w5, w6, w7, wi, s2, s3, s4, s5, s6, s7]
    (repeat' (first | (with_reducible apply And.intro) | intro _)) <;> first | omega | skip
  · simp [e_d, e_n, E_d, tree_45, T.says, X.den, O1.den, O2.den, O3.den, callD, XArg.ev, XArg.dat, Callee'.num, backs, DArg.back, Conds.den, cloArgs, hlt]
    (repeat' (first | (with_reducible apply And.intro) | intro _)) <;> first | omega | skip
theorem pd_45 (d n : D) (h : (d.toL.length : Int) ≤ 1048576) (hn : 0 ≤ n.toI ∧ n.toI ≤ 1125899906842624) (hd : markedE n.toI d.toL.length = d.toL) (Q : List D → Prop) (ho : Q [.int (n.toI + 7 * d.toL.length)]) : PC Try.prog 45 [.sc (.sl [(.int .i64), (.int .i64), (.int .i64), (.int .i64), (.int .i64), (.int .i64), .bool]) d, .sc (.int .i64) n] [.sc (.int .i64)] Q := (pc_45 d n h hn hd).mono fun _ h => h ▸ ho
/- laws.heldAct -/
def phi_72 : Nat → List D → List D
  | 45, [d, n] => [.int (n.toI + 7 * d.toL.length)]
  | _, _ => []
theorem pc_72 (d n : D) (h : ((d.fld 6).toL.length : Int) ≤ 1048576) (hn : 0 ≤ n.toI ∧ n.toI ≤ 1125899906842624) (hd : markedE n.toI (d.fld 6).toL.length = (d.fld 6).toL) : PC Try.prog 72 [.st [(.int .i64), (.int .i64), (.int .i64), (.int .i64), (.int .i64), .bool, (.sl [(.int .i64), (.int .i64), (.int .i64), (.int .i64), (.int .i64), (.int .i64), .bool])] d, .sc (.int .i64) n] [.sc (.int .i64)] fun o => o = [.int (n.toI + 7 * (d.fld 6).toL.length)] := by
  refine PC.of_sig mix sig_72 ⟨rfl, rfl, trivial⟩ rfl fun hok => ?_
  have e_d : D.lst [d.fld 0, d.fld 1, d.fld 2, d.fld 3, d.fld 4, d.fld 5, d.fld 6] = d := by simpa [List.range, List.range.loop] using okL_eta (hok _ (.head _))
  have k_d : okL [(.int .i64), (.int .i64), (.int .i64), (.int .i64), (.int .i64), .bool, (.sl [(.int .i64), (.int .i64), (.int .i64), (.int .i64), (.int .i64), (.int .i64), .bool])] d := (hok _ (.head _))
  have e_d_6 : D.lst (d.fld 6).toL = d.fld 6 := sl_eta (okL_at k_d (i := 6) rfl)
  have l_d_6 := sl_len (okL_at k_d (i := 6) rfl)
  have k_d_6 := sl_all (okL_at k_d (i := 6) rfl)
  have E_d_6 : ∀ i, i < (d.fld 6).toL.length → D.lst [((d.fld 6).elem i).fld 0, ((d.fld 6).elem i).fld 1, ((d.fld 6).elem i).fld 2, ((d.fld 6).elem i).fld 3, ((d.fld 6).elem i).fld 4, ((d.fld 6).elem i).fld 5, ((d.fld 6).elem i).fld 6] = (d.fld 6).elem i := fun i hi => by simpa [List.range, List.range.loop] using okL_eta (k_d_6 _ (elem_mem hi))
  have e_n := int_eta (hok _ (.tail _ (.head _)))
  have b_n := int_range (hok _ (.tail _ (.head _)))
  apply says_den (φ := (phi_72))
  simp [e_d_6, E_d_6, e_d, e_n, tree_72, T.says, X.den, O1.den, O2.den, O3.den, callD, XArg.ev, XArg.dat, Callee'.num, backs, DArg.back, Conds.den, cloArgs, phi_72, pd_45, h, hn, hd]
  all_goals ((repeat' (first | (with_reducible apply And.intro) | intro _)) <;> (first | assumption | (exact pd_45 _ _ (by first | (with_reducible assumption) | omega | assumption | (simp; done) | (simp; omega) | (simp [*]; done) | exact smallE_of (n := 1048576) (by omega) (by omega) | (simp [*] at *; omega) | grind [szS]) (by first | (with_reducible assumption) | omega | assumption | (simp; done) | (simp; omega) | (simp [*]; done) | exact smallE_of (n := 1048576) (by omega) (by omega) | (simp [*] at *; omega) | grind [szS]) (by first | (with_reducible assumption) | omega | assumption | (simp; done) | (simp; omega) | (simp [*]; done) | exact smallE_of (n := 1048576) (by omega) (by omega) | (simp [*] at *; omega) | grind [szS]) _ (by first | rfl | simp | (simp; omega))) | (first | omega | (simp only [IntKind.wrap_i64, maxL] at *; omega) | (simp [IntKind.wrap_i64, maxL] at *; omega)) | rfl | contradiction | grind))
theorem pd_72 (d n : D) (h : ((d.fld 6).toL.length : Int) ≤ 1048576) (hn : 0 ≤ n.toI ∧ n.toI ≤ 1125899906842624) (hd : markedE n.toI (d.fld 6).toL.length = (d.fld 6).toL) (Q : List D → Prop) (ho : Q [.int (n.toI + 7 * (d.fld 6).toL.length)]) : PC Try.prog 72 [.st [(.int .i64), (.int .i64), (.int .i64), (.int .i64), (.int .i64), .bool, (.sl [(.int .i64), (.int .i64), (.int .i64), (.int .i64), (.int .i64), (.int .i64), .bool])] d, .sc (.int .i64) n] [.sc (.int .i64)] Q := (pc_72 d n h hn hd).mono fun _ h => h ▸ ho
/- laws.heldEffect -/
def phi_27 : Nat → List D → List D
  | 72, [d, n] => [.int (n.toI + 7 * (d.fld 6).toL.length)]
  | _, _ => []
theorem pc_27 (d n : D) (h : ((d.fld 19).toL.length : Int) ≤ 1048576) (hn : 0 ≤ n.toI ∧ n.toI ≤ 1125899906842624) (hd : markedE n.toI (d.fld 19).toL.length = (d.fld 19).toL) : PC Try.prog 27 [.st [(.int .i64), (.int .i64), (.int .i64), (.int .i64), (.int .i64), (.int .i64), (.int .i64), (.int .i64), (.int .i64), (.int .i64), (.int .i64), (.int .i64), (.int .i64), (.int .i64), (.int .i64), (.int .i64), (.int .i64), (.int .i64), .bool, (.sl [(.int .i64), (.int .i64), (.int .i64), (.int .i64), (.int .i64), (.int .i64), .bool]), (.int .i64), (.int .i64)] d, .sc (.int .i64) n] [.sc (.int .i64)] fun o => o = [.int (n.toI + 7 * (d.fld 19).toL.length)] := by
  refine PC.of_sig mix sig_27 ⟨rfl, rfl, trivial⟩ rfl fun hok => ?_
  have e_d : D.lst [d.fld 0, d.fld 1, d.fld 2, d.fld 3, d.fld 4, d.fld 5, d.fld 6, d.fld 7, d.fld 8, d.fld 9, d.fld 10, d.fld 11, d.fld 12, d.fld 13, d.fld 14, d.fld 15, d.fld 16, d.fld 17, d.fld 18, d.fld 19, d.fld 20, d.fld 21] = d := by simpa [List.range, List.range.loop] using okL_eta (hok _ (.head _))
  have k_d : okL [(.int .i64), (.int .i64), (.int .i64), (.int .i64), (.int .i64), (.int .i64), (.int .i64), (.int .i64), (.int .i64), (.int .i64), (.int .i64), (.int .i64), (.int .i64), (.int .i64), (.int .i64), (.int .i64), (.int .i64), (.int .i64), .bool, (.sl [(.int .i64), (.int .i64), (.int .i64), (.int .i64), (.int .i64), (.int .i64), .bool]), (.int .i64), (.int .i64)] d := (hok _ (.head _))
  have e_d_19 : D.lst (d.fld 19).toL = d.fld 19 := sl_eta (okL_at k_d (i := 19) rfl)
  have l_d_19 := sl_len (okL_at k_d (i := 19) rfl)
  have k_d_19 := sl_all (okL_at k_d (i := 19) rfl)
  have E_d_19 : ∀ i, i < (d.fld 19).toL.length → D.lst [((d.fld 19).elem i).fld 0, ((d.fld 19).elem i).fld 1, ((d.fld 19).elem i).fld 2, ((d.fld 19).elem i).fld 3, ((d.fld 19).elem i).fld 4, ((d.fld 19).elem i).fld 5, ((d.fld 19).elem i).fld 6] = (d.fld 19).elem i := fun i hi => by simpa [List.range, List.range.loop] using okL_eta (k_d_19 _ (elem_mem hi))
  have e_n := int_eta (hok _ (.tail _ (.head _)))
  have b_n := int_range (hok _ (.tail _ (.head _)))
  apply says_den (φ := (phi_27))
  simp [e_d_19, E_d_19, e_d, e_n, tree_27, T.says, X.den, O1.den, O2.den, O3.den, callD, XArg.ev, XArg.dat, Callee'.num, backs, DArg.back, Conds.den, cloArgs, phi_27, pd_72, h, hn, hd]
  all_goals ((repeat' (first | (with_reducible apply And.intro) | intro _)) <;> (first | assumption | (exact pd_72 _ _ (by first | (with_reducible assumption) | omega | assumption | (simp; done) | (simp; omega) | (simp [*]; done) | exact smallE_of (n := 1048576) (by omega) (by omega) | (simp [*] at *; omega) | grind [szS]) (by first | (with_reducible assumption) | omega | assumption | (simp; done) | (simp; omega) | (simp [*]; done) | exact smallE_of (n := 1048576) (by omega) (by omega) | (simp [*] at *; omega) | grind [szS]) (by first | (with_reducible assumption) | omega | assumption | (simp; done) | (simp; omega) | (simp [*]; done) | exact smallE_of (n := 1048576) (by omega) (by omega) | (simp [*] at *; omega) | grind [szS]) _ (by first | rfl | simp | (simp; omega))) | (first | omega | (simp only [IntKind.wrap_i64, maxL] at *; omega) | (simp [IntKind.wrap_i64, maxL] at *; omega)) | rfl | contradiction | grind))
theorem pd_27 (d n : D) (h : ((d.fld 19).toL.length : Int) ≤ 1048576) (hn : 0 ≤ n.toI ∧ n.toI ≤ 1125899906842624) (hd : markedE n.toI (d.fld 19).toL.length = (d.fld 19).toL) (Q : List D → Prop) (ho : Q [.int (n.toI + 7 * (d.fld 19).toL.length)]) : PC Try.prog 27 [.st [(.int .i64), (.int .i64), (.int .i64), (.int .i64), (.int .i64), (.int .i64), (.int .i64), (.int .i64), (.int .i64), (.int .i64), (.int .i64), (.int .i64), (.int .i64), (.int .i64), (.int .i64), (.int .i64), (.int .i64), (.int .i64), .bool, (.sl [(.int .i64), (.int .i64), (.int .i64), (.int .i64), (.int .i64), (.int .i64), .bool]), (.int .i64), (.int .i64)] d, .sc (.int .i64) n] [.sc (.int .i64)] Q := (pc_27 d n h hn hd).mono fun _ h => h ▸ ho
/- spec.l9Copy -/
theorem pc_119 (a : D) (h : ((a.fld 6).toL.length : Int) ≤ 1048576) : PC Try.prog 119 [.st [(.int .i64), (.int .i64), (.int .i64), (.int .i64), (.int .i64), .bool, (.sl [(.int .i64), (.int .i64), (.int .i64), (.int .i64), (.int .i64), (.int .i64), .bool])] a] [.st [(.int .i64), (.int .i64), (.int .i64), (.int .i64), (.int .i64), .bool, (.sl [(.int .i64), (.int .i64), (.int .i64), (.int .i64), (.int .i64), (.int .i64), .bool])]] fun o => o = [a] := by
  refine PC.of_sig mix sig_119 ⟨rfl, trivial⟩ rfl fun hok => ?_
  have e_a : D.lst [a.fld 0, a.fld 1, a.fld 2, a.fld 3, a.fld 4, a.fld 5, a.fld 6] = a := by simpa [List.range, List.range.loop] using okL_eta (hok _ (.head _))
  have k_a : okL [(.int .i64), (.int .i64), (.int .i64), (.int .i64), (.int .i64), .bool, (.sl [(.int .i64), (.int .i64), (.int .i64), (.int .i64), (.int .i64), (.int .i64), .bool])] a := (hok _ (.head _))
  have e_a_6 : D.lst (a.fld 6).toL = a.fld 6 := sl_eta (okL_at k_a (i := 6) rfl)
  have l_a_6 := sl_len (okL_at k_a (i := 6) rfl)
  have k_a_6 := sl_all (okL_at k_a (i := 6) rfl)
  have E_a_6 : ∀ i, i < (a.fld 6).toL.length → D.lst [((a.fld 6).elem i).fld 0, ((a.fld 6).elem i).fld 1, ((a.fld 6).elem i).fld 2, ((a.fld 6).elem i).fld 3, ((a.fld 6).elem i).fld 4, ((a.fld 6).elem i).fld 5, ((a.fld 6).elem i).fld 6] = (a.fld 6).elem i := fun i hi => by simpa [List.range, List.range.loop] using okL_eta (k_a_6 _ (elem_mem hi))
  apply says_den (φ := fun _ _ => [])
  simp [e_a_6, E_a_6, e_a, tree_119, T.says, X.den, O1.den, O2.den, O3.den, callD, XArg.ev, XArg.dat, Callee'.num, backs, DArg.back, Conds.den, cloArgs]
  all_goals omega
theorem pd_119 (a : D) (h : ((a.fld 6).toL.length : Int) ≤ 1048576) (Q : List D → Prop) (ho : Q [a]) : PC Try.prog 119 [.st [(.int .i64), (.int .i64), (.int .i64), (.int .i64), (.int .i64), .bool, (.sl [(.int .i64), (.int .i64), (.int .i64), (.int .i64), (.int .i64), (.int .i64), .bool])] a] [.st [(.int .i64), (.int .i64), (.int .i64), (.int .i64), (.int .i64), .bool, (.sl [(.int .i64), (.int .i64), (.int .i64), (.int .i64), (.int .i64), (.int .i64), .bool])]] Q := (pc_119 a h).mono fun _ h => h ▸ ho
/- spec.l10Copy -/
def phi_59 : Nat → List D → List D
  | 119, [a] => [a]
  | _, _ => []
theorem pc_59 (e : D) (h : ((e.fld 19).toL.length : Int) ≤ 1048576) : PC Try.prog 59 [.st [(.int .i64), (.int .i64), (.int .i64), (.int .i64), (.int .i64), (.int .i64), (.int .i64), (.int .i64), (.int .i64), (.int .i64), (.int .i64), (.int .i64), (.int .i64), (.int .i64), (.int .i64), (.int .i64), (.int .i64), (.int .i64), .bool, (.sl [(.int .i64), (.int .i64), (.int .i64), (.int .i64), (.int .i64), (.int .i64), .bool]), (.int .i64), (.int .i64)] e] [.st [(.int .i64), (.int .i64), (.int .i64), (.int .i64), (.int .i64), (.int .i64), (.int .i64), (.int .i64), (.int .i64), (.int .i64), (.int .i64), (.int .i64), (.int .i64), (.int .i64), (.int .i64), (.int .i64), (.int .i64), (.int .i64), .bool, (.sl [(.int .i64), (.int .i64), (.int .i64), (.int .i64), (.int .i64), (.int .i64), .bool]), (.int .i64), (.int .i64)]] fun o => o = [e] := by
  refine PC.of_sig mix sig_59 ⟨rfl, trivial⟩ rfl fun hok => ?_
  have e_e : D.lst [e.fld 0, e.fld 1, e.fld 2, e.fld 3, e.fld 4, e.fld 5, e.fld 6, e.fld 7, e.fld 8, e.fld 9, e.fld 10, e.fld 11, e.fld 12, e.fld 13, e.fld 14, e.fld 15, e.fld 16, e.fld 17, e.fld 18, e.fld 19, e.fld 20, e.fld 21] = e := by simpa [List.range, List.range.loop] using okL_eta (hok _ (.head _))
  have k_e : okL [(.int .i64), (.int .i64), (.int .i64), (.int .i64), (.int .i64), (.int .i64), (.int .i64), (.int .i64), (.int .i64), (.int .i64), (.int .i64), (.int .i64), (.int .i64), (.int .i64), (.int .i64), (.int .i64), (.int .i64), (.int .i64), .bool, (.sl [(.int .i64), (.int .i64), (.int .i64), (.int .i64), (.int .i64), (.int .i64), .bool]), (.int .i64), (.int .i64)] e := (hok _ (.head _))
  have e_e_19 : D.lst (e.fld 19).toL = e.fld 19 := sl_eta (okL_at k_e (i := 19) rfl)
  have l_e_19 := sl_len (okL_at k_e (i := 19) rfl)
  have k_e_19 := sl_all (okL_at k_e (i := 19) rfl)
  have E_e_19 : ∀ i, i < (e.fld 19).toL.length → D.lst [((e.fld 19).elem i).fld 0, ((e.fld 19).elem i).fld 1, ((e.fld 19).elem i).fld 2, ((e.fld 19).elem i).fld 3, ((e.fld 19).elem i).fld 4, ((e.fld 19).elem i).fld 5, ((e.fld 19).elem i).fld 6] = (e.fld 19).elem i := fun i hi => by simpa [List.range, List.range.loop] using okL_eta (k_e_19 _ (elem_mem hi))
  apply says_den (φ := (phi_59))
  simp [e_e_19, E_e_19, e_e, tree_59, T.says, X.den, O1.den, O2.den, O3.den, callD, XArg.ev, XArg.dat, Callee'.num, backs, DArg.back, Conds.den, cloArgs, phi_59, pd_119, h]
theorem pd_59 (e : D) (h : ((e.fld 19).toL.length : Int) ≤ 1048576) (Q : List D → Prop) (ho : Q [e]) : PC Try.prog 59 [.st [(.int .i64), (.int .i64), (.int .i64), (.int .i64), (.int .i64), (.int .i64), (.int .i64), (.int .i64), (.int .i64), (.int .i64), (.int .i64), (.int .i64), (.int .i64), (.int .i64), (.int .i64), (.int .i64), (.int .i64), (.int .i64), .bool, (.sl [(.int .i64), (.int .i64), (.int .i64), (.int .i64), (.int .i64), (.int .i64), .bool]), (.int .i64), (.int .i64)] e] [.st [(.int .i64), (.int .i64), (.int .i64), (.int .i64), (.int .i64), (.int .i64), (.int .i64), (.int .i64), (.int .i64), (.int .i64), (.int .i64), (.int .i64), (.int .i64), (.int .i64), (.int .i64), (.int .i64), (.int .i64), (.int .i64), .bool, (.sl [(.int .i64), (.int .i64), (.int .i64), (.int .i64), (.int .i64), (.int .i64), .bool]), (.int .i64), (.int .i64)]] Q := (pc_59 e h).mono fun _ h => h ▸ ho
/- spec.Upto -/
theorem pc_60 (a b : D) : PC Try.prog 60 [.sc (.int .i64) a, .sc (.int .i64) b] [.sc (.int .i64)] fun o => o = [.int (upto a.toI b.toI)] := by
  refine PC.of_sig mix sig_60 ⟨rfl, rfl, trivial⟩ rfl fun hok => ?_
  have e_a := int_eta (hok _ (.head _))
  have b_a := int_range (hok _ (.head _))
  have e_b := int_eta (hok _ (.tail _ (.head _)))
  have b_b := int_range (hok _ (.tail _ (.head _)))
  apply says_den (φ := fun _ _ => [])
  simp [e_a, e_b, tree_60, T.says, X.den, O1.den, O2.den, O3.den, callD, XArg.ev, XArg.dat, Callee'.num, backs, DArg.back, Conds.den, cloArgs]
  grind [upto]
theorem pd_60 (a b : D) (Q : List D → Prop) (ho : Q [.int (upto a.toI b.toI)]) : PC Try.prog 60 [.sc (.int .i64) a, .sc (.int .i64) b] [.sc (.int .i64)] Q := (pc_60 a b).mono fun _ h => h ▸ ho
/- spec.Bound -/
theorem pc_120 (a : D) : PC Try.prog 120 [.sc (.int .i64) a] [.sc (.int .i64)] fun o => o = [.int (bound a.toI)] := by
  refine PC.of_sig mix sig_120 ⟨rfl, trivial⟩ rfl fun hok => ?_
  have e_a := int_eta (hok _ (.head _))
  have b_a := int_range (hok _ (.head _))
  apply says_den (φ := fun _ _ => [])
  simp [e_a, tree_120, T.says, X.den, O1.den, O2.den, O3.den, callD, XArg.ev, XArg.dat, Callee'.num, backs, DArg.back, Conds.den, cloArgs]
  (repeat' (first | (with_reducible apply And.intro) | intro _)) <;> grind [bound]
theorem pd_120 (a : D) (Q : List D → Prop) (ho : Q [.int (bound a.toI)]) : PC Try.prog 120 [.sc (.int .i64) a] [.sc (.int .i64)] Q := (pc_120 a).mono fun _ h => h ▸ ho
/- spec.Less -/
def phi_61 : Nat → List D → List D
  | 120, [a] => [.int (bound a.toI)]
  | _, _ => []
theorem pc_61 (a b : D) : PC Try.prog 61 [.sc (.int .i64) a, .sc (.int .i64) b] [.sc (.int .i64)] fun o => o = [.int (less a.toI b.toI)] := by
  refine PC.of_sig mix sig_61 ⟨rfl, rfl, trivial⟩ rfl fun hok => ?_
  have e_a := int_eta (hok _ (.head _))
  have b_a := int_range (hok _ (.head _))
  have e_b := int_eta (hok _ (.tail _ (.head _)))
  have b_b := int_range (hok _ (.tail _ (.head _)))
  apply says_den (φ := (phi_61))
  simp [e_a, e_b, tree_61, T.says, X.den, O1.den, O2.den, O3.den, callD, XArg.ev, XArg.dat, Callee'.num, backs, DArg.back, Conds.den, cloArgs, phi_61, pd_120, less]
theorem pd_61 (a b : D) (Q : List D → Prop) (ho : Q [.int (less a.toI b.toI)]) : PC Try.prog 61 [.sc (.int .i64) a, .sc (.int .i64) b] [.sc (.int .i64)] Q := (pc_61 a b).mono fun _ h => h ▸ ho
/- spec.Spent -/
def phi_22 : Nat → List D → List D
  | 59, [e] => [e]
  | 60, [a, b] => [.int (upto a.toI b.toI)]
  | 61, [a, b] => [.int (less a.toI b.toI)]
  | _, _ => []
theorem pc_22 (e n : D) (h : ((e.fld 19).toL.length : Int) ≤ 1048576) : PC Try.prog 22 [.st [(.int .i64), (.int .i64), (.int .i64), (.int .i64), (.int .i64), (.int .i64), (.int .i64), (.int .i64), (.int .i64), (.int .i64), (.int .i64), (.int .i64), (.int .i64), (.int .i64), (.int .i64), (.int .i64), (.int .i64), (.int .i64), .bool, (.sl [(.int .i64), (.int .i64), (.int .i64), (.int .i64), (.int .i64), (.int .i64), .bool]), (.int .i64), (.int .i64)] e, .sc (.int .i64) n] [.st [(.int .i64), (.int .i64), (.int .i64), (.int .i64), (.int .i64), (.int .i64), (.int .i64), (.int .i64), (.int .i64), (.int .i64), (.int .i64), (.int .i64), (.int .i64), (.int .i64), (.int .i64), (.int .i64), (.int .i64), (.int .i64), .bool, (.sl [(.int .i64), (.int .i64), (.int .i64), (.int .i64), (.int .i64), (.int .i64), .bool]), (.int .i64), (.int .i64)]] fun o => o = [spent e n.toI] := by
  refine PC.of_sig mix sig_22 ⟨rfl, rfl, trivial⟩ rfl fun hok => ?_
  have e_e : D.lst [e.fld 0, e.fld 1, e.fld 2, e.fld 3, e.fld 4, e.fld 5, e.fld 6, e.fld 7, e.fld 8, e.fld 9, e.fld 10, e.fld 11, e.fld 12, e.fld 13, e.fld 14, e.fld 15, e.fld 16, e.fld 17, e.fld 18, e.fld 19, e.fld 20, e.fld 21] = e := by simpa [List.range, List.range.loop] using okL_eta (hok _ (.head _))
  have k_e : okL [(.int .i64), (.int .i64), (.int .i64), (.int .i64), (.int .i64), (.int .i64), (.int .i64), (.int .i64), (.int .i64), (.int .i64), (.int .i64), (.int .i64), (.int .i64), (.int .i64), (.int .i64), (.int .i64), (.int .i64), (.int .i64), .bool, (.sl [(.int .i64), (.int .i64), (.int .i64), (.int .i64), (.int .i64), (.int .i64), .bool]), (.int .i64), (.int .i64)] e := (hok _ (.head _))
  have e_e_19 : D.lst (e.fld 19).toL = e.fld 19 := sl_eta (okL_at k_e (i := 19) rfl)
  have l_e_19 := sl_len (okL_at k_e (i := 19) rfl)
  have k_e_19 := sl_all (okL_at k_e (i := 19) rfl)
  have E_e_19 : ∀ i, i < (e.fld 19).toL.length → D.lst [((e.fld 19).elem i).fld 0, ((e.fld 19).elem i).fld 1, ((e.fld 19).elem i).fld 2, ((e.fld 19).elem i).fld 3, ((e.fld 19).elem i).fld 4, ((e.fld 19).elem i).fld 5, ((e.fld 19).elem i).fld 6] = (e.fld 19).elem i := fun i hi => by simpa [List.range, List.range.loop] using okL_eta (k_e_19 _ (elem_mem hi))
  have e_n := int_eta (hok _ (.tail _ (.head _)))
  have b_n := int_range (hok _ (.tail _ (.head _)))
  apply says_den (φ := (phi_22))
  simp [e_e_19, E_e_19, e_e, e_n, tree_22, T.says, X.den, O1.den, O2.den, O3.den, callD, XArg.ev, XArg.dat, Callee'.num, backs, DArg.back, Conds.den, cloArgs, phi_22, pd_59, pd_60, pd_61, h, spent]
  all_goals grind
theorem pd_22 (e n : D) (h : ((e.fld 19).toL.length : Int) ≤ 1048576) (Q : List D → Prop) (ho : Q [spent e n.toI]) : PC Try.prog 22 [.st [(.int .i64), (.int .i64), (.int .i64), (.int .i64), (.int .i64), (.int .i64), (.int .i64), (.int .i64), (.int .i64), (.int .i64), (.int .i64), (.int .i64), (.int .i64), (.int .i64), (.int .i64), (.int .i64), (.int .i64), (.int .i64), .bool, (.sl [(.int .i64), (.int .i64), (.int .i64), (.int .i64), (.int .i64), (.int .i64), .bool]), (.int .i64), (.int .i64)] e, .sc (.int .i64) n] [.st [(.int .i64), (.int .i64), (.int .i64), (.int .i64), (.int .i64), (.int .i64), (.int .i64), (.int .i64), (.int .i64), (.int .i64), (.int .i64), (.int .i64), (.int .i64), (.int .i64), (.int .i64), (.int .i64), (.int .i64), (.int .i64), .bool, (.sl [(.int .i64), (.int .i64), (.int .i64), (.int .i64), (.int .i64), (.int .i64), .bool]), (.int .i64), (.int .i64)]] Q := (pc_22 e n h).mono fun _ h => h ▸ ho
/- spec.l1In -/
theorem pc_73 (a b c : D) : PC Try.prog 73 [.sc (.int .i64) a, .sc (.int .i64) b, .sc (.int .i64) c] [.sc .bool] fun o => o = [.bool (inR a.toI b.toI c.toI)] := by
  refine PC.of_sig mix sig_73 ⟨rfl, rfl, rfl, trivial⟩ rfl fun hok => ?_
  have e_a := int_eta (hok _ (.head _))
  have b_a := int_range (hok _ (.head _))
  have e_b := int_eta (hok _ (.tail _ (.head _)))
  have b_b := int_range (hok _ (.tail _ (.head _)))
  have e_c := int_eta (hok _ (.tail _ (.tail _ (.head _))))
  have b_c := int_range (hok _ (.tail _ (.tail _ (.head _))))
  apply says_den (φ := fun _ _ => [])
  simp [e_a, e_b, e_c, tree_73, T.says, X.den, O1.den, O2.den, O3.den, callD, XArg.ev, XArg.dat, Callee'.num, backs, DArg.back, Conds.den, cloArgs, inR]
theorem pd_73 (a b c : D) (Q : List D → Prop) (ho : Q [.bool (inR a.toI b.toI c.toI)]) : PC Try.prog 73 [.sc (.int .i64) a, .sc (.int .i64) b, .sc (.int .i64) c] [.sc .bool] Q := (pc_73 a b c).mono fun _ h => h ▸ ho
/- spec.PatOk -/
def phi_74 : Nat → List D → List D
  | 73, [a, b, c] => [.bool (inR a.toI b.toI c.toI)]
  | _, _ => []
theorem pc_74 (d : D) : PC Try.prog 74 [.st [(.int .i64), (.int .i64), (.int .i64), (.int .i64), (.int .i64), (.int .i64), (.int .i64)] d] [.sc .bool] fun o => o = [.bool (patOk d)] := by
  refine PC.of_sig mix sig_74 ⟨rfl, trivial⟩ rfl fun hok => ?_
  have e_d : D.lst [d.fld 0, d.fld 1, d.fld 2, d.fld 3, d.fld 4, d.fld 5, d.fld 6] = d := by simpa [List.range, List.range.loop] using okL_eta (hok _ (.head _))
  have k_d : okL [(.int .i64), (.int .i64), (.int .i64), (.int .i64), (.int .i64), (.int .i64), (.int .i64)] d := (hok _ (.head _))
  apply says_den (φ := (phi_74))
  simp [e_d, tree_74, T.says, X.den, O1.den, O2.den, O3.den, callD, XArg.ev, XArg.dat, Callee'.num, backs, DArg.back, Conds.den, cloArgs, phi_74, pd_73]
  (repeat' (first | (with_reducible apply And.intro) | intro _)) <;> grind [patOk]
theorem pd_74 (d : D) (Q : List D → Prop) (ho : Q [.bool (patOk d)]) : PC Try.prog 74 [.st [(.int .i64), (.int .i64), (.int .i64), (.int .i64), (.int .i64), (.int .i64), (.int .i64)] d] [.sc .bool] Q := (pc_74 d).mono fun _ h => h ▸ ho
/- spec.GuardOk -/
def phi_75 : Nat → List D → List D
  | 73, [a, b, c] => [.bool (inR a.toI b.toI c.toI)]
  | _, _ => []
theorem pc_75 (d : D) : PC Try.prog 75 [.st [(.int .i64), (.int .i64)] d] [.sc .bool] fun o => o = [.bool (guardOk d)] := by
  refine PC.of_sig mix sig_75 ⟨rfl, trivial⟩ rfl fun hok => ?_
  have e_d : D.lst [d.fld 0, d.fld 1] = d := by simpa [List.range, List.range.loop] using okL_eta (hok _ (.head _))
  have k_d : okL [(.int .i64), (.int .i64)] d := (hok _ (.head _))
  apply says_den (φ := (phi_75))
  simp [e_d, tree_75, T.says, X.den, O1.den, O2.den, O3.den, callD, XArg.ev, XArg.dat, Callee'.num, backs, DArg.back, Conds.den, cloArgs, phi_75, pd_73]
  (repeat' (first | (with_reducible apply And.intro) | intro _)) <;> grind [guardOk]
theorem pd_75 (d : D) (Q : List D → Prop) (ho : Q [.bool (guardOk d)]) : PC Try.prog 75 [.st [(.int .i64), (.int .i64)] d] [.sc .bool] Q := (pc_75 d).mono fun _ h => h ▸ ho
/- spec.l9Plain -/
theorem pc_124 (a : D) : PC Try.prog 124 [.st [(.int .i64), (.int .i64), (.int .i64), (.int .i64), (.int .i64), .bool, (.sl [(.int .i64), (.int .i64), (.int .i64), (.int .i64), (.int .i64), (.int .i64), .bool])] a] [.sc .bool] fun o => o = [.bool (plain a)] := by
  refine PC.of_sig mix sig_124 ⟨rfl, trivial⟩ rfl fun hok => ?_
  have e_a : D.lst [a.fld 0, a.fld 1, a.fld 2, a.fld 3, a.fld 4, a.fld 5, a.fld 6] = a := by simpa [List.range, List.range.loop] using okL_eta (hok _ (.head _))
  have k_a : okL [(.int .i64), (.int .i64), (.int .i64), (.int .i64), (.int .i64), .bool, (.sl [(.int .i64), (.int .i64), (.int .i64), (.int .i64), (.int .i64), (.int .i64), .bool])] a := (hok _ (.head _))
  have e_a_6 : D.lst (a.fld 6).toL = a.fld 6 := sl_eta (okL_at k_a (i := 6) rfl)
  have l_a_6 := sl_len (okL_at k_a (i := 6) rfl)
  have k_a_6 := sl_all (okL_at k_a (i := 6) rfl)
  have E_a_6 : ∀ i, i < (a.fld 6).toL.length → D.lst [((a.fld 6).elem i).fld 0, ((a.fld 6).elem i).fld 1, ((a.fld 6).elem i).fld 2, ((a.fld 6).elem i).fld 3, ((a.fld 6).elem i).fld 4, ((a.fld 6).elem i).fld 5, ((a.fld 6).elem i).fld 6] = (a.fld 6).elem i := fun i hi => by simpa [List.range, List.range.loop] using okL_eta (k_a_6 _ (elem_mem hi))
  apply says_den (φ := fun _ _ => [])
  simp [e_a_6, E_a_6, e_a, tree_124, T.says, X.den, O1.den, O2.den, O3.den, callD, XArg.ev, XArg.dat, Callee'.num, backs, DArg.back, Conds.den, cloArgs, plain]
theorem pd_124 (a : D) (Q : List D → Prop) (ho : Q [.bool (plain a)]) : PC Try.prog 124 [.st [(.int .i64), (.int .i64), (.int .i64), (.int .i64), (.int .i64), .bool, (.sl [(.int .i64), (.int .i64), (.int .i64), (.int .i64), (.int .i64), (.int .i64), .bool])] a] [.sc .bool] Q := (pc_124 a).mono fun _ h => h ▸ ho
/- spec.EventOk -/
def phi_92 : Nat → List D → List D
  | 73, [a, b, c] => [.bool (inR a.toI b.toI c.toI)]
  | _, _ => []
theorem pc_92 (e : D) : PC Try.prog 92 [.st [(.int .i64), (.int .i64), (.int .i64), (.int .i64), (.int .i64), (.int .i64), .bool] e] [.sc .bool] fun o => o = [.bool (eventOk e)] := by
  refine PC.of_sig mix sig_92 ⟨rfl, trivial⟩ rfl fun hok => ?_
  have e_e : D.lst [e.fld 0, e.fld 1, e.fld 2, e.fld 3, e.fld 4, e.fld 5, e.fld 6] = e := by simpa [List.range, List.range.loop] using okL_eta (hok _ (.head _))
  have k_e : okL [(.int .i64), (.int .i64), (.int .i64), (.int .i64), (.int .i64), (.int .i64), .bool] e := (hok _ (.head _))
  apply says_den (φ := (phi_92))
  simp [e_e, tree_92, T.says, X.den, O1.den, O2.den, O3.den, callD, XArg.ev, XArg.dat, Callee'.num, backs, DArg.back, Conds.den, cloArgs, phi_92, pd_73]
  (repeat' (first | (with_reducible apply And.intro) | intro _)) <;> grind [eventOk, onPiece, onPlayer]
theorem pd_92 (e : D) (Q : List D → Prop) (ho : Q [.bool (eventOk e)]) : PC Try.prog 92 [.st [(.int .i64), (.int .i64), (.int .i64), (.int .i64), (.int .i64), (.int .i64), .bool] e] [.sc .bool] Q := (pc_92 e).mono fun _ h => h ▸ ho
/- spec.l9Part -/
def phi_125 : Nat → List D → List D
  | 92, [e] => [.bool (eventOk e)]
  | _, _ => []
theorem pc_125 (e : D) : PC Try.prog 125 [.st [(.int .i64), (.int .i64), (.int .i64), (.int .i64), (.int .i64), (.int .i64), .bool] e] [.sc .bool] fun o => o = [.bool (partOk e)] := by
  refine PC.of_sig mix sig_125 ⟨rfl, trivial⟩ rfl fun hok => ?_
  have e_e : D.lst [e.fld 0, e.fld 1, e.fld 2, e.fld 3, e.fld 4, e.fld 5, e.fld 6] = e := by simpa [List.range, List.range.loop] using okL_eta (hok _ (.head _))
  have k_e : okL [(.int .i64), (.int .i64), (.int .i64), (.int .i64), (.int .i64), (.int .i64), .bool] e := (hok _ (.head _))
  apply says_den (φ := (phi_125))
  simp [e_e, tree_125, T.says, X.den, O1.den, O2.den, O3.den, callD, XArg.ev, XArg.dat, Callee'.num, backs, DArg.back, Conds.den, cloArgs, phi_125, pd_92, partOk, ev0]
  all_goals grind
theorem pd_125 (e : D) (Q : List D → Prop) (ho : Q [.bool (partOk e)]) : PC Try.prog 125 [.st [(.int .i64), (.int .i64), (.int .i64), (.int .i64), (.int .i64), (.int .i64), .bool] e] [.sc .bool] Q := (pc_125 e).mono fun _ h => h ▸ ho
/- spec.ActOk -/
def phi_76 : Nat → List D → List D
  | 73, [a, b, c] => [.bool (inR a.toI b.toI c.toI)]
  | 124, [a] => [.bool (plain a)]
  | 125, [e] => [.bool (partOk e)]
  | _, _ => []
theorem pc_76 (a : D) : PC Try.prog 76 [.st [(.int .i64), (.int .i64), (.int .i64), (.int .i64), (.int .i64), .bool, (.sl [(.int .i64), (.int .i64), (.int .i64), (.int .i64), (.int .i64), (.int .i64), .bool])] a] [.sc .bool] fun o => o = [.bool (actOk a)] := by
  refine PC.of_sig mix sig_76 ⟨rfl, trivial⟩ rfl fun hok => ?_
  have e_a : D.lst [a.fld 0, a.fld 1, a.fld 2, a.fld 3, a.fld 4, a.fld 5, a.fld 6] = a := by simpa [List.range, List.range.loop] using okL_eta (hok _ (.head _))
  have k_a : okL [(.int .i64), (.int .i64), (.int .i64), (.int .i64), (.int .i64), .bool, (.sl [(.int .i64), (.int .i64), (.int .i64), (.int .i64), (.int .i64), (.int .i64), .bool])] a := (hok _ (.head _))
  have e_a_6 : D.lst (a.fld 6).toL = a.fld 6 := sl_eta (okL_at k_a (i := 6) rfl)
  have l_a_6 := sl_len (okL_at k_a (i := 6) rfl)
  have k_a_6 := sl_all (okL_at k_a (i := 6) rfl)
  have E_a_6 : ∀ i, i < (a.fld 6).toL.length → D.lst [((a.fld 6).elem i).fld 0, ((a.fld 6).elem i).fld 1, ((a.fld 6).elem i).fld 2, ((a.fld 6).elem i).fld 3, ((a.fld 6).elem i).fld 4, ((a.fld 6).elem i).fld 5, ((a.fld 6).elem i).fld 6] = (a.fld 6).elem i := fun i hi => by simpa [List.range, List.range.loop] using okL_eta (k_a_6 _ (elem_mem hi))
  apply says_den (φ := (phi_76))
  simp [e_a_6, E_a_6, e_a, tree_76, T.says, X.den, O1.den, O2.den, O3.den, callD, XArg.ev, XArg.dat, Callee'.num, backs, DArg.back, Conds.den, cloArgs, phi_76, pd_73, pd_124, pd_125]
  (repeat' (first | (with_reducible apply And.intro) | intro _))
  all_goals first | (exfalso; omega) | (grind [actOk, plain]) | skip
  refine den_for (a.fld 6).toL.length 0 (fun i => [.int i]) (fun i => ∀ j, j < i → partOk ((a.fld 6).elem j) = true) (by simp) (by simp [X.den]) (by simp) fun i hi hR => ?_
  have hs : actOk a = ((a.fld 1).toI == 0 && (a.fld 2).toI == 0 && (a.fld 3).toI == -1 && (a.fld 4).toI == 0 && !(a.fld 5).toB && inR (a.fld 6).toL.length 1 3 && allR (fun i => partOk ((a.fld 6).elem i)) (a.fld 6).toL.length) := by
    simp [actOk, *]
  rw [hs]
  apply says_den (φ := (phi_76))
  by_cases hlt : i < (a.fld 6).toL.length
  · simp [e_a_6, E_a_6, e_a, tree_76, T.says, X.den, O1.den, O2.den, O3.den, callD, XArg.ev, XArg.dat, Callee'.num, backs, DArg.back, Conds.den, cloArgs, phi_76, pd_73, pd_124, pd_125, hlt]
    (repeat' (first | (with_reducible apply And.intro) | intro _))
    · rw [allR_false (p := fun i => partOk ((a.fld 6).elem i)) hlt ‹_›]
    · (first | omega | (simp only [IntKind.wrap_i64, maxL] at *; omega) | (simp [IntKind.wrap_i64, maxL] at *; omega))
    · grind
  · have ht := allR_true (p := fun i => partOk ((a.fld 6).elem i)) (n := (a.fld 6).toL.length) (fun j hj => hR j (by omega))
    simp [e_a_6, E_a_6, e_a, tree_76, T.says, X.den, O1.den, O2.den, O3.den, callD, XArg.ev, XArg.dat, Callee'.num, backs, DArg.back, Conds.den, cloArgs, phi_76, pd_73, pd_124, pd_125, hlt, ht]
    all_goals grind
theorem pd_76 (a : D) (Q : List D → Prop) (ho : Q [.bool (actOk a)]) : PC Try.prog 76 [.st [(.int .i64), (.int .i64), (.int .i64), (.int .i64), (.int .i64), .bool, (.sl [(.int .i64), (.int .i64), (.int .i64), (.int .i64), (.int .i64), (.int .i64), .bool])] a] [.sc .bool] Q := (pc_76 a).mono fun _ h => h ▸ ho
/- spec.ActFits -/
def phi_77 : Nat → List D → List D
  | 73, [a, b, c] => [.bool (inR a.toI b.toI c.toI)]
  | _, _ => []
theorem pc_77 (a n : D) : PC Try.prog 77 [.st [(.int .i64), (.int .i64), (.int .i64), (.int .i64), (.int .i64), .bool, (.sl [(.int .i64), (.int .i64), (.int .i64), (.int .i64), (.int .i64), (.int .i64), .bool])] a, .sc (.int .i64) n] [.sc .bool] fun o => o = [.bool (actFits a n.toI)] := by
  refine PC.of_sig mix sig_77 ⟨rfl, rfl, trivial⟩ rfl fun hok => ?_
  have e_a : D.lst [a.fld 0, a.fld 1, a.fld 2, a.fld 3, a.fld 4, a.fld 5, a.fld 6] = a := by simpa [List.range, List.range.loop] using okL_eta (hok _ (.head _))
  have k_a : okL [(.int .i64), (.int .i64), (.int .i64), (.int .i64), (.int .i64), .bool, (.sl [(.int .i64), (.int .i64), (.int .i64), (.int .i64), (.int .i64), (.int .i64), .bool])] a := (hok _ (.head _))
  have e_a_6 : D.lst (a.fld 6).toL = a.fld 6 := sl_eta (okL_at k_a (i := 6) rfl)
  have l_a_6 := sl_len (okL_at k_a (i := 6) rfl)
  have k_a_6 := sl_all (okL_at k_a (i := 6) rfl)
  have E_a_6 : ∀ i, i < (a.fld 6).toL.length → D.lst [((a.fld 6).elem i).fld 0, ((a.fld 6).elem i).fld 1, ((a.fld 6).elem i).fld 2, ((a.fld 6).elem i).fld 3, ((a.fld 6).elem i).fld 4, ((a.fld 6).elem i).fld 5, ((a.fld 6).elem i).fld 6] = (a.fld 6).elem i := fun i hi => by simpa [List.range, List.range.loop] using okL_eta (k_a_6 _ (elem_mem hi))
  have e_n := int_eta (hok _ (.tail _ (.head _)))
  have b_n := int_range (hok _ (.tail _ (.head _)))
  apply says_den (φ := (phi_77))
  simp [e_a_6, E_a_6, e_a, e_n, tree_77, T.says, X.den, O1.den, O2.den, O3.den, callD, XArg.ev, XArg.dat, Callee'.num, backs, DArg.back, Conds.den, cloArgs, phi_77, pd_73]
  (repeat' (first | (with_reducible apply And.intro) | intro _)) <;> grind [actFits]
theorem pd_77 (a n : D) (Q : List D → Prop) (ho : Q [.bool (actFits a n.toI)]) : PC Try.prog 77 [.st [(.int .i64), (.int .i64), (.int .i64), (.int .i64), (.int .i64), .bool, (.sl [(.int .i64), (.int .i64), (.int .i64), (.int .i64), (.int .i64), (.int .i64), .bool])] a, .sc (.int .i64) n] [.sc .bool] Q := (pc_77 a n).mono fun _ h => h ▸ ho
/- spec.EffectOk -/
def phi_28 : Nat → List D → List D
  | 73, [a, b, c] => [.bool (inR a.toI b.toI c.toI)]
  | 74, [d] => [.bool (patOk d)]
  | 75, [d] => [.bool (guardOk d)]
  | 76, [a] => [.bool (actOk a)]
  | 77, [a, n] => [.bool (actFits a n.toI)]
  | _, _ => []
theorem pc_28 (e : D) : PC Try.prog 28 [.st [(.int .i64), (.int .i64), (.int .i64), (.int .i64), (.int .i64), (.int .i64), (.int .i64), (.int .i64), (.int .i64), (.int .i64), (.int .i64), (.int .i64), (.int .i64), (.int .i64), (.int .i64), (.int .i64), (.int .i64), (.int .i64), .bool, (.sl [(.int .i64), (.int .i64), (.int .i64), (.int .i64), (.int .i64), (.int .i64), .bool]), (.int .i64), (.int .i64)] e] [.sc .bool] fun o => o = [.bool (effectOk e)] := by
  refine PC.of_sig mix sig_28 ⟨rfl, trivial⟩ rfl fun hok => ?_
  have e_e : D.lst [e.fld 0, e.fld 1, e.fld 2, e.fld 3, e.fld 4, e.fld 5, e.fld 6, e.fld 7, e.fld 8, e.fld 9, e.fld 10, e.fld 11, e.fld 12, e.fld 13, e.fld 14, e.fld 15, e.fld 16, e.fld 17, e.fld 18, e.fld 19, e.fld 20, e.fld 21] = e := by simpa [List.range, List.range.loop] using okL_eta (hok _ (.head _))
  have k_e : okL [(.int .i64), (.int .i64), (.int .i64), (.int .i64), (.int .i64), (.int .i64), (.int .i64), (.int .i64), (.int .i64), (.int .i64), (.int .i64), (.int .i64), (.int .i64), (.int .i64), (.int .i64), (.int .i64), (.int .i64), (.int .i64), .bool, (.sl [(.int .i64), (.int .i64), (.int .i64), (.int .i64), (.int .i64), (.int .i64), .bool]), (.int .i64), (.int .i64)] e := (hok _ (.head _))
  have e_e_19 : D.lst (e.fld 19).toL = e.fld 19 := sl_eta (okL_at k_e (i := 19) rfl)
  have l_e_19 := sl_len (okL_at k_e (i := 19) rfl)
  have k_e_19 := sl_all (okL_at k_e (i := 19) rfl)
  have E_e_19 : ∀ i, i < (e.fld 19).toL.length → D.lst [((e.fld 19).elem i).fld 0, ((e.fld 19).elem i).fld 1, ((e.fld 19).elem i).fld 2, ((e.fld 19).elem i).fld 3, ((e.fld 19).elem i).fld 4, ((e.fld 19).elem i).fld 5, ((e.fld 19).elem i).fld 6] = (e.fld 19).elem i := fun i hi => by simpa [List.range, List.range.loop] using okL_eta (k_e_19 _ (elem_mem hi))
  apply says_den (φ := (phi_28))
  simp [e_e_19, E_e_19, e_e, tree_28, T.says, X.den, O1.den, O2.den, O3.den, callD, XArg.ev, XArg.dat, Callee'.num, backs, DArg.back, Conds.den, cloArgs, phi_28, pd_73, pd_74, pd_75, pd_76, pd_77, effectOk, patOf, grdOf, actOf]
  all_goals grind
theorem pd_28 (e : D) (Q : List D → Prop) (ho : Q [.bool (effectOk e)]) : PC Try.prog 28 [.st [(.int .i64), (.int .i64), (.int .i64), (.int .i64), (.int .i64), (.int .i64), (.int .i64), (.int .i64), (.int .i64), (.int .i64), (.int .i64), (.int .i64), (.int .i64), (.int .i64), (.int .i64), (.int .i64), (.int .i64), (.int .i64), .bool, (.sl [(.int .i64), (.int .i64), (.int .i64), (.int .i64), (.int .i64), (.int .i64), .bool]), (.int .i64), (.int .i64)] e] [.sc .bool] Q := (pc_28 e).mono fun _ h => h ▸ ho
/- spec.WithN -/
def phi_93 : Nat → List D → List D
  | 60, [a, b] => [.int (upto a.toI b.toI)]
  | _, _ => []
theorem pc_93 (e n : D) : PC Try.prog 93 [.st [(.int .i64), (.int .i64), (.int .i64), (.int .i64), (.int .i64), (.int .i64), .bool] e, .sc (.int .i64) n] [.st [(.int .i64), (.int .i64), (.int .i64), (.int .i64), (.int .i64), (.int .i64), .bool]] fun o => o = [withN e n.toI] := by
  refine PC.of_sig mix sig_93 ⟨rfl, rfl, trivial⟩ rfl fun hok => ?_
  have e_e : D.lst [e.fld 0, e.fld 1, e.fld 2, e.fld 3, e.fld 4, e.fld 5, e.fld 6] = e := by simpa [List.range, List.range.loop] using okL_eta (hok _ (.head _))
  have k_e : okL [(.int .i64), (.int .i64), (.int .i64), (.int .i64), (.int .i64), (.int .i64), .bool] e := (hok _ (.head _))
  have e_n := int_eta (hok _ (.tail _ (.head _)))
  have b_n := int_range (hok _ (.tail _ (.head _)))
  apply says_den (φ := (phi_93))
  simp [e_e, e_n, tree_93, T.says, X.den, O1.den, O2.den, O3.den, callD, XArg.ev, XArg.dat, Callee'.num, backs, DArg.back, Conds.den, cloArgs, phi_93, pd_60, withN]
theorem pd_93 (e n : D) (Q : List D → Prop) (ho : Q [withN e n.toI]) : PC Try.prog 93 [.st [(.int .i64), (.int .i64), (.int .i64), (.int .i64), (.int .i64), (.int .i64), .bool] e, .sc (.int .i64) n] [.st [(.int .i64), (.int .i64), (.int .i64), (.int .i64), (.int .i64), (.int .i64), .bool]] Q := (pc_93 e n).mono fun _ h => h ▸ ho
/- spec.Parts -/
def phi_94 : Nat → List D → List D
  | 60, [a, b] => [.int (upto a.toI b.toI)]
  | _, _ => []
theorem pc_94 (a v : D) (h : ((a.fld 6).toL.length : Int) ≤ 1048576) : PC Try.prog 94 [.st [(.int .i64), (.int .i64), (.int .i64), (.int .i64), (.int .i64), .bool, (.sl [(.int .i64), (.int .i64), (.int .i64), (.int .i64), (.int .i64), (.int .i64), .bool])] a, .st [(.int .i64), (.int .i64), (.int .i64), (.int .i64), (.int .i64), (.int .i64), .bool] v] [.sc (.sl [(.int .i64), (.int .i64), (.int .i64), (.int .i64), (.int .i64), (.int .i64), .bool])] fun o => o = [.lst (parts a v)] := by
  refine PC.of_sig mix sig_94 ⟨rfl, rfl, trivial⟩ rfl fun hok => ?_
  have e_a : D.lst [a.fld 0, a.fld 1, a.fld 2, a.fld 3, a.fld 4, a.fld 5, a.fld 6] = a := by simpa [List.range, List.range.loop] using okL_eta (hok _ (.head _))
  have k_a : okL [(.int .i64), (.int .i64), (.int .i64), (.int .i64), (.int .i64), .bool, (.sl [(.int .i64), (.int .i64), (.int .i64), (.int .i64), (.int .i64), (.int .i64), .bool])] a := (hok _ (.head _))
  have e_a_6 : D.lst (a.fld 6).toL = a.fld 6 := sl_eta (okL_at k_a (i := 6) rfl)
  have l_a_6 := sl_len (okL_at k_a (i := 6) rfl)
  have k_a_6 := sl_all (okL_at k_a (i := 6) rfl)
  have E_a_6 : ∀ i, i < (a.fld 6).toL.length → D.lst [((a.fld 6).elem i).fld 0, ((a.fld 6).elem i).fld 1, ((a.fld 6).elem i).fld 2, ((a.fld 6).elem i).fld 3, ((a.fld 6).elem i).fld 4, ((a.fld 6).elem i).fld 5, ((a.fld 6).elem i).fld 6] = (a.fld 6).elem i := fun i hi => by simpa [List.range, List.range.loop] using okL_eta (k_a_6 _ (elem_mem hi))
  have e_v : D.lst [v.fld 0, v.fld 1, v.fld 2, v.fld 3, v.fld 4, v.fld 5, v.fld 6] = v := by simpa [List.range, List.range.loop] using okL_eta (hok _ (.tail _ (.head _)))
  have k_v : okL [(.int .i64), (.int .i64), (.int .i64), (.int .i64), (.int .i64), (.int .i64), .bool] v := (hok _ (.tail _ (.head _)))
  apply says_den (φ := (phi_94))
  simp [e_a_6, E_a_6, e_a, e_v, tree_94, T.says, X.den, O1.den, O2.den, O3.den, callD, XArg.ev, XArg.dat, Callee'.num, backs, DArg.back, Conds.den, cloArgs, phi_94, pd_60]
  refine den_for (a.fld 6).toL.length 0 (fun i => [.int i, .lst (partsTo a v i)]) (fun i => (a.fld 0).toI ≠ 9 → i = 0) (by simp) (by simp [X.den, partsTo]) (by simp) fun i hi hR => ?_
  apply says_den (φ := (phi_94))
  by_cases hlt : i < (a.fld 6).toL.length
  · by_cases h9 : (a.fld 0).toI = 9
    · simp [e_a_6, E_a_6, e_a, e_v, tree_94, T.says, X.den, O1.den, O2.den, O3.den, callD, XArg.ev, XArg.dat, Callee'.num, backs, DArg.back, Conds.den, cloArgs, phi_94, pd_60, hlt, h9]
      (repeat' (first | (with_reducible apply And.intro) | intro _)) <;> first | omega | (first | omega | (simp only [IntKind.wrap_i64, maxL] at *; omega) | (simp [IntKind.wrap_i64, maxL] at *; omega)) | (rw [partsTo_succ, partE, if_pos (by assumption)]) | (rw [partsTo_succ, partE, if_neg (by assumption)]) | (first | assumption | (exact pd_60 _ _ _ (by first | rfl | simp | (simp; omega))) | (first | omega | (simp only [IntKind.wrap_i64, maxL] at *; omega) | (simp [IntKind.wrap_i64, maxL] at *; omega)) | rfl | contradiction | grind) | skip
    · have := hR h9
      subst this
      simp [e_a_6, E_a_6, e_a, e_v, tree_94, T.says, X.den, O1.den, O2.den, O3.den, callD, XArg.ev, XArg.dat, Callee'.num, backs, DArg.back, Conds.den, cloArgs, phi_94, pd_60, hlt, h9, parts, partsTo]
  · by_cases h9 : (a.fld 0).toI = 9
    · simp [e_a_6, E_a_6, e_a, e_v, tree_94, T.says, X.den, O1.den, O2.den, O3.den, callD, XArg.ev, XArg.dat, Callee'.num, backs, DArg.back, Conds.den, cloArgs, phi_94, pd_60, hlt, h9]
      (repeat' (first | (with_reducible apply And.intro) | intro _)) <;> first | omega | (rw [parts, if_pos (by assumption), show i = (a.fld 6).toL.length by omega]) | (first | assumption | (exact pd_60 _ _ _ (by first | rfl | simp | (simp; omega))) | (first | omega | (simp only [IntKind.wrap_i64, maxL] at *; omega) | (simp [IntKind.wrap_i64, maxL] at *; omega)) | rfl | contradiction | grind) | skip
    · have := hR h9
      subst this
      simp [e_a_6, E_a_6, e_a, e_v, tree_94, T.says, X.den, O1.den, O2.den, O3.den, callD, XArg.ev, XArg.dat, Callee'.num, backs, DArg.back, Conds.den, cloArgs, phi_94, pd_60, hlt, h9, parts, partsTo]
theorem pd_94 (a v : D) (h : ((a.fld 6).toL.length : Int) ≤ 1048576) (Q : List D → Prop) (ho : Q [.lst (parts a v)]) : PC Try.prog 94 [.st [(.int .i64), (.int .i64), (.int .i64), (.int .i64), (.int .i64), .bool, (.sl [(.int .i64), (.int .i64), (.int .i64), (.int .i64), (.int .i64), (.int .i64), .bool])] a, .st [(.int .i64), (.int .i64), (.int .i64), (.int .i64), (.int .i64), (.int .i64), .bool] v] [.sc (.sl [(.int .i64), (.int .i64), (.int .i64), (.int .i64), (.int .i64), (.int .i64), .bool])] Q := (pc_94 a v h).mono fun _ h => h ▸ ho
/- spec.Plus -/
def phi_156 : Nat → List D → List D
  | 120, [a] => [.int (bound a.toI)]
  | _, _ => []
theorem pc_156 (a b : D) : PC Try.prog 156 [.sc (.int .i64) a, .sc (.int .i64) b] [.sc (.int .i64)] fun o => o = [.int (plus a.toI b.toI)] := by
  refine PC.of_sig mix sig_156 ⟨rfl, rfl, trivial⟩ rfl fun hok => ?_
  have e_a := int_eta (hok _ (.head _))
  have b_a := int_range (hok _ (.head _))
  have e_b := int_eta (hok _ (.tail _ (.head _)))
  have b_b := int_range (hok _ (.tail _ (.head _)))
  apply says_den (φ := (phi_156))
  simp [e_a, e_b, tree_156, T.says, X.den, O1.den, O2.den, O3.den, callD, XArg.ev, XArg.dat, Callee'.num, backs, DArg.back, Conds.den, cloArgs, phi_156, pd_120, plus]
theorem pd_156 (a b : D) (Q : List D → Prop) (ho : Q [.int (plus a.toI b.toI)]) : PC Try.prog 156 [.sc (.int .i64) a, .sc (.int .i64) b] [.sc (.int .i64)] Q := (pc_156 a b).mono fun _ h => h ▸ ho
/- spec.Twice -/
def phi_157 : Nat → List D → List D
  | 120, [a] => [.int (bound a.toI)]
  | _, _ => []
theorem pc_157 (a : D) : PC Try.prog 157 [.sc (.int .i64) a] [.sc (.int .i64)] fun o => o = [.int (twice a.toI)] := by
  refine PC.of_sig mix sig_157 ⟨rfl, trivial⟩ rfl fun hok => ?_
  have e_a := int_eta (hok _ (.head _))
  have b_a := int_range (hok _ (.head _))
  apply says_den (φ := (phi_157))
  simp [e_a, tree_157, T.says, X.den, O1.den, O2.den, O3.den, callD, XArg.ev, XArg.dat, Callee'.num, backs, DArg.back, Conds.den, cloArgs, phi_157, pd_120, twice]
theorem pd_157 (a : D) (Q : List D → Prop) (ho : Q [.int (twice a.toI)]) : PC Try.prog 157 [.sc (.int .i64) a] [.sc (.int .i64)] Q := (pc_157 a).mono fun _ h => h ▸ ho
/- spec.Half -/
def phi_158 : Nat → List D → List D
  | 120, [a] => [.int (bound a.toI)]
  | _, _ => []
theorem pc_158 (a : D) : PC Try.prog 158 [.sc (.int .i64) a] [.sc (.int .i64)] fun o => o = [.int (half a.toI)] := by
  refine PC.of_sig mix sig_158 ⟨rfl, trivial⟩ rfl fun hok => ?_
  have e_a := int_eta (hok _ (.head _))
  have b_a := int_range (hok _ (.head _))
  apply says_den (φ := (phi_158))
  simp [e_a, tree_158, T.says, X.den, O1.den, O2.den, O3.den, callD, XArg.ev, XArg.dat, Callee'.num, backs, DArg.back, Conds.den, cloArgs, phi_158, pd_120, half]
theorem pd_158 (a : D) (Q : List D → Prop) (ho : Q [.int (half a.toI)]) : PC Try.prog 158 [.sc (.int .i64) a] [.sc (.int .i64)] Q := (pc_158 a).mono fun _ h => h ▸ ho
/- spec.Amount -/
def phi_133 : Nat → List D → List D
  | 60, [a, b] => [.int (upto a.toI b.toI)]
  | 156, [a, b] => [.int (plus a.toI b.toI)]
  | 157, [a] => [.int (twice a.toI)]
  | 158, [a] => [.int (half a.toI)]
  | _, _ => []
theorem pc_133 (a n : D) : PC Try.prog 133 [.st [(.int .i64), (.int .i64), (.int .i64), (.int .i64), (.int .i64), .bool, (.sl [(.int .i64), (.int .i64), (.int .i64), (.int .i64), (.int .i64), (.int .i64), .bool])] a, .sc (.int .i64) n] [.sc (.int .i64)] fun o => o = [.int (amount a n.toI)] := by
  refine PC.of_sig mix sig_133 ⟨rfl, rfl, trivial⟩ rfl fun hok => ?_
  have e_a : D.lst [a.fld 0, a.fld 1, a.fld 2, a.fld 3, a.fld 4, a.fld 5, a.fld 6] = a := by simpa [List.range, List.range.loop] using okL_eta (hok _ (.head _))
  have k_a : okL [(.int .i64), (.int .i64), (.int .i64), (.int .i64), (.int .i64), .bool, (.sl [(.int .i64), (.int .i64), (.int .i64), (.int .i64), (.int .i64), (.int .i64), .bool])] a := (hok _ (.head _))
  have e_a_6 : D.lst (a.fld 6).toL = a.fld 6 := sl_eta (okL_at k_a (i := 6) rfl)
  have l_a_6 := sl_len (okL_at k_a (i := 6) rfl)
  have k_a_6 := sl_all (okL_at k_a (i := 6) rfl)
  have E_a_6 : ∀ i, i < (a.fld 6).toL.length → D.lst [((a.fld 6).elem i).fld 0, ((a.fld 6).elem i).fld 1, ((a.fld 6).elem i).fld 2, ((a.fld 6).elem i).fld 3, ((a.fld 6).elem i).fld 4, ((a.fld 6).elem i).fld 5, ((a.fld 6).elem i).fld 6] = (a.fld 6).elem i := fun i hi => by simpa [List.range, List.range.loop] using okL_eta (k_a_6 _ (elem_mem hi))
  have e_n := int_eta (hok _ (.tail _ (.head _)))
  have b_n := int_range (hok _ (.tail _ (.head _)))
  apply says_den (φ := (phi_133))
  simp [e_a_6, E_a_6, e_a, e_n, tree_133, T.says, X.den, O1.den, O2.den, O3.den, callD, XArg.ev, XArg.dat, Callee'.num, backs, DArg.back, Conds.den, cloArgs, phi_133, pd_60, pd_156, pd_157, pd_158]
  (repeat' (first | (with_reducible apply And.intro) | intro _)) <;> grind [amount]
theorem pd_133 (a n : D) (Q : List D → Prop) (ho : Q [.int (amount a n.toI)]) : PC Try.prog 133 [.st [(.int .i64), (.int .i64), (.int .i64), (.int .i64), (.int .i64), .bool, (.sl [(.int .i64), (.int .i64), (.int .i64), (.int .i64), (.int .i64), (.int .i64), .bool])] a, .sc (.int .i64) n] [.sc (.int .i64)] Q := (pc_133 a n).mono fun _ h => h ▸ ho
/- spec.l13One -/
def phi_95 : Nat → List D → List D
  | 60, [a, b] => [.int (upto a.toI b.toI)]
  | 93, [e, n] => [withN e n.toI]
  | 133, [a, n] => [.int (amount a n.toI)]
  | _, _ => []
theorem pc_95 (a v : D) : PC Try.prog 95 [.st [(.int .i64), (.int .i64), (.int .i64), (.int .i64), (.int .i64), .bool, (.sl [(.int .i64), (.int .i64), (.int .i64), (.int .i64), (.int .i64), (.int .i64), .bool])] a, .st [(.int .i64), (.int .i64), (.int .i64), (.int .i64), (.int .i64), (.int .i64), .bool] v] [.st [(.int .i64), (.int .i64), (.int .i64), (.int .i64), (.int .i64), (.int .i64), .bool]] fun o => o = [oneE a v] := by
  refine PC.of_sig mix sig_95 ⟨rfl, rfl, trivial⟩ rfl fun hok => ?_
  have e_a : D.lst [a.fld 0, a.fld 1, a.fld 2, a.fld 3, a.fld 4, a.fld 5, a.fld 6] = a := by simpa [List.range, List.range.loop] using okL_eta (hok _ (.head _))
  have k_a : okL [(.int .i64), (.int .i64), (.int .i64), (.int .i64), (.int .i64), .bool, (.sl [(.int .i64), (.int .i64), (.int .i64), (.int .i64), (.int .i64), (.int .i64), .bool])] a := (hok _ (.head _))
  have e_a_6 : D.lst (a.fld 6).toL = a.fld 6 := sl_eta (okL_at k_a (i := 6) rfl)
  have l_a_6 := sl_len (okL_at k_a (i := 6) rfl)
  have k_a_6 := sl_all (okL_at k_a (i := 6) rfl)
  have E_a_6 : ∀ i, i < (a.fld 6).toL.length → D.lst [((a.fld 6).elem i).fld 0, ((a.fld 6).elem i).fld 1, ((a.fld 6).elem i).fld 2, ((a.fld 6).elem i).fld 3, ((a.fld 6).elem i).fld 4, ((a.fld 6).elem i).fld 5, ((a.fld 6).elem i).fld 6] = (a.fld 6).elem i := fun i hi => by simpa [List.range, List.range.loop] using okL_eta (k_a_6 _ (elem_mem hi))
  have e_v : D.lst [v.fld 0, v.fld 1, v.fld 2, v.fld 3, v.fld 4, v.fld 5, v.fld 6] = v := by simpa [List.range, List.range.loop] using okL_eta (hok _ (.tail _ (.head _)))
  have k_v : okL [(.int .i64), (.int .i64), (.int .i64), (.int .i64), (.int .i64), (.int .i64), .bool] v := (hok _ (.tail _ (.head _)))
  apply says_den (φ := (phi_95))
  by_cases k3 : (a.fld 0).toI = 3
  · simp [e_a_6, E_a_6, e_a, e_v, tree_95, T.says, X.den, O1.den, O2.den, O3.den, callD, XArg.ev, XArg.dat, Callee'.num, backs, DArg.back, Conds.den, cloArgs, phi_95, pd_60, pd_93, pd_133, k3, oneE]
    all_goals ((repeat' (first | (with_reducible apply And.intro) | intro _)) <;> first | omega | (first | assumption | (exact pd_60 _ _ _ (by first | rfl | simp | (simp; omega))) | (exact pd_93 _ _ _ (by first | rfl | simp | (simp; omega))) | (exact pd_133 _ _ _ (by first | rfl | simp | (simp; omega))) | (first | omega | (simp only [IntKind.wrap_i64, maxL] at *; omega) | (simp [IntKind.wrap_i64, maxL] at *; omega)) | rfl | contradiction | grind))
  by_cases k4 : (a.fld 0).toI = 4
  · simp [e_a_6, E_a_6, e_a, e_v, tree_95, T.says, X.den, O1.den, O2.den, O3.den, callD, XArg.ev, XArg.dat, Callee'.num, backs, DArg.back, Conds.den, cloArgs, phi_95, pd_60, pd_93, pd_133, k4, oneE]
    all_goals ((repeat' (first | (with_reducible apply And.intro) | intro _)) <;> first | omega | (first | assumption | (exact pd_60 _ _ _ (by first | rfl | simp | (simp; omega))) | (exact pd_93 _ _ _ (by first | rfl | simp | (simp; omega))) | (exact pd_133 _ _ _ (by first | rfl | simp | (simp; omega))) | (first | omega | (simp only [IntKind.wrap_i64, maxL] at *; omega) | (simp [IntKind.wrap_i64, maxL] at *; omega)) | rfl | contradiction | grind))
  by_cases k5 : (a.fld 0).toI = 5
  · simp [e_a_6, E_a_6, e_a, e_v, tree_95, T.says, X.den, O1.den, O2.den, O3.den, callD, XArg.ev, XArg.dat, Callee'.num, backs, DArg.back, Conds.den, cloArgs, phi_95, pd_60, pd_93, pd_133, k5, oneE]
    all_goals ((repeat' (first | (with_reducible apply And.intro) | intro _)) <;> first | omega | (first | assumption | (exact pd_60 _ _ _ (by first | rfl | simp | (simp; omega))) | (exact pd_93 _ _ _ (by first | rfl | simp | (simp; omega))) | (exact pd_133 _ _ _ (by first | rfl | simp | (simp; omega))) | (first | omega | (simp only [IntKind.wrap_i64, maxL] at *; omega) | (simp [IntKind.wrap_i64, maxL] at *; omega)) | rfl | contradiction | grind))
  by_cases k6 : (a.fld 0).toI = 6
  · simp [e_a_6, E_a_6, e_a, e_v, tree_95, T.says, X.den, O1.den, O2.den, O3.den, callD, XArg.ev, XArg.dat, Callee'.num, backs, DArg.back, Conds.den, cloArgs, phi_95, pd_60, pd_93, pd_133, k6, oneE]
    all_goals ((repeat' (first | (with_reducible apply And.intro) | intro _)) <;> first | omega | (first | assumption | (exact pd_60 _ _ _ (by first | rfl | simp | (simp; omega))) | (exact pd_93 _ _ _ (by first | rfl | simp | (simp; omega))) | (exact pd_133 _ _ _ (by first | rfl | simp | (simp; omega))) | (first | omega | (simp only [IntKind.wrap_i64, maxL] at *; omega) | (simp [IntKind.wrap_i64, maxL] at *; omega)) | rfl | contradiction | grind))
  by_cases k7 : (a.fld 0).toI = 7
  · by_cases z : (a.fld 4).toI = 2
    · simp [e_a_6, E_a_6, e_a, e_v, tree_95, T.says, X.den, O1.den, O2.den, O3.den, callD, XArg.ev, XArg.dat, Callee'.num, backs, DArg.back, Conds.den, cloArgs, phi_95, pd_60, pd_93, pd_133, k7, z, oneE]
      all_goals ((repeat' (first | (with_reducible apply And.intro) | intro _)) <;> first | omega | (first | assumption | (exact pd_60 _ _ _ (by first | rfl | simp | (simp; omega))) | (exact pd_93 _ _ _ (by first | rfl | simp | (simp; omega))) | (exact pd_133 _ _ _ (by first | rfl | simp | (simp; omega))) | (first | omega | (simp only [IntKind.wrap_i64, maxL] at *; omega) | (simp [IntKind.wrap_i64, maxL] at *; omega)) | rfl | contradiction | grind))
    · simp [e_a_6, E_a_6, e_a, e_v, tree_95, T.says, X.den, O1.den, O2.den, O3.den, callD, XArg.ev, XArg.dat, Callee'.num, backs, DArg.back, Conds.den, cloArgs, phi_95, pd_60, pd_93, pd_133, k7, z, oneE]
      all_goals ((repeat' (first | (with_reducible apply And.intro) | intro _)) <;> first | omega | (first | assumption | (exact pd_60 _ _ _ (by first | rfl | simp | (simp; omega))) | (exact pd_93 _ _ _ (by first | rfl | simp | (simp; omega))) | (exact pd_133 _ _ _ (by first | rfl | simp | (simp; omega))) | (first | omega | (simp only [IntKind.wrap_i64, maxL] at *; omega) | (simp [IntKind.wrap_i64, maxL] at *; omega)) | rfl | contradiction | grind))
  by_cases k8 : (a.fld 0).toI = 8
  · by_cases z : (v.fld 5).toI = 2
    · simp [e_a_6, E_a_6, e_a, e_v, tree_95, T.says, X.den, O1.den, O2.den, O3.den, callD, XArg.ev, XArg.dat, Callee'.num, backs, DArg.back, Conds.den, cloArgs, phi_95, pd_60, pd_93, pd_133, k8, z, oneE]
      all_goals ((repeat' (first | (with_reducible apply And.intro) | intro _)) <;> first | omega | (first | assumption | (exact pd_60 _ _ _ (by first | rfl | simp | (simp; omega))) | (exact pd_93 _ _ _ (by first | rfl | simp | (simp; omega))) | (exact pd_133 _ _ _ (by first | rfl | simp | (simp; omega))) | (first | omega | (simp only [IntKind.wrap_i64, maxL] at *; omega) | (simp [IntKind.wrap_i64, maxL] at *; omega)) | rfl | contradiction | grind))
    · simp [e_a_6, E_a_6, e_a, e_v, tree_95, T.says, X.den, O1.den, O2.den, O3.den, callD, XArg.ev, XArg.dat, Callee'.num, backs, DArg.back, Conds.den, cloArgs, phi_95, pd_60, pd_93, pd_133, k8, z, oneE]
      all_goals ((repeat' (first | (with_reducible apply And.intro) | intro _)) <;> first | omega | (first | assumption | (exact pd_60 _ _ _ (by first | rfl | simp | (simp; omega))) | (exact pd_93 _ _ _ (by first | rfl | simp | (simp; omega))) | (exact pd_133 _ _ _ (by first | rfl | simp | (simp; omega))) | (first | omega | (simp only [IntKind.wrap_i64, maxL] at *; omega) | (simp [IntKind.wrap_i64, maxL] at *; omega)) | rfl | contradiction | grind))
  simp [e_a_6, E_a_6, e_a, e_v, tree_95, T.says, X.den, O1.den, O2.den, O3.den, callD, XArg.ev, XArg.dat, Callee'.num, backs, DArg.back, Conds.den, cloArgs, phi_95, pd_60, pd_93, pd_133, k3, k4, k5, k6, k7, k8, oneE]
  all_goals ((repeat' (first | (with_reducible apply And.intro) | intro _)) <;> first | omega | (first | assumption | (exact pd_60 _ _ _ (by first | rfl | simp | (simp; omega))) | (exact pd_93 _ _ _ (by first | rfl | simp | (simp; omega))) | (exact pd_133 _ _ _ (by first | rfl | simp | (simp; omega))) | (first | omega | (simp only [IntKind.wrap_i64, maxL] at *; omega) | (simp [IntKind.wrap_i64, maxL] at *; omega)) | rfl | contradiction | grind))
theorem pd_95 (a v : D) (Q : List D → Prop) (ho : Q [oneE a v]) : PC Try.prog 95 [.st [(.int .i64), (.int .i64), (.int .i64), (.int .i64), (.int .i64), .bool, (.sl [(.int .i64), (.int .i64), (.int .i64), (.int .i64), (.int .i64), (.int .i64), .bool])] a, .st [(.int .i64), (.int .i64), (.int .i64), (.int .i64), (.int .i64), (.int .i64), .bool] v] [.st [(.int .i64), (.int .i64), (.int .i64), (.int .i64), (.int .i64), (.int .i64), .bool]] Q := (pc_95 a v).mono fun _ h => h ▸ ho
/- spec.Gone -/
theorem pc_96 (d : D) : PC Try.prog 96 [.st [(.int .i64), (.int .i64), (.int .i64), (.int .i64), (.int .i64), (.int .i64), .bool] d] [.sc .bool] fun o => o = [.bool (gone d)] := by
  refine PC.of_sig mix sig_96 ⟨rfl, trivial⟩ rfl fun hok => ?_
  have e_d : D.lst [d.fld 0, d.fld 1, d.fld 2, d.fld 3, d.fld 4, d.fld 5, d.fld 6] = d := by simpa [List.range, List.range.loop] using okL_eta (hok _ (.head _))
  have k_d : okL [(.int .i64), (.int .i64), (.int .i64), (.int .i64), (.int .i64), (.int .i64), .bool] d := (hok _ (.head _))
  apply says_den (φ := fun _ _ => [])
  simp [e_d, tree_96, T.says, X.den, O1.den, O2.den, O3.den, callD, XArg.ev, XArg.dat, Callee'.num, backs, DArg.back, Conds.den, cloArgs, gone]
theorem pd_96 (d : D) (Q : List D → Prop) (ho : Q [.bool (gone d)]) : PC Try.prog 96 [.st [(.int .i64), (.int .i64), (.int .i64), (.int .i64), (.int .i64), (.int .i64), .bool] d] [.sc .bool] Q := (pc_96 d).mono fun _ h => h ▸ ho
/- spec.DoAct -/
def phi_40 : Nat → List D → List D
  | 22, [e, n] => [spent e n.toI]
  | 28, [e] => [.bool (effectOk e)]
  | 59, [e] => [e]
  | 60, [a, b] => [.int (upto a.toI b.toI)]
  | 77, [a, n] => [.bool (actFits a n.toI)]
  | 92, [e] => [.bool (eventOk e)]
  | 93, [e, n] => [withN e n.toI]
  | 94, [a, v] => [.lst (parts a v)]
  | 95, [a, v] => [oneE a v]
  | 96, [d] => [.bool (gone d)]
  | _, _ => []
theorem pc_40 (e v : D) (h : ((e.fld 19).toL.length : Int) ≤ 1048576) : PC Try.prog 40 [.st [(.int .i64), (.int .i64), (.int .i64), (.int .i64), (.int .i64), (.int .i64), (.int .i64), (.int .i64), (.int .i64), (.int .i64), (.int .i64), (.int .i64), (.int .i64), (.int .i64), (.int .i64), (.int .i64), (.int .i64), (.int .i64), .bool, (.sl [(.int .i64), (.int .i64), (.int .i64), (.int .i64), (.int .i64), (.int .i64), .bool]), (.int .i64), (.int .i64)] e, .st [(.int .i64), (.int .i64), (.int .i64), (.int .i64), (.int .i64), (.int .i64), .bool] v] [.sc (.sl [(.int .i64), (.int .i64), (.int .i64), (.int .i64), (.int .i64), (.int .i64), .bool]), .sc (.int .i64), .st [(.int .i64), (.int .i64), (.int .i64), (.int .i64), (.int .i64), (.int .i64), (.int .i64), (.int .i64), (.int .i64), (.int .i64), (.int .i64), (.int .i64), (.int .i64), (.int .i64), (.int .i64), (.int .i64), (.int .i64), (.int .i64), .bool, (.sl [(.int .i64), (.int .i64), (.int .i64), (.int .i64), (.int .i64), (.int .i64), .bool]), (.int .i64), (.int .i64)]] fun o => o = [.lst (doL e v), .int (doN e v), doE e v] := by
  refine PC.of_sig mix sig_40 ⟨rfl, rfl, trivial⟩ rfl fun hok => ?_
  have e_e : D.lst [e.fld 0, e.fld 1, e.fld 2, e.fld 3, e.fld 4, e.fld 5, e.fld 6, e.fld 7, e.fld 8, e.fld 9, e.fld 10, e.fld 11, e.fld 12, e.fld 13, e.fld 14, e.fld 15, e.fld 16, e.fld 17, e.fld 18, e.fld 19, e.fld 20, e.fld 21] = e := by simpa [List.range, List.range.loop] using okL_eta (hok _ (.head _))
  have k_e : okL [(.int .i64), (.int .i64), (.int .i64), (.int .i64), (.int .i64), (.int .i64), (.int .i64), (.int .i64), (.int .i64), (.int .i64), (.int .i64), (.int .i64), (.int .i64), (.int .i64), (.int .i64), (.int .i64), (.int .i64), (.int .i64), .bool, (.sl [(.int .i64), (.int .i64), (.int .i64), (.int .i64), (.int .i64), (.int .i64), .bool]), (.int .i64), (.int .i64)] e := (hok _ (.head _))
  have e_e_19 : D.lst (e.fld 19).toL = e.fld 19 := sl_eta (okL_at k_e (i := 19) rfl)
  have l_e_19 := sl_len (okL_at k_e (i := 19) rfl)
  have k_e_19 := sl_all (okL_at k_e (i := 19) rfl)
  have E_e_19 : ∀ i, i < (e.fld 19).toL.length → D.lst [((e.fld 19).elem i).fld 0, ((e.fld 19).elem i).fld 1, ((e.fld 19).elem i).fld 2, ((e.fld 19).elem i).fld 3, ((e.fld 19).elem i).fld 4, ((e.fld 19).elem i).fld 5, ((e.fld 19).elem i).fld 6] = (e.fld 19).elem i := fun i hi => by simpa [List.range, List.range.loop] using okL_eta (k_e_19 _ (elem_mem hi))
  have e_v : D.lst [v.fld 0, v.fld 1, v.fld 2, v.fld 3, v.fld 4, v.fld 5, v.fld 6] = v := by simpa [List.range, List.range.loop] using okL_eta (hok _ (.tail _ (.head _)))
  have k_v : okL [(.int .i64), (.int .i64), (.int .i64), (.int .i64), (.int .i64), (.int .i64), .bool] v := (hok _ (.tail _ (.head _)))
  have hal := actedL_le e v
  have hv4 : D.int (v.fld 4).toI = v.fld 4 := int_eta (okL_at k_v (i := 4) rfl)
  apply says_den (φ := (phi_40))
  by_cases hk : doOk e v = true
  · have hk' := hk
    simp only [doOk, actOf, Bool.and_eq_true] at hk'
    obtain ⟨⟨hk1, hk2⟩, hk3⟩ := hk'
    obtain ⟨L, hL⟩ : ∃ L, L = actedL e v := ⟨_, rfl⟩
    have hq : doL e v = L.filter goodEv := by simp [doL, hk, hL]
    rw [← hL] at hal
    by_cases k1 : (e.fld 13).toI = 1
    · have e1 : L = [] := by rw [hL]; simp [actedL, k1]
      by_cases z : (v.fld 0).toI = 1
      · have hk3z := hk3
        simp only [z] at hk3z
        simp [e_e_19, E_e_19, e_e, e_v, tree_40, T.says, X.den, O1.den, O2.den, O3.den, callD, XArg.ev, XArg.dat, Callee'.num, backs, DArg.back, Conds.den, cloArgs, phi_40, pd_22, pd_28, pd_59, pd_60, pd_77, pd_92, pd_93, pd_94, pd_95, pd_96, h, hk, hk1, hk2, hk3z, k1, z]
        (repeat' (first | (with_reducible apply And.intro) | intro _)) <;> first | omega | skip
        refine den_for 0 0 (fun i => [.int i, .lst []]) (fun _ => True) (by simp) (by simp [X.den]) trivial fun i hi _ => ?_
        apply says_den (φ := (phi_40))
        have hi0 : i = 0 := by omega
        simp [e_e_19, E_e_19, e_e, e_v, tree_40, T.says, X.den, O1.den, O2.den, O3.den, callD, XArg.ev, XArg.dat, Callee'.num, backs, DArg.back, Conds.den, cloArgs, phi_40, pd_22, pd_28, pd_59, pd_60, pd_77, pd_92, pd_93, pd_94, pd_95, pd_96, h, hi0, doN, doE, hk, actedN, hq, e1, k1, z]
        all_goals ((repeat' (first | (with_reducible apply And.intro) | intro _)) <;> first | omega | (exact spent_eta _ _ e_e) | (first | assumption | (exact pd_22 _ _ (by first | (with_reducible assumption) | omega | assumption | (simp; done) | (simp; omega) | (simp [*]; done) | exact smallE_of (n := 1048576) (by omega) (by omega) | (simp [*] at *; omega) | grind [szS]) _ (by first | rfl | simp | (simp; omega))) | (exact pd_28 _ _ (by first | rfl | simp | (simp; omega))) | (exact pd_59 _ (by first | (with_reducible assumption) | omega | assumption | (simp; done) | (simp; omega) | (simp [*]; done) | exact smallE_of (n := 1048576) (by omega) (by omega) | (simp [*] at *; omega) | grind [szS]) _ (by first | rfl | simp | (simp; omega))) | (exact pd_60 _ _ _ (by first | rfl | simp | (simp; omega))) | (exact pd_77 _ _ _ (by first | rfl | simp | (simp; omega))) | (exact pd_92 _ _ (by first | rfl | simp | (simp; omega))) | (exact pd_93 _ _ _ (by first | rfl | simp | (simp; omega))) | (exact pd_94 _ _ (by first | (with_reducible assumption) | omega | assumption | (simp; done) | (simp; omega) | (simp [*]; done) | exact smallE_of (n := 1048576) (by omega) (by omega) | (simp [*] at *; omega) | grind [szS]) _ (by first | rfl | simp | (simp; omega))) | (exact pd_95 _ _ _ (by first | rfl | simp | (simp; omega))) | (exact pd_96 _ _ (by first | rfl | simp | (simp; omega))) | (first | omega | (simp only [IntKind.wrap_i64, maxL] at *; omega) | (simp [IntKind.wrap_i64, maxL] at *; omega)) | rfl | contradiction | grind))
      · simp [e_e_19, E_e_19, e_e, e_v, tree_40, T.says, X.den, O1.den, O2.den, O3.den, callD, XArg.ev, XArg.dat, Callee'.num, backs, DArg.back, Conds.den, cloArgs, phi_40, pd_22, pd_28, pd_59, pd_60, pd_77, pd_92, pd_93, pd_94, pd_95, pd_96, h, hk, hk1, hk2, hk3, k1, z]
        (repeat' (first | (with_reducible apply And.intro) | intro _)) <;> first | omega | skip
        refine den_for 0 0 (fun i => [.int i, .lst []]) (fun _ => True) (by simp) (by simp [X.den]) trivial fun i hi _ => ?_
        apply says_den (φ := (phi_40))
        have hi0 : i = 0 := by omega
        simp [e_e_19, E_e_19, e_e, e_v, tree_40, T.says, X.den, O1.den, O2.den, O3.den, callD, XArg.ev, XArg.dat, Callee'.num, backs, DArg.back, Conds.den, cloArgs, phi_40, pd_22, pd_28, pd_59, pd_60, pd_77, pd_92, pd_93, pd_94, pd_95, pd_96, h, hi0, doN, doE, hk, actedN, hq, e1, k1, z]
        all_goals ((repeat' (first | (with_reducible apply And.intro) | intro _)) <;> first | omega | (exact spent_eta _ _ e_e) | (first | assumption | (exact pd_22 _ _ (by first | (with_reducible assumption) | omega | assumption | (simp; done) | (simp; omega) | (simp [*]; done) | exact smallE_of (n := 1048576) (by omega) (by omega) | (simp [*] at *; omega) | grind [szS]) _ (by first | rfl | simp | (simp; omega))) | (exact pd_28 _ _ (by first | rfl | simp | (simp; omega))) | (exact pd_59 _ (by first | (with_reducible assumption) | omega | assumption | (simp; done) | (simp; omega) | (simp [*]; done) | exact smallE_of (n := 1048576) (by omega) (by omega) | (simp [*] at *; omega) | grind [szS]) _ (by first | rfl | simp | (simp; omega))) | (exact pd_60 _ _ _ (by first | rfl | simp | (simp; omega))) | (exact pd_77 _ _ _ (by first | rfl | simp | (simp; omega))) | (exact pd_92 _ _ (by first | rfl | simp | (simp; omega))) | (exact pd_93 _ _ _ (by first | rfl | simp | (simp; omega))) | (exact pd_94 _ _ (by first | (with_reducible assumption) | omega | assumption | (simp; done) | (simp; omega) | (simp [*]; done) | exact smallE_of (n := 1048576) (by omega) (by omega) | (simp [*] at *; omega) | grind [szS]) _ (by first | rfl | simp | (simp; omega))) | (exact pd_95 _ _ _ (by first | rfl | simp | (simp; omega))) | (exact pd_96 _ _ (by first | rfl | simp | (simp; omega))) | (first | omega | (simp only [IntKind.wrap_i64, maxL] at *; omega) | (simp [IntKind.wrap_i64, maxL] at *; omega)) | rfl | contradiction | grind))
    by_cases k2 : (e.fld 13).toI = 2
    · obtain ⟨y, hy⟩ : ∃ y, y = withN v (IntKind.i64.wrap ((v.fld 4).toI - upto (v.fld 4).toI (e.fld 21).toI)) := ⟨_, rfl⟩
      have ey : D.lst [y.fld 0, y.fld 1, y.fld 2, y.fld 3, y.fld 4, y.fld 5, y.fld 6] = y := by rw [hy]; exact rfl
      have e1 : D.lst [y] = D.lst L := by rw [hL, hy]; simp [actedL, actOf, k2]
      simp [e_e_19, E_e_19, e_e, e_v, tree_40, T.says, X.den, O1.den, O2.den, O3.den, callD, XArg.ev, XArg.dat, Callee'.num, backs, DArg.back, Conds.den, cloArgs, phi_40, pd_22, pd_28, pd_59, pd_60, pd_77, pd_92, pd_93, pd_94, pd_95, pd_96, h, hk, hk1, hk2, hk3, k2, ← hy]
      (repeat' (first | (with_reducible apply And.intro) | intro _)) <;> first | omega | skip
      have hE : ∀ x ∈ L, D.lst [x.fld 0, x.fld 1, x.fld 2, x.fld 3, x.fld 4, x.fld 5, x.fld 6] = x := by
        rw [hL]
        exact fun x => actedL_eta e v x e_v (fun x hx => by simpa [List.range, List.range.loop] using okL_eta (sl_all (okL_at k_e (i := 19) rfl) _ hx))
      refine den_for L.length 0 (fun i => [.int i, .lst ((L.take i).filter goodEv)]) (fun _ => True) (by simp) (by simp [X.den]) trivial fun i hi _ => ?_
      apply says_den (φ := (phi_40))
      by_cases hlt : i < L.length
      · have fs := filter_step (l := .lst L) goodEv hlt
        have hlf := List.length_filter_le goodEv (L.take i)
        have hlk : (L.take i).length = i := by simp; omega
        have ex := hE _ (elem_mem (d := .lst L) hlt)
        obtain ⟨x, hx⟩ : ∃ x, x = (D.lst L).elem i := ⟨_, rfl⟩
        rw [← hx] at fs ex
        clear hE
        cases hg : eventOk x
        · simp [e_e_19, E_e_19, e_e, e_v, tree_40, T.says, X.den, O1.den, O2.den, O3.den, callD, XArg.ev, XArg.dat, Callee'.num, backs, DArg.back, Conds.den, cloArgs, phi_40, pd_22, pd_28, pd_59, pd_60, pd_77, pd_92, pd_93, pd_94, pd_95, pd_96, ey, e1, hlt, ← hx, ex, hg]
          intros
          refine ⟨by (first | omega | (simp only [IntKind.wrap_i64, maxL] at *; omega) | (simp [IntKind.wrap_i64, maxL] at *; omega)), ?_⟩
          simpa [goodEv, hg] using fs.symm
        · cases hg2 : gone x
          · simp [e_e_19, E_e_19, e_e, e_v, tree_40, T.says, X.den, O1.den, O2.den, O3.den, callD, XArg.ev, XArg.dat, Callee'.num, backs, DArg.back, Conds.den, cloArgs, phi_40, pd_22, pd_28, pd_59, pd_60, pd_77, pd_92, pd_93, pd_94, pd_95, pd_96, ey, e1, hlt, ← hx, ex, hg, hg2]
            intros
            refine ⟨by omega, by (first | omega | (simp only [IntKind.wrap_i64, maxL] at *; omega) | (simp [IntKind.wrap_i64, maxL] at *; omega)), ?_⟩
            simpa [goodEv, hg, hg2] using fs.symm
          · simp [e_e_19, E_e_19, e_e, e_v, tree_40, T.says, X.den, O1.den, O2.den, O3.den, callD, XArg.ev, XArg.dat, Callee'.num, backs, DArg.back, Conds.den, cloArgs, phi_40, pd_22, pd_28, pd_59, pd_60, pd_77, pd_92, pd_93, pd_94, pd_95, pd_96, ey, e1, hlt, ← hx, ex, hg, hg2]
            intros
            refine ⟨by (first | omega | (simp only [IntKind.wrap_i64, maxL] at *; omega) | (simp [IntKind.wrap_i64, maxL] at *; omega)), ?_⟩
            simpa [goodEv, hg, hg2] using fs.symm
      · have hil : i = L.length := by omega
        clear hE
        simp [e_e_19, E_e_19, e_e, e_v, tree_40, T.says, X.den, O1.den, O2.den, O3.den, callD, XArg.ev, XArg.dat, Callee'.num, backs, DArg.back, Conds.den, cloArgs, phi_40, pd_22, pd_28, pd_59, pd_60, pd_77, pd_92, pd_93, pd_94, pd_95, pd_96, ey, e1, h, hlt, hil, doN, doE, hk, actedN, hq, k2]
        all_goals ((repeat' (first | (with_reducible apply And.intro) | intro _)) <;> first | omega | (exact spent_eta _ _ e_e) | (first | assumption | (exact pd_22 _ _ (by first | (with_reducible assumption) | omega | assumption | (simp; done) | (simp; omega) | (simp [*]; done) | exact smallE_of (n := 1048576) (by omega) (by omega) | (simp [*] at *; omega) | grind [szS]) _ (by first | rfl | simp | (simp; omega))) | (exact pd_28 _ _ (by first | rfl | simp | (simp; omega))) | (exact pd_59 _ (by first | (with_reducible assumption) | omega | assumption | (simp; done) | (simp; omega) | (simp [*]; done) | exact smallE_of (n := 1048576) (by omega) (by omega) | (simp [*] at *; omega) | grind [szS]) _ (by first | rfl | simp | (simp; omega))) | (exact pd_60 _ _ _ (by first | rfl | simp | (simp; omega))) | (exact pd_77 _ _ _ (by first | rfl | simp | (simp; omega))) | (exact pd_92 _ _ (by first | rfl | simp | (simp; omega))) | (exact pd_93 _ _ _ (by first | rfl | simp | (simp; omega))) | (exact pd_94 _ _ (by first | (with_reducible assumption) | omega | assumption | (simp; done) | (simp; omega) | (simp [*]; done) | exact smallE_of (n := 1048576) (by omega) (by omega) | (simp [*] at *; omega) | grind [szS]) _ (by first | rfl | simp | (simp; omega))) | (exact pd_95 _ _ _ (by first | rfl | simp | (simp; omega))) | (exact pd_96 _ _ (by first | rfl | simp | (simp; omega))) | (first | omega | (simp only [IntKind.wrap_i64, maxL] at *; omega) | (simp [IntKind.wrap_i64, maxL] at *; omega)) | rfl | contradiction | grind))
    by_cases k9 : (e.fld 13).toI = 9
    · have e1 : D.lst (parts (D.lst [e.fld 13, e.fld 14, e.fld 15, e.fld 16, e.fld 17, e.fld 18, e.fld 19]) v) = D.lst L := by rw [hL]; simp [actedL, actOf, k9]
      simp [e_e_19, E_e_19, e_e, e_v, tree_40, T.says, X.den, O1.den, O2.den, O3.den, callD, XArg.ev, XArg.dat, Callee'.num, backs, DArg.back, Conds.den, cloArgs, phi_40, pd_22, pd_28, pd_59, pd_60, pd_77, pd_92, pd_93, pd_94, pd_95, pd_96, h, hk, hk1, hk2, hk3, k9]
      (repeat' (first | (with_reducible apply And.intro) | intro _)) <;> first | omega | skip
      simp only [e1]
      have hE : ∀ x ∈ L, D.lst [x.fld 0, x.fld 1, x.fld 2, x.fld 3, x.fld 4, x.fld 5, x.fld 6] = x := by
        rw [hL]
        exact fun x => actedL_eta e v x e_v (fun x hx => by simpa [List.range, List.range.loop] using okL_eta (sl_all (okL_at k_e (i := 19) rfl) _ hx))
      refine den_for L.length 0 (fun i => [.int i, .lst ((L.take i).filter goodEv)]) (fun _ => True) (by simp) (by simp [X.den]) trivial fun i hi _ => ?_
      apply says_den (φ := (phi_40))
      by_cases hlt : i < L.length
      · have fs := filter_step (l := .lst L) goodEv hlt
        have hlf := List.length_filter_le goodEv (L.take i)
        have hlk : (L.take i).length = i := by simp; omega
        have ex := hE _ (elem_mem (d := .lst L) hlt)
        obtain ⟨x, hx⟩ : ∃ x, x = (D.lst L).elem i := ⟨_, rfl⟩
        rw [← hx] at fs ex
        clear hE
        cases hg : eventOk x
        · simp [e_e_19, E_e_19, e_e, e_v, tree_40, T.says, X.den, O1.den, O2.den, O3.den, callD, XArg.ev, XArg.dat, Callee'.num, backs, DArg.back, Conds.den, cloArgs, phi_40, pd_22, pd_28, pd_59, pd_60, pd_77, pd_92, pd_93, pd_94, pd_95, pd_96, hlt, ← hx, ex, hg]
          intros
          refine ⟨by (first | omega | (simp only [IntKind.wrap_i64, maxL] at *; omega) | (simp [IntKind.wrap_i64, maxL] at *; omega)), ?_⟩
          simpa [goodEv, hg] using fs.symm
        · cases hg2 : gone x
          · simp [e_e_19, E_e_19, e_e, e_v, tree_40, T.says, X.den, O1.den, O2.den, O3.den, callD, XArg.ev, XArg.dat, Callee'.num, backs, DArg.back, Conds.den, cloArgs, phi_40, pd_22, pd_28, pd_59, pd_60, pd_77, pd_92, pd_93, pd_94, pd_95, pd_96, hlt, ← hx, ex, hg, hg2]
            intros
            refine ⟨by omega, by (first | omega | (simp only [IntKind.wrap_i64, maxL] at *; omega) | (simp [IntKind.wrap_i64, maxL] at *; omega)), ?_⟩
            simpa [goodEv, hg, hg2] using fs.symm
          · simp [e_e_19, E_e_19, e_e, e_v, tree_40, T.says, X.den, O1.den, O2.den, O3.den, callD, XArg.ev, XArg.dat, Callee'.num, backs, DArg.back, Conds.den, cloArgs, phi_40, pd_22, pd_28, pd_59, pd_60, pd_77, pd_92, pd_93, pd_94, pd_95, pd_96, hlt, ← hx, ex, hg, hg2]
            intros
            refine ⟨by (first | omega | (simp only [IntKind.wrap_i64, maxL] at *; omega) | (simp [IntKind.wrap_i64, maxL] at *; omega)), ?_⟩
            simpa [goodEv, hg, hg2] using fs.symm
      · have hil : i = L.length := by omega
        clear hE
        simp [e_e_19, E_e_19, e_e, e_v, tree_40, T.says, X.den, O1.den, O2.den, O3.den, callD, XArg.ev, XArg.dat, Callee'.num, backs, DArg.back, Conds.den, cloArgs, phi_40, pd_22, pd_28, pd_59, pd_60, pd_77, pd_92, pd_93, pd_94, pd_95, pd_96, h, hlt, hil, doN, doE, hk, actedN, hq, k9]
        all_goals ((repeat' (first | (with_reducible apply And.intro) | intro _)) <;> first | omega | (exact spent_eta _ _ e_e) | (first | assumption | (exact pd_22 _ _ (by first | (with_reducible assumption) | omega | assumption | (simp; done) | (simp; omega) | (simp [*]; done) | exact smallE_of (n := 1048576) (by omega) (by omega) | (simp [*] at *; omega) | grind [szS]) _ (by first | rfl | simp | (simp; omega))) | (exact pd_28 _ _ (by first | rfl | simp | (simp; omega))) | (exact pd_59 _ (by first | (with_reducible assumption) | omega | assumption | (simp; done) | (simp; omega) | (simp [*]; done) | exact smallE_of (n := 1048576) (by omega) (by omega) | (simp [*] at *; omega) | grind [szS]) _ (by first | rfl | simp | (simp; omega))) | (exact pd_60 _ _ _ (by first | rfl | simp | (simp; omega))) | (exact pd_77 _ _ _ (by first | rfl | simp | (simp; omega))) | (exact pd_92 _ _ (by first | rfl | simp | (simp; omega))) | (exact pd_93 _ _ _ (by first | rfl | simp | (simp; omega))) | (exact pd_94 _ _ (by first | (with_reducible assumption) | omega | assumption | (simp; done) | (simp; omega) | (simp [*]; done) | exact smallE_of (n := 1048576) (by omega) (by omega) | (simp [*] at *; omega) | grind [szS]) _ (by first | rfl | simp | (simp; omega))) | (exact pd_95 _ _ _ (by first | rfl | simp | (simp; omega))) | (exact pd_96 _ _ (by first | rfl | simp | (simp; omega))) | (first | omega | (simp only [IntKind.wrap_i64, maxL] at *; omega) | (simp [IntKind.wrap_i64, maxL] at *; omega)) | rfl | contradiction | grind))
    obtain ⟨y, hy⟩ : ∃ y, y = oneE (D.lst [e.fld 13, e.fld 14, e.fld 15, e.fld 16, e.fld 17, e.fld 18, e.fld 19]) v := ⟨_, rfl⟩
    have ey : D.lst [y.fld 0, y.fld 1, y.fld 2, y.fld 3, y.fld 4, y.fld 5, y.fld 6] = y := by rw [hy]; exact oneE_eta _ _ e_v
    have e1 : D.lst [y] = D.lst L := by rw [hL, hy]; simp [actedL, actOf, k1, k2, k9]
    simp [e_e_19, E_e_19, e_e, e_v, tree_40, T.says, X.den, O1.den, O2.den, O3.den, callD, XArg.ev, XArg.dat, Callee'.num, backs, DArg.back, Conds.den, cloArgs, phi_40, pd_22, pd_28, pd_59, pd_60, pd_77, pd_92, pd_93, pd_94, pd_95, pd_96, h, hk, hk1, hk2, hk3, k1, k2, k9, ← hy]
    (repeat' (first | (with_reducible apply And.intro) | intro _)) <;> first | omega | skip
    have hE : ∀ x ∈ L, D.lst [x.fld 0, x.fld 1, x.fld 2, x.fld 3, x.fld 4, x.fld 5, x.fld 6] = x := by
      rw [hL]
      exact fun x => actedL_eta e v x e_v (fun x hx => by simpa [List.range, List.range.loop] using okL_eta (sl_all (okL_at k_e (i := 19) rfl) _ hx))
    refine den_for L.length 0 (fun i => [.int i, .lst ((L.take i).filter goodEv)]) (fun _ => True) (by simp) (by simp [X.den]) trivial fun i hi _ => ?_
    apply says_den (φ := (phi_40))
    by_cases hlt : i < L.length
    · have fs := filter_step (l := .lst L) goodEv hlt
      have hlf := List.length_filter_le goodEv (L.take i)
      have hlk : (L.take i).length = i := by simp; omega
      have ex := hE _ (elem_mem (d := .lst L) hlt)
      obtain ⟨x, hx⟩ : ∃ x, x = (D.lst L).elem i := ⟨_, rfl⟩
      rw [← hx] at fs ex
      clear hE
      cases hg : eventOk x
      · simp [e_e_19, E_e_19, e_e, e_v, tree_40, T.says, X.den, O1.den, O2.den, O3.den, callD, XArg.ev, XArg.dat, Callee'.num, backs, DArg.back, Conds.den, cloArgs, phi_40, pd_22, pd_28, pd_59, pd_60, pd_77, pd_92, pd_93, pd_94, pd_95, pd_96, ey, e1, hlt, ← hx, ex, hg]
        intros
        refine ⟨by (first | omega | (simp only [IntKind.wrap_i64, maxL] at *; omega) | (simp [IntKind.wrap_i64, maxL] at *; omega)), ?_⟩
        simpa [goodEv, hg] using fs.symm
      · cases hg2 : gone x
        · simp [e_e_19, E_e_19, e_e, e_v, tree_40, T.says, X.den, O1.den, O2.den, O3.den, callD, XArg.ev, XArg.dat, Callee'.num, backs, DArg.back, Conds.den, cloArgs, phi_40, pd_22, pd_28, pd_59, pd_60, pd_77, pd_92, pd_93, pd_94, pd_95, pd_96, ey, e1, hlt, ← hx, ex, hg, hg2]
          intros
          refine ⟨by omega, by (first | omega | (simp only [IntKind.wrap_i64, maxL] at *; omega) | (simp [IntKind.wrap_i64, maxL] at *; omega)), ?_⟩
          simpa [goodEv, hg, hg2] using fs.symm
        · simp [e_e_19, E_e_19, e_e, e_v, tree_40, T.says, X.den, O1.den, O2.den, O3.den, callD, XArg.ev, XArg.dat, Callee'.num, backs, DArg.back, Conds.den, cloArgs, phi_40, pd_22, pd_28, pd_59, pd_60, pd_77, pd_92, pd_93, pd_94, pd_95, pd_96, ey, e1, hlt, ← hx, ex, hg, hg2]
          intros
          refine ⟨by (first | omega | (simp only [IntKind.wrap_i64, maxL] at *; omega) | (simp [IntKind.wrap_i64, maxL] at *; omega)), ?_⟩
          simpa [goodEv, hg, hg2] using fs.symm
    · have hil : i = L.length := by omega
      clear hE
      simp [e_e_19, E_e_19, e_e, e_v, tree_40, T.says, X.den, O1.den, O2.den, O3.den, callD, XArg.ev, XArg.dat, Callee'.num, backs, DArg.back, Conds.den, cloArgs, phi_40, pd_22, pd_28, pd_59, pd_60, pd_77, pd_92, pd_93, pd_94, pd_95, pd_96, ey, e1, h, hlt, hil, doN, doE, hk, actedN, hq, k1, k2, k9]
      all_goals ((repeat' (first | (with_reducible apply And.intro) | intro _)) <;> first | omega | (exact spent_eta _ _ e_e) | (first | assumption | (exact pd_22 _ _ (by first | (with_reducible assumption) | omega | assumption | (simp; done) | (simp; omega) | (simp [*]; done) | exact smallE_of (n := 1048576) (by omega) (by omega) | (simp [*] at *; omega) | grind [szS]) _ (by first | rfl | simp | (simp; omega))) | (exact pd_28 _ _ (by first | rfl | simp | (simp; omega))) | (exact pd_59 _ (by first | (with_reducible assumption) | omega | assumption | (simp; done) | (simp; omega) | (simp [*]; done) | exact smallE_of (n := 1048576) (by omega) (by omega) | (simp [*] at *; omega) | grind [szS]) _ (by first | rfl | simp | (simp; omega))) | (exact pd_60 _ _ _ (by first | rfl | simp | (simp; omega))) | (exact pd_77 _ _ _ (by first | rfl | simp | (simp; omega))) | (exact pd_92 _ _ (by first | rfl | simp | (simp; omega))) | (exact pd_93 _ _ _ (by first | rfl | simp | (simp; omega))) | (exact pd_94 _ _ (by first | (with_reducible assumption) | omega | assumption | (simp; done) | (simp; omega) | (simp [*]; done) | exact smallE_of (n := 1048576) (by omega) (by omega) | (simp [*] at *; omega) | grind [szS]) _ (by first | rfl | simp | (simp; omega))) | (exact pd_95 _ _ _ (by first | rfl | simp | (simp; omega))) | (exact pd_96 _ _ (by first | rfl | simp | (simp; omega))) | (first | omega | (simp only [IntKind.wrap_i64, maxL] at *; omega) | (simp [IntKind.wrap_i64, maxL] at *; omega)) | rfl | contradiction | grind))
  · have hn : effectOk e = false ∨ (effectOk e = true ∧ eventOk v = false) ∨ (effectOk e = true ∧ eventOk v = true ∧ actFits (actOf e) (v.fld 0).toI = false) := by
      simp only [doOk] at hk
      cases h1 : effectOk e <;> cases h2 : eventOk v <;> cases h3 : actFits (actOf e) (v.fld 0).toI <;> simp_all
    simp only [actOf] at hn
    rcases hn with h1 | ⟨h1, h2⟩ | ⟨h1, h2, h3⟩
    · simp [e_e_19, E_e_19, e_e, e_v, tree_40, T.says, X.den, O1.den, O2.den, O3.den, callD, XArg.ev, XArg.dat, Callee'.num, backs, DArg.back, Conds.den, cloArgs, phi_40, pd_22, pd_28, pd_59, pd_60, pd_77, pd_92, pd_93, pd_94, pd_95, pd_96, h, doL, doN, doE, hk, h1]
      all_goals ((repeat' (first | (with_reducible apply And.intro) | intro _)) <;> first | omega | (first | assumption | (exact pd_22 _ _ (by first | (with_reducible assumption) | omega | assumption | (simp; done) | (simp; omega) | (simp [*]; done) | exact smallE_of (n := 1048576) (by omega) (by omega) | (simp [*] at *; omega) | grind [szS]) _ (by first | rfl | simp | (simp; omega))) | (exact pd_28 _ _ (by first | rfl | simp | (simp; omega))) | (exact pd_59 _ (by first | (with_reducible assumption) | omega | assumption | (simp; done) | (simp; omega) | (simp [*]; done) | exact smallE_of (n := 1048576) (by omega) (by omega) | (simp [*] at *; omega) | grind [szS]) _ (by first | rfl | simp | (simp; omega))) | (exact pd_60 _ _ _ (by first | rfl | simp | (simp; omega))) | (exact pd_77 _ _ _ (by first | rfl | simp | (simp; omega))) | (exact pd_92 _ _ (by first | rfl | simp | (simp; omega))) | (exact pd_93 _ _ _ (by first | rfl | simp | (simp; omega))) | (exact pd_94 _ _ (by first | (with_reducible assumption) | omega | assumption | (simp; done) | (simp; omega) | (simp [*]; done) | exact smallE_of (n := 1048576) (by omega) (by omega) | (simp [*] at *; omega) | grind [szS]) _ (by first | rfl | simp | (simp; omega))) | (exact pd_95 _ _ _ (by first | rfl | simp | (simp; omega))) | (exact pd_96 _ _ (by first | rfl | simp | (simp; omega))) | (first | omega | (simp only [IntKind.wrap_i64, maxL] at *; omega) | (simp [IntKind.wrap_i64, maxL] at *; omega)) | rfl | contradiction | grind))
    · simp [e_e_19, E_e_19, e_e, e_v, tree_40, T.says, X.den, O1.den, O2.den, O3.den, callD, XArg.ev, XArg.dat, Callee'.num, backs, DArg.back, Conds.den, cloArgs, phi_40, pd_22, pd_28, pd_59, pd_60, pd_77, pd_92, pd_93, pd_94, pd_95, pd_96, h, doL, doN, doE, hk, h1, h2]
      all_goals ((repeat' (first | (with_reducible apply And.intro) | intro _)) <;> first | omega | (first | assumption | (exact pd_22 _ _ (by first | (with_reducible assumption) | omega | assumption | (simp; done) | (simp; omega) | (simp [*]; done) | exact smallE_of (n := 1048576) (by omega) (by omega) | (simp [*] at *; omega) | grind [szS]) _ (by first | rfl | simp | (simp; omega))) | (exact pd_28 _ _ (by first | rfl | simp | (simp; omega))) | (exact pd_59 _ (by first | (with_reducible assumption) | omega | assumption | (simp; done) | (simp; omega) | (simp [*]; done) | exact smallE_of (n := 1048576) (by omega) (by omega) | (simp [*] at *; omega) | grind [szS]) _ (by first | rfl | simp | (simp; omega))) | (exact pd_60 _ _ _ (by first | rfl | simp | (simp; omega))) | (exact pd_77 _ _ _ (by first | rfl | simp | (simp; omega))) | (exact pd_92 _ _ (by first | rfl | simp | (simp; omega))) | (exact pd_93 _ _ _ (by first | rfl | simp | (simp; omega))) | (exact pd_94 _ _ (by first | (with_reducible assumption) | omega | assumption | (simp; done) | (simp; omega) | (simp [*]; done) | exact smallE_of (n := 1048576) (by omega) (by omega) | (simp [*] at *; omega) | grind [szS]) _ (by first | rfl | simp | (simp; omega))) | (exact pd_95 _ _ _ (by first | rfl | simp | (simp; omega))) | (exact pd_96 _ _ (by first | rfl | simp | (simp; omega))) | (first | omega | (simp only [IntKind.wrap_i64, maxL] at *; omega) | (simp [IntKind.wrap_i64, maxL] at *; omega)) | rfl | contradiction | grind))
    · simp [e_e_19, E_e_19, e_e, e_v, tree_40, T.says, X.den, O1.den, O2.den, O3.den, callD, XArg.ev, XArg.dat, Callee'.num, backs, DArg.back, Conds.den, cloArgs, phi_40, pd_22, pd_28, pd_59, pd_60, pd_77, pd_92, pd_93, pd_94, pd_95, pd_96, h, doL, doN, doE, hk, h1, h2, h3]
      all_goals ((repeat' (first | (with_reducible apply And.intro) | intro _)) <;> first | omega | (first | assumption | (exact pd_22 _ _ (by first | (with_reducible assumption) | omega | assumption | (simp; done) | (simp; omega) | (simp [*]; done) | exact smallE_of (n := 1048576) (by omega) (by omega) | (simp [*] at *; omega) | grind [szS]) _ (by first | rfl | simp | (simp; omega))) | (exact pd_28 _ _ (by first | rfl | simp | (simp; omega))) | (exact pd_59 _ (by first | (with_reducible assumption) | omega | assumption | (simp; done) | (simp; omega) | (simp [*]; done) | exact smallE_of (n := 1048576) (by omega) (by omega) | (simp [*] at *; omega) | grind [szS]) _ (by first | rfl | simp | (simp; omega))) | (exact pd_60 _ _ _ (by first | rfl | simp | (simp; omega))) | (exact pd_77 _ _ _ (by first | rfl | simp | (simp; omega))) | (exact pd_92 _ _ (by first | rfl | simp | (simp; omega))) | (exact pd_93 _ _ _ (by first | rfl | simp | (simp; omega))) | (exact pd_94 _ _ (by first | (with_reducible assumption) | omega | assumption | (simp; done) | (simp; omega) | (simp [*]; done) | exact smallE_of (n := 1048576) (by omega) (by omega) | (simp [*] at *; omega) | grind [szS]) _ (by first | rfl | simp | (simp; omega))) | (exact pd_95 _ _ _ (by first | rfl | simp | (simp; omega))) | (exact pd_96 _ _ (by first | rfl | simp | (simp; omega))) | (first | omega | (simp only [IntKind.wrap_i64, maxL] at *; omega) | (simp [IntKind.wrap_i64, maxL] at *; omega)) | rfl | contradiction | grind))
theorem pd_40 (e v : D) (h : ((e.fld 19).toL.length : Int) ≤ 1048576) (Q : List D → Prop) (ho : Q [.lst (doL e v), .int (doN e v), doE e v]) : PC Try.prog 40 [.st [(.int .i64), (.int .i64), (.int .i64), (.int .i64), (.int .i64), (.int .i64), (.int .i64), (.int .i64), (.int .i64), (.int .i64), (.int .i64), (.int .i64), (.int .i64), (.int .i64), (.int .i64), (.int .i64), (.int .i64), (.int .i64), .bool, (.sl [(.int .i64), (.int .i64), (.int .i64), (.int .i64), (.int .i64), (.int .i64), .bool]), (.int .i64), (.int .i64)] e, .st [(.int .i64), (.int .i64), (.int .i64), (.int .i64), (.int .i64), (.int .i64), .bool] v] [.sc (.sl [(.int .i64), (.int .i64), (.int .i64), (.int .i64), (.int .i64), (.int .i64), .bool]), .sc (.int .i64), .st [(.int .i64), (.int .i64), (.int .i64), (.int .i64), (.int .i64), (.int .i64), (.int .i64), (.int .i64), (.int .i64), (.int .i64), (.int .i64), (.int .i64), (.int .i64), (.int .i64), (.int .i64), (.int .i64), (.int .i64), (.int .i64), .bool, (.sl [(.int .i64), (.int .i64), (.int .i64), (.int .i64), (.int .i64), (.int .i64), .bool]), (.int .i64), (.int .i64)]] Q := (pc_40 e v h).mono fun _ h => h ▸ ho
/- slices.Clone[[]impl.Event,impl.Event] -/
theorem pc_122 (d : D) (h : (d.toL.length : Int) ≤ 1048576) : PC Try.prog 122 [.sc (.sl [(.int .i64), (.int .i64), (.int .i64), (.int .i64), (.int .i64), (.int .i64), .bool]) d] [.sc (.sl [(.int .i64), (.int .i64), (.int .i64), (.int .i64), (.int .i64), (.int .i64), .bool])] fun o => o = [d] := by
  refine PC.of_sig mix sig_122 ⟨rfl, trivial⟩ rfl fun hok => ?_
  have e_d := sl_eta (hok _ (.head _))
  have l_d := sl_len (hok _ (.head _))
  have k_d := sl_all (hok _ (.head _))
  have E_d : ∀ i, i < d.toL.length → D.lst [(d.elem i).fld 0, (d.elem i).fld 1, (d.elem i).fld 2, (d.elem i).fld 3, (d.elem i).fld 4, (d.elem i).fld 5, (d.elem i).fld 6] = d.elem i := fun i hi => by simpa [List.range, List.range.loop] using okL_eta (k_d _ (elem_mem hi))
  apply says_den (φ := fun _ _ => [])
  simp [e_d, E_d, tree_122, T.says, X.den, O1.den, O2.den, O3.den, callD, XArg.ev, XArg.dat, Callee'.num, backs, DArg.back, Conds.den, cloArgs] at h ⊢
  (repeat' (first | (with_reducible apply And.intro) | intro _))
  · omega
  · have e0 := e_d; rw [‹d.toL = []›] at e0; exact e0
theorem pd_122 (d : D) (h : (d.toL.length : Int) ≤ 1048576) (Q : List D → Prop) (ho : Q [d]) : PC Try.prog 122 [.sc (.sl [(.int .i64), (.int .i64), (.int .i64), (.int .i64), (.int .i64), (.int .i64), .bool]) d] [.sc (.sl [(.int .i64), (.int .i64), (.int .i64), (.int .i64), (.int .i64), (.int .i64), .bool])] Q := (pc_122 d h).mono fun _ h => h ▸ ho
/- impl.copyEffect -/
def phi_65 : Nat → List D → List D
  | 122, [d] => [d]
  | _, _ => []
theorem pc_65 (e : D) (h : ((e.fld 19).toL.length : Int) ≤ 1048576) : PC Try.prog 65 [.st [(.int .i64), (.int .i64), (.int .i64), (.int .i64), (.int .i64), (.int .i64), (.int .i64), (.int .i64), (.int .i64), (.int .i64), (.int .i64), (.int .i64), (.int .i64), (.int .i64), (.int .i64), (.int .i64), (.int .i64), (.int .i64), .bool, (.sl [(.int .i64), (.int .i64), (.int .i64), (.int .i64), (.int .i64), (.int .i64), .bool]), (.int .i64), (.int .i64)] e] [.st [(.int .i64), (.int .i64), (.int .i64), (.int .i64), (.int .i64), (.int .i64), (.int .i64), (.int .i64), (.int .i64), (.int .i64), (.int .i64), (.int .i64), (.int .i64), (.int .i64), (.int .i64), (.int .i64), (.int .i64), (.int .i64), .bool, (.sl [(.int .i64), (.int .i64), (.int .i64), (.int .i64), (.int .i64), (.int .i64), .bool]), (.int .i64), (.int .i64)]] fun o => o = [e] := by
  refine PC.of_sig mix sig_65 ⟨rfl, trivial⟩ rfl fun hok => ?_
  have e_e : D.lst [e.fld 0, e.fld 1, e.fld 2, e.fld 3, e.fld 4, e.fld 5, e.fld 6, e.fld 7, e.fld 8, e.fld 9, e.fld 10, e.fld 11, e.fld 12, e.fld 13, e.fld 14, e.fld 15, e.fld 16, e.fld 17, e.fld 18, e.fld 19, e.fld 20, e.fld 21] = e := by simpa [List.range, List.range.loop] using okL_eta (hok _ (.head _))
  have k_e : okL [(.int .i64), (.int .i64), (.int .i64), (.int .i64), (.int .i64), (.int .i64), (.int .i64), (.int .i64), (.int .i64), (.int .i64), (.int .i64), (.int .i64), (.int .i64), (.int .i64), (.int .i64), (.int .i64), (.int .i64), (.int .i64), .bool, (.sl [(.int .i64), (.int .i64), (.int .i64), (.int .i64), (.int .i64), (.int .i64), .bool]), (.int .i64), (.int .i64)] e := (hok _ (.head _))
  have e_e_19 : D.lst (e.fld 19).toL = e.fld 19 := sl_eta (okL_at k_e (i := 19) rfl)
  have l_e_19 := sl_len (okL_at k_e (i := 19) rfl)
  have k_e_19 := sl_all (okL_at k_e (i := 19) rfl)
  have E_e_19 : ∀ i, i < (e.fld 19).toL.length → D.lst [((e.fld 19).elem i).fld 0, ((e.fld 19).elem i).fld 1, ((e.fld 19).elem i).fld 2, ((e.fld 19).elem i).fld 3, ((e.fld 19).elem i).fld 4, ((e.fld 19).elem i).fld 5, ((e.fld 19).elem i).fld 6] = (e.fld 19).elem i := fun i hi => by simpa [List.range, List.range.loop] using okL_eta (k_e_19 _ (elem_mem hi))
  apply says_den (φ := (phi_65))
  simp [e_e_19, E_e_19, e_e, tree_65, T.says, X.den, O1.den, O2.den, O3.den, callD, XArg.ev, XArg.dat, Callee'.num, backs, DArg.back, Conds.den, cloArgs, phi_65, pd_122, h]
theorem pd_65 (e : D) (h : ((e.fld 19).toL.length : Int) ≤ 1048576) (Q : List D → Prop) (ho : Q [e]) : PC Try.prog 65 [.st [(.int .i64), (.int .i64), (.int .i64), (.int .i64), (.int .i64), (.int .i64), (.int .i64), (.int .i64), (.int .i64), (.int .i64), (.int .i64), (.int .i64), (.int .i64), (.int .i64), (.int .i64), (.int .i64), (.int .i64), (.int .i64), .bool, (.sl [(.int .i64), (.int .i64), (.int .i64), (.int .i64), (.int .i64), (.int .i64), .bool]), (.int .i64), (.int .i64)] e] [.st [(.int .i64), (.int .i64), (.int .i64), (.int .i64), (.int .i64), (.int .i64), (.int .i64), (.int .i64), (.int .i64), (.int .i64), (.int .i64), (.int .i64), (.int .i64), (.int .i64), (.int .i64), (.int .i64), (.int .i64), (.int .i64), .bool, (.sl [(.int .i64), (.int .i64), (.int .i64), (.int .i64), (.int .i64), (.int .i64), .bool]), (.int .i64), (.int .i64)]] Q := (pc_65 e h).mono fun _ h => h ▸ ho
/- impl.Upto -/
theorem pc_66 (a b : D) : PC Try.prog 66 [.sc (.int .i64) a, .sc (.int .i64) b] [.sc (.int .i64)] fun o => o = [.int (upto a.toI b.toI)] := by
  refine PC.of_sig mix sig_66 ⟨rfl, rfl, trivial⟩ rfl fun hok => ?_
  have e_a := int_eta (hok _ (.head _))
  have b_a := int_range (hok _ (.head _))
  have e_b := int_eta (hok _ (.tail _ (.head _)))
  have b_b := int_range (hok _ (.tail _ (.head _)))
  apply says_den (φ := fun _ _ => [])
  simp [e_a, e_b, tree_66, T.says, X.den, O1.den, O2.den, O3.den, callD, XArg.ev, XArg.dat, Callee'.num, backs, DArg.back, Conds.den, cloArgs]
  grind [upto]
theorem pd_66 (a b : D) (Q : List D → Prop) (ho : Q [.int (upto a.toI b.toI)]) : PC Try.prog 66 [.sc (.int .i64) a, .sc (.int .i64) b] [.sc (.int .i64)] Q := (pc_66 a b).mono fun _ h => h ▸ ho
/- impl.Bound -/
theorem pc_123 (a : D) : PC Try.prog 123 [.sc (.int .i64) a] [.sc (.int .i64)] fun o => o = [.int (bound a.toI)] := by
  refine PC.of_sig mix sig_123 ⟨rfl, trivial⟩ rfl fun hok => ?_
  have e_a := int_eta (hok _ (.head _))
  have b_a := int_range (hok _ (.head _))
  apply says_den (φ := fun _ _ => [])
  simp [e_a, tree_123, T.says, X.den, O1.den, O2.den, O3.den, callD, XArg.ev, XArg.dat, Callee'.num, backs, DArg.back, Conds.den, cloArgs]
  (repeat' (first | (with_reducible apply And.intro) | intro _)) <;> grind [bound]
theorem pd_123 (a : D) (Q : List D → Prop) (ho : Q [.int (bound a.toI)]) : PC Try.prog 123 [.sc (.int .i64) a] [.sc (.int .i64)] Q := (pc_123 a).mono fun _ h => h ▸ ho
/- impl.Less -/
def phi_67 : Nat → List D → List D
  | 123, [a] => [.int (bound a.toI)]
  | _, _ => []
theorem pc_67 (a b : D) : PC Try.prog 67 [.sc (.int .i64) a, .sc (.int .i64) b] [.sc (.int .i64)] fun o => o = [.int (less a.toI b.toI)] := by
  refine PC.of_sig mix sig_67 ⟨rfl, rfl, trivial⟩ rfl fun hok => ?_
  have e_a := int_eta (hok _ (.head _))
  have b_a := int_range (hok _ (.head _))
  have e_b := int_eta (hok _ (.tail _ (.head _)))
  have b_b := int_range (hok _ (.tail _ (.head _)))
  apply says_den (φ := (phi_67))
  simp [e_a, e_b, tree_67, T.says, X.den, O1.den, O2.den, O3.den, callD, XArg.ev, XArg.dat, Callee'.num, backs, DArg.back, Conds.den, cloArgs, phi_67, pd_123, less]
theorem pd_67 (a b : D) (Q : List D → Prop) (ho : Q [.int (less a.toI b.toI)]) : PC Try.prog 67 [.sc (.int .i64) a, .sc (.int .i64) b] [.sc (.int .i64)] Q := (pc_67 a b).mono fun _ h => h ▸ ho
/- impl.Spent -/
def phi_24 : Nat → List D → List D
  | 65, [e] => [e]
  | 66, [a, b] => [.int (upto a.toI b.toI)]
  | 67, [a, b] => [.int (less a.toI b.toI)]
  | _, _ => []
theorem pc_24 (e n : D) (h : ((e.fld 19).toL.length : Int) ≤ 1048576) : PC Try.prog 24 [.st [(.int .i64), (.int .i64), (.int .i64), (.int .i64), (.int .i64), (.int .i64), (.int .i64), (.int .i64), (.int .i64), (.int .i64), (.int .i64), (.int .i64), (.int .i64), (.int .i64), (.int .i64), (.int .i64), (.int .i64), (.int .i64), .bool, (.sl [(.int .i64), (.int .i64), (.int .i64), (.int .i64), (.int .i64), (.int .i64), .bool]), (.int .i64), (.int .i64)] e, .sc (.int .i64) n] [.st [(.int .i64), (.int .i64), (.int .i64), (.int .i64), (.int .i64), (.int .i64), (.int .i64), (.int .i64), (.int .i64), (.int .i64), (.int .i64), (.int .i64), (.int .i64), (.int .i64), (.int .i64), (.int .i64), (.int .i64), (.int .i64), .bool, (.sl [(.int .i64), (.int .i64), (.int .i64), (.int .i64), (.int .i64), (.int .i64), .bool]), (.int .i64), (.int .i64)]] fun o => o = [spent e n.toI] := by
  refine PC.of_sig mix sig_24 ⟨rfl, rfl, trivial⟩ rfl fun hok => ?_
  have e_e : D.lst [e.fld 0, e.fld 1, e.fld 2, e.fld 3, e.fld 4, e.fld 5, e.fld 6, e.fld 7, e.fld 8, e.fld 9, e.fld 10, e.fld 11, e.fld 12, e.fld 13, e.fld 14, e.fld 15, e.fld 16, e.fld 17, e.fld 18, e.fld 19, e.fld 20, e.fld 21] = e := by simpa [List.range, List.range.loop] using okL_eta (hok _ (.head _))
  have k_e : okL [(.int .i64), (.int .i64), (.int .i64), (.int .i64), (.int .i64), (.int .i64), (.int .i64), (.int .i64), (.int .i64), (.int .i64), (.int .i64), (.int .i64), (.int .i64), (.int .i64), (.int .i64), (.int .i64), (.int .i64), (.int .i64), .bool, (.sl [(.int .i64), (.int .i64), (.int .i64), (.int .i64), (.int .i64), (.int .i64), .bool]), (.int .i64), (.int .i64)] e := (hok _ (.head _))
  have e_e_19 : D.lst (e.fld 19).toL = e.fld 19 := sl_eta (okL_at k_e (i := 19) rfl)
  have l_e_19 := sl_len (okL_at k_e (i := 19) rfl)
  have k_e_19 := sl_all (okL_at k_e (i := 19) rfl)
  have E_e_19 : ∀ i, i < (e.fld 19).toL.length → D.lst [((e.fld 19).elem i).fld 0, ((e.fld 19).elem i).fld 1, ((e.fld 19).elem i).fld 2, ((e.fld 19).elem i).fld 3, ((e.fld 19).elem i).fld 4, ((e.fld 19).elem i).fld 5, ((e.fld 19).elem i).fld 6] = (e.fld 19).elem i := fun i hi => by simpa [List.range, List.range.loop] using okL_eta (k_e_19 _ (elem_mem hi))
  have e_n := int_eta (hok _ (.tail _ (.head _)))
  have b_n := int_range (hok _ (.tail _ (.head _)))
  apply says_den (φ := (phi_24))
  simp [e_e_19, E_e_19, e_e, e_n, tree_24, T.says, X.den, O1.den, O2.den, O3.den, callD, XArg.ev, XArg.dat, Callee'.num, backs, DArg.back, Conds.den, cloArgs, phi_24, pd_65, pd_66, pd_67, h, spent]
  all_goals grind
theorem pd_24 (e n : D) (h : ((e.fld 19).toL.length : Int) ≤ 1048576) (Q : List D → Prop) (ho : Q [spent e n.toI]) : PC Try.prog 24 [.st [(.int .i64), (.int .i64), (.int .i64), (.int .i64), (.int .i64), (.int .i64), (.int .i64), (.int .i64), (.int .i64), (.int .i64), (.int .i64), (.int .i64), (.int .i64), (.int .i64), (.int .i64), (.int .i64), (.int .i64), (.int .i64), .bool, (.sl [(.int .i64), (.int .i64), (.int .i64), (.int .i64), (.int .i64), (.int .i64), .bool]), (.int .i64), (.int .i64)] e, .sc (.int .i64) n] [.st [(.int .i64), (.int .i64), (.int .i64), (.int .i64), (.int .i64), (.int .i64), (.int .i64), (.int .i64), (.int .i64), (.int .i64), (.int .i64), (.int .i64), (.int .i64), (.int .i64), (.int .i64), (.int .i64), (.int .i64), (.int .i64), .bool, (.sl [(.int .i64), (.int .i64), (.int .i64), (.int .i64), (.int .i64), (.int .i64), .bool]), (.int .i64), (.int .i64)]] Q := (pc_24 e n h).mono fun _ h => h ▸ ho
/- impl.from -/
theorem pc_80 (a b c : D) : PC Try.prog 80 [.sc (.int .i64) a, .sc (.int .i64) b, .sc (.int .i64) c] [.sc .bool] fun o => o = [.bool (inR a.toI b.toI c.toI)] := by
  refine PC.of_sig mix sig_80 ⟨rfl, rfl, rfl, trivial⟩ rfl fun hok => ?_
  have e_a := int_eta (hok _ (.head _))
  have b_a := int_range (hok _ (.head _))
  have e_b := int_eta (hok _ (.tail _ (.head _)))
  have b_b := int_range (hok _ (.tail _ (.head _)))
  have e_c := int_eta (hok _ (.tail _ (.tail _ (.head _))))
  have b_c := int_range (hok _ (.tail _ (.tail _ (.head _))))
  apply says_den (φ := fun _ _ => [])
  simp [e_a, e_b, e_c, tree_80, T.says, X.den, O1.den, O2.den, O3.den, callD, XArg.ev, XArg.dat, Callee'.num, backs, DArg.back, Conds.den, cloArgs, inR]
theorem pd_80 (a b c : D) (Q : List D → Prop) (ho : Q [.bool (inR a.toI b.toI c.toI)]) : PC Try.prog 80 [.sc (.int .i64) a, .sc (.int .i64) b, .sc (.int .i64) c] [.sc .bool] Q := (pc_80 a b c).mono fun _ h => h ▸ ho
/- impl.isId -/
def phi_78 : Nat → List D → List D
  | 80, [a, b, c] => [.bool (inR a.toI b.toI c.toI)]
  | _, _ => []
theorem pc_78 (a : D) : PC Try.prog 78 [.sc (.int .i64) a] [.sc .bool] fun o => o = [.bool (inR a.toI 1 99)] := by
  refine PC.of_sig mix sig_78 ⟨rfl, trivial⟩ rfl fun hok => ?_
  have e_a := int_eta (hok _ (.head _))
  have b_a := int_range (hok _ (.head _))
  apply says_den (φ := (phi_78))
  simp [e_a, tree_78, T.says, X.den, O1.den, O2.den, O3.den, callD, XArg.ev, XArg.dat, Callee'.num, backs, DArg.back, Conds.den, cloArgs, phi_78, pd_80]
theorem pd_78 (a : D) (Q : List D → Prop) (ho : Q [.bool (inR a.toI 1 99)]) : PC Try.prog 78 [.sc (.int .i64) a] [.sc .bool] Q := (pc_78 a).mono fun _ h => h ▸ ho
/- impl.isPlayer -/
def phi_79 : Nat → List D → List D
  | 80, [a, b, c] => [.bool (inR a.toI b.toI c.toI)]
  | _, _ => []
theorem pc_79 (a : D) : PC Try.prog 79 [.sc (.int .i64) a] [.sc .bool] fun o => o = [.bool (inR a.toI 0 2)] := by
  refine PC.of_sig mix sig_79 ⟨rfl, trivial⟩ rfl fun hok => ?_
  have e_a := int_eta (hok _ (.head _))
  have b_a := int_range (hok _ (.head _))
  apply says_den (φ := (phi_79))
  simp [e_a, tree_79, T.says, X.den, O1.den, O2.den, O3.den, callD, XArg.ev, XArg.dat, Callee'.num, backs, DArg.back, Conds.den, cloArgs, phi_79, pd_80]
theorem pd_79 (a : D) (Q : List D → Prop) (ho : Q [.bool (inR a.toI 0 2)]) : PC Try.prog 79 [.sc (.int .i64) a] [.sc .bool] Q := (pc_79 a).mono fun _ h => h ▸ ho
/- impl.isKind -/
def phi_126 : Nat → List D → List D
  | 80, [a, b, c] => [.bool (inR a.toI b.toI c.toI)]
  | _, _ => []
theorem pc_126 (a : D) : PC Try.prog 126 [.sc (.int .i64) a] [.sc .bool] fun o => o = [.bool (inR a.toI 1 6)] := by
  refine PC.of_sig mix sig_126 ⟨rfl, trivial⟩ rfl fun hok => ?_
  have e_a := int_eta (hok _ (.head _))
  have b_a := int_range (hok _ (.head _))
  apply says_den (φ := (phi_126))
  simp [e_a, tree_126, T.says, X.den, O1.den, O2.den, O3.den, callD, XArg.ev, XArg.dat, Callee'.num, backs, DArg.back, Conds.den, cloArgs, phi_126, pd_80]
theorem pd_126 (a : D) (Q : List D → Prop) (ho : Q [.bool (inR a.toI 1 6)]) : PC Try.prog 126 [.sc (.int .i64) a] [.sc .bool] Q := (pc_126 a).mono fun _ h => h ▸ ho
/- impl.isTraits -/
def phi_127 : Nat → List D → List D
  | 80, [a, b, c] => [.bool (inR a.toI b.toI c.toI)]
  | _, _ => []
theorem pc_127 (a : D) : PC Try.prog 127 [.sc (.int .i64) a] [.sc .bool] fun o => o = [.bool (inR a.toI 0 63)] := by
  refine PC.of_sig mix sig_127 ⟨rfl, trivial⟩ rfl fun hok => ?_
  have e_a := int_eta (hok _ (.head _))
  have b_a := int_range (hok _ (.head _))
  apply says_den (φ := (phi_127))
  simp [e_a, tree_127, T.says, X.den, O1.den, O2.den, O3.den, callD, XArg.ev, XArg.dat, Callee'.num, backs, DArg.back, Conds.den, cloArgs, phi_127, pd_80]
theorem pd_127 (a : D) (Q : List D → Prop) (ho : Q [.bool (inR a.toI 0 63)]) : PC Try.prog 127 [.sc (.int .i64) a] [.sc .bool] Q := (pc_127 a).mono fun _ h => h ▸ ho
/- impl.isAmount -/
def phi_128 : Nat → List D → List D
  | 80, [a, b, c] => [.bool (inR a.toI b.toI c.toI)]
  | _, _ => []
theorem pc_128 (a : D) : PC Try.prog 128 [.sc (.int .i64) a] [.sc .bool] fun o => o = [.bool (inR a.toI 0 2147483647)] := by
  refine PC.of_sig mix sig_128 ⟨rfl, trivial⟩ rfl fun hok => ?_
  have e_a := int_eta (hok _ (.head _))
  have b_a := int_range (hok _ (.head _))
  apply says_den (φ := (phi_128))
  simp [e_a, tree_128, T.says, X.den, O1.den, O2.den, O3.den, callD, XArg.ev, XArg.dat, Callee'.num, backs, DArg.back, Conds.den, cloArgs, phi_128, pd_80]
theorem pd_128 (a : D) (Q : List D → Prop) (ho : Q [.bool (inR a.toI 0 2147483647)]) : PC Try.prog 128 [.sc (.int .i64) a] [.sc .bool] Q := (pc_128 a).mono fun _ h => h ▸ ho
/- impl.PatOk -/
def phi_81 : Nat → List D → List D
  | 80, [a, b, c] => [.bool (inR a.toI b.toI c.toI)]
  | 126, [a] => [.bool (inR a.toI 1 6)]
  | 127, [a] => [.bool (inR a.toI 0 63)]
  | 128, [a] => [.bool (inR a.toI 0 2147483647)]
  | _, _ => []
theorem pc_81 (d : D) : PC Try.prog 81 [.st [(.int .i64), (.int .i64), (.int .i64), (.int .i64), (.int .i64), (.int .i64), (.int .i64)] d] [.sc .bool] fun o => o = [.bool (patOk d)] := by
  refine PC.of_sig mix sig_81 ⟨rfl, trivial⟩ rfl fun hok => ?_
  have e_d : D.lst [d.fld 0, d.fld 1, d.fld 2, d.fld 3, d.fld 4, d.fld 5, d.fld 6] = d := by simpa [List.range, List.range.loop] using okL_eta (hok _ (.head _))
  have k_d : okL [(.int .i64), (.int .i64), (.int .i64), (.int .i64), (.int .i64), (.int .i64), (.int .i64)] d := (hok _ (.head _))
  apply says_den (φ := (phi_81))
  simp [e_d, tree_81, T.says, X.den, O1.den, O2.den, O3.den, callD, XArg.ev, XArg.dat, Callee'.num, backs, DArg.back, Conds.den, cloArgs, phi_81, pd_80, pd_126, pd_127, pd_128]
  (repeat' (first | (with_reducible apply And.intro) | intro _)) <;> grind [patOk]
theorem pd_81 (d : D) (Q : List D → Prop) (ho : Q [.bool (patOk d)]) : PC Try.prog 81 [.st [(.int .i64), (.int .i64), (.int .i64), (.int .i64), (.int .i64), (.int .i64), (.int .i64)] d] [.sc .bool] Q := (pc_81 d).mono fun _ h => h ▸ ho
/- impl.GuardOk -/
def phi_82 : Nat → List D → List D
  | 80, [a, b, c] => [.bool (inR a.toI b.toI c.toI)]
  | 123, [a] => [.int (bound a.toI)]
  | _, _ => []
theorem pc_82 (d : D) : PC Try.prog 82 [.st [(.int .i64), (.int .i64)] d] [.sc .bool] fun o => o = [.bool (guardOk d)] := by
  refine PC.of_sig mix sig_82 ⟨rfl, trivial⟩ rfl fun hok => ?_
  have e_d : D.lst [d.fld 0, d.fld 1] = d := by simpa [List.range, List.range.loop] using okL_eta (hok _ (.head _))
  have k_d : okL [(.int .i64), (.int .i64)] d := (hok _ (.head _))
  apply says_den (φ := (phi_82))
  simp [e_d, tree_82, T.says, X.den, O1.den, O2.den, O3.den, callD, XArg.ev, XArg.dat, Callee'.num, backs, DArg.back, Conds.den, cloArgs, phi_82, pd_80, pd_123]
  (repeat' (first | (with_reducible apply And.intro) | intro _)) <;> grind [guardOk, inR, bound]
theorem pd_82 (d : D) (Q : List D → Prop) (ho : Q [.bool (guardOk d)]) : PC Try.prog 82 [.st [(.int .i64), (.int .i64)] d] [.sc .bool] Q := (pc_82 d).mono fun _ h => h ▸ ho
/- impl.isZone -/
def phi_129 : Nat → List D → List D
  | 80, [a, b, c] => [.bool (inR a.toI b.toI c.toI)]
  | _, _ => []
theorem pc_129 (a : D) : PC Try.prog 129 [.sc (.int .i64) a] [.sc .bool] fun o => o = [.bool (inR a.toI 1 4)] := by
  refine PC.of_sig mix sig_129 ⟨rfl, trivial⟩ rfl fun hok => ?_
  have e_a := int_eta (hok _ (.head _))
  have b_a := int_range (hok _ (.head _))
  apply says_den (φ := (phi_129))
  simp [e_a, tree_129, T.says, X.den, O1.den, O2.den, O3.den, callD, XArg.ev, XArg.dat, Callee'.num, backs, DArg.back, Conds.den, cloArgs, phi_129, pd_80]
theorem pd_129 (a : D) (Q : List D → Prop) (ho : Q [.bool (inR a.toI 1 4)]) : PC Try.prog 129 [.sc (.int .i64) a] [.sc .bool] Q := (pc_129 a).mono fun _ h => h ▸ ho
/- impl.onPiece -/
def phi_134 : Nat → List D → List D
  | 78, [a] => [.bool (inR a.toI 1 99)]
  | _, _ => []
theorem pc_134 (e : D) : PC Try.prog 134 [.st [(.int .i64), (.int .i64), (.int .i64), (.int .i64), (.int .i64), (.int .i64), .bool] e] [.sc .bool] fun o => o = [.bool (onPiece e)] := by
  refine PC.of_sig mix sig_134 ⟨rfl, trivial⟩ rfl fun hok => ?_
  have e_e : D.lst [e.fld 0, e.fld 1, e.fld 2, e.fld 3, e.fld 4, e.fld 5, e.fld 6] = e := by simpa [List.range, List.range.loop] using okL_eta (hok _ (.head _))
  have k_e : okL [(.int .i64), (.int .i64), (.int .i64), (.int .i64), (.int .i64), (.int .i64), .bool] e := (hok _ (.head _))
  apply says_den (φ := (phi_134))
  simp [e_e, tree_134, T.says, X.den, O1.den, O2.den, O3.den, callD, XArg.ev, XArg.dat, Callee'.num, backs, DArg.back, Conds.den, cloArgs, phi_134, pd_78, onPiece]
theorem pd_134 (e : D) (Q : List D → Prop) (ho : Q [.bool (onPiece e)]) : PC Try.prog 134 [.st [(.int .i64), (.int .i64), (.int .i64), (.int .i64), (.int .i64), (.int .i64), .bool] e] [.sc .bool] Q := (pc_134 e).mono fun _ h => h ▸ ho
/- impl.onPlayer -/
def phi_135 : Nat → List D → List D
  | 79, [a] => [.bool (inR a.toI 0 2)]
  | _, _ => []
theorem pc_135 (e : D) : PC Try.prog 135 [.st [(.int .i64), (.int .i64), (.int .i64), (.int .i64), (.int .i64), (.int .i64), .bool] e] [.sc .bool] fun o => o = [.bool (onPlayer e)] := by
  refine PC.of_sig mix sig_135 ⟨rfl, trivial⟩ rfl fun hok => ?_
  have e_e : D.lst [e.fld 0, e.fld 1, e.fld 2, e.fld 3, e.fld 4, e.fld 5, e.fld 6] = e := by simpa [List.range, List.range.loop] using okL_eta (hok _ (.head _))
  have k_e : okL [(.int .i64), (.int .i64), (.int .i64), (.int .i64), (.int .i64), (.int .i64), .bool] e := (hok _ (.head _))
  apply says_den (φ := (phi_135))
  simp [e_e, tree_135, T.says, X.den, O1.den, O2.den, O3.den, callD, XArg.ev, XArg.dat, Callee'.num, backs, DArg.back, Conds.den, cloArgs, phi_135, pd_79, onPlayer]
theorem pd_135 (e : D) (Q : List D → Prop) (ho : Q [.bool (onPlayer e)]) : PC Try.prog 135 [.st [(.int .i64), (.int .i64), (.int .i64), (.int .i64), (.int .i64), (.int .i64), .bool] e] [.sc .bool] Q := (pc_135 e).mono fun _ h => h ▸ ho
/- impl.EventOk -/
def phi_97 : Nat → List D → List D
  | 78, [a] => [.bool (inR a.toI 1 99)]
  | 128, [a] => [.bool (inR a.toI 0 2147483647)]
  | 129, [a] => [.bool (inR a.toI 1 4)]
  | 134, [e] => [.bool (onPiece e)]
  | 135, [e] => [.bool (onPlayer e)]
  | _, _ => []
theorem pc_97 (e : D) : PC Try.prog 97 [.st [(.int .i64), (.int .i64), (.int .i64), (.int .i64), (.int .i64), (.int .i64), .bool] e] [.sc .bool] fun o => o = [.bool (eventOk e)] := by
  refine PC.of_sig mix sig_97 ⟨rfl, trivial⟩ rfl fun hok => ?_
  have e_e : D.lst [e.fld 0, e.fld 1, e.fld 2, e.fld 3, e.fld 4, e.fld 5, e.fld 6] = e := by simpa [List.range, List.range.loop] using okL_eta (hok _ (.head _))
  have k_e : okL [(.int .i64), (.int .i64), (.int .i64), (.int .i64), (.int .i64), (.int .i64), .bool] e := (hok _ (.head _))
  apply says_den (φ := (phi_97))
  simp [e_e, tree_97, T.says, X.den, O1.den, O2.den, O3.den, callD, XArg.ev, XArg.dat, Callee'.num, backs, DArg.back, Conds.den, cloArgs, phi_97, pd_78, pd_128, pd_129, pd_134, pd_135]
  (repeat' (first | (with_reducible apply And.intro) | intro _)) <;> grind [eventOk, inR]
theorem pd_97 (e : D) (Q : List D → Prop) (ho : Q [.bool (eventOk e)]) : PC Try.prog 97 [.st [(.int .i64), (.int .i64), (.int .i64), (.int .i64), (.int .i64), (.int .i64), .bool] e] [.sc .bool] Q := (pc_97 e).mono fun _ h => h ▸ ho
/- impl.partOk -/
def phi_132 : Nat → List D → List D
  | 97, [e] => [.bool (eventOk e)]
  | _, _ => []
theorem pc_132 (e : D) : PC Try.prog 132 [.st [(.int .i64), (.int .i64), (.int .i64), (.int .i64), (.int .i64), (.int .i64), .bool] e] [.sc .bool] fun o => o = [.bool (partOk e)] := by
  refine PC.of_sig mix sig_132 ⟨rfl, trivial⟩ rfl fun hok => ?_
  have e_e : D.lst [e.fld 0, e.fld 1, e.fld 2, e.fld 3, e.fld 4, e.fld 5, e.fld 6] = e := by simpa [List.range, List.range.loop] using okL_eta (hok _ (.head _))
  have k_e : okL [(.int .i64), (.int .i64), (.int .i64), (.int .i64), (.int .i64), (.int .i64), .bool] e := (hok _ (.head _))
  apply says_den (φ := (phi_132))
  have hneg : (e.fld 4).toI = -1 → eventOk e = false := by intro h; simp [eventOk, inR, h]
  simp [e_e, tree_132, T.says, X.den, O1.den, O2.den, O3.den, callD, XArg.ev, XArg.dat, Callee'.num, backs, DArg.back, Conds.den, cloArgs, phi_132, pd_97, partOk, ev0]
  all_goals grind
theorem pd_132 (e : D) (Q : List D → Prop) (ho : Q [.bool (partOk e)]) : PC Try.prog 132 [.st [(.int .i64), (.int .i64), (.int .i64), (.int .i64), (.int .i64), (.int .i64), .bool] e] [.sc .bool] Q := (pc_132 e).mono fun _ h => h ▸ ho
/- impl.ActOk$1 -/
def phi_131 : Nat → List D → List D
  | 132, [e] => [.bool (partOk e)]
  | _, _ => []
theorem pc_131 (e : D) : PC Try.prog 131 [.st [(.int .i64), (.int .i64), (.int .i64), (.int .i64), (.int .i64), (.int .i64), .bool] e] [.sc .bool] fun o => o = [.bool (!partOk e)] := by
  refine PC.of_sig mix sig_131 ⟨rfl, trivial⟩ rfl fun hok => ?_
  have e_e : D.lst [e.fld 0, e.fld 1, e.fld 2, e.fld 3, e.fld 4, e.fld 5, e.fld 6] = e := by simpa [List.range, List.range.loop] using okL_eta (hok _ (.head _))
  have k_e : okL [(.int .i64), (.int .i64), (.int .i64), (.int .i64), (.int .i64), (.int .i64), .bool] e := (hok _ (.head _))
  apply says_den (φ := (phi_131))
  simp [e_e, tree_131, T.says, X.den, O1.den, O2.den, O3.den, callD, XArg.ev, XArg.dat, Callee'.num, backs, DArg.back, Conds.den, cloArgs, phi_131, pd_132]
theorem pd_131 (e : D) (Q : List D → Prop) (ho : Q [.bool (!partOk e)]) : PC Try.prog 131 [.st [(.int .i64), (.int .i64), (.int .i64), (.int .i64), (.int .i64), (.int .i64), .bool] e] [.sc .bool] Q := (pc_131 e).mono fun _ h => h ▸ ho
/- slices.IndexFunc[[]impl.Event,impl.Event] -/
def phi_139 : Nat → List D → List D
  | 131, [e] => [.bool (!partOk e)]
  | 0, [e] => [.bool (!partOk e)]
  | _, _ => []
theorem pc_139 (a : D) : PC Try.prog 139 [.sc (.sl [(.int .i64), (.int .i64), (.int .i64), (.int .i64), (.int .i64), (.int .i64), .bool]) a, .clo 131 []] [.sc (.int .i64)] fun o => o = [.int (findR (fun i => !partOk (a.elem i)) a.toL.length)] := by
  refine PC.of_sig mix sig_139 ⟨rfl, trivial, trivial⟩ rfl fun hok => ?_
  have e_a := sl_eta (hok _ (.head _))
  have l_a := sl_len (hok _ (.head _))
  have k_a := sl_all (hok _ (.head _))
  have E_a : ∀ i, i < a.toL.length → D.lst [(a.elem i).fld 0, (a.elem i).fld 1, (a.elem i).fld 2, (a.elem i).fld 3, (a.elem i).fld 4, (a.elem i).fld 5, (a.elem i).fld 6] = a.elem i := fun i hi => by simpa [List.range, List.range.loop] using okL_eta (k_a _ (elem_mem hi))
  apply says_den (φ := (phi_139))
  simp [e_a, E_a, tree_139, T.says, X.den, O1.den, O2.den, O3.den, callD, XArg.ev, XArg.dat, Callee'.num, backs, DArg.back, Conds.den, cloArgs, phi_139, pd_131]
  refine fun _ => ?_
  refine den_for a.toL.length 0 (fun i => [.int i]) (fun i => ∀ j, j < i → (!partOk (a.elem j)) = false) (by simp) (by simp [X.den]) (by simp) fun i hi hR => ?_
  apply says_den (φ := (phi_139))
  by_cases hlt : i < a.toL.length
  · simp [e_a, E_a, tree_139, T.says, X.den, O1.den, O2.den, O3.den, callD, XArg.ev, XArg.dat, Callee'.num, backs, DArg.back, Conds.den, cloArgs, phi_139, pd_131, hlt]
    (repeat' (first | (with_reducible apply And.intro) | intro _))
    · exact (findR_some (p := fun i => !partOk (a.elem i)) hlt (by simp_all) hR).symm
    · (first | omega | (simp only [IntKind.wrap_i64, maxL] at *; omega) | (simp [IntKind.wrap_i64, maxL] at *; omega))
    · grind
  · simp [e_a, E_a, tree_139, T.says, X.den, O1.den, O2.den, O3.den, callD, XArg.ev, XArg.dat, Callee'.num, backs, DArg.back, Conds.den, cloArgs, phi_139, pd_131, hlt]
    (repeat' (first | (with_reducible apply And.intro) | intro _))
    · exact (findR_none fun j hj => hR j (by omega)).symm
theorem pd_139 (a : D) (Q : List D → Prop) (ho : Q [.int (findR (fun i => !partOk (a.elem i)) a.toL.length)]) : PC Try.prog 139 [.sc (.sl [(.int .i64), (.int .i64), (.int .i64), (.int .i64), (.int .i64), (.int .i64), .bool]) a, .clo 131 []] [.sc (.int .i64)] Q := (pc_139 a).mono fun _ h => h ▸ ho
/- slices.ContainsFunc[[]impl.Event,impl.Event] -/
def phi_130 : Nat → List D → List D
  | 131, [e] => [.bool (!partOk e)]
  | 139, [a, _] => [.int (findR (fun i => !partOk (a.elem i)) a.toL.length)]
  | 0, [e] => [.bool (!partOk e)]
  | _, _ => []
theorem pc_130 (a : D) : PC Try.prog 130 [.sc (.sl [(.int .i64), (.int .i64), (.int .i64), (.int .i64), (.int .i64), (.int .i64), .bool]) a, .clo 131 []] [.sc .bool] fun o => o = [.bool (!allR (fun i => partOk (a.elem i)) a.toL.length)] := by
  refine PC.of_sig mix sig_130 ⟨rfl, trivial, trivial⟩ rfl fun hok => ?_
  have e_a := sl_eta (hok _ (.head _))
  have l_a := sl_len (hok _ (.head _))
  have k_a := sl_all (hok _ (.head _))
  have E_a : ∀ i, i < a.toL.length → D.lst [(a.elem i).fld 0, (a.elem i).fld 1, (a.elem i).fld 2, (a.elem i).fld 3, (a.elem i).fld 4, (a.elem i).fld 5, (a.elem i).fld 6] = a.elem i := fun i hi => by simpa [List.range, List.range.loop] using okL_eta (k_a _ (elem_mem hi))
  apply says_den (φ := (phi_130))
  simp [e_a, E_a, tree_130, T.says, X.den, O1.den, O2.den, O3.den, callD, XArg.ev, XArg.dat, Callee'.num, backs, DArg.back, Conds.den, cloArgs, phi_130, pd_131, pd_139, findR_nn]
theorem pd_130 (a : D) (Q : List D → Prop) (ho : Q [.bool (!allR (fun i => partOk (a.elem i)) a.toL.length)]) : PC Try.prog 130 [.sc (.sl [(.int .i64), (.int .i64), (.int .i64), (.int .i64), (.int .i64), (.int .i64), .bool]) a, .clo 131 []] [.sc .bool] Q := (pc_130 a).mono fun _ h => h ▸ ho
/- impl.ActOk -/
def phi_83 : Nat → List D → List D
  | 78, [a] => [.bool (inR a.toI 1 99)]
  | 79, [a] => [.bool (inR a.toI 0 2)]
  | 80, [a, b, c] => [.bool (inR a.toI b.toI c.toI)]
  | 129, [a] => [.bool (inR a.toI 1 4)]
  | 130, [a, _] => [.bool (!allR (fun i => partOk (a.elem i)) a.toL.length)]
  | 131, [e] => [.bool (!partOk e)]
  | _, _ => []
theorem pc_83 (a : D) : PC Try.prog 83 [.st [(.int .i64), (.int .i64), (.int .i64), (.int .i64), (.int .i64), .bool, (.sl [(.int .i64), (.int .i64), (.int .i64), (.int .i64), (.int .i64), (.int .i64), .bool])] a] [.sc .bool] fun o => o = [.bool (actOk a)] := by
  refine PC.of_sig mix sig_83 ⟨rfl, trivial⟩ rfl fun hok => ?_
  have e_a : D.lst [a.fld 0, a.fld 1, a.fld 2, a.fld 3, a.fld 4, a.fld 5, a.fld 6] = a := by simpa [List.range, List.range.loop] using okL_eta (hok _ (.head _))
  have k_a : okL [(.int .i64), (.int .i64), (.int .i64), (.int .i64), (.int .i64), .bool, (.sl [(.int .i64), (.int .i64), (.int .i64), (.int .i64), (.int .i64), (.int .i64), .bool])] a := (hok _ (.head _))
  have e_a_6 : D.lst (a.fld 6).toL = a.fld 6 := sl_eta (okL_at k_a (i := 6) rfl)
  have l_a_6 := sl_len (okL_at k_a (i := 6) rfl)
  have k_a_6 := sl_all (okL_at k_a (i := 6) rfl)
  have E_a_6 : ∀ i, i < (a.fld 6).toL.length → D.lst [((a.fld 6).elem i).fld 0, ((a.fld 6).elem i).fld 1, ((a.fld 6).elem i).fld 2, ((a.fld 6).elem i).fld 3, ((a.fld 6).elem i).fld 4, ((a.fld 6).elem i).fld 5, ((a.fld 6).elem i).fld 6] = (a.fld 6).elem i := fun i hi => by simpa [List.range, List.range.loop] using okL_eta (k_a_6 _ (elem_mem hi))
  apply says_den (φ := (phi_83))
  simp [e_a_6, E_a_6, e_a, tree_83, T.says, X.den, O1.den, O2.den, O3.den, callD, XArg.ev, XArg.dat, Callee'.num, backs, DArg.back, Conds.den, cloArgs, phi_83, pd_78, pd_79, pd_80, pd_129, pd_130, pd_131]
  (repeat' (first | (with_reducible apply And.intro) | intro _))
  all_goals first | (exfalso; omega) | (grind [actOk, plain, inR]) | skip
theorem pd_83 (a : D) (Q : List D → Prop) (ho : Q [.bool (actOk a)]) : PC Try.prog 83 [.st [(.int .i64), (.int .i64), (.int .i64), (.int .i64), (.int .i64), .bool, (.sl [(.int .i64), (.int .i64), (.int .i64), (.int .i64), (.int .i64), (.int .i64), .bool])] a] [.sc .bool] Q := (pc_83 a).mono fun _ h => h ▸ ho
/- impl.ActFits -/
def phi_84 : Nat → List D → List D
  | 126, [a] => [.bool (inR a.toI 1 6)]
  | _, _ => []
theorem pc_84 (a n : D) : PC Try.prog 84 [.st [(.int .i64), (.int .i64), (.int .i64), (.int .i64), (.int .i64), .bool, (.sl [(.int .i64), (.int .i64), (.int .i64), (.int .i64), (.int .i64), (.int .i64), .bool])] a, .sc (.int .i64) n] [.sc .bool] fun o => o = [.bool (actFits a n.toI)] := by
  refine PC.of_sig mix sig_84 ⟨rfl, rfl, trivial⟩ rfl fun hok => ?_
  have e_a : D.lst [a.fld 0, a.fld 1, a.fld 2, a.fld 3, a.fld 4, a.fld 5, a.fld 6] = a := by simpa [List.range, List.range.loop] using okL_eta (hok _ (.head _))
  have k_a : okL [(.int .i64), (.int .i64), (.int .i64), (.int .i64), (.int .i64), .bool, (.sl [(.int .i64), (.int .i64), (.int .i64), (.int .i64), (.int .i64), (.int .i64), .bool])] a := (hok _ (.head _))
  have e_a_6 : D.lst (a.fld 6).toL = a.fld 6 := sl_eta (okL_at k_a (i := 6) rfl)
  have l_a_6 := sl_len (okL_at k_a (i := 6) rfl)
  have k_a_6 := sl_all (okL_at k_a (i := 6) rfl)
  have E_a_6 : ∀ i, i < (a.fld 6).toL.length → D.lst [((a.fld 6).elem i).fld 0, ((a.fld 6).elem i).fld 1, ((a.fld 6).elem i).fld 2, ((a.fld 6).elem i).fld 3, ((a.fld 6).elem i).fld 4, ((a.fld 6).elem i).fld 5, ((a.fld 6).elem i).fld 6] = (a.fld 6).elem i := fun i hi => by simpa [List.range, List.range.loop] using okL_eta (k_a_6 _ (elem_mem hi))
  have e_n := int_eta (hok _ (.tail _ (.head _)))
  have b_n := int_range (hok _ (.tail _ (.head _)))
  apply says_den (φ := (phi_84))
  simp [e_a_6, E_a_6, e_a, e_n, tree_84, T.says, X.den, O1.den, O2.den, O3.den, callD, XArg.ev, XArg.dat, Callee'.num, backs, DArg.back, Conds.den, cloArgs, phi_84, pd_126]
  (repeat' (first | (with_reducible apply And.intro) | intro _)) <;> grind [actFits]
theorem pd_84 (a n : D) (Q : List D → Prop) (ho : Q [.bool (actFits a n.toI)]) : PC Try.prog 84 [.st [(.int .i64), (.int .i64), (.int .i64), (.int .i64), (.int .i64), .bool, (.sl [(.int .i64), (.int .i64), (.int .i64), (.int .i64), (.int .i64), (.int .i64), .bool])] a, .sc (.int .i64) n] [.sc .bool] Q := (pc_84 a n).mono fun _ h => h ▸ ho
/- impl.EffectOk -/
def phi_29 : Nat → List D → List D
  | 78, [a] => [.bool (inR a.toI 1 99)]
  | 79, [a] => [.bool (inR a.toI 0 2)]
  | 80, [a, b, c] => [.bool (inR a.toI b.toI c.toI)]
  | 81, [d] => [.bool (patOk d)]
  | 82, [d] => [.bool (guardOk d)]
  | 83, [a] => [.bool (actOk a)]
  | 84, [a, n] => [.bool (actFits a n.toI)]
  | _, _ => []
theorem pc_29 (e : D) : PC Try.prog 29 [.st [(.int .i64), (.int .i64), (.int .i64), (.int .i64), (.int .i64), (.int .i64), (.int .i64), (.int .i64), (.int .i64), (.int .i64), (.int .i64), (.int .i64), (.int .i64), (.int .i64), (.int .i64), (.int .i64), (.int .i64), (.int .i64), .bool, (.sl [(.int .i64), (.int .i64), (.int .i64), (.int .i64), (.int .i64), (.int .i64), .bool]), (.int .i64), (.int .i64)] e] [.sc .bool] fun o => o = [.bool (effectOk e)] := by
  refine PC.of_sig mix sig_29 ⟨rfl, trivial⟩ rfl fun hok => ?_
  have e_e : D.lst [e.fld 0, e.fld 1, e.fld 2, e.fld 3, e.fld 4, e.fld 5, e.fld 6, e.fld 7, e.fld 8, e.fld 9, e.fld 10, e.fld 11, e.fld 12, e.fld 13, e.fld 14, e.fld 15, e.fld 16, e.fld 17, e.fld 18, e.fld 19, e.fld 20, e.fld 21] = e := by simpa [List.range, List.range.loop] using okL_eta (hok _ (.head _))
  have k_e : okL [(.int .i64), (.int .i64), (.int .i64), (.int .i64), (.int .i64), (.int .i64), (.int .i64), (.int .i64), (.int .i64), (.int .i64), (.int .i64), (.int .i64), (.int .i64), (.int .i64), (.int .i64), (.int .i64), (.int .i64), (.int .i64), .bool, (.sl [(.int .i64), (.int .i64), (.int .i64), (.int .i64), (.int .i64), (.int .i64), .bool]), (.int .i64), (.int .i64)] e := (hok _ (.head _))
  have e_e_19 : D.lst (e.fld 19).toL = e.fld 19 := sl_eta (okL_at k_e (i := 19) rfl)
  have l_e_19 := sl_len (okL_at k_e (i := 19) rfl)
  have k_e_19 := sl_all (okL_at k_e (i := 19) rfl)
  have E_e_19 : ∀ i, i < (e.fld 19).toL.length → D.lst [((e.fld 19).elem i).fld 0, ((e.fld 19).elem i).fld 1, ((e.fld 19).elem i).fld 2, ((e.fld 19).elem i).fld 3, ((e.fld 19).elem i).fld 4, ((e.fld 19).elem i).fld 5, ((e.fld 19).elem i).fld 6] = (e.fld 19).elem i := fun i hi => by simpa [List.range, List.range.loop] using okL_eta (k_e_19 _ (elem_mem hi))
  apply says_den (φ := (phi_29))
  simp [e_e_19, E_e_19, e_e, tree_29, T.says, X.den, O1.den, O2.den, O3.den, callD, XArg.ev, XArg.dat, Callee'.num, backs, DArg.back, Conds.den, cloArgs, phi_29, pd_78, pd_79, pd_80, pd_81, pd_82, pd_83, pd_84, effectOk, patOf, grdOf, actOf]
  all_goals grind [inR]
theorem pd_29 (e : D) (Q : List D → Prop) (ho : Q [.bool (effectOk e)]) : PC Try.prog 29 [.st [(.int .i64), (.int .i64), (.int .i64), (.int .i64), (.int .i64), (.int .i64), (.int .i64), (.int .i64), (.int .i64), (.int .i64), (.int .i64), (.int .i64), (.int .i64), (.int .i64), (.int .i64), (.int .i64), (.int .i64), (.int .i64), .bool, (.sl [(.int .i64), (.int .i64), (.int .i64), (.int .i64), (.int .i64), (.int .i64), .bool]), (.int .i64), (.int .i64)] e] [.sc .bool] Q := (pc_29 e).mono fun _ h => h ▸ ho
/- impl.WithN -/
def phi_136 : Nat → List D → List D
  | 66, [a, b] => [.int (upto a.toI b.toI)]
  | _, _ => []
theorem pc_136 (e n : D) : PC Try.prog 136 [.st [(.int .i64), (.int .i64), (.int .i64), (.int .i64), (.int .i64), (.int .i64), .bool] e, .sc (.int .i64) n] [.st [(.int .i64), (.int .i64), (.int .i64), (.int .i64), (.int .i64), (.int .i64), .bool]] fun o => o = [withN e n.toI] := by
  refine PC.of_sig mix sig_136 ⟨rfl, rfl, trivial⟩ rfl fun hok => ?_
  have e_e : D.lst [e.fld 0, e.fld 1, e.fld 2, e.fld 3, e.fld 4, e.fld 5, e.fld 6] = e := by simpa [List.range, List.range.loop] using okL_eta (hok _ (.head _))
  have k_e : okL [(.int .i64), (.int .i64), (.int .i64), (.int .i64), (.int .i64), (.int .i64), .bool] e := (hok _ (.head _))
  have e_n := int_eta (hok _ (.tail _ (.head _)))
  have b_n := int_range (hok _ (.tail _ (.head _)))
  apply says_den (φ := (phi_136))
  simp [e_e, e_n, tree_136, T.says, X.den, O1.den, O2.den, O3.den, callD, XArg.ev, XArg.dat, Callee'.num, backs, DArg.back, Conds.den, cloArgs, phi_136, pd_66, withN]
theorem pd_136 (e n : D) (Q : List D → Prop) (ho : Q [withN e n.toI]) : PC Try.prog 136 [.st [(.int .i64), (.int .i64), (.int .i64), (.int .i64), (.int .i64), (.int .i64), .bool] e, .sc (.int .i64) n] [.st [(.int .i64), (.int .i64), (.int .i64), (.int .i64), (.int .i64), (.int .i64), .bool]] Q := (pc_136 e n).mono fun _ h => h ▸ ho
/- impl.Plus -/
def phi_159 : Nat → List D → List D
  | 123, [a] => [.int (bound a.toI)]
  | _, _ => []
theorem pc_159 (a b : D) : PC Try.prog 159 [.sc (.int .i64) a, .sc (.int .i64) b] [.sc (.int .i64)] fun o => o = [.int (plus a.toI b.toI)] := by
  refine PC.of_sig mix sig_159 ⟨rfl, rfl, trivial⟩ rfl fun hok => ?_
  have e_a := int_eta (hok _ (.head _))
  have b_a := int_range (hok _ (.head _))
  have e_b := int_eta (hok _ (.tail _ (.head _)))
  have b_b := int_range (hok _ (.tail _ (.head _)))
  apply says_den (φ := (phi_159))
  simp [e_a, e_b, tree_159, T.says, X.den, O1.den, O2.den, O3.den, callD, XArg.ev, XArg.dat, Callee'.num, backs, DArg.back, Conds.den, cloArgs, phi_159, pd_123, plus]
theorem pd_159 (a b : D) (Q : List D → Prop) (ho : Q [.int (plus a.toI b.toI)]) : PC Try.prog 159 [.sc (.int .i64) a, .sc (.int .i64) b] [.sc (.int .i64)] Q := (pc_159 a b).mono fun _ h => h ▸ ho
/- impl.Twice -/
def phi_160 : Nat → List D → List D
  | 123, [a] => [.int (bound a.toI)]
  | _, _ => []
theorem pc_160 (a : D) : PC Try.prog 160 [.sc (.int .i64) a] [.sc (.int .i64)] fun o => o = [.int (twice a.toI)] := by
  refine PC.of_sig mix sig_160 ⟨rfl, trivial⟩ rfl fun hok => ?_
  have e_a := int_eta (hok _ (.head _))
  have b_a := int_range (hok _ (.head _))
  apply says_den (φ := (phi_160))
  simp [e_a, tree_160, T.says, X.den, O1.den, O2.den, O3.den, callD, XArg.ev, XArg.dat, Callee'.num, backs, DArg.back, Conds.den, cloArgs, phi_160, pd_123, twice]
theorem pd_160 (a : D) (Q : List D → Prop) (ho : Q [.int (twice a.toI)]) : PC Try.prog 160 [.sc (.int .i64) a] [.sc (.int .i64)] Q := (pc_160 a).mono fun _ h => h ▸ ho
/- impl.Half -/
def phi_161 : Nat → List D → List D
  | 123, [a] => [.int (bound a.toI)]
  | _, _ => []
theorem pc_161 (a : D) : PC Try.prog 161 [.sc (.int .i64) a] [.sc (.int .i64)] fun o => o = [.int (half a.toI)] := by
  refine PC.of_sig mix sig_161 ⟨rfl, trivial⟩ rfl fun hok => ?_
  have e_a := int_eta (hok _ (.head _))
  have b_a := int_range (hok _ (.head _))
  apply says_den (φ := (phi_161))
  simp [e_a, tree_161, T.says, X.den, O1.den, O2.den, O3.den, callD, XArg.ev, XArg.dat, Callee'.num, backs, DArg.back, Conds.den, cloArgs, phi_161, pd_123, half]
theorem pd_161 (a : D) (Q : List D → Prop) (ho : Q [.int (half a.toI)]) : PC Try.prog 161 [.sc (.int .i64) a] [.sc (.int .i64)] Q := (pc_161 a).mono fun _ h => h ▸ ho
/- impl.Amount -/
def phi_137 : Nat → List D → List D
  | 66, [a, b] => [.int (upto a.toI b.toI)]
  | 159, [a, b] => [.int (plus a.toI b.toI)]
  | 160, [a] => [.int (twice a.toI)]
  | 161, [a] => [.int (half a.toI)]
  | _, _ => []
theorem pc_137 (a n : D) : PC Try.prog 137 [.st [(.int .i64), (.int .i64), (.int .i64), (.int .i64), (.int .i64), .bool, (.sl [(.int .i64), (.int .i64), (.int .i64), (.int .i64), (.int .i64), (.int .i64), .bool])] a, .sc (.int .i64) n] [.sc (.int .i64)] fun o => o = [.int (amount a n.toI)] := by
  refine PC.of_sig mix sig_137 ⟨rfl, rfl, trivial⟩ rfl fun hok => ?_
  have e_a : D.lst [a.fld 0, a.fld 1, a.fld 2, a.fld 3, a.fld 4, a.fld 5, a.fld 6] = a := by simpa [List.range, List.range.loop] using okL_eta (hok _ (.head _))
  have k_a : okL [(.int .i64), (.int .i64), (.int .i64), (.int .i64), (.int .i64), .bool, (.sl [(.int .i64), (.int .i64), (.int .i64), (.int .i64), (.int .i64), (.int .i64), .bool])] a := (hok _ (.head _))
  have e_a_6 : D.lst (a.fld 6).toL = a.fld 6 := sl_eta (okL_at k_a (i := 6) rfl)
  have l_a_6 := sl_len (okL_at k_a (i := 6) rfl)
  have k_a_6 := sl_all (okL_at k_a (i := 6) rfl)
  have E_a_6 : ∀ i, i < (a.fld 6).toL.length → D.lst [((a.fld 6).elem i).fld 0, ((a.fld 6).elem i).fld 1, ((a.fld 6).elem i).fld 2, ((a.fld 6).elem i).fld 3, ((a.fld 6).elem i).fld 4, ((a.fld 6).elem i).fld 5, ((a.fld 6).elem i).fld 6] = (a.fld 6).elem i := fun i hi => by simpa [List.range, List.range.loop] using okL_eta (k_a_6 _ (elem_mem hi))
  have e_n := int_eta (hok _ (.tail _ (.head _)))
  have b_n := int_range (hok _ (.tail _ (.head _)))
  apply says_den (φ := (phi_137))
  simp [e_a_6, E_a_6, e_a, e_n, tree_137, T.says, X.den, O1.den, O2.den, O3.den, callD, XArg.ev, XArg.dat, Callee'.num, backs, DArg.back, Conds.den, cloArgs, phi_137, pd_66, pd_159, pd_160, pd_161]
  (repeat' (first | (with_reducible apply And.intro) | intro _)) <;> grind [amount]
theorem pd_137 (a n : D) (Q : List D → Prop) (ho : Q [.int (amount a n.toI)]) : PC Try.prog 137 [.st [(.int .i64), (.int .i64), (.int .i64), (.int .i64), (.int .i64), .bool, (.sl [(.int .i64), (.int .i64), (.int .i64), (.int .i64), (.int .i64), (.int .i64), .bool])] a, .sc (.int .i64) n] [.sc (.int .i64)] Q := (pc_137 a n).mono fun _ h => h ▸ ho
/- impl.Parts -/
def phi_138 : Nat → List D → List D
  | 66, [a, b] => [.int (upto a.toI b.toI)]
  | _, _ => []
theorem pc_138 (a v : D) (h : ((a.fld 6).toL.length : Int) ≤ 1048576) : PC Try.prog 138 [.st [(.int .i64), (.int .i64), (.int .i64), (.int .i64), (.int .i64), .bool, (.sl [(.int .i64), (.int .i64), (.int .i64), (.int .i64), (.int .i64), (.int .i64), .bool])] a, .st [(.int .i64), (.int .i64), (.int .i64), (.int .i64), (.int .i64), (.int .i64), .bool] v] [.sc (.sl [(.int .i64), (.int .i64), (.int .i64), (.int .i64), (.int .i64), (.int .i64), .bool])] fun o => o = [.lst (parts a v)] := by
  refine PC.of_sig mix sig_138 ⟨rfl, rfl, trivial⟩ rfl fun hok => ?_
  have e_a : D.lst [a.fld 0, a.fld 1, a.fld 2, a.fld 3, a.fld 4, a.fld 5, a.fld 6] = a := by simpa [List.range, List.range.loop] using okL_eta (hok _ (.head _))
  have k_a : okL [(.int .i64), (.int .i64), (.int .i64), (.int .i64), (.int .i64), .bool, (.sl [(.int .i64), (.int .i64), (.int .i64), (.int .i64), (.int .i64), (.int .i64), .bool])] a := (hok _ (.head _))
  have e_a_6 : D.lst (a.fld 6).toL = a.fld 6 := sl_eta (okL_at k_a (i := 6) rfl)
  have l_a_6 := sl_len (okL_at k_a (i := 6) rfl)
  have k_a_6 := sl_all (okL_at k_a (i := 6) rfl)
  have E_a_6 : ∀ i, i < (a.fld 6).toL.length → D.lst [((a.fld 6).elem i).fld 0, ((a.fld 6).elem i).fld 1, ((a.fld 6).elem i).fld 2, ((a.fld 6).elem i).fld 3, ((a.fld 6).elem i).fld 4, ((a.fld 6).elem i).fld 5, ((a.fld 6).elem i).fld 6] = (a.fld 6).elem i := fun i hi => by simpa [List.range, List.range.loop] using okL_eta (k_a_6 _ (elem_mem hi))
  have e_v : D.lst [v.fld 0, v.fld 1, v.fld 2, v.fld 3, v.fld 4, v.fld 5, v.fld 6] = v := by simpa [List.range, List.range.loop] using okL_eta (hok _ (.tail _ (.head _)))
  have k_v : okL [(.int .i64), (.int .i64), (.int .i64), (.int .i64), (.int .i64), (.int .i64), .bool] v := (hok _ (.tail _ (.head _)))
  apply says_den (φ := (phi_138))
  simp [e_a_6, E_a_6, e_a, e_v, tree_138, T.says, X.den, O1.den, O2.den, O3.den, callD, XArg.ev, XArg.dat, Callee'.num, backs, DArg.back, Conds.den, cloArgs, phi_138, pd_66]
  refine ⟨fun h9 => by simp [parts, h9], fun h9 _ => ?_⟩
  refine den_for (a.fld 6).toL.length 0 (fun i => [.int i, .lst (partsTo a v i)]) (fun _ => True) (by simp) (by simp [X.den, partsTo]) trivial fun i hi _ => ?_
  apply says_den (φ := (phi_138))
  by_cases hlt : i < (a.fld 6).toL.length
  · simp [e_a_6, E_a_6, e_a, e_v, tree_138, T.says, X.den, O1.den, O2.den, O3.den, callD, XArg.ev, XArg.dat, Callee'.num, backs, DArg.back, Conds.den, cloArgs, phi_138, pd_66, hlt]
    (repeat' (first | (with_reducible apply And.intro) | intro _)) <;> first | omega | (first | omega | (simp only [IntKind.wrap_i64, maxL] at *; omega) | (simp [IntKind.wrap_i64, maxL] at *; omega)) | (rw [partsTo_succ, partE, if_pos (by assumption)]) | (rw [partsTo_succ, partE, if_neg (by assumption)]) | (first | assumption | (exact pd_66 _ _ _ (by first | rfl | simp | (simp; omega))) | (first | omega | (simp only [IntKind.wrap_i64, maxL] at *; omega) | (simp [IntKind.wrap_i64, maxL] at *; omega)) | rfl | contradiction | grind) | skip
  · simp [e_a_6, E_a_6, e_a, e_v, tree_138, T.says, X.den, O1.den, O2.den, O3.den, callD, XArg.ev, XArg.dat, Callee'.num, backs, DArg.back, Conds.den, cloArgs, phi_138, pd_66, hlt]
    (repeat' (first | (with_reducible apply And.intro) | intro _)) <;> first | omega | (rw [parts, if_pos (by assumption), show i = (a.fld 6).toL.length by omega]) | (first | assumption | (exact pd_66 _ _ _ (by first | rfl | simp | (simp; omega))) | (first | omega | (simp only [IntKind.wrap_i64, maxL] at *; omega) | (simp [IntKind.wrap_i64, maxL] at *; omega)) | rfl | contradiction | grind) | skip
theorem pd_138 (a v : D) (h : ((a.fld 6).toL.length : Int) ≤ 1048576) (Q : List D → Prop) (ho : Q [.lst (parts a v)]) : PC Try.prog 138 [.st [(.int .i64), (.int .i64), (.int .i64), (.int .i64), (.int .i64), .bool, (.sl [(.int .i64), (.int .i64), (.int .i64), (.int .i64), (.int .i64), (.int .i64), .bool])] a, .st [(.int .i64), (.int .i64), (.int .i64), (.int .i64), (.int .i64), (.int .i64), .bool] v] [.sc (.sl [(.int .i64), (.int .i64), (.int .i64), (.int .i64), (.int .i64), (.int .i64), .bool])] Q := (pc_138 a v h).mono fun _ h => h ▸ ho
/- impl.acted -/
def phi_98 : Nat → List D → List D
  | 66, [a, b] => [.int (upto a.toI b.toI)]
  | 136, [e, n] => [withN e n.toI]
  | 137, [a, n] => [.int (amount a n.toI)]
  | 138, [a, v] => [.lst (parts a v)]
  | _, _ => []
theorem pc_98 (e v : D) (h : ((e.fld 19).toL.length : Int) ≤ 1048576) : PC Try.prog 98 [.st [(.int .i64), (.int .i64), (.int .i64), (.int .i64), (.int .i64), (.int .i64), (.int .i64), (.int .i64), (.int .i64), (.int .i64), (.int .i64), (.int .i64), (.int .i64), (.int .i64), (.int .i64), (.int .i64), (.int .i64), (.int .i64), .bool, (.sl [(.int .i64), (.int .i64), (.int .i64), (.int .i64), (.int .i64), (.int .i64), .bool]), (.int .i64), (.int .i64)] e, .st [(.int .i64), (.int .i64), (.int .i64), (.int .i64), (.int .i64), (.int .i64), .bool] v] [.sc (.sl [(.int .i64), (.int .i64), (.int .i64), (.int .i64), (.int .i64), (.int .i64), .bool]), .sc (.int .i64)] fun o => o = [.lst (actedL e v), .int (actedN e v)] := by
  refine PC.of_sig mix sig_98 ⟨rfl, rfl, trivial⟩ rfl fun hok => ?_
  have e_e : D.lst [e.fld 0, e.fld 1, e.fld 2, e.fld 3, e.fld 4, e.fld 5, e.fld 6, e.fld 7, e.fld 8, e.fld 9, e.fld 10, e.fld 11, e.fld 12, e.fld 13, e.fld 14, e.fld 15, e.fld 16, e.fld 17, e.fld 18, e.fld 19, e.fld 20, e.fld 21] = e := by simpa [List.range, List.range.loop] using okL_eta (hok _ (.head _))
  have k_e : okL [(.int .i64), (.int .i64), (.int .i64), (.int .i64), (.int .i64), (.int .i64), (.int .i64), (.int .i64), (.int .i64), (.int .i64), (.int .i64), (.int .i64), (.int .i64), (.int .i64), (.int .i64), (.int .i64), (.int .i64), (.int .i64), .bool, (.sl [(.int .i64), (.int .i64), (.int .i64), (.int .i64), (.int .i64), (.int .i64), .bool]), (.int .i64), (.int .i64)] e := (hok _ (.head _))
  have e_e_19 : D.lst (e.fld 19).toL = e.fld 19 := sl_eta (okL_at k_e (i := 19) rfl)
  have l_e_19 := sl_len (okL_at k_e (i := 19) rfl)
  have k_e_19 := sl_all (okL_at k_e (i := 19) rfl)
  have E_e_19 : ∀ i, i < (e.fld 19).toL.length → D.lst [((e.fld 19).elem i).fld 0, ((e.fld 19).elem i).fld 1, ((e.fld 19).elem i).fld 2, ((e.fld 19).elem i).fld 3, ((e.fld 19).elem i).fld 4, ((e.fld 19).elem i).fld 5, ((e.fld 19).elem i).fld 6] = (e.fld 19).elem i := fun i hi => by simpa [List.range, List.range.loop] using okL_eta (k_e_19 _ (elem_mem hi))
  have e_v : D.lst [v.fld 0, v.fld 1, v.fld 2, v.fld 3, v.fld 4, v.fld 5, v.fld 6] = v := by simpa [List.range, List.range.loop] using okL_eta (hok _ (.tail _ (.head _)))
  have k_v : okL [(.int .i64), (.int .i64), (.int .i64), (.int .i64), (.int .i64), (.int .i64), .bool] v := (hok _ (.tail _ (.head _)))
  apply says_den (φ := (phi_98))
  by_cases k1 : (e.fld 13).toI = 1
  · by_cases z : (v.fld 0).toI = 1
    · simp [e_e_19, E_e_19, e_e, e_v, tree_98, T.says, X.den, O1.den, O2.den, O3.den, callD, XArg.ev, XArg.dat, Callee'.num, backs, DArg.back, Conds.den, cloArgs, phi_98, pd_66, pd_136, pd_137, pd_138, k1, z, oneE, actedL, actedN, actOf]
      all_goals ((repeat' (first | (with_reducible apply And.intro) | intro _)) <;> first | omega | (exact (int_eta (okL_at k_v (i := 4) rfl)).symm) | (first | assumption | (exact pd_66 _ _ _ (by first | rfl | simp | (simp; omega))) | (exact pd_136 _ _ _ (by first | rfl | simp | (simp; omega))) | (exact pd_137 _ _ _ (by first | rfl | simp | (simp; omega))) | (exact pd_138 _ _ (by first | (with_reducible assumption) | omega | assumption | (simp; done) | (simp; omega) | (simp [*]; done) | exact smallE_of (n := 1048576) (by omega) (by omega) | (simp [*] at *; omega) | grind [szS]) _ (by first | rfl | simp | (simp; omega))) | (first | omega | (simp only [IntKind.wrap_i64, maxL] at *; omega) | (simp [IntKind.wrap_i64, maxL] at *; omega)) | rfl | contradiction | grind))
    · simp [e_e_19, E_e_19, e_e, e_v, tree_98, T.says, X.den, O1.den, O2.den, O3.den, callD, XArg.ev, XArg.dat, Callee'.num, backs, DArg.back, Conds.den, cloArgs, phi_98, pd_66, pd_136, pd_137, pd_138, k1, z, oneE, actedL, actedN, actOf]
      all_goals ((repeat' (first | (with_reducible apply And.intro) | intro _)) <;> first | omega | (exact (int_eta (okL_at k_v (i := 4) rfl)).symm) | (first | assumption | (exact pd_66 _ _ _ (by first | rfl | simp | (simp; omega))) | (exact pd_136 _ _ _ (by first | rfl | simp | (simp; omega))) | (exact pd_137 _ _ _ (by first | rfl | simp | (simp; omega))) | (exact pd_138 _ _ (by first | (with_reducible assumption) | omega | assumption | (simp; done) | (simp; omega) | (simp [*]; done) | exact smallE_of (n := 1048576) (by omega) (by omega) | (simp [*] at *; omega) | grind [szS]) _ (by first | rfl | simp | (simp; omega))) | (first | omega | (simp only [IntKind.wrap_i64, maxL] at *; omega) | (simp [IntKind.wrap_i64, maxL] at *; omega)) | rfl | contradiction | grind))
  by_cases k2 : (e.fld 13).toI = 2
  · simp [e_e_19, E_e_19, e_e, e_v, tree_98, T.says, X.den, O1.den, O2.den, O3.den, callD, XArg.ev, XArg.dat, Callee'.num, backs, DArg.back, Conds.den, cloArgs, phi_98, pd_66, pd_136, pd_137, pd_138, k2, oneE, actedL, actedN, actOf]
    all_goals ((repeat' (first | (with_reducible apply And.intro) | intro _)) <;> first | omega | (exact (int_eta (okL_at k_v (i := 4) rfl)).symm) | (first | assumption | (exact pd_66 _ _ _ (by first | rfl | simp | (simp; omega))) | (exact pd_136 _ _ _ (by first | rfl | simp | (simp; omega))) | (exact pd_137 _ _ _ (by first | rfl | simp | (simp; omega))) | (exact pd_138 _ _ (by first | (with_reducible assumption) | omega | assumption | (simp; done) | (simp; omega) | (simp [*]; done) | exact smallE_of (n := 1048576) (by omega) (by omega) | (simp [*] at *; omega) | grind [szS]) _ (by first | rfl | simp | (simp; omega))) | (first | omega | (simp only [IntKind.wrap_i64, maxL] at *; omega) | (simp [IntKind.wrap_i64, maxL] at *; omega)) | rfl | contradiction | grind))
  by_cases k3 : (e.fld 13).toI = 3
  · simp [e_e_19, E_e_19, e_e, e_v, tree_98, T.says, X.den, O1.den, O2.den, O3.den, callD, XArg.ev, XArg.dat, Callee'.num, backs, DArg.back, Conds.den, cloArgs, phi_98, pd_66, pd_136, pd_137, pd_138, k3, oneE, actedL, actedN, actOf]
    all_goals ((repeat' (first | (with_reducible apply And.intro) | intro _)) <;> first | omega | (exact (int_eta (okL_at k_v (i := 4) rfl)).symm) | (first | assumption | (exact pd_66 _ _ _ (by first | rfl | simp | (simp; omega))) | (exact pd_136 _ _ _ (by first | rfl | simp | (simp; omega))) | (exact pd_137 _ _ _ (by first | rfl | simp | (simp; omega))) | (exact pd_138 _ _ (by first | (with_reducible assumption) | omega | assumption | (simp; done) | (simp; omega) | (simp [*]; done) | exact smallE_of (n := 1048576) (by omega) (by omega) | (simp [*] at *; omega) | grind [szS]) _ (by first | rfl | simp | (simp; omega))) | (first | omega | (simp only [IntKind.wrap_i64, maxL] at *; omega) | (simp [IntKind.wrap_i64, maxL] at *; omega)) | rfl | contradiction | grind))
  by_cases k4 : (e.fld 13).toI = 4
  · simp [e_e_19, E_e_19, e_e, e_v, tree_98, T.says, X.den, O1.den, O2.den, O3.den, callD, XArg.ev, XArg.dat, Callee'.num, backs, DArg.back, Conds.den, cloArgs, phi_98, pd_66, pd_136, pd_137, pd_138, k4, oneE, actedL, actedN, actOf]
    all_goals ((repeat' (first | (with_reducible apply And.intro) | intro _)) <;> first | omega | (exact (int_eta (okL_at k_v (i := 4) rfl)).symm) | (first | assumption | (exact pd_66 _ _ _ (by first | rfl | simp | (simp; omega))) | (exact pd_136 _ _ _ (by first | rfl | simp | (simp; omega))) | (exact pd_137 _ _ _ (by first | rfl | simp | (simp; omega))) | (exact pd_138 _ _ (by first | (with_reducible assumption) | omega | assumption | (simp; done) | (simp; omega) | (simp [*]; done) | exact smallE_of (n := 1048576) (by omega) (by omega) | (simp [*] at *; omega) | grind [szS]) _ (by first | rfl | simp | (simp; omega))) | (first | omega | (simp only [IntKind.wrap_i64, maxL] at *; omega) | (simp [IntKind.wrap_i64, maxL] at *; omega)) | rfl | contradiction | grind))
  by_cases k5 : (e.fld 13).toI = 5
  · simp [e_e_19, E_e_19, e_e, e_v, tree_98, T.says, X.den, O1.den, O2.den, O3.den, callD, XArg.ev, XArg.dat, Callee'.num, backs, DArg.back, Conds.den, cloArgs, phi_98, pd_66, pd_136, pd_137, pd_138, k5, oneE, actedL, actedN, actOf]
    all_goals ((repeat' (first | (with_reducible apply And.intro) | intro _)) <;> first | omega | (exact (int_eta (okL_at k_v (i := 4) rfl)).symm) | (first | assumption | (exact pd_66 _ _ _ (by first | rfl | simp | (simp; omega))) | (exact pd_136 _ _ _ (by first | rfl | simp | (simp; omega))) | (exact pd_137 _ _ _ (by first | rfl | simp | (simp; omega))) | (exact pd_138 _ _ (by first | (with_reducible assumption) | omega | assumption | (simp; done) | (simp; omega) | (simp [*]; done) | exact smallE_of (n := 1048576) (by omega) (by omega) | (simp [*] at *; omega) | grind [szS]) _ (by first | rfl | simp | (simp; omega))) | (first | omega | (simp only [IntKind.wrap_i64, maxL] at *; omega) | (simp [IntKind.wrap_i64, maxL] at *; omega)) | rfl | contradiction | grind))
  by_cases k6 : (e.fld 13).toI = 6
  · simp [e_e_19, E_e_19, e_e, e_v, tree_98, T.says, X.den, O1.den, O2.den, O3.den, callD, XArg.ev, XArg.dat, Callee'.num, backs, DArg.back, Conds.den, cloArgs, phi_98, pd_66, pd_136, pd_137, pd_138, k6, oneE, actedL, actedN, actOf]
    all_goals ((repeat' (first | (with_reducible apply And.intro) | intro _)) <;> first | omega | (exact (int_eta (okL_at k_v (i := 4) rfl)).symm) | (first | assumption | (exact pd_66 _ _ _ (by first | rfl | simp | (simp; omega))) | (exact pd_136 _ _ _ (by first | rfl | simp | (simp; omega))) | (exact pd_137 _ _ _ (by first | rfl | simp | (simp; omega))) | (exact pd_138 _ _ (by first | (with_reducible assumption) | omega | assumption | (simp; done) | (simp; omega) | (simp [*]; done) | exact smallE_of (n := 1048576) (by omega) (by omega) | (simp [*] at *; omega) | grind [szS]) _ (by first | rfl | simp | (simp; omega))) | (first | omega | (simp only [IntKind.wrap_i64, maxL] at *; omega) | (simp [IntKind.wrap_i64, maxL] at *; omega)) | rfl | contradiction | grind))
  by_cases k7 : (e.fld 13).toI = 7
  · by_cases z : (e.fld 17).toI = 2
    · simp [e_e_19, E_e_19, e_e, e_v, tree_98, T.says, X.den, O1.den, O2.den, O3.den, callD, XArg.ev, XArg.dat, Callee'.num, backs, DArg.back, Conds.den, cloArgs, phi_98, pd_66, pd_136, pd_137, pd_138, k7, z, oneE, actedL, actedN, actOf]
      all_goals ((repeat' (first | (with_reducible apply And.intro) | intro _)) <;> first | omega | (exact (int_eta (okL_at k_v (i := 4) rfl)).symm) | (first | assumption | (exact pd_66 _ _ _ (by first | rfl | simp | (simp; omega))) | (exact pd_136 _ _ _ (by first | rfl | simp | (simp; omega))) | (exact pd_137 _ _ _ (by first | rfl | simp | (simp; omega))) | (exact pd_138 _ _ (by first | (with_reducible assumption) | omega | assumption | (simp; done) | (simp; omega) | (simp [*]; done) | exact smallE_of (n := 1048576) (by omega) (by omega) | (simp [*] at *; omega) | grind [szS]) _ (by first | rfl | simp | (simp; omega))) | (first | omega | (simp only [IntKind.wrap_i64, maxL] at *; omega) | (simp [IntKind.wrap_i64, maxL] at *; omega)) | rfl | contradiction | grind))
    · simp [e_e_19, E_e_19, e_e, e_v, tree_98, T.says, X.den, O1.den, O2.den, O3.den, callD, XArg.ev, XArg.dat, Callee'.num, backs, DArg.back, Conds.den, cloArgs, phi_98, pd_66, pd_136, pd_137, pd_138, k7, z, oneE, actedL, actedN, actOf]
      all_goals ((repeat' (first | (with_reducible apply And.intro) | intro _)) <;> first | omega | (exact (int_eta (okL_at k_v (i := 4) rfl)).symm) | (first | assumption | (exact pd_66 _ _ _ (by first | rfl | simp | (simp; omega))) | (exact pd_136 _ _ _ (by first | rfl | simp | (simp; omega))) | (exact pd_137 _ _ _ (by first | rfl | simp | (simp; omega))) | (exact pd_138 _ _ (by first | (with_reducible assumption) | omega | assumption | (simp; done) | (simp; omega) | (simp [*]; done) | exact smallE_of (n := 1048576) (by omega) (by omega) | (simp [*] at *; omega) | grind [szS]) _ (by first | rfl | simp | (simp; omega))) | (first | omega | (simp only [IntKind.wrap_i64, maxL] at *; omega) | (simp [IntKind.wrap_i64, maxL] at *; omega)) | rfl | contradiction | grind))
  by_cases k8 : (e.fld 13).toI = 8
  · by_cases z : (v.fld 5).toI = 2
    · simp [e_e_19, E_e_19, e_e, e_v, tree_98, T.says, X.den, O1.den, O2.den, O3.den, callD, XArg.ev, XArg.dat, Callee'.num, backs, DArg.back, Conds.den, cloArgs, phi_98, pd_66, pd_136, pd_137, pd_138, k8, z, oneE, actedL, actedN, actOf]
      all_goals ((repeat' (first | (with_reducible apply And.intro) | intro _)) <;> first | omega | (exact (int_eta (okL_at k_v (i := 4) rfl)).symm) | (first | assumption | (exact pd_66 _ _ _ (by first | rfl | simp | (simp; omega))) | (exact pd_136 _ _ _ (by first | rfl | simp | (simp; omega))) | (exact pd_137 _ _ _ (by first | rfl | simp | (simp; omega))) | (exact pd_138 _ _ (by first | (with_reducible assumption) | omega | assumption | (simp; done) | (simp; omega) | (simp [*]; done) | exact smallE_of (n := 1048576) (by omega) (by omega) | (simp [*] at *; omega) | grind [szS]) _ (by first | rfl | simp | (simp; omega))) | (first | omega | (simp only [IntKind.wrap_i64, maxL] at *; omega) | (simp [IntKind.wrap_i64, maxL] at *; omega)) | rfl | contradiction | grind))
    · simp [e_e_19, E_e_19, e_e, e_v, tree_98, T.says, X.den, O1.den, O2.den, O3.den, callD, XArg.ev, XArg.dat, Callee'.num, backs, DArg.back, Conds.den, cloArgs, phi_98, pd_66, pd_136, pd_137, pd_138, k8, z, oneE, actedL, actedN, actOf]
      all_goals ((repeat' (first | (with_reducible apply And.intro) | intro _)) <;> first | omega | (exact (int_eta (okL_at k_v (i := 4) rfl)).symm) | (first | assumption | (exact pd_66 _ _ _ (by first | rfl | simp | (simp; omega))) | (exact pd_136 _ _ _ (by first | rfl | simp | (simp; omega))) | (exact pd_137 _ _ _ (by first | rfl | simp | (simp; omega))) | (exact pd_138 _ _ (by first | (with_reducible assumption) | omega | assumption | (simp; done) | (simp; omega) | (simp [*]; done) | exact smallE_of (n := 1048576) (by omega) (by omega) | (simp [*] at *; omega) | grind [szS]) _ (by first | rfl | simp | (simp; omega))) | (first | omega | (simp only [IntKind.wrap_i64, maxL] at *; omega) | (simp [IntKind.wrap_i64, maxL] at *; omega)) | rfl | contradiction | grind))
  by_cases k9 : (e.fld 13).toI = 9
  · simp [e_e_19, E_e_19, e_e, e_v, tree_98, T.says, X.den, O1.den, O2.den, O3.den, callD, XArg.ev, XArg.dat, Callee'.num, backs, DArg.back, Conds.den, cloArgs, phi_98, pd_66, pd_136, pd_137, pd_138, k9, oneE, actedL, actedN, actOf, h]
    all_goals ((repeat' (first | (with_reducible apply And.intro) | intro _)) <;> first | omega | (exact (int_eta (okL_at k_v (i := 4) rfl)).symm) | (first | assumption | (exact pd_66 _ _ _ (by first | rfl | simp | (simp; omega))) | (exact pd_136 _ _ _ (by first | rfl | simp | (simp; omega))) | (exact pd_137 _ _ _ (by first | rfl | simp | (simp; omega))) | (exact pd_138 _ _ (by first | (with_reducible assumption) | omega | assumption | (simp; done) | (simp; omega) | (simp [*]; done) | exact smallE_of (n := 1048576) (by omega) (by omega) | (simp [*] at *; omega) | grind [szS]) _ (by first | rfl | simp | (simp; omega))) | (first | omega | (simp only [IntKind.wrap_i64, maxL] at *; omega) | (simp [IntKind.wrap_i64, maxL] at *; omega)) | rfl | contradiction | grind))
  simp [e_e_19, E_e_19, e_e, e_v, tree_98, T.says, X.den, O1.den, O2.den, O3.den, callD, XArg.ev, XArg.dat, Callee'.num, backs, DArg.back, Conds.den, cloArgs, phi_98, pd_66, pd_136, pd_137, pd_138, k1, k2, k3, k4, k5, k6, k7, k8, k9, oneE, actedL, actedN, actOf]
  all_goals ((repeat' (first | (with_reducible apply And.intro) | intro _)) <;> first | omega | (exact (int_eta (okL_at k_v (i := 4) rfl)).symm) | (first | assumption | (exact pd_66 _ _ _ (by first | rfl | simp | (simp; omega))) | (exact pd_136 _ _ _ (by first | rfl | simp | (simp; omega))) | (exact pd_137 _ _ _ (by first | rfl | simp | (simp; omega))) | (exact pd_138 _ _ (by first | (with_reducible assumption) | omega | assumption | (simp; done) | (simp; omega) | (simp [*]; done) | exact smallE_of (n := 1048576) (by omega) (by omega) | (simp [*] at *; omega) | grind [szS]) _ (by first | rfl | simp | (simp; omega))) | (first | omega | (simp only [IntKind.wrap_i64, maxL] at *; omega) | (simp [IntKind.wrap_i64, maxL] at *; omega)) | rfl | contradiction | grind))
theorem pd_98 (e v : D) (h : ((e.fld 19).toL.length : Int) ≤ 1048576) (Q : List D → Prop) (ho : Q [.lst (actedL e v), .int (actedN e v)]) : PC Try.prog 98 [.st [(.int .i64), (.int .i64), (.int .i64), (.int .i64), (.int .i64), (.int .i64), (.int .i64), (.int .i64), (.int .i64), (.int .i64), (.int .i64), (.int .i64), (.int .i64), (.int .i64), (.int .i64), (.int .i64), (.int .i64), (.int .i64), .bool, (.sl [(.int .i64), (.int .i64), (.int .i64), (.int .i64), (.int .i64), (.int .i64), .bool]), (.int .i64), (.int .i64)] e, .st [(.int .i64), (.int .i64), (.int .i64), (.int .i64), (.int .i64), (.int .i64), .bool] v] [.sc (.sl [(.int .i64), (.int .i64), (.int .i64), (.int .i64), (.int .i64), (.int .i64), .bool]), .sc (.int .i64)] Q := (pc_98 e v h).mono fun _ h => h ▸ ho
/- impl.Gone -/
theorem pc_101 (d : D) : PC Try.prog 101 [.st [(.int .i64), (.int .i64), (.int .i64), (.int .i64), (.int .i64), (.int .i64), .bool] d] [.sc .bool] fun o => o = [.bool (gone d)] := by
  refine PC.of_sig mix sig_101 ⟨rfl, trivial⟩ rfl fun hok => ?_
  have e_d : D.lst [d.fld 0, d.fld 1, d.fld 2, d.fld 3, d.fld 4, d.fld 5, d.fld 6] = d := by simpa [List.range, List.range.loop] using okL_eta (hok _ (.head _))
  have k_d : okL [(.int .i64), (.int .i64), (.int .i64), (.int .i64), (.int .i64), (.int .i64), .bool] d := (hok _ (.head _))
  apply says_den (φ := fun _ _ => [])
  simp [e_d, tree_101, T.says, X.den, O1.den, O2.den, O3.den, callD, XArg.ev, XArg.dat, Callee'.num, backs, DArg.back, Conds.den, cloArgs, gone]
theorem pd_101 (d : D) (Q : List D → Prop) (ho : Q [.bool (gone d)]) : PC Try.prog 101 [.st [(.int .i64), (.int .i64), (.int .i64), (.int .i64), (.int .i64), (.int .i64), .bool] d] [.sc .bool] Q := (pc_101 d).mono fun _ h => h ▸ ho
/- impl.DoAct$1 -/
def phi_100 : Nat → List D → List D
  | 97, [e] => [.bool (eventOk e)]
  | 101, [d] => [.bool (gone d)]
  | _, _ => []
theorem pc_100 (x : D) : PC Try.prog 100 [.st [(.int .i64), (.int .i64), (.int .i64), (.int .i64), (.int .i64), (.int .i64), .bool] x] [.sc .bool] fun o => o = [.bool (!goodEv x)] := by
  refine PC.of_sig mix sig_100 ⟨rfl, trivial⟩ rfl fun hok => ?_
  have e_x : D.lst [x.fld 0, x.fld 1, x.fld 2, x.fld 3, x.fld 4, x.fld 5, x.fld 6] = x := by simpa [List.range, List.range.loop] using okL_eta (hok _ (.head _))
  have k_x : okL [(.int .i64), (.int .i64), (.int .i64), (.int .i64), (.int .i64), (.int .i64), .bool] x := (hok _ (.head _))
  apply says_den (φ := (phi_100))
  simp [e_x, tree_100, T.says, X.den, O1.den, O2.den, O3.den, callD, XArg.ev, XArg.dat, Callee'.num, backs, DArg.back, Conds.den, cloArgs, phi_100, pd_97, pd_101, goodEv]
theorem pd_100 (x : D) (Q : List D → Prop) (ho : Q [.bool (!goodEv x)]) : PC Try.prog 100 [.st [(.int .i64), (.int .i64), (.int .i64), (.int .i64), (.int .i64), (.int .i64), .bool] x] [.sc .bool] Q := (pc_100 x).mono fun _ h => h ▸ ho
/- slices.DeleteFunc[[]impl.Event,impl.Event] -/
namespace L99
open Go.RowKit
theorem setCells_row {w : World} {b off : Nat} {vs : List Value} {cur : Array Value} {T : TypeId} (hh : w.heap[b]? = some (.cells cur T (0, 0))) (hle : off + vs.length ≤ cur.size) (h1 : ∀ v ∈ vs, v.oneCell' = true) : w.setCells b off vs = w.setRow b (spl cur.toList off vs).toArray := by
  have h2 := run_storeCells_at Try.prog b off T vs 0 cur w hh (by simpa using hle) h1
  have hc : ∀ j, j < vs.length → (w.cell? ⟨b, off + j, none⟩).isSome = true := fun j hj => by
    simp only [World.cell?, hh, Option.isSome_none, Bool.false_eq_true, if_false]
    rw [Array.getElem?_eq_getElem (by omega)]
    rfl
  have hf : ∀ j, j < vs.length → w.frozen? ⟨b, off + j, none⟩ = false := fun j hj => by
    simp [World.frozen?, hh]
  have h3 := run_storeCells_cells (P := Try.prog) b off vs 0 w (by simpa using hc) (by simpa using hf) h1
  rw [h2] at h3
  injection h3 with _ h4
  simpa [spl] using h4.symm
theorem setRow_setRow (w : World) (b : Nat) (c1 c2 : Array Value) : (w.setRow b c1).setRow b c2 = w.setRow b c2 := by
  unfold World.setRow
  congr 1
  apply Array.ext_getElem?
  intro i
  simp only [Array.getElem?_modify]
  split
  · cases w.heap[i]? with
    | none => rfl
    | some o => cases o <;> rfl
  · rfl
theorem drew_heap (w : World) : w.drew.heap = w.heap := rfl
theorem zc_size (z : Array Value) (n : Nat) : (Builtin.zeroCells z n).size = n * z.size := by simp [Builtin.zeroCells]
theorem zc_one (z : Array Value) (h : ∀ v ∈ z.toList, v.oneCell' = true) (n : Nat) : ∀ v ∈ (Builtin.zeroCells z n).toList, v.oneCell' = true := by
  intro v hv
  simp only [Builtin.zeroCells, Array.toList_map, List.mem_map, Array.mem_toList_iff, Array.mem_range] at hv
  obtain ⟨i, hi, rfl⟩ := hv
  have hlt : i % z.size < z.size := Nat.mod_lt _ (by rcases Nat.eq_zero_or_pos z.size with h0 | h0; (rw [h0] at hi; simp at hi); exact h0)
  rw [getElem!_pos z _ hlt]
  exact h _ (by simp)
def zeroV : Value := .agg #[.int .i64 0, .int .i64 0, .int .i64 0, .int .i64 0, .int .i64 0, .int .i64 0, .bool false]
theorem zero_size : zeroV.cells.size = 7 := rfl
theorem zero_one : ∀ v ∈ zeroV.cells.toList, v.oneCell' = true := by
  intro v hv
  have : zeroV.cells.toList.all Value.oneCell' = true := by kernel_rfl
  exact List.all_eq_true.1 this v hv
theorem clear_run {w : World} {b off n c : Nat} {cur : Array Value} {T : TypeId} (ty : TypeId) (hn : 0 < n) (hh : w.heap[b]? = some (.cells cur T (0, 0))) (hle : off + n * 7 ≤ cur.size) :
    (Builtin.clear_ #[42] ty #[.slice (some ⟨b, off, none⟩) n c]).run Try.prog w = .ok (.tuple #[]) (w.setRow b (spl cur.toList off (Builtin.zeroCells zeroV.cells n).toList).toArray) := by
  have h2 := run_storeCells_at Try.prog b off T (Builtin.zeroCells zeroV.cells n).toList 0 cur w hh (by rw [Array.length_toList, zc_size, zero_size]; simpa using hle) (zc_one _ zero_one n)
  obtain ⟨m, rfl⟩ : ∃ m, n = m + 1 := ⟨n - 1, by omega⟩
  simp only [Builtin.clear_, List.getElem?_toArray, List.getElem?_cons_zero, Sem.run_bind, Sem.run_pure, Result.andThen_ok, run_underlying Try.underlying42]
  simp only [Nat.add_zero] at h2
  simp only [spl]
  have hz : ∀ w, (zeroValue 65).run Try.prog w = .ok zeroV w := Try.zeroValue65
  simp [hz, h2]
section
variable {P : Program} {ops : Array Oper} {rest : List Oper} {a : Act} {w : World} {Q : Exit → Act → World → Prop}
theorem wpList_loadE {dst : Option Tmp} {t ty : TypeId} {x : Operand} {pos : String} {after : Array Edge} (A : Addr) (v : Value) (hx : a.eval x = .pointer (some A)) (hr : (Instr.loadAt t (.pointer (some A))).run P w = .ok v w) (h : wpList P ops Q rest (a.put dst v) w) :
    wpList P ops Q ({ dst := dst, op := .load t x, type := ty, pos := pos, after := after, guard := none } :: rest) a w := by
  refine wpList_plain rfl fun K hK => ?_
  unfold Oper.wp
  have he : (execOp a.eval { dst := dst, op := .load t x, type := ty, pos := pos, after := after, guard := none }).run P w = .ok (.value v) w := by simp [execOp, hx, hr]
  rw [he, Oper.upon_value]
  exact hK _ _ h
theorem wpList_storeE {t ty : TypeId} {x y : Operand} {pos : String} {after : Array Edge} {w' : World} (A : Addr) (v : Value) (hx : a.eval x = .pointer (some A)) (hy : a.eval y = v) (hr : (Instr.storeAt t (.pointer (some A)) v).run P w = .ok () w') (h : wpList P ops Q rest a w') :
    wpList P ops Q ({ dst := none, op := .store t x y, type := ty, pos := pos, after := after, guard := none } :: rest) a w := by
  refine wpList_plain rfl fun K hK => ?_
  unfold Oper.wp
  have he : (execOp a.eval { dst := none, op := .store t x y, type := ty, pos := pos, after := after, guard := none }).run P w = .ok .skip w' := by simp only [execOp, hx, hy, Sem.run_bind, hr, Result.andThen_ok, Sem.run_pure]
  rw [he, Oper.upon_skip]
  exact hK _ _ h
end
theorem loadAt_var {P : Program} {t : TypeId} {A : Addr} {v : Value} {w : World} (h : (loadVar t A).run P w = .ok v w) : (Instr.loadAt t (.pointer (some A))).run P w = .ok v w := by
  simp [Instr.loadAt, Instr.sureAddr, h]
/-- An element of a block of cells, read. -/
theorem load_elem {w : World} {b q : Nat} {dk : Array Value} {T : TypeId} (hb : w.heap[b]? = some (.cells dk T (0, 0))) (hq : q + 7 ≤ dk.size) : (Instr.loadAt 65 (.pointer (some ⟨b, q, none⟩))).run Try.prog w = .ok (.agg ((List.range 7).map fun c => dk.getD (q + c) undef).toArray) w := by
  refine loadAt_var (run_loadVar_agg (n := 7) (by kernel_rfl) (by kernel_rfl) b q (fun c => dk.getD (q + c) undef) fun c hc => ?_)
  simp only [World.cell?, hb, Option.isSome_none, Bool.false_eq_true, if_false]
  rw [Array.getD_eq_getD_getElem?, Array.getElem?_eq_getElem (by omega)]
  rfl
/-- The world has grown: what was there is there still. -/
structure Keep (w w' : World) : Prop where
  os : w'.os = w.os
  tape : w'.tape = w.tape
  output : w'.output = w.output
  size : w.heap.size ≤ w'.heap.size
  block : ∀ b, b < w.heap.size → w'.heap[b]? = w.heap[b]?
/-- .. but for one block. -/
structure KeepBut (b : Nat) (w w' : World) : Prop where
  os : w'.os = w.os
  tape : w'.tape = w.tape
  output : w'.output = w.output
  size : w.heap.size ≤ w'.heap.size
  block : ∀ b', b' < w.heap.size → b' ≠ b → w'.heap[b']? = w.heap[b']?
theorem flatIdx {k q n : Nat} (hk : 0 < k) (h : q < n * k) : q / k < n ∧ q % k < k ∧ q / k * k + q % k = q := ⟨Nat.div_lt_of_lt_mul (by rwa [Nat.mul_comm]), Nat.mod_lt _ hk, by rw [Nat.mul_comm]; exact Nat.div_add_mod q k⟩
theorem fp_mono {n m k : Nat} {fps fpq : Nat → Nat → List Nat} (p : Nat → Nat) (hp : ∀ i, i < n → p i < m) (hinj : ∀ i j, i < n → j < n → p i = p j → i = j) (he : ∀ i c, i < n → fpq i c = fps (p i) c) (h : (fpAll m k fps).Nodup) : (fpAll n k fpq).Nodup ∧ ∀ b ∈ fpAll n k fpq, b ∈ fpAll m k fps := by
  obtain ⟨a1, a2⟩ := fpAll_inv h
  refine ⟨fpAll_nodup (fun i c hi hc => ?_) (fun i c i' c' hi hc hi' hc' hne b hb hb' => ?_), fun b hb => ?_⟩
  · rw [he i c hi]; exact a1 _ c (hp i hi) hc
  · rw [he i c hi] at hb
    rw [he i' c' hi'] at hb'
    refine a2 _ c _ c' (hp i hi) hc (hp i' hi') hc' (fun e => hne ?_) b hb hb'
    injection e with e1 e2
    rw [hinj i i' hi hi' e1, e2]
  · obtain ⟨i, c, hi, hc, hm⟩ := fpAll_mem hb
    rw [he i c hi] at hm
    exact mem_fpAll (hp i hi) hc hm
/-- A list whose elements are some of an owned list's, at their places now. -/
theorem own_pick {w w' : World} {ks : List CK} {xs : List D} {b cap m : Nat} {cs cs' : Array Value} {T : TypeId} {fps : Nat → Nat → List Nat} (hk : 0 < ks.length) (hh' : w'.heap[b]? = some (.cells cs' T (0, 0))) (hsz : cap * ks.length ≤ cs'.size) (hmc : m ≤ cap) (hmax : xs.length ≤ maxL)
    (hsh : ∀ i, i < xs.length → Shp ks.length (xs.getD i default)) (hown : ∀ i c, i < xs.length → c < ks.length → Own w (ks.getD c default) ((xs.getD i default).fld c) (cs.getD (i * ks.length + c) undef) (fps i c))
    (hnd : (b :: fpAll xs.length ks.length fps).Nodup) (hold : ∀ b', b' ≠ b → w'.heap[b']? = w.heap[b']?) (ys : List D) (hym : ys.length = m) (p : Nat → Nat) (hp : ∀ i, i < m → p i < xs.length) (hinj : ∀ i j, i < m → j < m → p i = p j → i = j) (hml : m ≤ xs.length)
    (hy : ∀ i, i < m → ys.getD i default = xs.getD (p i) default) (hc : ∀ i c, i < m → c < ks.length → cs'.getD (i * ks.length + c) undef = cs.getD (p i * ks.length + c) undef) :
    ∃ fp', Own w' (.sl ks) (.lst ys) (.slice (some ⟨b, 0, none⟩) m cap) fp' ∧ fp'.Nodup ∧ ∀ b' ∈ fp', b' ∈ b :: fpAll xs.length ks.length fps := by
  obtain ⟨n1, n2⟩ := List.nodup_cons.1 hnd
  obtain ⟨f1, f2⟩ := fp_mono (fpq := fun i c => fps (p i) c) p hp hinj (fun _ _ _ => rfl) n2
  subst hym
  refine ⟨b :: fpAll ys.length ks.length (fun i c => fps (p i) c), ?_, List.nodup_cons.2 ⟨fun h => n1 (f2 b h), f1⟩, fun b' hb' => ?_⟩
  · refine .sl b cap cs' T ys _ hh' hsz hmc (by omega) (fun i hi => ?_) (fun i c hi hc' => ?_)
    · rw [hy i hi]; exact hsh _ (hp i hi)
    · rw [hy i hi, hc i c hi hc']
      exact (hown _ c (hp i hi) hc').frame fun b' hb' => hold b' fun e => n1 (e ▸ mem_fpAll (hp i hi) hc' hb')
  · rcases List.mem_cons.1 hb' with rfl | hb'
    · simp
    · exact List.mem_cons_of_mem _ (f2 b' hb')
/-- A list whose elements are some of an owned list's, at their places now. -/
theorem own_pick2 {w w' : World} {ks : List CK} {xs : List D} {b cap m : Nat} {cs cs' : Array Value} {T : TypeId} {fps : Nat → Nat → List Nat} (hk : 0 < ks.length) (hh' : w'.heap[b]? = some (.cells cs' T (0, 0))) (hsz : cap * ks.length ≤ cs'.size) (hmc : m ≤ cap) (hmax : xs.length ≤ maxL)
    (hsh : ∀ i, i < xs.length → Shp ks.length (xs.getD i default)) (hown : ∀ i c, i < xs.length → c < ks.length → Own w (ks.getD c default) ((xs.getD i default).fld c) (cs.getD (i * ks.length + c) undef) (fps i c))
    (hnd : (b :: fpAll xs.length ks.length fps).Nodup) (hbl : b < w.heap.size) (hold : ∀ b', b' < w.heap.size → b' ≠ b → w'.heap[b']? = w.heap[b']?) (ys : List D) (hym : ys.length = m) (p : Nat → Nat) (hp : ∀ i, i < m → p i < xs.length) (hinj : ∀ i j, i < m → j < m → p i = p j → i = j) (hml : m ≤ xs.length)
    (hy : ∀ i, i < m → ys.getD i default = xs.getD (p i) default) (hc : ∀ i c, i < m → c < ks.length → cs'.getD (i * ks.length + c) undef = cs.getD (p i * ks.length + c) undef) :
    ∃ fp', Own w' (.sl ks) (.lst ys) (.slice (some ⟨b, 0, none⟩) m cap) fp' ∧ fp'.Nodup ∧ ∀ b' ∈ fp', b' ∈ b :: fpAll xs.length ks.length fps := by
  obtain ⟨n1, n2⟩ := List.nodup_cons.1 hnd
  obtain ⟨f1, f2⟩ := fp_mono (fpq := fun i c => fps (p i) c) p hp hinj (fun _ _ _ => rfl) n2
  subst hym
  refine ⟨b :: fpAll ys.length ks.length (fun i c => fps (p i) c), ?_, List.nodup_cons.2 ⟨fun h => n1 (f2 b h), f1⟩, fun b' hb' => ?_⟩
  · refine .sl b cap cs' T ys _ hh' hsz hmc (by omega) (fun i hi => ?_) (fun i c hi hc' => ?_)
    · rw [hy i hi]; exact hsh _ (hp i hi)
    · rw [hy i hi, hc i c hi hc']
      exact (hown _ c (hp i hi) hc').frame fun b' hb' => hold b' ((hown _ c (hp i hi) hc').lt b' hb') fun e => n1 (e ▸ mem_fpAll (hp i hi) hc' hb')
  · rcases List.mem_cons.1 hb' with rfl | hb'
    · simp
    · exact List.mem_cons_of_mem _ (f2 b' hb')
theorem int_arg {w : World} {S G : Nat → Prop} {i : D} {v : Value} {fp : List Nat} (h : ArgR w S G (.sc (.int .i64) i) v fp) : ∃ n : Int, i = .int n ∧ v = .int .i64 n ∧ fp = [] ∧ inK .i64 n = true := by
  cases h with
  | sc h => cases h with
    | flat h => cases h with
      | int h => exact ⟨_, rfl, rfl, rfl, h⟩
def elemV (cs : Array Value) (q : Nat) : Value := .agg ((List.range 7).map fun c => cs.getD (q * 7 + c) undef).toArray
def keptI (p : Nat → Bool) (n : Nat) : List Nat := (List.range n).filter fun q => !p q
/-- What the row holds when the first 'j' elements were looked at. -/
structure DfInv (cs dk : Array Value) (p : Nat → Bool) (n j i : Nat) : Prop where
  size : dk.size = cs.size
  len : i = (keptI p j).length
  lt : i < j
  low : ∀ q c, q < i → c < 7 → dk.getD (q * 7 + c) undef = cs.getD ((keptI p j).getD q 0 * 7 + c) undef
  high : ∀ q, j * 7 ≤ q → dk.getD q undef = cs.getD q undef
theorem DfInv.skip {cs dk : Array Value} {p : Nat → Bool} {n j i : Nat} (h : DfInv cs dk p n j i) (hs : keptI p (j + 1) = keptI p j) : DfInv cs dk p n (j + 1) i :=
  ⟨h.size, by rw [hs]; exact h.len, by have := h.lt; omega, fun q c hq hc => by rw [hs]; exact h.low q c hq hc, fun q hq => h.high q (by omega)⟩
theorem DfInv.keep {cs dk dk2 : Array Value} {p : Nat → Bool} {n j i : Nat} (h : DfInv cs dk p n j i) (hs : keptI p (j + 1) = keptI p j ++ [j]) (hj : j * 7 + 7 ≤ cs.size) (hd : dk2 = (spl dk.toList (i * 7) (elemV cs j).cells.toList).toArray) : DfInv cs dk2 p n (j + 1) (i + 1) := by
  have hlt := h.lt
  have hsz := h.size
  have hcl : (elemV cs j).cells.toList.length = 7 := rfl
  have hsp : i * 7 + (elemV cs j).cells.toList.length ≤ dk.toList.length := by rw [hcl, Array.length_toList]; omega
  have hat : ∀ q, dk2.getD q undef = if i * 7 ≤ q ∧ q < i * 7 + 7 then (elemV cs j).cells.toList.getD (q - i * 7) undef else dk.getD q undef := fun q => by
    rw [hd, Array.getD_eq_getD_getElem?, List.getElem?_toArray, ← List.getD_eq_getElem?_getD, spl_getD hsp, hcl]
    split
    · rfl
    · rw [List.getD_eq_getElem?_getD, Array.getElem?_toList, ← Array.getD_eq_getD_getElem?]
  refine ⟨by rw [hd, List.size_toArray, spl_length hsp, Array.length_toList]; exact hsz, by rw [hs, List.length_append, ← h.len]; rfl, by omega, fun q c hq hc => ?_, fun q hq => ?_⟩
  · rw [hat, hs]
    by_cases hqi : q < i
    · rw [if_neg (by omega), h.low q c hqi hc]
      congr 2
      rw [List.getD_eq_getElem?_getD, List.getD_eq_getElem?_getD, List.getElem?_append_left (by rw [← h.len]; exact hqi)]
    · have : q = i := by omega
      subst this
      rw [if_pos ⟨by omega, by omega⟩, show q * 7 + c - q * 7 = c by omega, List.getD_eq_getElem?_getD (l := keptI p j ++ [j]), List.getElem?_append_right (by rw [← h.len]; exact Nat.le_refl _), ← h.len, Nat.sub_self]
      show ((List.range 7).map fun c => cs.getD (j * 7 + c) undef).getD c undef = cs.getD (j * 7 + c) undef
      rw [List.getD_eq_getElem?_getD, List.getElem?_map, List.getElem?_range hc]
      rfl
  · rw [hat, if_neg (by omega), h.high q (by omega)]
theorem alloc_setRow (w : World) (zs cs : Array Value) (T : TypeId) (fz : Nat × Nat) : (w.alloc (.cells zs T fz)).setRow w.heap.size cs = w.alloc (.cells cs T fz) := by
  unfold World.setRow World.alloc
  congr 1
  apply Array.ext_getElem?
  intro i
  simp only [Array.getElem?_modify, Array.getElem?_push]
  split
  · rename_i h
    subst h
    simp
  · rename_i h
    rw [if_neg (fun e => h e.symm)]
    rw [if_neg (fun e => h e.symm)]
theorem df_calls {w : World} {b cap n : Nat} {cs : Array Value} {T : TypeId} (hh : w.heap[b]? = some (.cells cs T (0, 0))) (hcs : cap * 7 ≤ cs.size) (hn : n ≤ cap) (hmax : n ≤ 140737488355328) (hone : ∀ q, q < n * 7 → (cs.getD q undef).oneCell' = true)
    (g : Nat) (us : Array Value) (p : Nat → Bool) (eg : ∀ args w, (callFunc g args).run Try.prog w = .ok (.enter g args) w)
    (hdel : ∀ q w1, q < n → KeepBut b w w1 → Calls Try.prog g (#[elemV cs q] ++ us) w1 fun e w2 => e = .returned (.bool (p q)) ∧ Keep w1 w2)
    (hif : Calls Try.prog 139 #[.slice (some ⟨b, 0, none⟩) n cap, .func (.func g) #[] us] w fun e w1 => e = .returned (.int .i64 (findR p n)) ∧ Keep w w1) :
    Calls Try.prog 99 #[.slice (some ⟨b, 0, none⟩) n cap, .func (.func g) #[] us] w fun e w' => e = .returned (.slice (some ⟨b, 0, none⟩) (keptI p n).length cap) ∧
      ∃ cs' : Array Value, KeepBut b w w' ∧ w'.heap[b]? = some (.cells cs' T (0, 0)) ∧ cs'.size = cs.size ∧ ∀ q c, q < (keptI p n).length → c < 7 → cs'.getD (q * 7 + c) undef = cs.getD ((keptI p n).getD q 0 * 7 + c) undef := by
  have mixed := mix
  by_cases hneg : findR p n < 0
  · have hall := findR_neg hneg
    have e1 : findR p n = -1 := by have := (findR_range p n).1; omega
    have e2 : keptI p n = List.range n := by
      rw [keptI, List.filter_eq_self]
      intro q hq
      rw [hall q (List.mem_range.1 hq)]; rfl
    have h0 : Calls Try.prog 99 #[.slice (some ⟨b, 0, none⟩) n cap, .func (.func g) #[] us] w fun e w' => e = .returned (.slice (some ⟨b, 0, none⟩) n cap) ∧ Keep w w' := by
      rw [e1] at hif
      clear hh hone hdel
      go_enter Try.func99, Try.ntmps99
      go_wp2_with (go_at_call 139; refine hif.mono ?_; rintro e w' ⟨rfl, q0⟩)
      go_ret
      exact ⟨rfl, q0⟩
    refine h0.mono ?_
    rintro e w' ⟨rfl, k⟩
    rw [e2]
    refine ⟨by rw [List.length_range], cs, ⟨k.os, k.tape, k.output, k.size, fun b' h1 _ => k.block b' h1⟩, (k.block b (Array.getElem?_eq_some_iff.1 hh).1).trans hh, rfl, fun q c hq hc => ?_⟩
    rw [List.length_range] at hq
    rw [List.getD_eq_getElem?_getD, List.getElem?_range hq]; rfl
  · obtain ⟨k0, e1, hk0, hpk, hbef⟩ := findR_pos (p := p) (n := n) (by omega)
    rw [e1] at hif
    have hne1 : ((k0 : Int) == -1) = false := beq_eq_false_iff_ne.2 (by omega)
    have hsum : ∀ q, q < n → keptI p (q + 1) = keptI p q ++ if p q then [] else [q] := fun q _ => by
      simp only [keptI, List.range_succ, List.filter_append]
      cases hq : p q <;> simp [hq]
    have start : DfInv cs cs p n (k0 + 1) k0 := by
      have hk : keptI p k0 = List.range k0 := by
        rw [keptI, List.filter_eq_self]
        intro q hq
        rw [hbef q (List.mem_range.1 hq)]; rfl
      have hk1 : keptI p (k0 + 1) = List.range k0 := by rw [hsum k0 hk0, hpk, hk]; simp
      refine ⟨rfl, by rw [hk1]; simp, by omega, fun q c hq hc => ?_, fun q _ => rfl⟩
      rw [hk1, List.getD_eq_getElem?_getD, List.getElem?_range hq]; rfl
    have ST : Aside (DfInv cs cs p n (k0 + 1) k0) := start
    have HH : Aside (w.heap[b]? = some (.cells cs T (0, 0))) := hh
    have HD : Aside (∀ q w1, q < n → KeepBut b w w1 → Calls Try.prog g (#[elemV cs q] ++ us) w1 fun e w2 => e = .returned (.bool (p q)) ∧ Keep w1 w2) := hdel
    clear start hh hdel hpk hbef e1
    go_enter Try.func99, Try.ntmps99
    go_wp2_with (go_at_call 139; refine hif.mono ?_; rintro e w' ⟨rfl, q0⟩)
    go_loopg [5, 6, 7] n (fun gg s5 s6 _ wr => ∃ (i j : Nat) (dk : Array Value), s5 = .int .i64 i ∧ s6 = .int .i64 j ∧ j ≤ n ∧ n - j ≤ gg ∧ KeepBut b w wr ∧ wr.heap[b]? = some (.cells dk T (0, 0)) ∧ Aside (DfInv cs dk p n j i))
    case atStart => exact ⟨k0, k0 + 1, cs, rfl, by go_num, by omega, by omega, ⟨q0.os, q0.tape, q0.output, q0.size, fun b' h1 _ => q0.block b' h1⟩, (q0.block b (Array.getElem?_eq_some_iff.1 HH.out).1).trans HH.out, ST⟩
    case round =>
      obtain ⟨i, j, dk, rfl, rfl, hjd, hgg, hk, hb, I2⟩ := hrel
      have hI := I2.out
      have hij := hI.lt
      have hds := hI.size
      by_cases hlt : j < n
      · have hltz : (j : Int) < (n : Int) := by omega
        have hcell : ∀ q, q < cs.size → wr.cell? ⟨b, q, none⟩ = some (dk.getD q undef) := fun q hq => by
          simp only [World.cell?, hb, Option.isSome_none, Bool.false_eq_true, if_false]
          rw [Array.getD_eq_getD_getElem?, Array.getElem?_eq_getElem (by omega)]
          rfl
        have hj : j * 7 + 7 ≤ cs.size := by omega
        have hi : i * 7 + 7 ≤ cs.size := by omega
        obtain ⟨ev, hev⟩ : ∃ ev, ev = elemV cs j := ⟨_, rfl⟩
        have hld : (Instr.loadAt 65 (.pointer (some ⟨b, j * 7, none⟩))).run Try.prog wr = .ok ev wr := by
          rw [load_elem hb (by omega), hev, elemV]
          congr 3
          apply List.map_congr_left
          intro c hc
          exact I2.out.high _ (by omega)
        have hec : ev.cells.size = 7 := by rw [hev]; rfl
        have he1 : ∀ u ∈ ev.cells.toList, u.oneCell' = true := by
          rw [hev]
          intro u hu
          simp only [elemV, Value.cells, List.mem_map, List.mem_range] at hu
          obtain ⟨c, hc, rfl⟩ := hu
          exact hone _ (by omega)
        have hbl : b < wr.heap.size := (Array.getElem?_eq_some_iff.1 hb).1
        -- the variable's own block
        obtain ⟨W1, hW1⟩ : ∃ W1, W1 = wr.alloc (.cells ev.cells 65 (0, 0)) := ⟨_, rfl⟩
        have hst : ∀ (zs : Array Value), zs.size = 7 → (Instr.storeAt 65 (.pointer (some ⟨wr.heap.size, 0, none⟩)) ev).run Try.prog (wr.alloc (.cells zs 65 (0, 0))) = .ok () W1 := fun zs hz => by
          have := storeAt_run (P := Try.prog) (w := wr.alloc (.cells zs 65 (0, 0))) (t := 65) (v := ev) (off := 0) (cur := zs) (T := 65) (b := wr.heap.size) (by rw [hec]; kernel_rfl) (heap_new wr _) (by omega) he1
          rw [this, hW1, alloc_setRow]
          congr 2
          simp [List.drop_eq_nil_of_le, hz, hec]
        have kW : Keep wr W1 := by
          rw [hW1]
          exact ⟨rfl, rfl, rfl, by simp, fun b' hb' => heap_old wr _ hb'⟩
        have hWn : W1.heap[wr.heap.size]? = some (.cells ev.cells 65 (0, 0)) := by rw [hW1]; exact heap_new wr _
        have hsz1 : wr.heap.size < W1.heap.size := by rw [hW1]; simp
        have hagg : ev = .agg ((List.range 7).map fun c => ev.cells.getD (0 + c) undef).toArray := by rw [hev]; rfl
        have hl2 : ∀ W2, Keep W1 W2 → (Instr.loadAt 65 (.pointer (some ⟨wr.heap.size, 0, none⟩))).run Try.prog W2 = .ok ev W2 := fun W2 k2 => by
          have := load_elem (w := W2) (b := wr.heap.size) (q := 0) ((k2.block _ hsz1).trans hWn) (by omega)
          rw [this, ← hagg]
        have hcall := HD.out j W1 hlt ⟨kW.os.trans hk.os, kW.tape.trans hk.tape, kW.output.trans hk.output, Nat.le_trans hk.size kW.size, fun b' h1 h2 => (kW.block b' (Nat.lt_of_lt_of_le h1 hk.size)).trans (hk.block b' h1 h2)⟩
        rw [← hev] at hcall
        obtain ⟨dk2, hdk2⟩ : ∃ dk2, dk2 = (spl dk.toList (i * 7) ev.cells.toList).toArray := ⟨_, rfl⟩
        have hsr : ∀ W2, Keep W1 W2 → (Instr.storeAt 65 (.pointer (some ⟨b, i * 7, none⟩)) ev).run Try.prog W2 = .ok () (W2.setRow b dk2) := fun W2 k2 => by
          have := storeAt_run (P := Try.prog) (w := W2) (t := 65) (v := ev) (off := i * 7) (cur := dk) (T := T) (b := b) (by rw [hec]; kernel_rfl) ((k2.block b (by omega)).trans ((kW.block b hbl).trans hb)) (by omega) he1
          rw [this, hdk2]
          simp [spl]
        have HD2 : Aside (dk2 = (spl dk.toList (i * 7) (elemV cs j).cells.toList).toArray) := (show dk2 = (spl dk.toList (i * 7) (elemV cs j).cells.toList).toArray by rw [hdk2, hev])
        have k1 : Keep W1 W1 := ⟨rfl, rfl, rfl, Nat.le_refl _, fun _ _ => rfl⟩
        have HW : Aside (W1 = wr.alloc (.cells ev.cells 65 (0, 0))) := hW1
        have EC : Aside (ev.cells.size = 7) := hec
        have EV : Aside (ev = elemV cs j) := hev
        have KW : Aside (Keep wr W1) := kW
        have HB : Aside (wr.heap[b]? = some (.cells dk T (0, 0))) := hb
        have HK : Aside (KeepBut b w wr) := hk
        have HBL : Aside (b < wr.heap.size) := hbl
        clear hI hdk2 hW1 hec he1 hev hagg kW hb hk hWn hbl hsz1
        cases hq : p j with
        | false =>
          rw [hq] at hcall
          go_wp2_with (first | ((with_reducible refine wpList_loadE ⟨b, j * 7, none⟩ ev ?_ hld ?_); (case' refine_1 => exact rfl)) | ((with_reducible refine wpList_storeE ⟨wr.heap.size, 0, none⟩ ev ?_ ?_ (hst _ ?_) ?_); (case' refine_1 => exact rfl); (case' refine_2 => exact rfl); (case' refine_3 => exact rfl)) | ((with_reducible refine wpList_loadE ⟨wr.heap.size, 0, none⟩ ev ?_ (hl2 _ (by assumption)) ?_); (case' refine_1 => exact rfl)) | ((with_reducible refine wpList_storeE ⟨b, i * 7, none⟩ ev ?_ ?_ (hsr _ (by assumption)) ?_); (case' refine_1 => exact rfl); (case' refine_2 => exact rfl)) | (go_at_fn g; refine hcall.mono ?_; rintro e w' ⟨rfl, kk⟩))
          go_roundg (n - (j + 1))
          case measure => omega
          case rel =>
            have hk := HK.out
            have kW := KW.out
            have hbl := HBL.out
            refine ⟨i + 1, j + 1, dk2, by go_num, by go_num, by omega, Nat.le_refl _, ⟨?_, ?_, ?_, ?_, fun b' h1 h2 => ?_⟩, ?_, (show Aside _ from ?_)⟩
            · rw [setRow_os, kk.os, kW.os, hk.os]
            · rw [setRow_tape, kk.tape, kW.tape, hk.tape]
            · rw [setRow_output, kk.output, kW.output, hk.output]
            · rw [setRow_size]; exact Nat.le_trans hk.size (Nat.le_trans kW.size kk.size)
            · have := hk.size
              have := kW.size
              rw [setRow_old _ _ h2, kk.block b' (by omega), kW.block b' (by omega), hk.block b' h1 h2]
            · have := kW.size
              exact setRow_heap _ b dk dk2 T (0, 0) ((kk.block b (by omega)).trans ((kW.block b hbl).trans HB.out))
            · exact I2.out.keep (by rw [hsum j hlt, hq]; rfl) hj HD2.out
        | true =>
          rw [hq] at hcall
          go_wp2_with (first | ((with_reducible refine wpList_loadE ⟨b, j * 7, none⟩ ev ?_ hld ?_); (case' refine_1 => exact rfl)) | ((with_reducible refine wpList_storeE ⟨wr.heap.size, 0, none⟩ ev ?_ ?_ (hst _ ?_) ?_); (case' refine_1 => exact rfl); (case' refine_2 => exact rfl); (case' refine_3 => exact rfl)) | ((with_reducible refine wpList_loadE ⟨wr.heap.size, 0, none⟩ ev ?_ (hl2 _ (by assumption)) ?_); (case' refine_1 => exact rfl)) | ((with_reducible refine wpList_storeE ⟨b, i * 7, none⟩ ev ?_ ?_ (hsr _ (by assumption)) ?_); (case' refine_1 => exact rfl); (case' refine_2 => exact rfl)) | (go_at_fn g; refine hcall.mono ?_; rintro e w' ⟨rfl, kk⟩))
          go_roundg (n - (j + 1))
          case measure => omega
          case rel =>
            have hk := HK.out
            have kW := KW.out
            have hbl := HBL.out
            refine ⟨i, j + 1, dk, rfl, by go_num, by omega, Nat.le_refl _, ⟨?_, ?_, ?_, ?_, fun b' h1 h2 => ?_⟩, ?_, (show Aside _ from ?_)⟩
            · rw [kk.os, kW.os, hk.os]
            · rw [kk.tape, kW.tape, hk.tape]
            · rw [kk.output, kW.output, hk.output]
            · exact Nat.le_trans hk.size (Nat.le_trans kW.size kk.size)
            · have := hk.size
              have := kW.size
              rw [kk.block b' (by omega), kW.block b' (by omega), hk.block b' h1 h2]
            · have := kW.size
              exact (kk.block b (by omega)).trans ((kW.block b hbl).trans HB.out)
            · exact I2.out.skip (by rw [hsum j hlt, hq]; simp)
      · obtain rfl : j = n := by omega
        have hltz : ¬ (j : Int) < (j : Int) := by omega
        have hil : i < cap := by omega
        obtain ⟨c2, hc2⟩ : ∃ c2 : Array Value, c2 = (spl dk.toList (i * 7) (Builtin.zeroCells zeroV.cells (j - i)).toList).toArray := ⟨_, rfl⟩
        have hcl : ∀ ty, (Builtin.clear_ #[42] ty #[.slice (some ⟨b, i * 7, none⟩) (j - i) (cap - i)]).run Try.prog wr = .ok (.tuple #[]) (wr.setRow b c2) := fun ty => by
          rw [hc2]
          exact clear_run (T := T) ty (by omega) hb (by omega)
        have HC2 : Aside (c2 = (spl dk.toList (i * 7) (Builtin.zeroCells zeroV.cells (j - i)).toList).toArray) := hc2
        have HB : Aside (wr.heap[b]? = some (.cells dk T (0, 0))) := hb
        have HK : Aside (KeepBut b w wr) := hk
        clear hI hc2 hb hk
        go_wp2
        go_ret
        have hI := I2.out
        have hk := HK.out
        have hds := hI.size
        have hsp : i * 7 + (Builtin.zeroCells zeroV.cells (j - i)).toList.length ≤ dk.toList.length := by rw [Array.length_toList, Array.length_toList, zc_size, zero_size]; omega
        refine ⟨by rw [← hI.len]; rfl, ⟨hk.os, hk.tape, hk.output, by rw [setRow_size]; exact hk.size, fun b' h1 h2 => (setRow_old _ _ h2).trans (hk.block b' h1 h2)⟩, c2, setRow_heap _ b dk c2 T (0, 0) HB.out, by rw [HC2.out, List.size_toArray, spl_length hsp, Array.length_toList]; exact hI.size, fun q c hq hc => ?_⟩
        rw [← hI.len] at hq
        rw [← Array.getD_eq_getD_getElem?, ← Array.getD_eq_getD_getElem?, ← List.getD_eq_getElem?_getD, HC2.out, Array.getD_eq_getD_getElem?, List.getElem?_toArray, ← List.getD_eq_getElem?_getD, spl_getD hsp, if_neg (by omega), List.getD_eq_getElem?_getD, Array.getElem?_toList, ← Array.getD_eq_getD_getElem?]
        exact hI.low q c hq hc
def phiI (p : D → Bool) : Nat → List D → List D
  | 0, [x] => [.bool (p x)]
  | _, _ => []
theorem idx_pc (a : D) (g : Nat) (caps : List (List CK × D)) (p : D → Bool) (hd : ∀ x, PC Try.prog g (.st [(.int .i64), (.int .i64), (.int .i64), (.int .i64), (.int .i64), (.int .i64), .bool] x :: caps.map fun q => .bx q.1 q.2) [.sc .bool] fun o => o = [.bool (p x)]) :
    PC Try.prog 139 [.sc (.sl [(.int .i64), (.int .i64), (.int .i64), (.int .i64), (.int .i64), (.int .i64), .bool]) a, .clo g caps] [.sc (.int .i64)] fun o => o = [.int (findR (fun i => p (a.elem i)) a.toL.length)] := by
  refine PC.of_sig mix sig_139 ⟨rfl, trivial, trivial⟩ rfl fun hok => ?_
  have e_a := sl_eta (hok _ (.head _))
  have l_a := sl_len (hok _ (.head _))
  have k_a := sl_all (hok _ (.head _))
  have E_a : ∀ i, i < a.toL.length → D.lst [(a.elem i).fld 0, (a.elem i).fld 1, (a.elem i).fld 2, (a.elem i).fld 3, (a.elem i).fld 4, (a.elem i).fld 5, (a.elem i).fld 6] = a.elem i := fun i hi => by simpa [List.range, List.range.loop] using okL_eta (k_a _ (elem_mem hi))
  have hd' : ∀ (x : D) (Q : List D → Prop), Q [.bool (p x)] → PC Try.prog g (.st [(.int .i64), (.int .i64), (.int .i64), (.int .i64), (.int .i64), (.int .i64), .bool] x :: caps.map fun q => .bx q.1 q.2) [.sc .bool] Q := fun x Q h => (hd x).mono fun _ e => e ▸ h
  apply says_den (φ := phiI p)
  simp [e_a, tree_139, T.says, X.den, O1.den, O2.den, O3.den, callD, XArg.ev, XArg.dat, Callee'.num, backs, DArg.back, Conds.den, cloArgs, phiI]
  refine fun _ => ?_
  refine den_for a.toL.length 0 (fun i => [.int i]) (fun i => ∀ j, j < i → (p (a.elem j)) = false) (by simp) (by simp [X.den]) (by simp) fun i hi hR => ?_
  apply says_den (φ := phiI p)
  by_cases hlt : i < a.toL.length
  · simp [e_a, E_a i hlt, tree_139, T.says, X.den, O1.den, O2.den, O3.den, callD, XArg.ev, XArg.dat, Callee'.num, backs, DArg.back, Conds.den, cloArgs, phiI, hlt]
    (repeat' (first | (with_reducible apply And.intro) | intro _))
    · exact hd' _ _ rfl
    · exact (findR_some (p := fun i => p (a.elem i)) hlt (by simp_all) hR).symm
    · (first | omega | (simp only [IntKind.wrap_i64, maxL] at *; omega))
    · rename_i j hj
      by_cases hji : j = i
      · subst hji; assumption
      · exact hR j (by omega)
  · simp [e_a, tree_139, T.says, X.den, O1.den, O2.den, O3.den, callD, XArg.ev, XArg.dat, Callee'.num, backs, DArg.back, Conds.den, cloArgs, phiI, hlt]
    (repeat' (first | (with_reducible apply And.intro) | intro _))
    · exact (findR_none fun j hj => hR j (by omega)).symm
theorem back_nil {w : World} {G : Nat → Prop} : ∀ {args : List DArg} {vs : List Value} {ds : List D} {fps : List Nat}, (∀ a ∈ args, match a with | .row _ _ | .stw _ _ | .cur _ => False | _ => True) → BackR w G args vs ds fps → ds = [] ∧ fps = [] := by
  intro args vs ds fps h hb
  induction hb with
  | nil => exact ⟨rfl, rfl⟩
  | skip _ _ ih => exact ih fun a ha => h a (List.mem_cons_of_mem _ ha)
  | row _ _ _ => exact (h _ List.mem_cons_self).elim
  | stw _ _ _ _ _ => exact (h _ List.mem_cons_self).elim
  | cur _ _ _ => exact (h _ List.mem_cons_self).elim
theorem post_flat {w w' : World} {G : Nat → Prop} {args : List DArg} {vs : List Value} {ck : CK} {d : D} {v : Value} (hf : ck.flat = true) (hs : ∀ a ∈ args, match a with | .row _ _ | .stw _ _ | .cur _ => False | _ => True) (h : Post w [] G args vs [.sc ck] (fun o => o = [d]) w' v) : Flat ck d v ∧ Keep w w' := by
  obtain ⟨us, ds, bs, fr, fb, rfl, h1, h2, h3, _, _, h4⟩ := h
  obtain ⟨rfl, rfl⟩ := back_nil hs h2
  rw [List.append_nil] at h3
  subst h3
  cases h1 with
  | cons h1 h5 =>
    cases h5
    cases h1 with
    | sc h1 => exact ⟨(h1.flat_inv hf).1, ⟨h4.os, h4.tape, h4.output, h4.size, fun b hb => h4.block b ⟨hb, by simp⟩⟩⟩
theorem elem_mono {w : World} {S S' : Nat → Prop} {ks : List CK} {d : D} {b o : Nat} (h : ElemAt w S ks d b o) (hs : ∀ b, S b → S' b) : ElemAt w S' ks d b o := by
  obtain ⟨u, h1, h2⟩ := h
  exact ⟨u, hs _ h1, fun c hc => ⟨(h2 c hc).1, (h2 c hc).2.mono hs⟩⟩
theorem elem_frame {w w' : World} {S : Nat → Prop} {ks : List CK} {d : D} {b o : Nat} (h : ElemAt w S ks d b o) (hs : ∀ b, S b → w'.heap[b]? = w.heap[b]?) : ElemAt w' S ks d b o := by
  obtain ⟨u, h1, h2⟩ := h
  exact ⟨u, h1, fun c hc => ⟨(cell?_eq (hs b h1)).trans (h2 c hc).1, (h2 c hc).2.frame hs⟩⟩
/-- The captured variables as arguments. -/
theorem caps_args {w : World} {S G : Nat → Prop} : ∀ (caps : List (List CK × D)) (us : List Value), us.length = caps.length → (∀ i, i < caps.length → ∃ b o, us.getD i undef = .pointer (some ⟨b, o, none⟩) ∧ ElemAt w S (caps.getD i default).1 (caps.getD i default).2 b o) →
    ArgsR w S G (caps.map fun p => .bx p.1 p.2) us []
  | [], [], _, _ => .nil
  | [], _ :: _, h, _ => by simp at h
  | _ :: _, [], h, _ => by simp at h
  | c :: caps, u :: us, hl, h => by
    obtain ⟨b, o, h1, h2⟩ := h 0 (by simp)
    have := caps_args (w := w) (S := S) (G := G) caps us (by simpa using hl) fun i hi => by
      have := h (i + 1) (by simpa using hi)
      simpa using this
    simp only [List.getD_cons_zero] at h1 h2
    subst h1
    exact .cons (.bx h2) this
theorem filter_kept (xs : List D) (p : D → Bool) : xs.filter (fun x => !p x) = (keptI (fun q => p (xs.getD q default)) xs.length).map fun q => xs.getD q default := by
  have : xs = (List.range xs.length).map fun q => xs.getD q default := by
    apply List.ext_getElem
    · simp
    · intro i h1 h2
      simp [List.getD_eq_getElem?_getD, h1]
  conv => lhs; rw [this, List.filter_map]
  rfl
theorem kept_at {p : Nat → Bool} {n i : Nat} (h : i < (keptI p n).length) : (keptI p n).getD i 0 < n := by
  have : (keptI p n).getD i 0 ∈ keptI p n := by rw [List.getD_eq_getElem?_getD, List.getElem?_eq_getElem h]; simp
  simp only [keptI, List.mem_filter, List.mem_range] at this
  exact this.1
theorem kept_inj {p : Nat → Bool} {n i j : Nat} (hi : i < (keptI p n).length) (hj : j < (keptI p n).length) (h : (keptI p n).getD i 0 = (keptI p n).getD j 0) : i = j := by
  have hn : (keptI p n).Nodup := List.nodup_range.filter _
  rw [List.getD_eq_getElem?_getD, List.getD_eq_getElem?_getD, List.getElem?_eq_getElem hi, List.getElem?_eq_getElem hj] at h
  exact (List.getElem_inj hn).1 h
theorem df_nil {w : World} (g : Nat) (us : Array Value) (eg : ∀ args w, (callFunc g args).run Try.prog w = .ok (.enter g args) w) (hif : Calls Try.prog 139 #[.slice none 0 0, .func (.func g) #[] us] w fun e w1 => e = .returned (.int .i64 (-1)) ∧ Keep w w1) :
    Calls Try.prog 99 #[.slice none 0 0, .func (.func g) #[] us] w fun e w' => e = .returned (.slice none 0 0) ∧ Keep w w' := by
  have mixed := mix
  go_enter Try.func99, Try.ntmps99
  go_wp2_with (go_at_call 139; refine hif.mono ?_; rintro e w' ⟨rfl, q0⟩)
  go_ret
  exact ⟨rfl, q0⟩
theorem enter_run {g : Nat} (h : Eng.Enters Try.prog g) (args : Array Value) (w : World) : (callFunc g args).run Try.prog w = .ok (.enter g args) w := by
  obtain ⟨fn, h1, h2, h3⟩ := h
  have h4 : ¬ fn.name = "runtime.NumGoroutine" := by simpa using h3
  have h5 : fn.body ≠ none := by
    intro e
    rw [e] at h2
    cases h2
  simp [callFunc, h1, h4, h5]
theorem args2 {w : World} {S G : Nat → Prop} {a1 a2 : DArg} {vs : List Value} {F : List Nat} (h : ArgsR w S G [a1, a2] vs F) : ∃ v1 v2 f1 f2, vs = [v1, v2] ∧ F = f1 ++ (f2 ++ []) ∧ ArgR w S G a1 v1 f1 ∧ ArgR w S G a2 v2 f2 := by
  cases h with
  | cons h1 h2 =>
    cases h2 with
    | cons h2 h3 =>
      cases h3
      exact ⟨_, _, _, _, rfl, rfl, h1, h2⟩
theorem take_inv {w : World} {S G : Nat → Prop} {ks : List CK} {d : D} {v : Value} {fp : List Nat} (h : ArgR w S G (.take ks d) v fp) : Own w (.sl ks) d v fp := by
  cases h
  assumption
theorem clo_inv {w : World} {S G : Nat → Prop} {f : Nat} {caps : List (List CK × D)} {v : Value} {fp : List Nat} (h : ArgR w S G (.clo f caps) v fp) : ∃ us : List Value, v = .func (.func f) #[] us.toArray ∧ fp = [] ∧ us.length = caps.length ∧
    ∀ i, i < caps.length → ∃ b o, us.getD i undef = .pointer (some ⟨b, o, none⟩) ∧ ElemAt w S (caps.getD i default).1 (caps.getD i default).2 b o := by
  cases h with
  | clo h1 h2 => exact ⟨_, rfl, rfl, h1, h2⟩
theorem df_pc (d : D) (g : Nat) (caps : List (List CK × D)) (p : D → Bool) (hd : ∀ x, PC Try.prog g (.st [(.int .i64), (.int .i64), (.int .i64), (.int .i64), (.int .i64), (.int .i64), .bool] x :: caps.map fun q => .bx q.1 q.2) [.sc .bool] fun o => o = [.bool (p x)])
    (hi : PC Try.prog 139 [.sc (.sl [(.int .i64), (.int .i64), (.int .i64), (.int .i64), (.int .i64), (.int .i64), .bool]) d, .clo g caps] [.sc (.int .i64)] fun o => o = [.int (findR (fun i => p (d.elem i)) d.toL.length)]) :
    PC Try.prog 99 [.take [(.int .i64), (.int .i64), (.int .i64), (.int .i64), (.int .i64), (.int .i64), .bool] d, .clo g caps] [.sc (.sl [(.int .i64), (.int .i64), (.int .i64), (.int .i64), (.int .i64), (.int .i64), .bool])] fun o => o = [.lst (d.toL.filter fun x => !p x)] := by
  have eg := enter_run (hd default).1
  refine ⟨⟨Try.f99, Try.func99, by kernel_rfl, by kernel_rfl⟩, fun w vs F G hF hG ha => ?_⟩
  obtain ⟨v1, v2, fp1, fp2, rfl, rfl, h1, h2⟩ := args2 ha
  replace h1 := take_inv h1
  obtain ⟨us, rfl, rfl, hul, hub⟩ := clo_inv h2
  simp only [List.append_nil] at hF hG hub ⊢
  clear ha h2
  have hS : ∀ b, outside w fp1 b → outside w [] b := fun b hb => ⟨hb.1, by simp⟩
  have hif : Calls Try.prog 139 #[v1, .func (.func g) #[] us.toArray] w fun e w1 => e = .returned (.int .i64 (findR (fun i => p (d.elem i)) d.toL.length)) ∧ Keep w w1 := by
    have := hi.2 w [v1, .func (.func g) #[] us.toArray] [] (fun _ => False) (by simp) (fun b hb => hb.elim)
      (.cons (.sc (h1.snap fun b hb => (⟨h1.lt b hb, by simp⟩ : outside w [] b))) (.cons (.clo hul fun i hi => by
        obtain ⟨b, o, e1, e2⟩ := hub i hi
        exact ⟨b, o, e1, elem_mono e2 hS⟩) .nil))
    refine this.mono ?_
    rintro e w1 ⟨v, rfl, hp⟩
    obtain ⟨q1, q2⟩ := post_flat rfl (by simp) hp
    cases q1
    exact ⟨rfl, q2⟩
  cases h1 with
  | flat h => cases h
  | nil =>
    have h0 : findR (fun i => p ((D.lst []).elem i)) (D.lst []).toL.length = -1 := findR_none fun j hj => by simp at hj
    rw [h0] at hif
    refine (df_nil g us.toArray eg hif).mono ?_
    rintro e w' ⟨rfl, k⟩
    refine ⟨_, rfl, [.slice none 0 0], [.lst []], [], [], [], rfl, .cons (.sc .nil) .nil, .skip trivial (.skip trivial .nil), rfl, by simp, by simp, ⟨k.os, k.tape, k.output, k.size, fun b hb => k.block b hb.1⟩⟩
  | sl b cap cs T xs fps hb hsz hcap hmax hsh hown =>
    have hK : ([(.int .i64), (.int .i64), (.int .i64), (.int .i64), (.int .i64), (.int .i64), .bool] : List CK).length = 7 := rfl
    have hnd := List.nodup_cons.1 hF
    rw [hK] at hsz
    have hbl : b < w.heap.size := (Array.getElem?_eq_some_iff.1 hb).1
    have hone : ∀ q, q < xs.length * 7 → (cs.getD q undef).oneCell' = true := fun q hq => by
      obtain ⟨q1, q2, q3⟩ := flatIdx (k := 7) (by decide) hq
      have := (hown (q / 7) (q % 7) q1 q2).one
      rwa [hK, q3] at this
    have hdel : ∀ q w1, q < xs.length → KeepBut b w w1 → Calls Try.prog g (#[elemV cs q] ++ us.toArray) w1 fun e w2 => e = .returned (.bool (p (xs.getD q default))) ∧ Keep w1 w2 := fun q w1 hq k => by
      have := (hd (xs.getD q default)).2 w1 (elemV cs q :: us) [] (fun _ => False) (by simp) (fun b hb => hb.elim)
        (.cons (.st (hsh q hq) (by simp) fun c hc => by
          have hc' : c < 7 := hc
          have hv : ((List.range 7).map fun c => cs.getD (q * 7 + c) undef).getD c undef = cs.getD (q * 7 + c) undef := by
            rw [List.getD_eq_getElem?_getD, List.getElem?_map, List.getElem?_range hc']; rfl
          rw [hv]
          have ho := hown q c hq hc
          rw [hK] at ho
          have hlt := ho.lt
          refine (ho.frame (w' := w1) fun b' hb' => k.block b' (hlt b' hb') fun e => hnd.1 (e ▸ mem_fpAll hq hc hb')).snap fun b' hb' => (⟨Nat.lt_of_lt_of_le (hlt b' hb') k.size, by simp⟩ : outside w1 [] b'))
        (caps_args caps us hul fun i hi => by
          obtain ⟨b2, o, e1, e2⟩ := hub i hi
          refine ⟨b2, o, e1, elem_mono (elem_frame e2 fun b' hb' => k.block b' hb'.1 fun e => hb'.2 (by rw [e]; simp)) fun b' hb' => (⟨Nat.lt_of_lt_of_le hb'.1 k.size, by simp⟩ : outside w1 [] b')⟩))
      have h2 : (#[elemV cs q] ++ us.toArray) = (elemV cs q :: us).toArray := by simp
      rw [h2]
      refine this.mono ?_
      rintro e w2 ⟨v, rfl, hp⟩
      obtain ⟨q1, q2⟩ := post_flat rfl (fun a ha => by
        rcases List.mem_cons.1 ha with rfl | ha
        · trivial
        · obtain ⟨q, _, rfl⟩ := List.mem_map.1 ha
          trivial) hp
      cases q1
      exact ⟨rfl, q2⟩
    refine (df_calls hb hsz hcap hmax hone g us.toArray (fun q => p (xs.getD q default)) eg hdel hif).mono ?_
    rintro e w' ⟨rfl, cs', k, g4, g5, g6⟩
    have hlen : ((D.lst xs).toL.filter fun x => !p x).length = (keptI (fun q => p (xs.getD q default)) xs.length).length := by
      show (xs.filter fun x => !p x).length = _
      rw [filter_kept, List.length_map]
    have hkl : (keptI (fun q => p (xs.getD q default)) xs.length).length ≤ xs.length := by rw [← hlen]; exact List.length_filter_le _ _
    obtain ⟨fp', o1, o2, o3⟩ := own_pick2 (w := w) (w' := w') (by decide) g4 (by rw [hK, g5]; exact hsz) (Nat.le_trans hkl hcap) hmax hsh hown hF hbl (fun b' h1 h2 => k.block b' h1 h2) ((D.lst xs).toL.filter fun x => !p x) hlen (fun q => (keptI (fun q => p (xs.getD q default)) xs.length).getD q 0)
      (fun q hq => kept_at hq) (fun q q' hq hq' e => kept_inj hq hq' e) hkl
      (fun q hq => by
        show (xs.filter fun x => !p x).getD q default = _
        rw [filter_kept, List.getD_eq_getElem?_getD, List.getElem?_map, List.getD_eq_getElem?_getD (l := keptI _ _), List.getElem?_eq_getElem hq]
        rfl)
      (fun q c hq hc => by
        rw [hK] at hc ⊢
        exact g6 q c hq hc)
    refine ⟨_, rfl, [_], [_], [], fp', [], rfl, ?_, .skip trivial (.skip trivial .nil), rfl, by simpa using o2, fun b' hb' => .inl (o3 b' (by simpa using hb')), ⟨k.os, k.tape, k.output, k.size, fun b' hb' => k.block b' hb'.1 fun e => hb'.2 (by rw [e]; simp)⟩⟩
    have := RetsR.cons (r := .sc (.sl [(.int .i64), (.int .i64), (.int .i64), (.int .i64), (.int .i64), (.int .i64), .bool])) (w := w') (G := G) (.sc o1) .nil
    simpa using this
end L99
theorem pc_99 (d : D) : PC Try.prog 99 [.take [(.int .i64), (.int .i64), (.int .i64), (.int .i64), (.int .i64), (.int .i64), .bool] d, .clo 100 []] [.sc (.sl [(.int .i64), (.int .i64), (.int .i64), (.int .i64), (.int .i64), (.int .i64), .bool])] fun o => o = [.lst (d.toL.filter fun x => !(!goodEv x))] := L99.df_pc d 100 [] (fun x => !goodEv x) (fun x => pc_100 x) (L99.idx_pc d 100 [] (fun x => !goodEv x) fun x => pc_100 x)
theorem pd_99 (d : D) (Q : List D → Prop) (ho : Q [.lst (d.toL.filter fun x => !(!goodEv x))]) : PC Try.prog 99 [.take [(.int .i64), (.int .i64), (.int .i64), (.int .i64), (.int .i64), (.int .i64), .bool] d, .clo 100 []] [.sc (.sl [(.int .i64), (.int .i64), (.int .i64), (.int .i64), (.int .i64), (.int .i64), .bool])] Q := (pc_99 d).mono fun _ h => h ▸ ho
/- impl.DoAct -/
def phi_42 (e v : D) : Nat → List D → List D
  | 99, [a, _] => [.lst (a.toL.filter goodEv)]
  | 24, [e, n] => [spent e n.toI]
  | 29, [e] => [.bool (effectOk e)]
  | 65, [e] => [e]
  | 84, [a, n] => [.bool (actFits a n.toI)]
  | 97, [e] => [.bool (eventOk e)]
  | 98, [e, v] => [.lst (actedL e v), .int (actedN e v)]
  | 100, [x] => [.bool (!goodEv x)]
  | _, _ => []
theorem pc_42 (e v : D) (h : ((e.fld 19).toL.length : Int) ≤ 1048576) : PC Try.prog 42 [.st [(.int .i64), (.int .i64), (.int .i64), (.int .i64), (.int .i64), (.int .i64), (.int .i64), (.int .i64), (.int .i64), (.int .i64), (.int .i64), (.int .i64), (.int .i64), (.int .i64), (.int .i64), (.int .i64), (.int .i64), (.int .i64), .bool, (.sl [(.int .i64), (.int .i64), (.int .i64), (.int .i64), (.int .i64), (.int .i64), .bool]), (.int .i64), (.int .i64)] e, .st [(.int .i64), (.int .i64), (.int .i64), (.int .i64), (.int .i64), (.int .i64), .bool] v] [.sc (.sl [(.int .i64), (.int .i64), (.int .i64), (.int .i64), (.int .i64), (.int .i64), .bool]), .sc (.int .i64), .st [(.int .i64), (.int .i64), (.int .i64), (.int .i64), (.int .i64), (.int .i64), (.int .i64), (.int .i64), (.int .i64), (.int .i64), (.int .i64), (.int .i64), (.int .i64), (.int .i64), (.int .i64), (.int .i64), (.int .i64), (.int .i64), .bool, (.sl [(.int .i64), (.int .i64), (.int .i64), (.int .i64), (.int .i64), (.int .i64), .bool]), (.int .i64), (.int .i64)]] fun o => o = [.lst (doL e v), .int (doN e v), doE e v] := by
  refine PC.of_sig mix sig_42 ⟨rfl, rfl, trivial⟩ rfl fun hok => ?_
  have e_e : D.lst [e.fld 0, e.fld 1, e.fld 2, e.fld 3, e.fld 4, e.fld 5, e.fld 6, e.fld 7, e.fld 8, e.fld 9, e.fld 10, e.fld 11, e.fld 12, e.fld 13, e.fld 14, e.fld 15, e.fld 16, e.fld 17, e.fld 18, e.fld 19, e.fld 20, e.fld 21] = e := by simpa [List.range, List.range.loop] using okL_eta (hok _ (.head _))
  have k_e : okL [(.int .i64), (.int .i64), (.int .i64), (.int .i64), (.int .i64), (.int .i64), (.int .i64), (.int .i64), (.int .i64), (.int .i64), (.int .i64), (.int .i64), (.int .i64), (.int .i64), (.int .i64), (.int .i64), (.int .i64), (.int .i64), .bool, (.sl [(.int .i64), (.int .i64), (.int .i64), (.int .i64), (.int .i64), (.int .i64), .bool]), (.int .i64), (.int .i64)] e := (hok _ (.head _))
  have e_e_19 : D.lst (e.fld 19).toL = e.fld 19 := sl_eta (okL_at k_e (i := 19) rfl)
  have l_e_19 := sl_len (okL_at k_e (i := 19) rfl)
  have k_e_19 := sl_all (okL_at k_e (i := 19) rfl)
  have E_e_19 : ∀ i, i < (e.fld 19).toL.length → D.lst [((e.fld 19).elem i).fld 0, ((e.fld 19).elem i).fld 1, ((e.fld 19).elem i).fld 2, ((e.fld 19).elem i).fld 3, ((e.fld 19).elem i).fld 4, ((e.fld 19).elem i).fld 5, ((e.fld 19).elem i).fld 6] = (e.fld 19).elem i := fun i hi => by simpa [List.range, List.range.loop] using okL_eta (k_e_19 _ (elem_mem hi))
  have e_v : D.lst [v.fld 0, v.fld 1, v.fld 2, v.fld 3, v.fld 4, v.fld 5, v.fld 6] = v := by simpa [List.range, List.range.loop] using okL_eta (hok _ (.tail _ (.head _)))
  have k_v : okL [(.int .i64), (.int .i64), (.int .i64), (.int .i64), (.int .i64), (.int .i64), .bool] v := (hok _ (.tail _ (.head _)))
  apply says_den (φ := (phi_42 e v))
  by_cases hk : doOk e v = true
  · have hk' := hk
    simp only [doOk, actOf, Bool.and_eq_true] at hk'
    simp [e_e_19, E_e_19, e_e, e_v, tree_42, T.says, X.den, O1.den, O2.den, O3.den, callD, XArg.ev, XArg.dat, Callee'.num, backs, DArg.back, Conds.den, cloArgs, phi_42, pd_24, pd_29, pd_65, pd_84, pd_97, pd_98, pd_99, pd_100, h, doL, doN, doE, hk, hk'.1.1, hk'.1.2, hk'.2]
    all_goals ((repeat' (first | (with_reducible apply And.intro) | intro _)) <;> first | omega | (exact spent_eta _ _ e_e) | (first | assumption | (exact pd_24 _ _ (by first | (with_reducible assumption) | omega | assumption | (simp; done) | (simp; omega) | (simp [*]; done) | exact smallE_of (n := 1048576) (by omega) (by omega) | (simp [*] at *; omega) | grind [szS]) _ (by first | rfl | simp | (simp; omega))) | (exact pd_29 _ _ (by first | rfl | simp | (simp; omega))) | (exact pd_65 _ (by first | (with_reducible assumption) | omega | assumption | (simp; done) | (simp; omega) | (simp [*]; done) | exact smallE_of (n := 1048576) (by omega) (by omega) | (simp [*] at *; omega) | grind [szS]) _ (by first | rfl | simp | (simp; omega))) | (exact pd_84 _ _ _ (by first | rfl | simp | (simp; omega))) | (exact pd_97 _ _ (by first | rfl | simp | (simp; omega))) | (exact pd_98 _ _ (by first | (with_reducible assumption) | omega | assumption | (simp; done) | (simp; omega) | (simp [*]; done) | exact smallE_of (n := 1048576) (by omega) (by omega) | (simp [*] at *; omega) | grind [szS]) _ (by first | rfl | simp | (simp; omega))) | (exact pd_99 _ _ (by first | rfl | simp | (simp; omega))) | (exact pd_100 _ _ (by first | rfl | simp | (simp; omega))) | (first | omega | (simp only [IntKind.wrap_i64, maxL] at *; omega) | (simp [IntKind.wrap_i64, maxL] at *; omega)) | rfl | contradiction | grind))
  · simp [e_e_19, E_e_19, e_e, e_v, tree_42, T.says, X.den, O1.den, O2.den, O3.den, callD, XArg.ev, XArg.dat, Callee'.num, backs, DArg.back, Conds.den, cloArgs, phi_42, pd_24, pd_29, pd_65, pd_84, pd_97, pd_98, pd_99, pd_100, h, doL, doN, doE, hk]
    all_goals ((repeat' (first | (with_reducible apply And.intro) | intro _)) <;> first | omega | (exact absurd (by simp [doOk, actOf, *]) hk) | (first | assumption | (exact pd_24 _ _ (by first | (with_reducible assumption) | omega | assumption | (simp; done) | (simp; omega) | (simp [*]; done) | exact smallE_of (n := 1048576) (by omega) (by omega) | (simp [*] at *; omega) | grind [szS]) _ (by first | rfl | simp | (simp; omega))) | (exact pd_29 _ _ (by first | rfl | simp | (simp; omega))) | (exact pd_65 _ (by first | (with_reducible assumption) | omega | assumption | (simp; done) | (simp; omega) | (simp [*]; done) | exact smallE_of (n := 1048576) (by omega) (by omega) | (simp [*] at *; omega) | grind [szS]) _ (by first | rfl | simp | (simp; omega))) | (exact pd_84 _ _ _ (by first | rfl | simp | (simp; omega))) | (exact pd_97 _ _ (by first | rfl | simp | (simp; omega))) | (exact pd_98 _ _ (by first | (with_reducible assumption) | omega | assumption | (simp; done) | (simp; omega) | (simp [*]; done) | exact smallE_of (n := 1048576) (by omega) (by omega) | (simp [*] at *; omega) | grind [szS]) _ (by first | rfl | simp | (simp; omega))) | (exact pd_99 _ _ (by first | rfl | simp | (simp; omega))) | (exact pd_100 _ _ (by first | rfl | simp | (simp; omega))) | (first | omega | (simp only [IntKind.wrap_i64, maxL] at *; omega) | (simp [IntKind.wrap_i64, maxL] at *; omega)) | rfl | contradiction | grind))
theorem pd_42 (e v : D) (h : ((e.fld 19).toL.length : Int) ≤ 1048576) (Q : List D → Prop) (ho : Q [.lst (doL e v), .int (doN e v), doE e v]) : PC Try.prog 42 [.st [(.int .i64), (.int .i64), (.int .i64), (.int .i64), (.int .i64), (.int .i64), (.int .i64), (.int .i64), (.int .i64), (.int .i64), (.int .i64), (.int .i64), (.int .i64), (.int .i64), (.int .i64), (.int .i64), (.int .i64), (.int .i64), .bool, (.sl [(.int .i64), (.int .i64), (.int .i64), (.int .i64), (.int .i64), (.int .i64), .bool]), (.int .i64), (.int .i64)] e, .st [(.int .i64), (.int .i64), (.int .i64), (.int .i64), (.int .i64), (.int .i64), .bool] v] [.sc (.sl [(.int .i64), (.int .i64), (.int .i64), (.int .i64), (.int .i64), (.int .i64), .bool]), .sc (.int .i64), .st [(.int .i64), (.int .i64), (.int .i64), (.int .i64), (.int .i64), (.int .i64), (.int .i64), (.int .i64), (.int .i64), (.int .i64), (.int .i64), (.int .i64), (.int .i64), (.int .i64), (.int .i64), (.int .i64), (.int .i64), (.int .i64), .bool, (.sl [(.int .i64), (.int .i64), (.int .i64), (.int .i64), (.int .i64), (.int .i64), .bool]), (.int .i64), (.int .i64)]] Q := (pc_42 e v h).mono fun _ h => h ▸ ho
end Go.Proofs.Ytfbahdalemajcaa
