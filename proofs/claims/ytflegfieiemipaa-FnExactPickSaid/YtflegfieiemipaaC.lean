/- The contracts of the functions that this claim reaches: what each hands back, for all data. -/
import Derived.Test.YtflegfieiemipaaT
import Derived.Test.YtflegfieiemipaaS
namespace Go.Proofs.Ytflegfieiemipaa
open Go.Proofs.Ytflegfieiemipaa.Eng
set_option maxRecDepth 100000
set_option linter.unusedSimpArgs false
set_option linter.unusedVariables false
/- laws.toIntS -/
theorem pc_27 (d : D) (h : (d.toL.length : Int) ≤ 1048576) : PC Try.prog 27 [.sc (.sl [(.int .i64)]) d] [.sc (.sl [(.int .i64)])] fun o => o = [d] := by
  refine PC.of_sig mix sig_27 ⟨rfl, trivial⟩ rfl fun hok => ?_
  have e_d := sl_eta (hok _ (.head _))
  have l_d := sl_len (hok _ (.head _))
  have k_d := sl_all (hok _ (.head _))
  apply says_den (φ := fun _ _ => [])
  simp [e_d, tree_27, T.says, X.den, O1.den, O2.den, O3.den, callD, XArg.ev, XArg.dat, Callee'.num, backs, DArg.back, Conds.den, cloArgs] at h ⊢
  refine fun _ => ⟨by omega, ?_⟩
  refine den_for d.toL.length 0 (fun i => [.int i, .lst (d.toL.take i ++ List.replicate (d.toL.length - i) (.lst [.int 0]))]) (fun _ => True) (by simp) (by simp [X.den, O1.den, O2.den]) trivial fun i hi _ => ?_
  apply says_den (φ := fun _ _ => [])
  by_cases hlt : i < d.toL.length
  · simp [e_d, tree_27, T.says, X.den, O1.den, O2.den, O3.den, callD, XArg.ev, XArg.dat, Callee'.num, backs, DArg.back, Conds.den, cloArgs, hlt]
    (repeat' (first | (with_reducible apply And.intro) | intro _)) <;> first | (exact copy_step hlt rfl) | (exact copy_step hlt (eta1 (k_d _ (elem_mem hlt)))) | (first | assumption | (first | omega | (simp only [IntKind.wrap_i64, maxL] at *; omega) | (simp [IntKind.wrap_i64, maxL] at *; omega)) | rfl | contradiction | grind)
  · simp [e_d, tree_27, T.says, X.den, O1.den, O2.den, O3.den, callD, XArg.ev, XArg.dat, Callee'.num, backs, DArg.back, Conds.den, cloArgs, hlt]
    (repeat' (first | (with_reducible apply And.intro) | intro _)) <;> first | (rw [copy_end (by omega), e_d]) | (first | assumption | (first | omega | (simp only [IntKind.wrap_i64, maxL] at *; omega) | (simp [IntKind.wrap_i64, maxL] at *; omega)) | rfl | contradiction | grind)
theorem pd_27 (d : D) (h : (d.toL.length : Int) ≤ 1048576) (Q : List D → Prop) (ho : Q [d]) : PC Try.prog 27 [.sc (.sl [(.int .i64)]) d] [.sc (.sl [(.int .i64)])] Q := (pc_27 d h).mono fun _ h => h ▸ ho
/- laws.eqIntS -/
theorem pc_29 (d e : D) (h : d = e) : PC Try.prog 29 [.sc (.sl [(.int .i64)]) d, .sc (.sl [(.int .i64)]) e] [.sc .bool] fun o => o = [.bool true] := by
  refine PC.of_sig mix sig_29 ⟨rfl, rfl, trivial⟩ rfl fun hok => ?_
  have e_d := sl_eta (hok _ (.head _))
  have l_d := sl_len (hok _ (.head _))
  have k_d := sl_all (hok _ (.head _))
  have e_e := sl_eta (hok _ (.tail _ (.head _)))
  have l_e := sl_len (hok _ (.tail _ (.head _)))
  have k_e := sl_all (hok _ (.tail _ (.head _)))
  subst h
  apply says_den (φ := fun _ _ => [])
  simp [e_d, e_e, tree_29, T.says, X.den, O1.den, O2.den, O3.den, callD, XArg.ev, XArg.dat, Callee'.num, backs, DArg.back, Conds.den, cloArgs]
  refine fun _ => ?_
  refine den_for d.toL.length 0 (fun i => [.int i]) (fun _ => True) (by simp) (by simp [X.den]) trivial fun i hi _ => ?_
  apply says_den (φ := fun _ _ => [])
  simp [e_d, e_e, tree_29, T.says, X.den, O1.den, O2.den, O3.den, callD, XArg.ev, XArg.dat, Callee'.num, backs, DArg.back, Conds.den, cloArgs]
  (repeat' (first | (with_reducible apply And.intro) | intro _)) <;> (first | omega | (simp only [IntKind.wrap_i64, maxL] at *; omega) | (simp [IntKind.wrap_i64, maxL] at *; omega))
theorem pd_29 (d e : D) (h : d = e) (Q : List D → Prop) (ho : Q [.bool true]) : PC Try.prog 29 [.sc (.sl [(.int .i64)]) d, .sc (.sl [(.int .i64)]) e] [.sc .bool] Q := (pc_29 d e h).mono fun _ h => h ▸ ho
/- laws.markIntS -/
theorem pc_30 (d n : D) (h : (d.toL.length : Int) ≤ 1048576) (hn : 0 ≤ n.toI ∧ n.toI ≤ 1048576) : PC Try.prog 30 [.row [(.int .i64)] d, .sc (.int .i64) n] [.sc (.int .i64)] fun o => o = [.int (n.toI + d.toL.length), .lst (markedN n.toI d.toL.length)] := by
  refine PC.of_sig mix sig_30 ⟨rfl, rfl, trivial⟩ rfl fun hok => ?_
  have e_d := sl_eta (hok _ (.head _))
  have l_d := sl_len (hok _ (.head _))
  have k_d := sl_all (hok _ (.head _))
  have e_n := int_eta (hok _ (.tail _ (.head _)))
  have b_n := int_range (hok _ (.tail _ (.head _)))
  apply says_den (φ := fun _ _ => [])
  simp [e_d, e_n, tree_30, T.says, X.den, O1.den, O2.den, O3.den, callD, XArg.ev, XArg.dat, Callee'.num, backs, DArg.back, Conds.den, cloArgs] at h ⊢
  refine den_for d.toL.length 1 (fun i => [.int (n.toI + i), .int i, .lst (markedN n.toI i ++ d.toL.drop i)]) (fun _ => True) (by simp) (by simp [X.den, e_n, e_d, markedN]) trivial fun i hi _ => ?_
  apply says_den (φ := fun _ _ => [])
  simp [e_d, e_n, tree_30, T.says, X.den, O1.den, O2.den, O3.den, callD, XArg.ev, XArg.dat, Callee'.num, backs, DArg.back, Conds.den, cloArgs]
  (repeat' (first | (with_reducible apply And.intro) | intro _))
  · omega
  · omega
  · (first | omega | (simp only [IntKind.wrap_i64, maxL] at *; omega) | (simp [IntKind.wrap_i64, maxL] at *; omega))
  · (first | omega | (simp only [IntKind.wrap_i64, maxL] at *; omega) | (simp [IntKind.wrap_i64, maxL] at *; omega))
  · exact mark_step (l := d.toL) (i := i) (by omega)
  · omega
  · rw [show i = d.toL.length by omega]; simp
theorem pd_30 (d n : D) (h : (d.toL.length : Int) ≤ 1048576) (hn : 0 ≤ n.toI ∧ n.toI ≤ 1048576) (Q : List D → Prop) (ho : Q [.int (n.toI + d.toL.length), .lst (markedN n.toI d.toL.length)]) : PC Try.prog 30 [.row [(.int .i64)] d, .sc (.int .i64) n] [.sc (.int .i64)] Q := (pc_30 d n h hn).mono fun _ h => h ▸ ho
/- laws.heldIntS -/
theorem pc_31 (d n : D) (h : (d.toL.length : Int) ≤ 1048576) (hn : 0 ≤ n.toI ∧ n.toI ≤ 1048576) (hd : markedN n.toI d.toL.length = d.toL) : PC Try.prog 31 [.sc (.sl [(.int .i64)]) d, .sc (.int .i64) n] [.sc (.int .i64)] fun o => o = [.int (n.toI + d.toL.length)] := by
  refine PC.of_sig mix sig_31 ⟨rfl, rfl, trivial⟩ rfl fun hok => ?_
  have e_d := sl_eta (hok _ (.head _))
  have l_d := sl_len (hok _ (.head _))
  have k_d := sl_all (hok _ (.head _))
  have e_n := int_eta (hok _ (.tail _ (.head _)))
  have b_n := int_range (hok _ (.tail _ (.head _)))
  apply says_den (φ := fun _ _ => [])
  simp [e_d, e_n, tree_31, T.says, X.den, O1.den, O2.den, O3.den, callD, XArg.ev, XArg.dat, Callee'.num, backs, DArg.back, Conds.den, cloArgs] at h ⊢
  refine den_for d.toL.length 1 (fun i => [.int (n.toI + i), .int i]) (fun _ => True) (by simp) (by simp [X.den, e_n]) trivial fun i hi _ => ?_
  apply says_den (φ := fun _ _ => [])
  simp [e_d, e_n, tree_31, T.says, X.den, O1.den, O2.den, O3.den, callD, XArg.ev, XArg.dat, Callee'.num, backs, DArg.back, Conds.den, cloArgs]
  (repeat' (first | (with_reducible apply And.intro) | intro _))
  · omega
  · have := held_at hd (i := i) (by omega); contradiction
  · omega
  · (first | omega | (simp only [IntKind.wrap_i64, maxL] at *; omega) | (simp [IntKind.wrap_i64, maxL] at *; omega))
  · (first | omega | (simp only [IntKind.wrap_i64, maxL] at *; omega) | (simp [IntKind.wrap_i64, maxL] at *; omega))
  · omega
theorem pd_31 (d n : D) (h : (d.toL.length : Int) ≤ 1048576) (hn : 0 ≤ n.toI ∧ n.toI ≤ 1048576) (hd : markedN n.toI d.toL.length = d.toL) (Q : List D → Prop) (ho : Q [.int (n.toI + d.toL.length)]) : PC Try.prog 31 [.sc (.sl [(.int .i64)]) d, .sc (.int .i64) n] [.sc (.int .i64)] Q := (pc_31 d n h hn hd).mono fun _ h => h ▸ ho
/- spec.Pick -/
theorem pc_34 (d n : D) (h : (d.toL.length : Int) ≤ 1048576) : PC Try.prog 34 [.sc (.sl [(.int .i64)]) d, .sc (.int .i64) n] [.sc (.int .i64), .sc (.sl [(.int .i64)])] fun o => o = [.int (pickN d n.toI), .lst (pickL d n.toI)] := by
  refine PC.of_sig mix sig_34 ⟨rfl, rfl, trivial⟩ rfl fun hok => ?_
  have e_d := sl_eta (hok _ (.head _))
  have l_d := sl_len (hok _ (.head _))
  have k_d := sl_all (hok _ (.head _))
  have e_n := int_eta (hok _ (.tail _ (.head _)))
  have b_n := int_range (hok _ (.tail _ (.head _)))
  apply says_den (φ := fun _ _ => [])
  by_cases hne : d.toL = []
  · simp [e_d, e_n, tree_34, T.says, X.den, O1.den, O2.den, O3.den, callD, XArg.ev, XArg.dat, Callee'.num, backs, DArg.back, Conds.den, cloArgs, hne, pickN, pickL]
    all_goals ((repeat' (first | (with_reducible apply And.intro) | intro _)) <;> (first | assumption | (first | omega | (simp only [IntKind.wrap_i64, maxL] at *; omega) | (simp [IntKind.wrap_i64, maxL] at *; omega)) | rfl | contradiction | grind))
  · have hp : 0 < d.toL.length := List.length_pos_iff.mpr hne
    simp [e_d, e_n, tree_34, T.says, X.den, O1.den, O2.den, O3.den, callD, XArg.ev, XArg.dat, Callee'.num, backs, DArg.back, Conds.den, cloArgs, hne, pickN, pickL]
    (repeat' (first | (with_reducible apply And.intro) | intro _)) <;> first | (first | omega | (simp only [IntKind.wrap_i64, maxL] at *; omega) | (simp [IntKind.wrap_i64, maxL] at *; omega)) | (first | assumption | (first | omega | (simp only [IntKind.wrap_i64, maxL] at *; omega) | (simp [IntKind.wrap_i64, maxL] at *; omega)) | rfl | contradiction | grind) | simp_all | (simp_all <;> omega)
theorem pd_34 (d n : D) (h : (d.toL.length : Int) ≤ 1048576) (Q : List D → Prop) (ho : Q [.int (pickN d n.toI), .lst (pickL d n.toI)]) : PC Try.prog 34 [.sc (.sl [(.int .i64)]) d, .sc (.int .i64) n] [.sc (.int .i64), .sc (.sl [(.int .i64)])] Q := (pc_34 d n h).mono fun _ h => h ▸ ho
/- slices.Clone[[]int,int] -/
theorem pc_62 (d : D) (h : (d.toL.length : Int) ≤ 1048576) : PC Try.prog 62 [.sc (.sl [(.int .i64)]) d] [.sc (.sl [(.int .i64)])] fun o => o = [d] := by
  refine PC.of_sig mix sig_62 ⟨rfl, trivial⟩ rfl fun hok => ?_
  have e_d := sl_eta (hok _ (.head _))
  have l_d := sl_len (hok _ (.head _))
  have k_d := sl_all (hok _ (.head _))
  apply says_den (φ := fun _ _ => [])
  simp [e_d, tree_62, T.says, X.den, O1.den, O2.den, O3.den, callD, XArg.ev, XArg.dat, Callee'.num, backs, DArg.back, Conds.den, cloArgs] at h ⊢
  (repeat' (first | (with_reducible apply And.intro) | intro _))
  · omega
  · have e0 := e_d; rw [‹d.toL = []›] at e0; exact e0
theorem pd_62 (d : D) (h : (d.toL.length : Int) ≤ 1048576) (Q : List D → Prop) (ho : Q [d]) : PC Try.prog 62 [.sc (.sl [(.int .i64)]) d] [.sc (.sl [(.int .i64)])] Q := (pc_62 d h).mono fun _ h => h ▸ ho
/- impl.Pick -/
def phi_35 : Nat → List D → List D
  | 62, [d] => [d]
  | _, _ => []
theorem pc_35 (d n : D) (h : (d.toL.length : Int) ≤ 1048576) : PC Try.prog 35 [.sc (.sl [(.int .i64)]) d, .sc (.int .i64) n] [.sc (.int .i64), .sc (.sl [(.int .i64)])] fun o => o = [.int (pickN d n.toI), .lst (pickL d n.toI)] := by
  refine PC.of_sig mix sig_35 ⟨rfl, rfl, trivial⟩ rfl fun hok => ?_
  have e_d := sl_eta (hok _ (.head _))
  have l_d := sl_len (hok _ (.head _))
  have k_d := sl_all (hok _ (.head _))
  have e_n := int_eta (hok _ (.tail _ (.head _)))
  have b_n := int_range (hok _ (.tail _ (.head _)))
  apply says_den (φ := (phi_35))
  by_cases hne : d.toL = []
  · simp [e_d, e_n, tree_35, T.says, X.den, O1.den, O2.den, O3.den, callD, XArg.ev, XArg.dat, Callee'.num, backs, DArg.back, Conds.den, cloArgs, phi_35, pd_62, hne, pickN, pickL]
    all_goals ((repeat' (first | (with_reducible apply And.intro) | intro _)) <;> (first | assumption | (first | omega | (simp only [IntKind.wrap_i64, maxL] at *; omega) | (simp [IntKind.wrap_i64, maxL] at *; omega)) | rfl | contradiction | (exact pd_62 _ (by first | assumption | omega | (simp; done) | (simp; omega) | (simp [*]; done) | (simp [*] at *; omega) | grind [szS]) _ (by first | rfl | simp | (simp; omega))) | grind))
  · have hp : 0 < d.toL.length := List.length_pos_iff.mpr hne
    simp [e_d, e_n, tree_35, T.says, X.den, O1.den, O2.den, O3.den, callD, XArg.ev, XArg.dat, Callee'.num, backs, DArg.back, Conds.den, cloArgs, phi_35, pd_62, hne, pickN, pickL]
    (repeat' (first | (with_reducible apply And.intro) | intro _)) <;> first | (first | omega | (simp only [IntKind.wrap_i64, maxL] at *; omega) | (simp [IntKind.wrap_i64, maxL] at *; omega)) | (first | assumption | (first | omega | (simp only [IntKind.wrap_i64, maxL] at *; omega) | (simp [IntKind.wrap_i64, maxL] at *; omega)) | rfl | contradiction | (exact pd_62 _ (by first | assumption | omega | (simp; done) | (simp; omega) | (simp [*]; done) | (simp [*] at *; omega) | grind [szS]) _ (by first | rfl | simp | (simp; omega))) | grind) | simp_all | (simp_all <;> omega)
theorem pd_35 (d n : D) (h : (d.toL.length : Int) ≤ 1048576) (Q : List D → Prop) (ho : Q [.int (pickN d n.toI), .lst (pickL d n.toI)]) : PC Try.prog 35 [.sc (.sl [(.int .i64)]) d, .sc (.int .i64) n] [.sc (.int .i64), .sc (.sl [(.int .i64)])] Q := (pc_35 d n h).mono fun _ h => h ▸ ho
end Go.Proofs.Ytflegfieiemipaa
