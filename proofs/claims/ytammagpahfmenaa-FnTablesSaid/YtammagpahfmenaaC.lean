/- The contracts of the functions that this claim reaches: what each hands back, for all data. -/
import Derived.Test.YtammagpahfmenaaCA
import Derived.Test.YtammagpahfmenaaT
import Derived.Test.YtammagpahfmenaaS
import Derived.Deep.LoopGhost
import Derived.Deep.RegionLaw
import Derived.Lib.SliceRun
import Derived.Lib.Walk
import Derived.ProofKit
import Derived.Shelf.RegionOpenPlain
import Derived.WalkKit
namespace Go.Proofs.Ytammagpahfmenaa
open Go.Proofs.Ytammagpahfmenaa.Eng
set_option maxRecDepth 100000
set_option maxHeartbeats 2000000
set_option linter.unusedSimpArgs false
set_option linter.unusedVariables false
/- impl.SameTable -/
def phi_101 : Nat → List D → List D
  | 80, [a, b] => [.bool (sameEffect a b)]
  | 180, [a, b, _] => [.bool (sameTable a b)]
  | _, _ => []
theorem pc_101 (a b : D) : PC Try.prog 101 [.sc (.sl [(.int .i64), (.int .i64), (.int .i64), (.int .i64), (.int .i64), (.int .i64), (.int .i64), (.int .i64), (.int .i64), (.int .i64), (.int .i64), (.int .i64), (.int .i64), (.int .i64), (.int .i64), (.int .i64), (.int .i64), (.int .i64), .bool, (.sl [(.int .i64), (.int .i64), (.int .i64), (.int .i64), (.int .i64), (.int .i64), .bool]), (.int .i64), (.int .i64)]) a, .sc (.sl [(.int .i64), (.int .i64), (.int .i64), (.int .i64), (.int .i64), (.int .i64), (.int .i64), (.int .i64), (.int .i64), (.int .i64), (.int .i64), (.int .i64), (.int .i64), (.int .i64), (.int .i64), (.int .i64), (.int .i64), (.int .i64), .bool, (.sl [(.int .i64), (.int .i64), (.int .i64), (.int .i64), (.int .i64), (.int .i64), .bool]), (.int .i64), (.int .i64)]) b] [.sc .bool] fun o => o = [.bool (sameTable a b)] := by
  refine PC.of_sig mix sig_101 ⟨rfl, rfl, trivial⟩ rfl fun hok => ?_
  have e_a := sl_eta (hok _ (.head _))
  have l_a := sl_len (hok _ (.head _))
  have k_a := sl_all (hok _ (.head _))
  have E_a : ∀ i, i < a.toL.length → D.lst [(a.elem i).fld 0, (a.elem i).fld 1, (a.elem i).fld 2, (a.elem i).fld 3, (a.elem i).fld 4, (a.elem i).fld 5, (a.elem i).fld 6, (a.elem i).fld 7, (a.elem i).fld 8, (a.elem i).fld 9, (a.elem i).fld 10, (a.elem i).fld 11, (a.elem i).fld 12, (a.elem i).fld 13, (a.elem i).fld 14, (a.elem i).fld 15, (a.elem i).fld 16, (a.elem i).fld 17, (a.elem i).fld 18, (a.elem i).fld 19, (a.elem i).fld 20, (a.elem i).fld 21] = a.elem i := fun i hi => by simpa [List.range, List.range.loop] using okL_eta (k_a _ (elem_mem hi))
  have e_b := sl_eta (hok _ (.tail _ (.head _)))
  have l_b := sl_len (hok _ (.tail _ (.head _)))
  have k_b := sl_all (hok _ (.tail _ (.head _)))
  have E_b : ∀ i, i < b.toL.length → D.lst [(b.elem i).fld 0, (b.elem i).fld 1, (b.elem i).fld 2, (b.elem i).fld 3, (b.elem i).fld 4, (b.elem i).fld 5, (b.elem i).fld 6, (b.elem i).fld 7, (b.elem i).fld 8, (b.elem i).fld 9, (b.elem i).fld 10, (b.elem i).fld 11, (b.elem i).fld 12, (b.elem i).fld 13, (b.elem i).fld 14, (b.elem i).fld 15, (b.elem i).fld 16, (b.elem i).fld 17, (b.elem i).fld 18, (b.elem i).fld 19, (b.elem i).fld 20, (b.elem i).fld 21] = b.elem i := fun i hi => by simpa [List.range, List.range.loop] using okL_eta (k_b _ (elem_mem hi))
  apply says_den (φ := (phi_101))
  simp [e_a, e_b, E_a, E_b, tree_101, T.says, X.den, O1.den, O2.den, O3.den, callD, XArg.ev, XArg.dat, Callee'.num, backs, DArg.back, Conds.den, cloArgs, phi_101, pd_80, pd_180]
theorem pd_101 (a b : D) (Q : List D → Prop) (ho : Q [.bool (sameTable a b)]) : PC Try.prog 101 [.sc (.sl [(.int .i64), (.int .i64), (.int .i64), (.int .i64), (.int .i64), (.int .i64), (.int .i64), (.int .i64), (.int .i64), (.int .i64), (.int .i64), (.int .i64), (.int .i64), (.int .i64), (.int .i64), (.int .i64), (.int .i64), (.int .i64), .bool, (.sl [(.int .i64), (.int .i64), (.int .i64), (.int .i64), (.int .i64), (.int .i64), .bool]), (.int .i64), (.int .i64)]) a, .sc (.sl [(.int .i64), (.int .i64), (.int .i64), (.int .i64), (.int .i64), (.int .i64), (.int .i64), (.int .i64), (.int .i64), (.int .i64), (.int .i64), (.int .i64), (.int .i64), (.int .i64), (.int .i64), (.int .i64), (.int .i64), (.int .i64), .bool, (.sl [(.int .i64), (.int .i64), (.int .i64), (.int .i64), (.int .i64), (.int .i64), .bool]), (.int .i64), (.int .i64)]) b] [.sc .bool] Q := (pc_101 a b).mono fun _ h => h ▸ ho
/- spec.SameEffect -/
theorem pc_181 (a b : D) : PC Try.prog 181 [.st [(.int .i64), (.int .i64), (.int .i64), (.int .i64), (.int .i64), (.int .i64), (.int .i64), (.int .i64), (.int .i64), (.int .i64), (.int .i64), (.int .i64), (.int .i64), (.int .i64), (.int .i64), (.int .i64), (.int .i64), (.int .i64), .bool, (.sl [(.int .i64), (.int .i64), (.int .i64), (.int .i64), (.int .i64), (.int .i64), .bool]), (.int .i64), (.int .i64)] a, .st [(.int .i64), (.int .i64), (.int .i64), (.int .i64), (.int .i64), (.int .i64), (.int .i64), (.int .i64), (.int .i64), (.int .i64), (.int .i64), (.int .i64), (.int .i64), (.int .i64), (.int .i64), (.int .i64), (.int .i64), (.int .i64), .bool, (.sl [(.int .i64), (.int .i64), (.int .i64), (.int .i64), (.int .i64), (.int .i64), .bool]), (.int .i64), (.int .i64)] b] [.sc .bool] fun o => o = [.bool (sameEffect a b)] := by
  refine PC.of_sig mix sig_181 ⟨rfl, rfl, trivial⟩ rfl fun hok => ?_
  have e_a : D.lst [a.fld 0, a.fld 1, a.fld 2, a.fld 3, a.fld 4, a.fld 5, a.fld 6, a.fld 7, a.fld 8, a.fld 9, a.fld 10, a.fld 11, a.fld 12, a.fld 13, a.fld 14, a.fld 15, a.fld 16, a.fld 17, a.fld 18, a.fld 19, a.fld 20, a.fld 21] = a := by simpa [List.range, List.range.loop] using okL_eta (hok _ (.head _))
  have k_a : okL [(.int .i64), (.int .i64), (.int .i64), (.int .i64), (.int .i64), (.int .i64), (.int .i64), (.int .i64), (.int .i64), (.int .i64), (.int .i64), (.int .i64), (.int .i64), (.int .i64), (.int .i64), (.int .i64), (.int .i64), (.int .i64), .bool, (.sl [(.int .i64), (.int .i64), (.int .i64), (.int .i64), (.int .i64), (.int .i64), .bool]), (.int .i64), (.int .i64)] a := (hok _ (.head _))
  have e_a_19 : D.lst (a.fld 19).toL = a.fld 19 := sl_eta (okL_at k_a (i := 19) rfl)
  have l_a_19 := sl_len (okL_at k_a (i := 19) rfl)
  have k_a_19 := sl_all (okL_at k_a (i := 19) rfl)
  have E_a_19 : ∀ i, i < (a.fld 19).toL.length → D.lst [((a.fld 19).elem i).fld 0, ((a.fld 19).elem i).fld 1, ((a.fld 19).elem i).fld 2, ((a.fld 19).elem i).fld 3, ((a.fld 19).elem i).fld 4, ((a.fld 19).elem i).fld 5, ((a.fld 19).elem i).fld 6] = (a.fld 19).elem i := fun i hi => by simpa [List.range, List.range.loop] using okL_eta (k_a_19 _ (elem_mem hi))
  have e_b : D.lst [b.fld 0, b.fld 1, b.fld 2, b.fld 3, b.fld 4, b.fld 5, b.fld 6, b.fld 7, b.fld 8, b.fld 9, b.fld 10, b.fld 11, b.fld 12, b.fld 13, b.fld 14, b.fld 15, b.fld 16, b.fld 17, b.fld 18, b.fld 19, b.fld 20, b.fld 21] = b := by simpa [List.range, List.range.loop] using okL_eta (hok _ (.tail _ (.head _)))
  have k_b : okL [(.int .i64), (.int .i64), (.int .i64), (.int .i64), (.int .i64), (.int .i64), (.int .i64), (.int .i64), (.int .i64), (.int .i64), (.int .i64), (.int .i64), (.int .i64), (.int .i64), (.int .i64), (.int .i64), (.int .i64), (.int .i64), .bool, (.sl [(.int .i64), (.int .i64), (.int .i64), (.int .i64), (.int .i64), (.int .i64), .bool]), (.int .i64), (.int .i64)] b := (hok _ (.tail _ (.head _)))
  have e_b_19 : D.lst (b.fld 19).toL = b.fld 19 := sl_eta (okL_at k_b (i := 19) rfl)
  have l_b_19 := sl_len (okL_at k_b (i := 19) rfl)
  have k_b_19 := sl_all (okL_at k_b (i := 19) rfl)
  have E_b_19 : ∀ i, i < (b.fld 19).toL.length → D.lst [((b.fld 19).elem i).fld 0, ((b.fld 19).elem i).fld 1, ((b.fld 19).elem i).fld 2, ((b.fld 19).elem i).fld 3, ((b.fld 19).elem i).fld 4, ((b.fld 19).elem i).fld 5, ((b.fld 19).elem i).fld 6] = (b.fld 19).elem i := fun i hi => by simpa [List.range, List.range.loop] using okL_eta (k_b_19 _ (elem_mem hi))
  apply says_den (φ := fun _ _ => [])
  simp [e_a_19, E_a_19, e_b_19, E_b_19, e_a, e_b, tree_181, T.says, X.den, O1.den, O2.den, O3.den, callD, XArg.ev, XArg.dat, Callee'.num, backs, DArg.back, Conds.den, cloArgs]
  (repeat' (first | (with_reducible apply And.intro) | intro _))
  · simp [sameEffect, sameEvs]; grind
  · simp [sameEffect, sameEvs]; grind
  have hs : sameEffect a b = sameEvs (a.fld 19) (b.fld 19) := by simp_all [sameEffect]
  rw [hs]
  refine den_for (a.fld 19).toL.length 0 (fun i => [.int i]) (fun i => ∀ j, j < i → sameEv ((a.fld 19).elem j) ((b.fld 19).elem j) = true) (by simp) (by simp [X.den]) (by simp) fun i hi hR => ?_
  apply says_den (φ := fun _ _ => [])
  simp [e_a_19, E_a_19, e_b_19, E_b_19, e_a, e_b, tree_181, T.says, X.den, O1.den, O2.den, O3.den, callD, XArg.ev, XArg.dat, Callee'.num, backs, DArg.back, Conds.den, cloArgs]
  (repeat' (first | (with_reducible apply And.intro) | intro _))
  · omega
  · omega
  · have : sameEv ((a.fld 19).elem i) ((b.fld 19).elem i) = false := by grind [sameEv]
    simp [sameEvs, allR_false (p := fun i => sameEv ((a.fld 19).elem i) ((b.fld 19).elem i)) (i := i) ‹_› this]
  · omega
  · (first | omega | (simp only [IntKind.wrap_i64, maxL] at *; omega) | (simp [IntKind.wrap_i64, maxL] at *; omega))
  · grind [sameEv]
  · have := allR_true (p := fun i => sameEv ((a.fld 19).elem i) ((b.fld 19).elem i)) (n := (a.fld 19).toL.length) (fun j hj => hR j (by omega))
    simp only [sameEvs, this, Bool.and_true, decide_eq_true_eq]
    omega
theorem pd_181 (a b : D) (Q : List D → Prop) (ho : Q [.bool (sameEffect a b)]) : PC Try.prog 181 [.st [(.int .i64), (.int .i64), (.int .i64), (.int .i64), (.int .i64), (.int .i64), (.int .i64), (.int .i64), (.int .i64), (.int .i64), (.int .i64), (.int .i64), (.int .i64), (.int .i64), (.int .i64), (.int .i64), (.int .i64), (.int .i64), .bool, (.sl [(.int .i64), (.int .i64), (.int .i64), (.int .i64), (.int .i64), (.int .i64), .bool]), (.int .i64), (.int .i64)] a, .st [(.int .i64), (.int .i64), (.int .i64), (.int .i64), (.int .i64), (.int .i64), (.int .i64), (.int .i64), (.int .i64), (.int .i64), (.int .i64), (.int .i64), (.int .i64), (.int .i64), (.int .i64), (.int .i64), (.int .i64), (.int .i64), .bool, (.sl [(.int .i64), (.int .i64), (.int .i64), (.int .i64), (.int .i64), (.int .i64), .bool]), (.int .i64), (.int .i64)] b] [.sc .bool] Q := (pc_181 a b).mono fun _ h => h ▸ ho
/- spec.SameTable -/
def phi_102 : Nat → List D → List D
  | 181, [a, b] => [.bool (sameEffect a b)]
  | _, _ => []
theorem pc_102 (a b : D) : PC Try.prog 102 [.sc (.sl [(.int .i64), (.int .i64), (.int .i64), (.int .i64), (.int .i64), (.int .i64), (.int .i64), (.int .i64), (.int .i64), (.int .i64), (.int .i64), (.int .i64), (.int .i64), (.int .i64), (.int .i64), (.int .i64), (.int .i64), (.int .i64), .bool, (.sl [(.int .i64), (.int .i64), (.int .i64), (.int .i64), (.int .i64), (.int .i64), .bool]), (.int .i64), (.int .i64)]) a, .sc (.sl [(.int .i64), (.int .i64), (.int .i64), (.int .i64), (.int .i64), (.int .i64), (.int .i64), (.int .i64), (.int .i64), (.int .i64), (.int .i64), (.int .i64), (.int .i64), (.int .i64), (.int .i64), (.int .i64), (.int .i64), (.int .i64), .bool, (.sl [(.int .i64), (.int .i64), (.int .i64), (.int .i64), (.int .i64), (.int .i64), .bool]), (.int .i64), (.int .i64)]) b] [.sc .bool] fun o => o = [.bool (sameTable a b)] := by
  refine PC.of_sig mix sig_102 ⟨rfl, rfl, trivial⟩ rfl fun hok => ?_
  have e_a := sl_eta (hok _ (.head _))
  have l_a := sl_len (hok _ (.head _))
  have k_a := sl_all (hok _ (.head _))
  have E_a : ∀ i, i < a.toL.length → D.lst [(a.elem i).fld 0, (a.elem i).fld 1, (a.elem i).fld 2, (a.elem i).fld 3, (a.elem i).fld 4, (a.elem i).fld 5, (a.elem i).fld 6, (a.elem i).fld 7, (a.elem i).fld 8, (a.elem i).fld 9, (a.elem i).fld 10, (a.elem i).fld 11, (a.elem i).fld 12, (a.elem i).fld 13, (a.elem i).fld 14, (a.elem i).fld 15, (a.elem i).fld 16, (a.elem i).fld 17, (a.elem i).fld 18, (a.elem i).fld 19, (a.elem i).fld 20, (a.elem i).fld 21] = a.elem i := fun i hi => by simpa [List.range, List.range.loop] using okL_eta (k_a _ (elem_mem hi))
  have e_b := sl_eta (hok _ (.tail _ (.head _)))
  have l_b := sl_len (hok _ (.tail _ (.head _)))
  have k_b := sl_all (hok _ (.tail _ (.head _)))
  have E_b : ∀ i, i < b.toL.length → D.lst [(b.elem i).fld 0, (b.elem i).fld 1, (b.elem i).fld 2, (b.elem i).fld 3, (b.elem i).fld 4, (b.elem i).fld 5, (b.elem i).fld 6, (b.elem i).fld 7, (b.elem i).fld 8, (b.elem i).fld 9, (b.elem i).fld 10, (b.elem i).fld 11, (b.elem i).fld 12, (b.elem i).fld 13, (b.elem i).fld 14, (b.elem i).fld 15, (b.elem i).fld 16, (b.elem i).fld 17, (b.elem i).fld 18, (b.elem i).fld 19, (b.elem i).fld 20, (b.elem i).fld 21] = b.elem i := fun i hi => by simpa [List.range, List.range.loop] using okL_eta (k_b _ (elem_mem hi))
  apply says_den (φ := (phi_102))
  simp [e_a, e_b, E_a, E_b, tree_102, T.says, X.den, O1.den, O2.den, O3.den, callD, XArg.ev, XArg.dat, Callee'.num, backs, DArg.back, Conds.den, cloArgs, phi_102, pd_181]
  (repeat' (first | (with_reducible apply And.intro) | intro _))
  · simp only [sameTable, Bool.and_eq_false_iff, decide_eq_false_iff_not]; left; omega
  refine den_for a.toL.length 0 (fun i => [.int i]) (fun i => ∀ j, j < i → sameEffect (a.elem j) (b.elem j) = true) (by simp) (by simp [X.den]) (by simp) fun i hi hR => ?_
  have hl : a.toL.length = b.toL.length := by omega
  have E_b' := fun i hi => E_b i (hl ▸ hi)
  apply says_den (φ := (phi_102))
  by_cases hlt : i < a.toL.length
  · simp [e_a, e_b, E_a, E_b, tree_102, T.says, X.den, O1.den, O2.den, O3.den, callD, XArg.ev, XArg.dat, Callee'.num, backs, DArg.back, Conds.den, cloArgs, phi_102, pd_181, hlt, E_b']
    (repeat' (first | (with_reducible apply And.intro) | intro _))
    · omega
    · simp [sameTable, allR_false (p := fun i => sameEffect (a.elem i) (b.elem i)) hlt ‹_›]
    · (first | omega | (simp only [IntKind.wrap_i64, maxL] at *; omega) | (simp [IntKind.wrap_i64, maxL] at *; omega))
    · grind
  · have ht := allR_true (p := fun i => sameEffect (a.elem i) (b.elem i)) (n := a.toL.length) (fun j hj => hR j (by omega))
    simp [e_a, e_b, E_a, E_b, tree_102, T.says, X.den, O1.den, O2.den, O3.den, callD, XArg.ev, XArg.dat, Callee'.num, backs, DArg.back, Conds.den, cloArgs, phi_102, pd_181, hlt, sameTable, ht]
    all_goals omega
theorem pd_102 (a b : D) (Q : List D → Prop) (ho : Q [.bool (sameTable a b)]) : PC Try.prog 102 [.sc (.sl [(.int .i64), (.int .i64), (.int .i64), (.int .i64), (.int .i64), (.int .i64), (.int .i64), (.int .i64), (.int .i64), (.int .i64), (.int .i64), (.int .i64), (.int .i64), (.int .i64), (.int .i64), (.int .i64), (.int .i64), (.int .i64), .bool, (.sl [(.int .i64), (.int .i64), (.int .i64), (.int .i64), (.int .i64), (.int .i64), .bool]), (.int .i64), (.int .i64)]) a, .sc (.sl [(.int .i64), (.int .i64), (.int .i64), (.int .i64), (.int .i64), (.int .i64), (.int .i64), (.int .i64), (.int .i64), (.int .i64), (.int .i64), (.int .i64), (.int .i64), (.int .i64), (.int .i64), (.int .i64), (.int .i64), (.int .i64), .bool, (.sl [(.int .i64), (.int .i64), (.int .i64), (.int .i64), (.int .i64), (.int .i64), .bool]), (.int .i64), (.int .i64)]) b] [.sc .bool] Q := (pc_102 a b).mono fun _ h => h ▸ ho
/- spec.Lives -/
theorem pc_182 (e n : D) : PC Try.prog 182 [.st [(.int .i64), (.int .i64), (.int .i64), (.int .i64), (.int .i64), (.int .i64), (.int .i64), (.int .i64), (.int .i64), (.int .i64), (.int .i64), (.int .i64), (.int .i64), (.int .i64), (.int .i64), (.int .i64), (.int .i64), (.int .i64), .bool, (.sl [(.int .i64), (.int .i64), (.int .i64), (.int .i64), (.int .i64), (.int .i64), .bool]), (.int .i64), (.int .i64)] e, .sc (.int .i64) n] [.sc .bool] fun o => o = [.bool (lives e n.toI)] := by
  refine PC.of_sig mix sig_182 ⟨rfl, rfl, trivial⟩ rfl fun hok => ?_
  have e_e : D.lst [e.fld 0, e.fld 1, e.fld 2, e.fld 3, e.fld 4, e.fld 5, e.fld 6, e.fld 7, e.fld 8, e.fld 9, e.fld 10, e.fld 11, e.fld 12, e.fld 13, e.fld 14, e.fld 15, e.fld 16, e.fld 17, e.fld 18, e.fld 19, e.fld 20, e.fld 21] = e := by simpa [List.range, List.range.loop] using okL_eta (hok _ (.head _))
  have k_e : okL [(.int .i64), (.int .i64), (.int .i64), (.int .i64), (.int .i64), (.int .i64), (.int .i64), (.int .i64), (.int .i64), (.int .i64), (.int .i64), (.int .i64), (.int .i64), (.int .i64), (.int .i64), (.int .i64), (.int .i64), (.int .i64), .bool, (.sl [(.int .i64), (.int .i64), (.int .i64), (.int .i64), (.int .i64), (.int .i64), .bool]), (.int .i64), (.int .i64)] e := (hok _ (.head _))
  have e_e_19 : D.lst (e.fld 19).toL = e.fld 19 := sl_eta (okL_at k_e (i := 19) rfl)
  have l_e_19 := sl_len (okL_at k_e (i := 19) rfl)
  have k_e_19 := sl_all (okL_at k_e (i := 19) rfl)
  have E_e_19 : ∀ i, i < (e.fld 19).toL.length → D.lst [((e.fld 19).elem i).fld 0, ((e.fld 19).elem i).fld 1, ((e.fld 19).elem i).fld 2, ((e.fld 19).elem i).fld 3, ((e.fld 19).elem i).fld 4, ((e.fld 19).elem i).fld 5, ((e.fld 19).elem i).fld 6] = (e.fld 19).elem i := fun i hi => by simpa [List.range, List.range.loop] using okL_eta (k_e_19 _ (elem_mem hi))
  have e_n := int_eta (hok _ (.tail _ (.head _)))
  have b_n := int_range (hok _ (.tail _ (.head _)))
  apply says_den (φ := fun _ _ => [])
  simp [e_e_19, E_e_19, e_e, e_n, tree_182, T.says, X.den, O1.den, O2.den, O3.den, callD, XArg.ev, XArg.dat, Callee'.num, backs, DArg.back, Conds.den, cloArgs, lives]
theorem pd_182 (e n : D) (Q : List D → Prop) (ho : Q [.bool (lives e n.toI)]) : PC Try.prog 182 [.st [(.int .i64), (.int .i64), (.int .i64), (.int .i64), (.int .i64), (.int .i64), (.int .i64), (.int .i64), (.int .i64), (.int .i64), (.int .i64), (.int .i64), (.int .i64), (.int .i64), (.int .i64), (.int .i64), (.int .i64), (.int .i64), .bool, (.sl [(.int .i64), (.int .i64), (.int .i64), (.int .i64), (.int .i64), (.int .i64), .bool]), (.int .i64), (.int .i64)] e, .sc (.int .i64) n] [.sc .bool] Q := (pc_182 e n).mono fun _ h => h ▸ ho
/- spec.Expire -/
def phi_103 : Nat → List D → List D
  | 168, [e] => [e]
  | 182, [e, n] => [.bool (lives e n.toI)]
  | _, _ => []
theorem pc_103 (d n : D) (h : smallE d) : PC Try.prog 103 [.sc (.sl [(.int .i64), (.int .i64), (.int .i64), (.int .i64), (.int .i64), (.int .i64), (.int .i64), (.int .i64), (.int .i64), (.int .i64), (.int .i64), (.int .i64), (.int .i64), (.int .i64), (.int .i64), (.int .i64), (.int .i64), (.int .i64), .bool, (.sl [(.int .i64), (.int .i64), (.int .i64), (.int .i64), (.int .i64), (.int .i64), .bool]), (.int .i64), (.int .i64)]) d, .sc (.int .i64) n] [.sc (.sl [(.int .i64), (.int .i64), (.int .i64), (.int .i64), (.int .i64), (.int .i64), (.int .i64), (.int .i64), (.int .i64), (.int .i64), (.int .i64), (.int .i64), (.int .i64), (.int .i64), (.int .i64), (.int .i64), (.int .i64), (.int .i64), .bool, (.sl [(.int .i64), (.int .i64), (.int .i64), (.int .i64), (.int .i64), (.int .i64), .bool]), (.int .i64), (.int .i64)])] fun o => o = [expire d n.toI] := by
  refine PC.of_sig mix sig_103 ⟨rfl, rfl, trivial⟩ rfl fun hok => ?_
  have e_d := sl_eta (hok _ (.head _))
  have l_d := sl_len (hok _ (.head _))
  have k_d := sl_all (hok _ (.head _))
  have E_d : ∀ i, i < d.toL.length → D.lst [(d.elem i).fld 0, (d.elem i).fld 1, (d.elem i).fld 2, (d.elem i).fld 3, (d.elem i).fld 4, (d.elem i).fld 5, (d.elem i).fld 6, (d.elem i).fld 7, (d.elem i).fld 8, (d.elem i).fld 9, (d.elem i).fld 10, (d.elem i).fld 11, (d.elem i).fld 12, (d.elem i).fld 13, (d.elem i).fld 14, (d.elem i).fld 15, (d.elem i).fld 16, (d.elem i).fld 17, (d.elem i).fld 18, (d.elem i).fld 19, (d.elem i).fld 20, (d.elem i).fld 21] = d.elem i := fun i hi => by simpa [List.range, List.range.loop] using okL_eta (k_d _ (elem_mem hi))
  have e_n := int_eta (hok _ (.tail _ (.head _)))
  have b_n := int_range (hok _ (.tail _ (.head _)))
  have h1 := h.1
  apply says_den (φ := (phi_103))
  refine den_for d.toL.length 0 (fun i => [.int i, .lst ((d.toL.take i).filter fun e => lives e n.toI)]) (fun _ => True) (by simp) (by simp [X.den]) trivial fun i hi _ => ?_
  apply says_den (φ := (phi_103))
  have hfl : ((d.toL.take i).filter fun e => lives e n.toI).length ≤ i := Nat.le_trans (List.length_filter_le _ _) (by simp; omega)
  by_cases hlt : i < d.toL.length
  · have hts : (d.toL.take (i + 1)).filter (fun e => lives e n.toI) = (d.toL.take i).filter (fun e => lives e n.toI) ++ if lives (d.elem i) n.toI then [d.elem i] else [] := by
      rw [take_elem hlt, List.filter_append]
      cases hc : lives (d.elem i) n.toI <;> simp [hc]
    have hs := h.2 i hlt
    simp [e_d, e_n, E_d, tree_103, T.says, X.den, O1.den, O2.den, O3.den, callD, XArg.ev, XArg.dat, Callee'.num, backs, DArg.back, Conds.den, cloArgs, phi_103, pd_168, pd_182, hlt, hts, hs]
    (repeat' (first | (with_reducible apply And.intro) | intro _)) <;> first | omega | (first | omega | (simp only [IntKind.wrap_i64, maxL] at *; omega) | (simp [IntKind.wrap_i64, maxL] at *; omega)) | (first | assumption | (exact pd_168 _ (by first | (with_reducible assumption) | omega | assumption | (simp; done) | (simp; omega) | (simp [*]; done) | exact smallE_of (n := 1048576) (by omega) (by omega) | (simp [*] at *; omega) | grind [szS]) _ (by first | rfl | simp | (simp; omega))) | (exact pd_182 _ _ _ (by first | rfl | simp | (simp; omega))) | (first | omega | (simp only [IntKind.wrap_i64, maxL] at *; omega) | (simp [IntKind.wrap_i64, maxL] at *; omega)) | rfl | contradiction | grind)
  · simp [e_d, e_n, E_d, tree_103, T.says, X.den, O1.den, O2.den, O3.den, callD, XArg.ev, XArg.dat, Callee'.num, backs, DArg.back, Conds.den, cloArgs, phi_103, pd_168, pd_182, hlt, expire, show d.toL.take i = d.toL from List.take_of_length_le (by omega)]
theorem pd_103 (d n : D) (h : smallE d) (Q : List D → Prop) (ho : Q [expire d n.toI]) : PC Try.prog 103 [.sc (.sl [(.int .i64), (.int .i64), (.int .i64), (.int .i64), (.int .i64), (.int .i64), (.int .i64), (.int .i64), (.int .i64), (.int .i64), (.int .i64), (.int .i64), (.int .i64), (.int .i64), (.int .i64), (.int .i64), (.int .i64), (.int .i64), .bool, (.sl [(.int .i64), (.int .i64), (.int .i64), (.int .i64), (.int .i64), (.int .i64), .bool]), (.int .i64), (.int .i64)]) d, .sc (.int .i64) n] [.sc (.sl [(.int .i64), (.int .i64), (.int .i64), (.int .i64), (.int .i64), (.int .i64), (.int .i64), (.int .i64), (.int .i64), (.int .i64), (.int .i64), (.int .i64), (.int .i64), (.int .i64), (.int .i64), (.int .i64), (.int .i64), (.int .i64), .bool, (.sl [(.int .i64), (.int .i64), (.int .i64), (.int .i64), (.int .i64), (.int .i64), .bool]), (.int .i64), (.int .i64)])] Q := (pc_103 d n h).mono fun _ h => h ▸ ho
/- spec.EffectAt -/
theorem pc_183 (d n : D) : PC Try.prog 183 [.sc (.sl [(.int .i64), (.int .i64), (.int .i64), (.int .i64), (.int .i64), (.int .i64), (.int .i64), (.int .i64), (.int .i64), (.int .i64), (.int .i64), (.int .i64), (.int .i64), (.int .i64), (.int .i64), (.int .i64), (.int .i64), (.int .i64), .bool, (.sl [(.int .i64), (.int .i64), (.int .i64), (.int .i64), (.int .i64), (.int .i64), .bool]), (.int .i64), (.int .i64)]) d, .sc (.int .i64) n] [.sc (.int .i64)] fun o => o = [.int (effAt d n.toI)] := by
  refine PC.of_sig mix sig_183 ⟨rfl, rfl, trivial⟩ rfl fun hok => ?_
  have e_d := sl_eta (hok _ (.head _))
  have l_d := sl_len (hok _ (.head _))
  have k_d := sl_all (hok _ (.head _))
  have E_d : ∀ i, i < d.toL.length → D.lst [(d.elem i).fld 0, (d.elem i).fld 1, (d.elem i).fld 2, (d.elem i).fld 3, (d.elem i).fld 4, (d.elem i).fld 5, (d.elem i).fld 6, (d.elem i).fld 7, (d.elem i).fld 8, (d.elem i).fld 9, (d.elem i).fld 10, (d.elem i).fld 11, (d.elem i).fld 12, (d.elem i).fld 13, (d.elem i).fld 14, (d.elem i).fld 15, (d.elem i).fld 16, (d.elem i).fld 17, (d.elem i).fld 18, (d.elem i).fld 19, (d.elem i).fld 20, (d.elem i).fld 21] = d.elem i := fun i hi => by simpa [List.range, List.range.loop] using okL_eta (k_d _ (elem_mem hi))
  have e_n := int_eta (hok _ (.tail _ (.head _)))
  have b_n := int_range (hok _ (.tail _ (.head _)))
  apply says_den (φ := fun _ _ => [])
  simp [e_d, e_n, E_d, tree_183, T.says, X.den, O1.den, O2.den, O3.den, callD, XArg.ev, XArg.dat, Callee'.num, backs, DArg.back, Conds.den, cloArgs, effAt]
  refine den_for d.toL.length 0 (fun i => [.int i]) (fun i => ∀ j, j < i → (((d.elem j).fld 0).toI == n.toI) = false) (by simp) (by simp [X.den]) (by simp) fun i hi hR => ?_
  apply says_den (φ := fun _ _ => [])
  by_cases hlt : i < d.toL.length
  · simp [e_d, e_n, E_d, tree_183, T.says, X.den, O1.den, O2.den, O3.den, callD, XArg.ev, XArg.dat, Callee'.num, backs, DArg.back, Conds.den, cloArgs, hlt]
    (repeat' (first | (with_reducible apply And.intro) | intro _))
    · exact (findR_some (p := fun i => ((d.elem i).fld 0).toI == n.toI) hlt (by simp_all) hR).symm
    · (first | omega | (simp only [IntKind.wrap_i64, maxL] at *; omega) | (simp [IntKind.wrap_i64, maxL] at *; omega))
    · grind
  · simp [e_d, e_n, E_d, tree_183, T.says, X.den, O1.den, O2.den, O3.den, callD, XArg.ev, XArg.dat, Callee'.num, backs, DArg.back, Conds.den, cloArgs, hlt]
    (repeat' (first | (with_reducible apply And.intro) | intro _))
    · exact (findR_none fun j hj => hR j (by omega)).symm
theorem pd_183 (d n : D) (Q : List D → Prop) (ho : Q [.int (effAt d n.toI)]) : PC Try.prog 183 [.sc (.sl [(.int .i64), (.int .i64), (.int .i64), (.int .i64), (.int .i64), (.int .i64), (.int .i64), (.int .i64), (.int .i64), (.int .i64), (.int .i64), (.int .i64), (.int .i64), (.int .i64), (.int .i64), (.int .i64), (.int .i64), (.int .i64), .bool, (.sl [(.int .i64), (.int .i64), (.int .i64), (.int .i64), (.int .i64), (.int .i64), .bool]), (.int .i64), (.int .i64)]) d, .sc (.int .i64) n] [.sc (.int .i64)] Q := (pc_183 d n).mono fun _ h => h ▸ ho
/- spec.Update -/
def phi_104 : Nat → List D → List D
  | 168, [e] => [e]
  | 175, [d] => [d]
  | 183, [d, n] => [.int (effAt d n.toI)]
  | _, _ => []
theorem pc_104 (a b : D) (h : smallE a) (hb : ((b.fld 19).toL.length : Int) ≤ 1048576) : PC Try.prog 104 [.sc (.sl [(.int .i64), (.int .i64), (.int .i64), (.int .i64), (.int .i64), (.int .i64), (.int .i64), (.int .i64), (.int .i64), (.int .i64), (.int .i64), (.int .i64), (.int .i64), (.int .i64), (.int .i64), (.int .i64), (.int .i64), (.int .i64), .bool, (.sl [(.int .i64), (.int .i64), (.int .i64), (.int .i64), (.int .i64), (.int .i64), .bool]), (.int .i64), (.int .i64)]) a, .st [(.int .i64), (.int .i64), (.int .i64), (.int .i64), (.int .i64), (.int .i64), (.int .i64), (.int .i64), (.int .i64), (.int .i64), (.int .i64), (.int .i64), (.int .i64), (.int .i64), (.int .i64), (.int .i64), (.int .i64), (.int .i64), .bool, (.sl [(.int .i64), (.int .i64), (.int .i64), (.int .i64), (.int .i64), (.int .i64), .bool]), (.int .i64), (.int .i64)] b] [.sc (.sl [(.int .i64), (.int .i64), (.int .i64), (.int .i64), (.int .i64), (.int .i64), (.int .i64), (.int .i64), (.int .i64), (.int .i64), (.int .i64), (.int .i64), (.int .i64), (.int .i64), (.int .i64), (.int .i64), (.int .i64), (.int .i64), .bool, (.sl [(.int .i64), (.int .i64), (.int .i64), (.int .i64), (.int .i64), (.int .i64), .bool]), (.int .i64), (.int .i64)])] fun o => o = [updT a b] := by
  refine PC.of_sig mix sig_104 ⟨rfl, rfl, trivial⟩ rfl fun hok => ?_
  have e_a := sl_eta (hok _ (.head _))
  have l_a := sl_len (hok _ (.head _))
  have k_a := sl_all (hok _ (.head _))
  have E_a : ∀ i, i < a.toL.length → D.lst [(a.elem i).fld 0, (a.elem i).fld 1, (a.elem i).fld 2, (a.elem i).fld 3, (a.elem i).fld 4, (a.elem i).fld 5, (a.elem i).fld 6, (a.elem i).fld 7, (a.elem i).fld 8, (a.elem i).fld 9, (a.elem i).fld 10, (a.elem i).fld 11, (a.elem i).fld 12, (a.elem i).fld 13, (a.elem i).fld 14, (a.elem i).fld 15, (a.elem i).fld 16, (a.elem i).fld 17, (a.elem i).fld 18, (a.elem i).fld 19, (a.elem i).fld 20, (a.elem i).fld 21] = a.elem i := fun i hi => by simpa [List.range, List.range.loop] using okL_eta (k_a _ (elem_mem hi))
  have e_b : D.lst [b.fld 0, b.fld 1, b.fld 2, b.fld 3, b.fld 4, b.fld 5, b.fld 6, b.fld 7, b.fld 8, b.fld 9, b.fld 10, b.fld 11, b.fld 12, b.fld 13, b.fld 14, b.fld 15, b.fld 16, b.fld 17, b.fld 18, b.fld 19, b.fld 20, b.fld 21] = b := by simpa [List.range, List.range.loop] using okL_eta (hok _ (.tail _ (.head _)))
  have k_b : okL [(.int .i64), (.int .i64), (.int .i64), (.int .i64), (.int .i64), (.int .i64), (.int .i64), (.int .i64), (.int .i64), (.int .i64), (.int .i64), (.int .i64), (.int .i64), (.int .i64), (.int .i64), (.int .i64), (.int .i64), (.int .i64), .bool, (.sl [(.int .i64), (.int .i64), (.int .i64), (.int .i64), (.int .i64), (.int .i64), .bool]), (.int .i64), (.int .i64)] b := (hok _ (.tail _ (.head _)))
  have e_b_19 : D.lst (b.fld 19).toL = b.fld 19 := sl_eta (okL_at k_b (i := 19) rfl)
  have l_b_19 := sl_len (okL_at k_b (i := 19) rfl)
  have k_b_19 := sl_all (okL_at k_b (i := 19) rfl)
  have E_b_19 : ∀ i, i < (b.fld 19).toL.length → D.lst [((b.fld 19).elem i).fld 0, ((b.fld 19).elem i).fld 1, ((b.fld 19).elem i).fld 2, ((b.fld 19).elem i).fld 3, ((b.fld 19).elem i).fld 4, ((b.fld 19).elem i).fld 5, ((b.fld 19).elem i).fld 6] = (b.fld 19).elem i := fun i hi => by simpa [List.range, List.range.loop] using okL_eta (k_b_19 _ (elem_mem hi))
  apply says_den (φ := (phi_104))
  have hr := effAt_range a (b.fld 0).toI
  simp [e_b_19, E_b_19, e_a, e_b, E_a, tree_104, T.says, X.den, O1.den, O2.den, O3.den, callD, XArg.ev, XArg.dat, Callee'.num, backs, DArg.back, Conds.den, cloArgs, phi_104, pd_168, pd_175, pd_183, h, hb, updT]
  (repeat' (first | (with_reducible apply And.intro) | intro _)) <;> first | omega | (rw [if_pos (by omega)]) | (rw [if_neg (by omega)]) | (first | assumption | (exact pd_168 _ (by first | (with_reducible assumption) | omega | assumption | (simp; done) | (simp; omega) | (simp [*]; done) | exact smallE_of (n := 1048576) (by omega) (by omega) | (simp [*] at *; omega) | grind [szS]) _ (by first | rfl | simp | (simp; omega))) | (exact pd_175 _ (by first | (with_reducible assumption) | omega | assumption | (simp; done) | (simp; omega) | (simp [*]; done) | exact smallE_of (n := 1048576) (by omega) (by omega) | (simp [*] at *; omega) | grind [szS]) _ (by first | rfl | simp | (simp; omega))) | (exact pd_183 _ _ _ (by first | rfl | simp | (simp; omega))) | (first | omega | (simp only [IntKind.wrap_i64, maxL] at *; omega) | (simp [IntKind.wrap_i64, maxL] at *; omega)) | rfl | contradiction | grind) | skip
theorem pd_104 (a b : D) (h : smallE a) (hb : ((b.fld 19).toL.length : Int) ≤ 1048576) (Q : List D → Prop) (ho : Q [updT a b]) : PC Try.prog 104 [.sc (.sl [(.int .i64), (.int .i64), (.int .i64), (.int .i64), (.int .i64), (.int .i64), (.int .i64), (.int .i64), (.int .i64), (.int .i64), (.int .i64), (.int .i64), (.int .i64), (.int .i64), (.int .i64), (.int .i64), (.int .i64), (.int .i64), .bool, (.sl [(.int .i64), (.int .i64), (.int .i64), (.int .i64), (.int .i64), (.int .i64), .bool]), (.int .i64), (.int .i64)]) a, .st [(.int .i64), (.int .i64), (.int .i64), (.int .i64), (.int .i64), (.int .i64), (.int .i64), (.int .i64), (.int .i64), (.int .i64), (.int .i64), (.int .i64), (.int .i64), (.int .i64), (.int .i64), (.int .i64), (.int .i64), (.int .i64), .bool, (.sl [(.int .i64), (.int .i64), (.int .i64), (.int .i64), (.int .i64), (.int .i64), .bool]), (.int .i64), (.int .i64)] b] [.sc (.sl [(.int .i64), (.int .i64), (.int .i64), (.int .i64), (.int .i64), (.int .i64), (.int .i64), (.int .i64), (.int .i64), (.int .i64), (.int .i64), (.int .i64), (.int .i64), (.int .i64), (.int .i64), (.int .i64), (.int .i64), (.int .i64), .bool, (.sl [(.int .i64), (.int .i64), (.int .i64), (.int .i64), (.int .i64), (.int .i64), .bool]), (.int .i64), (.int .i64)])] Q := (pc_104 a b h hb).mono fun _ h => h ▸ ho
end Go.Proofs.Ytammagpahfmenaa
