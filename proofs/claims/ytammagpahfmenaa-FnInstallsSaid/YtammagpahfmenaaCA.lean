/- The contracts of the functions that this claim reaches: what each hands back, for all data. -/
import Derived.Test.YtammagpahfmenaaT
import Derived.Test.YtammagpahfmenaaS
import Derived.Deep.LoopGhost
import Derived.Deep.RegionLaw
import Derived.Lib.AppendZerosOnto
import Derived.Lib.Overlaps
import Derived.Lib.SliceRun
import Derived.Lib.Walk
import Derived.ProofKit
import Derived.Shelf.RegionOpenPlain
import Derived.Shelf.Spec.SlicesInsert
import Derived.WalkKit
namespace Go.Proofs.Ytammagpahfmenaa
open Go.Proofs.Ytammagpahfmenaa.Eng
set_option maxRecDepth 100000
set_option maxHeartbeats 2000000
set_option linter.unusedSimpArgs false
set_option linter.unusedVariables false
/- laws.big -/
theorem pc_14 (code : D) : PC Try.prog 14 [.sc (.sl [(.int .u8)]) code] [.sc .bool] fun o => o = [.bool (decide ((1048576 : Int) < code.toL.length))] := by
  refine PC.of_sig mix sig_14 ⟨rfl, trivial⟩ rfl fun hok => ?_
  have e_code := sl_eta (hok _ (.head _))
  have l_code := sl_len (hok _ (.head _))
  have k_code := sl_all (hok _ (.head _))
  apply says_den (φ := fun _ _ => [])
  simp [e_code, tree_14, T.says, X.den, O1.den, O2.den, O3.den, callD, XArg.ev, XArg.dat, Callee'.num, backs, DArg.back, Conds.den, cloArgs]
theorem pd_14 (code : D) (Q : List D → Prop) (ho : Q [.bool (decide ((1048576 : Int) < code.toL.length))]) : PC Try.prog 14 [.sc (.sl [(.int .u8)]) code] [.sc .bool] Q := (pc_14 code).mono fun _ h => h ▸ ho
/- slices.Equal[[]impl.Event,impl.Event] -/
theorem pc_173 (a b : D) : PC Try.prog 173 [.sc (.sl [(.int .i64), (.int .i64), (.int .i64), (.int .i64), (.int .i64), (.int .i64), .bool]) a, .sc (.sl [(.int .i64), (.int .i64), (.int .i64), (.int .i64), (.int .i64), (.int .i64), .bool]) b] [.sc .bool] fun o => o = [.bool (sameEvs a b)] := by
  refine PC.of_sig mix sig_173 ⟨rfl, rfl, trivial⟩ rfl fun hok => ?_
  have e_a := sl_eta (hok _ (.head _))
  have l_a := sl_len (hok _ (.head _))
  have k_a := sl_all (hok _ (.head _))
  have E_a : ∀ i, i < a.toL.length → D.lst [(a.elem i).fld 0, (a.elem i).fld 1, (a.elem i).fld 2, (a.elem i).fld 3, (a.elem i).fld 4, (a.elem i).fld 5, (a.elem i).fld 6] = a.elem i := fun i hi => by simpa [List.range, List.range.loop] using okL_eta (k_a _ (elem_mem hi))
  have e_b := sl_eta (hok _ (.tail _ (.head _)))
  have l_b := sl_len (hok _ (.tail _ (.head _)))
  have k_b := sl_all (hok _ (.tail _ (.head _)))
  have E_b : ∀ i, i < b.toL.length → D.lst [(b.elem i).fld 0, (b.elem i).fld 1, (b.elem i).fld 2, (b.elem i).fld 3, (b.elem i).fld 4, (b.elem i).fld 5, (b.elem i).fld 6] = b.elem i := fun i hi => by simpa [List.range, List.range.loop] using okL_eta (k_b _ (elem_mem hi))
  apply says_den (φ := fun _ _ => [])
  simp [e_a, e_b, E_a, E_b, tree_173, T.says, X.den, O1.den, O2.den, O3.den, callD, XArg.ev, XArg.dat, Callee'.num, backs, DArg.back, Conds.den, cloArgs]
  (repeat' (first | (with_reducible apply And.intro) | intro _))
  · grind [sameEvs]
  refine den_for a.toL.length 0 (fun i => [.int i]) (fun i => ∀ j, j < i → sameEv (a.elem j) (b.elem j) = true) (by simp) (by simp [X.den]) (by simp) fun i hi hR => ?_
  apply says_den (φ := fun _ _ => [])
  simp [e_a, e_b, E_a, E_b, tree_173, T.says, X.den, O1.den, O2.den, O3.den, callD, XArg.ev, XArg.dat, Callee'.num, backs, DArg.back, Conds.den, cloArgs]
  (repeat' (first | (with_reducible apply And.intro) | intro _))
  · omega
  · omega
  · have : sameEv (a.elem i) (b.elem i) = false := by grind [sameEv]
    simp [sameEvs, allR_false (p := fun i => sameEv (a.elem i) (b.elem i)) (i := i) ‹_› this]
  · omega
  · (first | omega | (simp only [IntKind.wrap_i64, maxL] at *; omega) | (simp [IntKind.wrap_i64, maxL] at *; omega))
  · rename_i j hj
    by_cases hji : j = i
    · subst hji; grind [sameEv]
    · exact hR j (by omega)
  · have := allR_true (p := fun i => sameEv (a.elem i) (b.elem i)) (n := a.toL.length) (fun j hj => hR j (by omega))
    simp only [sameEvs, this, Bool.and_true, decide_eq_true_eq]
    omega
theorem pd_173 (a b : D) (Q : List D → Prop) (ho : Q [.bool (sameEvs a b)]) : PC Try.prog 173 [.sc (.sl [(.int .i64), (.int .i64), (.int .i64), (.int .i64), (.int .i64), (.int .i64), .bool]) a, .sc (.sl [(.int .i64), (.int .i64), (.int .i64), (.int .i64), (.int .i64), (.int .i64), .bool]) b] [.sc .bool] Q := (pc_173 a b).mono fun _ h => h ▸ ho
/- impl.sameAct -/
def phi_167 : Nat → List D → List D
  | 173, [a, b] => [.bool (sameEvs a b)]
  | _, _ => []
theorem pc_167 (a b : D) : PC Try.prog 167 [.st [(.int .i64), (.int .i64), (.int .i64), (.int .i64), (.int .i64), .bool, (.sl [(.int .i64), (.int .i64), (.int .i64), (.int .i64), (.int .i64), (.int .i64), .bool])] a, .st [(.int .i64), (.int .i64), (.int .i64), (.int .i64), (.int .i64), .bool, (.sl [(.int .i64), (.int .i64), (.int .i64), (.int .i64), (.int .i64), (.int .i64), .bool])] b] [.sc .bool] fun o => o = [.bool (sameAct a b)] := by
  refine PC.of_sig mix sig_167 ⟨rfl, rfl, trivial⟩ rfl fun hok => ?_
  have e_a : D.lst [a.fld 0, a.fld 1, a.fld 2, a.fld 3, a.fld 4, a.fld 5, a.fld 6] = a := by simpa [List.range, List.range.loop] using okL_eta (hok _ (.head _))
  have k_a : okL [(.int .i64), (.int .i64), (.int .i64), (.int .i64), (.int .i64), .bool, (.sl [(.int .i64), (.int .i64), (.int .i64), (.int .i64), (.int .i64), (.int .i64), .bool])] a := (hok _ (.head _))
  have e_a_6 : D.lst (a.fld 6).toL = a.fld 6 := sl_eta (okL_at k_a (i := 6) rfl)
  have l_a_6 := sl_len (okL_at k_a (i := 6) rfl)
  have k_a_6 := sl_all (okL_at k_a (i := 6) rfl)
  have E_a_6 : ∀ i, i < (a.fld 6).toL.length → D.lst [((a.fld 6).elem i).fld 0, ((a.fld 6).elem i).fld 1, ((a.fld 6).elem i).fld 2, ((a.fld 6).elem i).fld 3, ((a.fld 6).elem i).fld 4, ((a.fld 6).elem i).fld 5, ((a.fld 6).elem i).fld 6] = (a.fld 6).elem i := fun i hi => by simpa [List.range, List.range.loop] using okL_eta (k_a_6 _ (elem_mem hi))
  have e_b : D.lst [b.fld 0, b.fld 1, b.fld 2, b.fld 3, b.fld 4, b.fld 5, b.fld 6] = b := by simpa [List.range, List.range.loop] using okL_eta (hok _ (.tail _ (.head _)))
  have k_b : okL [(.int .i64), (.int .i64), (.int .i64), (.int .i64), (.int .i64), .bool, (.sl [(.int .i64), (.int .i64), (.int .i64), (.int .i64), (.int .i64), (.int .i64), .bool])] b := (hok _ (.tail _ (.head _)))
  have e_b_6 : D.lst (b.fld 6).toL = b.fld 6 := sl_eta (okL_at k_b (i := 6) rfl)
  have l_b_6 := sl_len (okL_at k_b (i := 6) rfl)
  have k_b_6 := sl_all (okL_at k_b (i := 6) rfl)
  have E_b_6 : ∀ i, i < (b.fld 6).toL.length → D.lst [((b.fld 6).elem i).fld 0, ((b.fld 6).elem i).fld 1, ((b.fld 6).elem i).fld 2, ((b.fld 6).elem i).fld 3, ((b.fld 6).elem i).fld 4, ((b.fld 6).elem i).fld 5, ((b.fld 6).elem i).fld 6] = (b.fld 6).elem i := fun i hi => by simpa [List.range, List.range.loop] using okL_eta (k_b_6 _ (elem_mem hi))
  apply says_den (φ := (phi_167))
  simp [e_a_6, E_a_6, e_b_6, E_b_6, e_a, e_b, tree_167, T.says, X.den, O1.den, O2.den, O3.den, callD, XArg.ev, XArg.dat, Callee'.num, backs, DArg.back, Conds.den, cloArgs, phi_167, pd_173, sameAct]
  all_goals grind
theorem pd_167 (a b : D) (Q : List D → Prop) (ho : Q [.bool (sameAct a b)]) : PC Try.prog 167 [.st [(.int .i64), (.int .i64), (.int .i64), (.int .i64), (.int .i64), .bool, (.sl [(.int .i64), (.int .i64), (.int .i64), (.int .i64), (.int .i64), (.int .i64), .bool])] a, .st [(.int .i64), (.int .i64), (.int .i64), (.int .i64), (.int .i64), .bool, (.sl [(.int .i64), (.int .i64), (.int .i64), (.int .i64), (.int .i64), (.int .i64), .bool])] b] [.sc .bool] Q := (pc_167 a b).mono fun _ h => h ▸ ho
/- impl.SameEffect -/
def phi_80 : Nat → List D → List D
  | 167, [a, b] => [.bool (sameAct a b)]
  | _, _ => []
theorem pc_80 (a b : D) : PC Try.prog 80 [.st [(.int .i64), (.int .i64), (.int .i64), (.int .i64), (.int .i64), (.int .i64), (.int .i64), (.int .i64), (.int .i64), (.int .i64), (.int .i64), (.int .i64), (.int .i64), (.int .i64), (.int .i64), (.int .i64), (.int .i64), (.int .i64), .bool, (.sl [(.int .i64), (.int .i64), (.int .i64), (.int .i64), (.int .i64), (.int .i64), .bool]), (.int .i64), (.int .i64)] a, .st [(.int .i64), (.int .i64), (.int .i64), (.int .i64), (.int .i64), (.int .i64), (.int .i64), (.int .i64), (.int .i64), (.int .i64), (.int .i64), (.int .i64), (.int .i64), (.int .i64), (.int .i64), (.int .i64), (.int .i64), (.int .i64), .bool, (.sl [(.int .i64), (.int .i64), (.int .i64), (.int .i64), (.int .i64), (.int .i64), .bool]), (.int .i64), (.int .i64)] b] [.sc .bool] fun o => o = [.bool (sameEffect a b)] := by
  refine PC.of_sig mix sig_80 ⟨rfl, rfl, trivial⟩ rfl fun hok => ?_
  have e_a : D.lst [a.fld 0, a.fld 1, a.fld 2, a.fld 3, a.fld 4, a.fld 5, a.fld 6, a.fld 7, a.fld 8, a.fld 9, a.fld 10, a.fld 11, a.fld 12, a.fld 13, a.fld 14, a.fld 15, a.fld 16, a.fld 17, a.fld 18, a.fld 19, a.fld 20, a.fld 21] = a := by simpa [List.range, List.range.loop] using okL_eta (hok _ (.head _))
  have k_a : okL [(.int .i64), (.int .i64), (.int .i64), (.int .i64), (.int .i64), (.int .i64), (.int .i64), (.int .i64), (.int .i64), (.int .i64), (.int .i64), (.int .i64), (.int .i64), (.int .i64), (.int .i64), (.int .i64), (.int .i64), (.int .i64), .bool, (.sl [(.int .i64), (.int .i64), (.int .i64), (.int .i64), (.int .i64), (.int .i64), .bool]), (.int .i64), (.int .i64)] a := (hok _ (.head _))
  have e_a_19 : D.lst (a.fld 19).toL = a.fld 19 := sl_eta (okL_at k_a (i := 19) rfl)
  have l_a_19 := sl_len (okL_at k_a (i := 19) rfl)
  have k_a_19 := sl_all (okL_at k_a (i := 19) rfl)
  have E_a_19 : ∀ i, i < (a.fld 19).toL.length → D.lst [((a.fld 19).elem i).fld 0, ((a.fld 19).elem i).fld 1, ((a.fld 19).elem i).fld 2, ((a.fld 19).elem i).fld 3, ((a.fld 19).elem i).fld 4, ((a.fld 19).elem i).fld 5, ((a.fld 19).elem i).fld 6] = (a.fld 19).elem i := fun i hi => by simpa [List.range, List.range.loop] using okL_eta (k_a_19 _ (elem_mem hi))
  have e_b : D.lst [b.fld 0, b.fld 1, b.fld 2, b.fld 3, b.fld 4, b.fld 5, b.fld 6, b.fld 7, b.fld 8, b.fld 9, b.fld 10, b.fld 11, b.fld 12, b.fld 13, b.fld 14, b.fld 15, b.fld 16, b.fld 17, b.fld 18, b.fld 19, b.fld 20, b.fld 21] = b := by simpa [List.range, List.range.loop] using okL_eta (hok _ (.tail _ (.head _)))
  have k_b : okL [(.int .i64), (.int .i64), (.int .i64), (.int .i64), (.int .i64), (.int .i64), (.int .i64), (.int .i64), (.int .i64), (.int .i64), (.int .i64), (.int .i64), (.int .i64), (.int .i64), (.int .i64), (.int .i64), (.int .i64), (.int .i64), .bool, (.sl [(.int .i64), (.int .i64), (.int .i64), (.int .i64), (.int .i64), (.int .i64), .bool]), (.int .i64), (.int .i64)] b := (hok _ (.tail _ (.head _)))
  have e_b_19 : D.lst (b.fld 19).toL = b.fld 19 := sl_eta (okL_at k_b (i := 19) rfl)
  have l_b_19 := sl_len (okL_at k_b (i := 19) rfl)
  have k_b_19 := sl_all (okL_at k_b (i := 19) rfl)
  have E_b_19 : ∀ i, i < (b.fld 19).toL.length → D.lst [((b.fld 19).elem i).fld 0, ((b.fld 19).elem i).fld 1, ((b.fld 19).elem i).fld 2, ((b.fld 19).elem i).fld 3, ((b.fld 19).elem i).fld 4, ((b.fld 19).elem i).fld 5, ((b.fld 19).elem i).fld 6] = (b.fld 19).elem i := fun i hi => by simpa [List.range, List.range.loop] using okL_eta (k_b_19 _ (elem_mem hi))
  apply says_den (φ := (phi_80))
  simp [e_a_19, E_a_19, e_b_19, E_b_19, e_a, e_b, tree_80, T.says, X.den, O1.den, O2.den, O3.den, callD, XArg.ev, XArg.dat, Callee'.num, backs, DArg.back, Conds.den, cloArgs, phi_80, pd_167, sameEffect, sameAct]
  all_goals grind
theorem pd_80 (a b : D) (Q : List D → Prop) (ho : Q [.bool (sameEffect a b)]) : PC Try.prog 80 [.st [(.int .i64), (.int .i64), (.int .i64), (.int .i64), (.int .i64), (.int .i64), (.int .i64), (.int .i64), (.int .i64), (.int .i64), (.int .i64), (.int .i64), (.int .i64), (.int .i64), (.int .i64), (.int .i64), (.int .i64), (.int .i64), .bool, (.sl [(.int .i64), (.int .i64), (.int .i64), (.int .i64), (.int .i64), (.int .i64), .bool]), (.int .i64), (.int .i64)] a, .st [(.int .i64), (.int .i64), (.int .i64), (.int .i64), (.int .i64), (.int .i64), (.int .i64), (.int .i64), (.int .i64), (.int .i64), (.int .i64), (.int .i64), (.int .i64), (.int .i64), (.int .i64), (.int .i64), (.int .i64), (.int .i64), .bool, (.sl [(.int .i64), (.int .i64), (.int .i64), (.int .i64), (.int .i64), (.int .i64), .bool]), (.int .i64), (.int .i64)] b] [.sc .bool] Q := (pc_80 a b).mono fun _ h => h ▸ ho
/- impl.from -/
theorem pc_123 (a b c : D) : PC Try.prog 123 [.sc (.int .i64) a, .sc (.int .i64) b, .sc (.int .i64) c] [.sc .bool] fun o => o = [.bool (inR a.toI b.toI c.toI)] := by
  refine PC.of_sig mix sig_123 ⟨rfl, rfl, rfl, trivial⟩ rfl fun hok => ?_
  have e_a := int_eta (hok _ (.head _))
  have b_a := int_range (hok _ (.head _))
  have e_b := int_eta (hok _ (.tail _ (.head _)))
  have b_b := int_range (hok _ (.tail _ (.head _)))
  have e_c := int_eta (hok _ (.tail _ (.tail _ (.head _))))
  have b_c := int_range (hok _ (.tail _ (.tail _ (.head _))))
  apply says_den (φ := fun _ _ => [])
  simp [e_a, e_b, e_c, tree_123, T.says, X.den, O1.den, O2.den, O3.den, callD, XArg.ev, XArg.dat, Callee'.num, backs, DArg.back, Conds.den, cloArgs, inR]
theorem pd_123 (a b c : D) (Q : List D → Prop) (ho : Q [.bool (inR a.toI b.toI c.toI)]) : PC Try.prog 123 [.sc (.int .i64) a, .sc (.int .i64) b, .sc (.int .i64) c] [.sc .bool] Q := (pc_123 a b c).mono fun _ h => h ▸ ho
/- impl.isKind -/
def phi_122 : Nat → List D → List D
  | 123, [a, b, c] => [.bool (inR a.toI b.toI c.toI)]
  | _, _ => []
theorem pc_122 (a : D) : PC Try.prog 122 [.sc (.int .i64) a] [.sc .bool] fun o => o = [.bool (inR a.toI 1 6)] := by
  refine PC.of_sig mix sig_122 ⟨rfl, trivial⟩ rfl fun hok => ?_
  have e_a := int_eta (hok _ (.head _))
  have b_a := int_range (hok _ (.head _))
  apply says_den (φ := (phi_122))
  simp [e_a, tree_122, T.says, X.den, O1.den, O2.den, O3.den, callD, XArg.ev, XArg.dat, Callee'.num, backs, DArg.back, Conds.den, cloArgs, phi_122, pd_123]
theorem pd_122 (a : D) (Q : List D → Prop) (ho : Q [.bool (inR a.toI 1 6)]) : PC Try.prog 122 [.sc (.int .i64) a] [.sc .bool] Q := (pc_122 a).mono fun _ h => h ▸ ho
/- impl.isTraits -/
def phi_124 : Nat → List D → List D
  | 123, [a, b, c] => [.bool (inR a.toI b.toI c.toI)]
  | _, _ => []
theorem pc_124 (a : D) : PC Try.prog 124 [.sc (.int .i64) a] [.sc .bool] fun o => o = [.bool (inR a.toI 0 63)] := by
  refine PC.of_sig mix sig_124 ⟨rfl, trivial⟩ rfl fun hok => ?_
  have e_a := int_eta (hok _ (.head _))
  have b_a := int_range (hok _ (.head _))
  apply says_den (φ := (phi_124))
  simp [e_a, tree_124, T.says, X.den, O1.den, O2.den, O3.den, callD, XArg.ev, XArg.dat, Callee'.num, backs, DArg.back, Conds.den, cloArgs, phi_124, pd_123]
theorem pd_124 (a : D) (Q : List D → Prop) (ho : Q [.bool (inR a.toI 0 63)]) : PC Try.prog 124 [.sc (.int .i64) a] [.sc .bool] Q := (pc_124 a).mono fun _ h => h ▸ ho
/- impl.isAmount -/
def phi_125 : Nat → List D → List D
  | 123, [a, b, c] => [.bool (inR a.toI b.toI c.toI)]
  | _, _ => []
theorem pc_125 (a : D) : PC Try.prog 125 [.sc (.int .i64) a] [.sc .bool] fun o => o = [.bool (inR a.toI 0 2147483647)] := by
  refine PC.of_sig mix sig_125 ⟨rfl, trivial⟩ rfl fun hok => ?_
  have e_a := int_eta (hok _ (.head _))
  have b_a := int_range (hok _ (.head _))
  apply says_den (φ := (phi_125))
  simp [e_a, tree_125, T.says, X.den, O1.den, O2.den, O3.den, callD, XArg.ev, XArg.dat, Callee'.num, backs, DArg.back, Conds.den, cloArgs, phi_125, pd_123]
theorem pd_125 (a : D) (Q : List D → Prop) (ho : Q [.bool (inR a.toI 0 2147483647)]) : PC Try.prog 125 [.sc (.int .i64) a] [.sc .bool] Q := (pc_125 a).mono fun _ h => h ▸ ho
/- impl.PatOk -/
def phi_26 : Nat → List D → List D
  | 122, [a] => [.bool (inR a.toI 1 6)]
  | 123, [a, b, c] => [.bool (inR a.toI b.toI c.toI)]
  | 124, [a] => [.bool (inR a.toI 0 63)]
  | 125, [a] => [.bool (inR a.toI 0 2147483647)]
  | _, _ => []
theorem pc_26 (d : D) : PC Try.prog 26 [.st [(.int .i64), (.int .i64), (.int .i64), (.int .i64), (.int .i64), (.int .i64), (.int .i64)] d] [.sc .bool] fun o => o = [.bool (patOk d)] := by
  refine PC.of_sig mix sig_26 ⟨rfl, trivial⟩ rfl fun hok => ?_
  have e_d : D.lst [d.fld 0, d.fld 1, d.fld 2, d.fld 3, d.fld 4, d.fld 5, d.fld 6] = d := by simpa [List.range, List.range.loop] using okL_eta (hok _ (.head _))
  have k_d : okL [(.int .i64), (.int .i64), (.int .i64), (.int .i64), (.int .i64), (.int .i64), (.int .i64)] d := (hok _ (.head _))
  apply says_den (φ := (phi_26))
  simp [e_d, tree_26, T.says, X.den, O1.den, O2.den, O3.den, callD, XArg.ev, XArg.dat, Callee'.num, backs, DArg.back, Conds.den, cloArgs, phi_26, pd_122, pd_123, pd_124, pd_125]
  (repeat' (first | (with_reducible apply And.intro) | intro _)) <;> grind [patOk]
theorem pd_26 (d : D) (Q : List D → Prop) (ho : Q [.bool (patOk d)]) : PC Try.prog 26 [.st [(.int .i64), (.int .i64), (.int .i64), (.int .i64), (.int .i64), (.int .i64), (.int .i64)] d] [.sc .bool] Q := (pc_26 d).mono fun _ h => h ▸ ho
/- impl.Bound -/
theorem pc_131 (a : D) : PC Try.prog 131 [.sc (.int .i64) a] [.sc (.int .i64)] fun o => o = [.int (bound a.toI)] := by
  refine PC.of_sig mix sig_131 ⟨rfl, trivial⟩ rfl fun hok => ?_
  have e_a := int_eta (hok _ (.head _))
  have b_a := int_range (hok _ (.head _))
  apply says_den (φ := fun _ _ => [])
  simp [e_a, tree_131, T.says, X.den, O1.den, O2.den, O3.den, callD, XArg.ev, XArg.dat, Callee'.num, backs, DArg.back, Conds.den, cloArgs]
  (repeat' (first | (with_reducible apply And.intro) | intro _)) <;> grind [bound]
theorem pd_131 (a : D) (Q : List D → Prop) (ho : Q [.int (bound a.toI)]) : PC Try.prog 131 [.sc (.int .i64) a] [.sc (.int .i64)] Q := (pc_131 a).mono fun _ h => h ▸ ho
/- impl.GuardOk -/
def phi_34 : Nat → List D → List D
  | 123, [a, b, c] => [.bool (inR a.toI b.toI c.toI)]
  | 131, [a] => [.int (bound a.toI)]
  | _, _ => []
theorem pc_34 (d : D) : PC Try.prog 34 [.st [(.int .i64), (.int .i64)] d] [.sc .bool] fun o => o = [.bool (guardOk d)] := by
  refine PC.of_sig mix sig_34 ⟨rfl, trivial⟩ rfl fun hok => ?_
  have e_d : D.lst [d.fld 0, d.fld 1] = d := by simpa [List.range, List.range.loop] using okL_eta (hok _ (.head _))
  have k_d : okL [(.int .i64), (.int .i64)] d := (hok _ (.head _))
  apply says_den (φ := (phi_34))
  simp [e_d, tree_34, T.says, X.den, O1.den, O2.den, O3.den, callD, XArg.ev, XArg.dat, Callee'.num, backs, DArg.back, Conds.den, cloArgs, phi_34, pd_123, pd_131]
  (repeat' (first | (with_reducible apply And.intro) | intro _)) <;> grind [guardOk, inR, bound]
theorem pd_34 (d : D) (Q : List D → Prop) (ho : Q [.bool (guardOk d)]) : PC Try.prog 34 [.st [(.int .i64), (.int .i64)] d] [.sc .bool] Q := (pc_34 d).mono fun _ h => h ▸ ho
/- impl.isId -/
def phi_142 : Nat → List D → List D
  | 123, [a, b, c] => [.bool (inR a.toI b.toI c.toI)]
  | _, _ => []
theorem pc_142 (a : D) : PC Try.prog 142 [.sc (.int .i64) a] [.sc .bool] fun o => o = [.bool (inR a.toI 1 99)] := by
  refine PC.of_sig mix sig_142 ⟨rfl, trivial⟩ rfl fun hok => ?_
  have e_a := int_eta (hok _ (.head _))
  have b_a := int_range (hok _ (.head _))
  apply says_den (φ := (phi_142))
  simp [e_a, tree_142, T.says, X.den, O1.den, O2.den, O3.den, callD, XArg.ev, XArg.dat, Callee'.num, backs, DArg.back, Conds.den, cloArgs, phi_142, pd_123]
theorem pd_142 (a : D) (Q : List D → Prop) (ho : Q [.bool (inR a.toI 1 99)]) : PC Try.prog 142 [.sc (.int .i64) a] [.sc .bool] Q := (pc_142 a).mono fun _ h => h ▸ ho
/- impl.isPlayer -/
def phi_143 : Nat → List D → List D
  | 123, [a, b, c] => [.bool (inR a.toI b.toI c.toI)]
  | _, _ => []
theorem pc_143 (a : D) : PC Try.prog 143 [.sc (.int .i64) a] [.sc .bool] fun o => o = [.bool (inR a.toI 0 2)] := by
  refine PC.of_sig mix sig_143 ⟨rfl, trivial⟩ rfl fun hok => ?_
  have e_a := int_eta (hok _ (.head _))
  have b_a := int_range (hok _ (.head _))
  apply says_den (φ := (phi_143))
  simp [e_a, tree_143, T.says, X.den, O1.den, O2.den, O3.den, callD, XArg.ev, XArg.dat, Callee'.num, backs, DArg.back, Conds.den, cloArgs, phi_143, pd_123]
theorem pd_143 (a : D) (Q : List D → Prop) (ho : Q [.bool (inR a.toI 0 2)]) : PC Try.prog 143 [.sc (.int .i64) a] [.sc .bool] Q := (pc_143 a).mono fun _ h => h ▸ ho
/- impl.isZone -/
def phi_144 : Nat → List D → List D
  | 123, [a, b, c] => [.bool (inR a.toI b.toI c.toI)]
  | _, _ => []
theorem pc_144 (a : D) : PC Try.prog 144 [.sc (.int .i64) a] [.sc .bool] fun o => o = [.bool (inR a.toI 1 4)] := by
  refine PC.of_sig mix sig_144 ⟨rfl, trivial⟩ rfl fun hok => ?_
  have e_a := int_eta (hok _ (.head _))
  have b_a := int_range (hok _ (.head _))
  apply says_den (φ := (phi_144))
  simp [e_a, tree_144, T.says, X.den, O1.den, O2.den, O3.den, callD, XArg.ev, XArg.dat, Callee'.num, backs, DArg.back, Conds.den, cloArgs, phi_144, pd_123]
theorem pd_144 (a : D) (Q : List D → Prop) (ho : Q [.bool (inR a.toI 1 4)]) : PC Try.prog 144 [.sc (.int .i64) a] [.sc .bool] Q := (pc_144 a).mono fun _ h => h ▸ ho
/- impl.onPiece -/
def phi_150 : Nat → List D → List D
  | 142, [a] => [.bool (inR a.toI 1 99)]
  | _, _ => []
theorem pc_150 (e : D) : PC Try.prog 150 [.st [(.int .i64), (.int .i64), (.int .i64), (.int .i64), (.int .i64), (.int .i64), .bool] e] [.sc .bool] fun o => o = [.bool (onPiece e)] := by
  refine PC.of_sig mix sig_150 ⟨rfl, trivial⟩ rfl fun hok => ?_
  have e_e : D.lst [e.fld 0, e.fld 1, e.fld 2, e.fld 3, e.fld 4, e.fld 5, e.fld 6] = e := by simpa [List.range, List.range.loop] using okL_eta (hok _ (.head _))
  have k_e : okL [(.int .i64), (.int .i64), (.int .i64), (.int .i64), (.int .i64), (.int .i64), .bool] e := (hok _ (.head _))
  apply says_den (φ := (phi_150))
  simp [e_e, tree_150, T.says, X.den, O1.den, O2.den, O3.den, callD, XArg.ev, XArg.dat, Callee'.num, backs, DArg.back, Conds.den, cloArgs, phi_150, pd_142, onPiece]
theorem pd_150 (e : D) (Q : List D → Prop) (ho : Q [.bool (onPiece e)]) : PC Try.prog 150 [.st [(.int .i64), (.int .i64), (.int .i64), (.int .i64), (.int .i64), (.int .i64), .bool] e] [.sc .bool] Q := (pc_150 e).mono fun _ h => h ▸ ho
/- impl.onPlayer -/
def phi_151 : Nat → List D → List D
  | 143, [a] => [.bool (inR a.toI 0 2)]
  | _, _ => []
theorem pc_151 (e : D) : PC Try.prog 151 [.st [(.int .i64), (.int .i64), (.int .i64), (.int .i64), (.int .i64), (.int .i64), .bool] e] [.sc .bool] fun o => o = [.bool (onPlayer e)] := by
  refine PC.of_sig mix sig_151 ⟨rfl, trivial⟩ rfl fun hok => ?_
  have e_e : D.lst [e.fld 0, e.fld 1, e.fld 2, e.fld 3, e.fld 4, e.fld 5, e.fld 6] = e := by simpa [List.range, List.range.loop] using okL_eta (hok _ (.head _))
  have k_e : okL [(.int .i64), (.int .i64), (.int .i64), (.int .i64), (.int .i64), (.int .i64), .bool] e := (hok _ (.head _))
  apply says_den (φ := (phi_151))
  simp [e_e, tree_151, T.says, X.den, O1.den, O2.den, O3.den, callD, XArg.ev, XArg.dat, Callee'.num, backs, DArg.back, Conds.den, cloArgs, phi_151, pd_143, onPlayer]
theorem pd_151 (e : D) (Q : List D → Prop) (ho : Q [.bool (onPlayer e)]) : PC Try.prog 151 [.st [(.int .i64), (.int .i64), (.int .i64), (.int .i64), (.int .i64), (.int .i64), .bool] e] [.sc .bool] Q := (pc_151 e).mono fun _ h => h ▸ ho
/- impl.EventOk -/
def phi_58 : Nat → List D → List D
  | 125, [a] => [.bool (inR a.toI 0 2147483647)]
  | 142, [a] => [.bool (inR a.toI 1 99)]
  | 144, [a] => [.bool (inR a.toI 1 4)]
  | 150, [e] => [.bool (onPiece e)]
  | 151, [e] => [.bool (onPlayer e)]
  | _, _ => []
theorem pc_58 (e : D) : PC Try.prog 58 [.st [(.int .i64), (.int .i64), (.int .i64), (.int .i64), (.int .i64), (.int .i64), .bool] e] [.sc .bool] fun o => o = [.bool (eventOk e)] := by
  refine PC.of_sig mix sig_58 ⟨rfl, trivial⟩ rfl fun hok => ?_
  have e_e : D.lst [e.fld 0, e.fld 1, e.fld 2, e.fld 3, e.fld 4, e.fld 5, e.fld 6] = e := by simpa [List.range, List.range.loop] using okL_eta (hok _ (.head _))
  have k_e : okL [(.int .i64), (.int .i64), (.int .i64), (.int .i64), (.int .i64), (.int .i64), .bool] e := (hok _ (.head _))
  apply says_den (φ := (phi_58))
  simp [e_e, tree_58, T.says, X.den, O1.den, O2.den, O3.den, callD, XArg.ev, XArg.dat, Callee'.num, backs, DArg.back, Conds.den, cloArgs, phi_58, pd_125, pd_142, pd_144, pd_150, pd_151]
  (repeat' (first | (with_reducible apply And.intro) | intro _)) <;> grind [eventOk, inR]
theorem pd_58 (e : D) (Q : List D → Prop) (ho : Q [.bool (eventOk e)]) : PC Try.prog 58 [.st [(.int .i64), (.int .i64), (.int .i64), (.int .i64), (.int .i64), (.int .i64), .bool] e] [.sc .bool] Q := (pc_58 e).mono fun _ h => h ▸ ho
/- impl.partOk -/
def phi_147 : Nat → List D → List D
  | 58, [e] => [.bool (eventOk e)]
  | _, _ => []
theorem pc_147 (e : D) : PC Try.prog 147 [.st [(.int .i64), (.int .i64), (.int .i64), (.int .i64), (.int .i64), (.int .i64), .bool] e] [.sc .bool] fun o => o = [.bool (partOk e)] := by
  refine PC.of_sig mix sig_147 ⟨rfl, trivial⟩ rfl fun hok => ?_
  have e_e : D.lst [e.fld 0, e.fld 1, e.fld 2, e.fld 3, e.fld 4, e.fld 5, e.fld 6] = e := by simpa [List.range, List.range.loop] using okL_eta (hok _ (.head _))
  have k_e : okL [(.int .i64), (.int .i64), (.int .i64), (.int .i64), (.int .i64), (.int .i64), .bool] e := (hok _ (.head _))
  apply says_den (φ := (phi_147))
  have hneg : (e.fld 4).toI = -1 → eventOk e = false := by intro h; simp [eventOk, inR, h]
  simp [e_e, tree_147, T.says, X.den, O1.den, O2.den, O3.den, callD, XArg.ev, XArg.dat, Callee'.num, backs, DArg.back, Conds.den, cloArgs, phi_147, pd_58, partOk, ev0]
  all_goals grind
theorem pd_147 (e : D) (Q : List D → Prop) (ho : Q [.bool (partOk e)]) : PC Try.prog 147 [.st [(.int .i64), (.int .i64), (.int .i64), (.int .i64), (.int .i64), (.int .i64), .bool] e] [.sc .bool] Q := (pc_147 e).mono fun _ h => h ▸ ho
/- impl.ActOk$1 -/
def phi_146 : Nat → List D → List D
  | 147, [e] => [.bool (partOk e)]
  | _, _ => []
theorem pc_146 (e : D) : PC Try.prog 146 [.st [(.int .i64), (.int .i64), (.int .i64), (.int .i64), (.int .i64), (.int .i64), .bool] e] [.sc .bool] fun o => o = [.bool (!partOk e)] := by
  refine PC.of_sig mix sig_146 ⟨rfl, trivial⟩ rfl fun hok => ?_
  have e_e : D.lst [e.fld 0, e.fld 1, e.fld 2, e.fld 3, e.fld 4, e.fld 5, e.fld 6] = e := by simpa [List.range, List.range.loop] using okL_eta (hok _ (.head _))
  have k_e : okL [(.int .i64), (.int .i64), (.int .i64), (.int .i64), (.int .i64), (.int .i64), .bool] e := (hok _ (.head _))
  apply says_den (φ := (phi_146))
  simp [e_e, tree_146, T.says, X.den, O1.den, O2.den, O3.den, callD, XArg.ev, XArg.dat, Callee'.num, backs, DArg.back, Conds.den, cloArgs, phi_146, pd_147]
theorem pd_146 (e : D) (Q : List D → Prop) (ho : Q [.bool (!partOk e)]) : PC Try.prog 146 [.st [(.int .i64), (.int .i64), (.int .i64), (.int .i64), (.int .i64), (.int .i64), .bool] e] [.sc .bool] Q := (pc_146 e).mono fun _ h => h ▸ ho
/- slices.IndexFunc[[]impl.Event,impl.Event] -/
def phi_198 : Nat → List D → List D
  | 146, [e] => [.bool (!partOk e)]
  | 0, [e] => [.bool (!partOk e)]
  | _, _ => []
theorem pc_198 (a : D) : PC Try.prog 198 [.sc (.sl [(.int .i64), (.int .i64), (.int .i64), (.int .i64), (.int .i64), (.int .i64), .bool]) a, .clo 146 []] [.sc (.int .i64)] fun o => o = [.int (findR (fun i => !partOk (a.elem i)) a.toL.length)] := by
  refine PC.of_sig mix sig_198 ⟨rfl, trivial, trivial⟩ rfl fun hok => ?_
  have e_a := sl_eta (hok _ (.head _))
  have l_a := sl_len (hok _ (.head _))
  have k_a := sl_all (hok _ (.head _))
  have E_a : ∀ i, i < a.toL.length → D.lst [(a.elem i).fld 0, (a.elem i).fld 1, (a.elem i).fld 2, (a.elem i).fld 3, (a.elem i).fld 4, (a.elem i).fld 5, (a.elem i).fld 6] = a.elem i := fun i hi => by simpa [List.range, List.range.loop] using okL_eta (k_a _ (elem_mem hi))
  apply says_den (φ := (phi_198))
  simp [e_a, E_a, tree_198, T.says, X.den, O1.den, O2.den, O3.den, callD, XArg.ev, XArg.dat, Callee'.num, backs, DArg.back, Conds.den, cloArgs, phi_198, pd_146]
  refine fun _ => ?_
  refine den_for a.toL.length 0 (fun i => [.int i]) (fun i => ∀ j, j < i → (!partOk (a.elem j)) = false) (by simp) (by simp [X.den]) (by simp) fun i hi hR => ?_
  apply says_den (φ := (phi_198))
  by_cases hlt : i < a.toL.length
  · simp [e_a, E_a, tree_198, T.says, X.den, O1.den, O2.den, O3.den, callD, XArg.ev, XArg.dat, Callee'.num, backs, DArg.back, Conds.den, cloArgs, phi_198, pd_146, hlt]
    (repeat' (first | (with_reducible apply And.intro) | intro _))
    · exact (findR_some (p := fun i => !partOk (a.elem i)) hlt (by simp_all) hR).symm
    · (first | omega | (simp only [IntKind.wrap_i64, maxL] at *; omega) | (simp [IntKind.wrap_i64, maxL] at *; omega))
    · grind
  · simp [e_a, E_a, tree_198, T.says, X.den, O1.den, O2.den, O3.den, callD, XArg.ev, XArg.dat, Callee'.num, backs, DArg.back, Conds.den, cloArgs, phi_198, pd_146, hlt]
    (repeat' (first | (with_reducible apply And.intro) | intro _))
    · exact (findR_none fun j hj => hR j (by omega)).symm
theorem pd_198 (a : D) (Q : List D → Prop) (ho : Q [.int (findR (fun i => !partOk (a.elem i)) a.toL.length)]) : PC Try.prog 198 [.sc (.sl [(.int .i64), (.int .i64), (.int .i64), (.int .i64), (.int .i64), (.int .i64), .bool]) a, .clo 146 []] [.sc (.int .i64)] Q := (pc_198 a).mono fun _ h => h ▸ ho
/- slices.ContainsFunc[[]impl.Event,impl.Event] -/
def phi_145 : Nat → List D → List D
  | 146, [e] => [.bool (!partOk e)]
  | 198, [a, _] => [.int (findR (fun i => !partOk (a.elem i)) a.toL.length)]
  | 0, [e] => [.bool (!partOk e)]
  | _, _ => []
theorem pc_145 (a : D) : PC Try.prog 145 [.sc (.sl [(.int .i64), (.int .i64), (.int .i64), (.int .i64), (.int .i64), (.int .i64), .bool]) a, .clo 146 []] [.sc .bool] fun o => o = [.bool (!allR (fun i => partOk (a.elem i)) a.toL.length)] := by
  refine PC.of_sig mix sig_145 ⟨rfl, trivial, trivial⟩ rfl fun hok => ?_
  have e_a := sl_eta (hok _ (.head _))
  have l_a := sl_len (hok _ (.head _))
  have k_a := sl_all (hok _ (.head _))
  have E_a : ∀ i, i < a.toL.length → D.lst [(a.elem i).fld 0, (a.elem i).fld 1, (a.elem i).fld 2, (a.elem i).fld 3, (a.elem i).fld 4, (a.elem i).fld 5, (a.elem i).fld 6] = a.elem i := fun i hi => by simpa [List.range, List.range.loop] using okL_eta (k_a _ (elem_mem hi))
  apply says_den (φ := (phi_145))
  simp [e_a, E_a, tree_145, T.says, X.den, O1.den, O2.den, O3.den, callD, XArg.ev, XArg.dat, Callee'.num, backs, DArg.back, Conds.den, cloArgs, phi_145, pd_146, pd_198, findR_nn]
theorem pd_145 (a : D) (Q : List D → Prop) (ho : Q [.bool (!allR (fun i => partOk (a.elem i)) a.toL.length)]) : PC Try.prog 145 [.sc (.sl [(.int .i64), (.int .i64), (.int .i64), (.int .i64), (.int .i64), (.int .i64), .bool]) a, .clo 146 []] [.sc .bool] Q := (pc_145 a).mono fun _ h => h ▸ ho
/- impl.ActOk -/
def phi_43 : Nat → List D → List D
  | 123, [a, b, c] => [.bool (inR a.toI b.toI c.toI)]
  | 142, [a] => [.bool (inR a.toI 1 99)]
  | 143, [a] => [.bool (inR a.toI 0 2)]
  | 144, [a] => [.bool (inR a.toI 1 4)]
  | 145, [a, _] => [.bool (!allR (fun i => partOk (a.elem i)) a.toL.length)]
  | 146, [e] => [.bool (!partOk e)]
  | _, _ => []
theorem pc_43 (a : D) : PC Try.prog 43 [.st [(.int .i64), (.int .i64), (.int .i64), (.int .i64), (.int .i64), .bool, (.sl [(.int .i64), (.int .i64), (.int .i64), (.int .i64), (.int .i64), (.int .i64), .bool])] a] [.sc .bool] fun o => o = [.bool (actOk a)] := by
  refine PC.of_sig mix sig_43 ⟨rfl, trivial⟩ rfl fun hok => ?_
  have e_a : D.lst [a.fld 0, a.fld 1, a.fld 2, a.fld 3, a.fld 4, a.fld 5, a.fld 6] = a := by simpa [List.range, List.range.loop] using okL_eta (hok _ (.head _))
  have k_a : okL [(.int .i64), (.int .i64), (.int .i64), (.int .i64), (.int .i64), .bool, (.sl [(.int .i64), (.int .i64), (.int .i64), (.int .i64), (.int .i64), (.int .i64), .bool])] a := (hok _ (.head _))
  have e_a_6 : D.lst (a.fld 6).toL = a.fld 6 := sl_eta (okL_at k_a (i := 6) rfl)
  have l_a_6 := sl_len (okL_at k_a (i := 6) rfl)
  have k_a_6 := sl_all (okL_at k_a (i := 6) rfl)
  have E_a_6 : ∀ i, i < (a.fld 6).toL.length → D.lst [((a.fld 6).elem i).fld 0, ((a.fld 6).elem i).fld 1, ((a.fld 6).elem i).fld 2, ((a.fld 6).elem i).fld 3, ((a.fld 6).elem i).fld 4, ((a.fld 6).elem i).fld 5, ((a.fld 6).elem i).fld 6] = (a.fld 6).elem i := fun i hi => by simpa [List.range, List.range.loop] using okL_eta (k_a_6 _ (elem_mem hi))
  apply says_den (φ := (phi_43))
  simp [e_a_6, E_a_6, e_a, tree_43, T.says, X.den, O1.den, O2.den, O3.den, callD, XArg.ev, XArg.dat, Callee'.num, backs, DArg.back, Conds.den, cloArgs, phi_43, pd_123, pd_142, pd_143, pd_144, pd_145, pd_146]
  (repeat' (first | (with_reducible apply And.intro) | intro _))
  all_goals first | (exfalso; omega) | (grind [actOk, plain, inR]) | skip
theorem pd_43 (a : D) (Q : List D → Prop) (ho : Q [.bool (actOk a)]) : PC Try.prog 43 [.st [(.int .i64), (.int .i64), (.int .i64), (.int .i64), (.int .i64), .bool, (.sl [(.int .i64), (.int .i64), (.int .i64), (.int .i64), (.int .i64), (.int .i64), .bool])] a] [.sc .bool] Q := (pc_43 a).mono fun _ h => h ▸ ho
/- impl.ActFits -/
def phi_72 : Nat → List D → List D
  | 122, [a] => [.bool (inR a.toI 1 6)]
  | _, _ => []
theorem pc_72 (a n : D) : PC Try.prog 72 [.st [(.int .i64), (.int .i64), (.int .i64), (.int .i64), (.int .i64), .bool, (.sl [(.int .i64), (.int .i64), (.int .i64), (.int .i64), (.int .i64), (.int .i64), .bool])] a, .sc (.int .i64) n] [.sc .bool] fun o => o = [.bool (actFits a n.toI)] := by
  refine PC.of_sig mix sig_72 ⟨rfl, rfl, trivial⟩ rfl fun hok => ?_
  have e_a : D.lst [a.fld 0, a.fld 1, a.fld 2, a.fld 3, a.fld 4, a.fld 5, a.fld 6] = a := by simpa [List.range, List.range.loop] using okL_eta (hok _ (.head _))
  have k_a : okL [(.int .i64), (.int .i64), (.int .i64), (.int .i64), (.int .i64), .bool, (.sl [(.int .i64), (.int .i64), (.int .i64), (.int .i64), (.int .i64), (.int .i64), .bool])] a := (hok _ (.head _))
  have e_a_6 : D.lst (a.fld 6).toL = a.fld 6 := sl_eta (okL_at k_a (i := 6) rfl)
  have l_a_6 := sl_len (okL_at k_a (i := 6) rfl)
  have k_a_6 := sl_all (okL_at k_a (i := 6) rfl)
  have E_a_6 : ∀ i, i < (a.fld 6).toL.length → D.lst [((a.fld 6).elem i).fld 0, ((a.fld 6).elem i).fld 1, ((a.fld 6).elem i).fld 2, ((a.fld 6).elem i).fld 3, ((a.fld 6).elem i).fld 4, ((a.fld 6).elem i).fld 5, ((a.fld 6).elem i).fld 6] = (a.fld 6).elem i := fun i hi => by simpa [List.range, List.range.loop] using okL_eta (k_a_6 _ (elem_mem hi))
  have e_n := int_eta (hok _ (.tail _ (.head _)))
  have b_n := int_range (hok _ (.tail _ (.head _)))
  apply says_den (φ := (phi_72))
  simp [e_a_6, E_a_6, e_a, e_n, tree_72, T.says, X.den, O1.den, O2.den, O3.den, callD, XArg.ev, XArg.dat, Callee'.num, backs, DArg.back, Conds.den, cloArgs, phi_72, pd_122]
  (repeat' (first | (with_reducible apply And.intro) | intro _)) <;> grind [actFits]
theorem pd_72 (a n : D) (Q : List D → Prop) (ho : Q [.bool (actFits a n.toI)]) : PC Try.prog 72 [.st [(.int .i64), (.int .i64), (.int .i64), (.int .i64), (.int .i64), .bool, (.sl [(.int .i64), (.int .i64), (.int .i64), (.int .i64), (.int .i64), (.int .i64), .bool])] a, .sc (.int .i64) n] [.sc .bool] Q := (pc_72 a n).mono fun _ h => h ▸ ho
/- impl.EffectOk -/
def phi_82 : Nat → List D → List D
  | 26, [d] => [.bool (patOk d)]
  | 34, [d] => [.bool (guardOk d)]
  | 43, [a] => [.bool (actOk a)]
  | 72, [a, n] => [.bool (actFits a n.toI)]
  | 123, [a, b, c] => [.bool (inR a.toI b.toI c.toI)]
  | 142, [a] => [.bool (inR a.toI 1 99)]
  | 143, [a] => [.bool (inR a.toI 0 2)]
  | _, _ => []
theorem pc_82 (e : D) : PC Try.prog 82 [.st [(.int .i64), (.int .i64), (.int .i64), (.int .i64), (.int .i64), (.int .i64), (.int .i64), (.int .i64), (.int .i64), (.int .i64), (.int .i64), (.int .i64), (.int .i64), (.int .i64), (.int .i64), (.int .i64), (.int .i64), (.int .i64), .bool, (.sl [(.int .i64), (.int .i64), (.int .i64), (.int .i64), (.int .i64), (.int .i64), .bool]), (.int .i64), (.int .i64)] e] [.sc .bool] fun o => o = [.bool (effectOk e)] := by
  refine PC.of_sig mix sig_82 ⟨rfl, trivial⟩ rfl fun hok => ?_
  have e_e : D.lst [e.fld 0, e.fld 1, e.fld 2, e.fld 3, e.fld 4, e.fld 5, e.fld 6, e.fld 7, e.fld 8, e.fld 9, e.fld 10, e.fld 11, e.fld 12, e.fld 13, e.fld 14, e.fld 15, e.fld 16, e.fld 17, e.fld 18, e.fld 19, e.fld 20, e.fld 21] = e := by simpa [List.range, List.range.loop] using okL_eta (hok _ (.head _))
  have k_e : okL [(.int .i64), (.int .i64), (.int .i64), (.int .i64), (.int .i64), (.int .i64), (.int .i64), (.int .i64), (.int .i64), (.int .i64), (.int .i64), (.int .i64), (.int .i64), (.int .i64), (.int .i64), (.int .i64), (.int .i64), (.int .i64), .bool, (.sl [(.int .i64), (.int .i64), (.int .i64), (.int .i64), (.int .i64), (.int .i64), .bool]), (.int .i64), (.int .i64)] e := (hok _ (.head _))
  have e_e_19 : D.lst (e.fld 19).toL = e.fld 19 := sl_eta (okL_at k_e (i := 19) rfl)
  have l_e_19 := sl_len (okL_at k_e (i := 19) rfl)
  have k_e_19 := sl_all (okL_at k_e (i := 19) rfl)
  have E_e_19 : ∀ i, i < (e.fld 19).toL.length → D.lst [((e.fld 19).elem i).fld 0, ((e.fld 19).elem i).fld 1, ((e.fld 19).elem i).fld 2, ((e.fld 19).elem i).fld 3, ((e.fld 19).elem i).fld 4, ((e.fld 19).elem i).fld 5, ((e.fld 19).elem i).fld 6] = (e.fld 19).elem i := fun i hi => by simpa [List.range, List.range.loop] using okL_eta (k_e_19 _ (elem_mem hi))
  apply says_den (φ := (phi_82))
  simp [e_e_19, E_e_19, e_e, tree_82, T.says, X.den, O1.den, O2.den, O3.den, callD, XArg.ev, XArg.dat, Callee'.num, backs, DArg.back, Conds.den, cloArgs, phi_82, pd_26, pd_34, pd_43, pd_72, pd_123, pd_142, pd_143, effectOk, patOf, grdOf, actOf]
  all_goals grind [inR]
theorem pd_82 (e : D) (Q : List D → Prop) (ho : Q [.bool (effectOk e)]) : PC Try.prog 82 [.st [(.int .i64), (.int .i64), (.int .i64), (.int .i64), (.int .i64), (.int .i64), (.int .i64), (.int .i64), (.int .i64), (.int .i64), (.int .i64), (.int .i64), (.int .i64), (.int .i64), (.int .i64), (.int .i64), (.int .i64), (.int .i64), .bool, (.sl [(.int .i64), (.int .i64), (.int .i64), (.int .i64), (.int .i64), (.int .i64), .bool]), (.int .i64), (.int .i64)] e] [.sc .bool] Q := (pc_82 e).mono fun _ h => h ▸ ho
/- impl.TableOk -/
def phi_99 : Nat → List D → List D
  | 82, [e] => [.bool (effectOk e)]
  | _, _ => []
theorem pc_99 (d : D) : PC Try.prog 99 [.sc (.sl [(.int .i64), (.int .i64), (.int .i64), (.int .i64), (.int .i64), (.int .i64), (.int .i64), (.int .i64), (.int .i64), (.int .i64), (.int .i64), (.int .i64), (.int .i64), (.int .i64), (.int .i64), (.int .i64), (.int .i64), (.int .i64), .bool, (.sl [(.int .i64), (.int .i64), (.int .i64), (.int .i64), (.int .i64), (.int .i64), .bool]), (.int .i64), (.int .i64)]) d] [.sc .bool] fun o => o = [.bool (tableOk d)] := by
  refine PC.of_sig mix sig_99 ⟨rfl, trivial⟩ rfl fun hok => ?_
  have e_d := sl_eta (hok _ (.head _))
  have l_d := sl_len (hok _ (.head _))
  have k_d := sl_all (hok _ (.head _))
  have E_d : ∀ i, i < d.toL.length → D.lst [(d.elem i).fld 0, (d.elem i).fld 1, (d.elem i).fld 2, (d.elem i).fld 3, (d.elem i).fld 4, (d.elem i).fld 5, (d.elem i).fld 6, (d.elem i).fld 7, (d.elem i).fld 8, (d.elem i).fld 9, (d.elem i).fld 10, (d.elem i).fld 11, (d.elem i).fld 12, (d.elem i).fld 13, (d.elem i).fld 14, (d.elem i).fld 15, (d.elem i).fld 16, (d.elem i).fld 17, (d.elem i).fld 18, (d.elem i).fld 19, (d.elem i).fld 20, (d.elem i).fld 21] = d.elem i := fun i hi => by simpa [List.range, List.range.loop] using okL_eta (k_d _ (elem_mem hi))
  apply says_den (φ := (phi_99))
  simp [e_d, E_d, tree_99, T.says, X.den, O1.den, O2.den, O3.den, callD, XArg.ev, XArg.dat, Callee'.num, backs, DArg.back, Conds.den, cloArgs, phi_99, pd_82]
  refine fun _ => ?_
  refine den_for d.toL.length 0 (fun i => [.int i]) (fun i => ∀ j, j < i → rowOk d j = true) (by simp) (by simp [X.den]) (by simp) fun i hi hR => ?_
  apply says_den (φ := (phi_99))
  by_cases hlt : i < d.toL.length
  · have hz : IntKind.i64.wrap ((i : Int) + 1) = i + 1 := by (first | omega | (simp only [IntKind.wrap_i64, maxL] at *; omega) | (simp [IntKind.wrap_i64, maxL] at *; omega))
    by_cases h0 : i = 0
    · subst h0
      have hm : IntKind.i64.wrap (((0 : Nat) : Int) - 1) = -1 := by (first | omega | (simp only [IntKind.wrap_i64, maxL] at *; omega) | (simp [IntKind.wrap_i64, maxL] at *; omega))
      simp [e_d, E_d, tree_99, T.says, X.den, O1.den, O2.den, O3.den, callD, XArg.ev, XArg.dat, Callee'.num, backs, DArg.back, Conds.den, cloArgs, phi_99, pd_82, hlt, hm]
      (repeat' (first | (with_reducible apply And.intro) | intro _))
      · rw [tableOk, allR_false (p := rowOk d) hlt (by simp [rowOk, *])]; simp
      · (first | omega | (simp only [IntKind.wrap_i64, maxL] at *; omega) | (simp [IntKind.wrap_i64, maxL] at *; omega))
      · simp [rowOk, *]
    · have hm : IntKind.i64.wrap ((i : Int) - 1) = ((i - 1 : Nat) : Int) := by (first | omega | (simp only [IntKind.wrap_i64, maxL] at *; omega) | (simp [IntKind.wrap_i64, maxL] at *; omega))
      simp [e_d, E_d, tree_99, T.says, X.den, O1.den, O2.den, O3.den, callD, XArg.ev, XArg.dat, Callee'.num, backs, DArg.back, Conds.den, cloArgs, phi_99, pd_82, hlt, hm, hz]
      (repeat' (first | (with_reducible apply And.intro) | intro _))
      · omega
      · rw [tableOk, allR_false (p := rowOk d) hlt (by grind [rowOk])]; simp
      · grind [rowOk]
  · have ht := allR_true (p := rowOk d) (n := d.toL.length) (fun j hj => hR j (by omega))
    simp [e_d, E_d, tree_99, T.says, X.den, O1.den, O2.den, O3.den, callD, XArg.ev, XArg.dat, Callee'.num, backs, DArg.back, Conds.den, cloArgs, phi_99, pd_82, hlt, tableOk, ht]
    all_goals omega
theorem pd_99 (d : D) (Q : List D → Prop) (ho : Q [.bool (tableOk d)]) : PC Try.prog 99 [.sc (.sl [(.int .i64), (.int .i64), (.int .i64), (.int .i64), (.int .i64), (.int .i64), (.int .i64), (.int .i64), (.int .i64), (.int .i64), (.int .i64), (.int .i64), (.int .i64), (.int .i64), (.int .i64), (.int .i64), (.int .i64), (.int .i64), .bool, (.sl [(.int .i64), (.int .i64), (.int .i64), (.int .i64), (.int .i64), (.int .i64), .bool]), (.int .i64), (.int .i64)]) d] [.sc .bool] Q := (pc_99 d).mono fun _ h => h ▸ ho
/- slices.EqualFunc[[]impl.Effect,[]impl.Effect,impl.Effect,impl.Effect] -/
def phi_180 : Nat → List D → List D
  | 80, [a, b] => [.bool (sameEffect a b)]
  | 0, [a, b] => [.bool (sameEffect a b)]
  | _, _ => []
theorem pc_180 (a b : D) : PC Try.prog 180 [.sc (.sl [(.int .i64), (.int .i64), (.int .i64), (.int .i64), (.int .i64), (.int .i64), (.int .i64), (.int .i64), (.int .i64), (.int .i64), (.int .i64), (.int .i64), (.int .i64), (.int .i64), (.int .i64), (.int .i64), (.int .i64), (.int .i64), .bool, (.sl [(.int .i64), (.int .i64), (.int .i64), (.int .i64), (.int .i64), (.int .i64), .bool]), (.int .i64), (.int .i64)]) a, .sc (.sl [(.int .i64), (.int .i64), (.int .i64), (.int .i64), (.int .i64), (.int .i64), (.int .i64), (.int .i64), (.int .i64), (.int .i64), (.int .i64), (.int .i64), (.int .i64), (.int .i64), (.int .i64), (.int .i64), (.int .i64), (.int .i64), .bool, (.sl [(.int .i64), (.int .i64), (.int .i64), (.int .i64), (.int .i64), (.int .i64), .bool]), (.int .i64), (.int .i64)]) b, .clo 80 []] [.sc .bool] fun o => o = [.bool (sameTable a b)] := by
  refine PC.of_sig mix sig_180 ⟨rfl, rfl, trivial, trivial⟩ rfl fun hok => ?_
  have e_a := sl_eta (hok _ (.head _))
  have l_a := sl_len (hok _ (.head _))
  have k_a := sl_all (hok _ (.head _))
  have E_a : ∀ i, i < a.toL.length → D.lst [(a.elem i).fld 0, (a.elem i).fld 1, (a.elem i).fld 2, (a.elem i).fld 3, (a.elem i).fld 4, (a.elem i).fld 5, (a.elem i).fld 6, (a.elem i).fld 7, (a.elem i).fld 8, (a.elem i).fld 9, (a.elem i).fld 10, (a.elem i).fld 11, (a.elem i).fld 12, (a.elem i).fld 13, (a.elem i).fld 14, (a.elem i).fld 15, (a.elem i).fld 16, (a.elem i).fld 17, (a.elem i).fld 18, (a.elem i).fld 19, (a.elem i).fld 20, (a.elem i).fld 21] = a.elem i := fun i hi => by simpa [List.range, List.range.loop] using okL_eta (k_a _ (elem_mem hi))
  have e_b := sl_eta (hok _ (.tail _ (.head _)))
  have l_b := sl_len (hok _ (.tail _ (.head _)))
  have k_b := sl_all (hok _ (.tail _ (.head _)))
  have E_b : ∀ i, i < b.toL.length → D.lst [(b.elem i).fld 0, (b.elem i).fld 1, (b.elem i).fld 2, (b.elem i).fld 3, (b.elem i).fld 4, (b.elem i).fld 5, (b.elem i).fld 6, (b.elem i).fld 7, (b.elem i).fld 8, (b.elem i).fld 9, (b.elem i).fld 10, (b.elem i).fld 11, (b.elem i).fld 12, (b.elem i).fld 13, (b.elem i).fld 14, (b.elem i).fld 15, (b.elem i).fld 16, (b.elem i).fld 17, (b.elem i).fld 18, (b.elem i).fld 19, (b.elem i).fld 20, (b.elem i).fld 21] = b.elem i := fun i hi => by simpa [List.range, List.range.loop] using okL_eta (k_b _ (elem_mem hi))
  apply says_den (φ := (phi_180))
  simp [e_a, e_b, E_a, E_b, tree_180, T.says, X.den, O1.den, O2.den, O3.den, callD, XArg.ev, XArg.dat, Callee'.num, backs, DArg.back, Conds.den, cloArgs, phi_180, pd_80]
  (repeat' (first | (with_reducible apply And.intro) | intro _))
  · simp only [sameTable, Bool.and_eq_false_iff, decide_eq_false_iff_not]; left; omega
  refine den_for a.toL.length 0 (fun i => [.int i]) (fun i => ∀ j, j < i → sameEffect (a.elem j) (b.elem j) = true) (by simp) (by simp [X.den]) (by simp) fun i hi hR => ?_
  have hl : a.toL.length = b.toL.length := by omega
  have E_b' := fun i hi => E_b i (hl ▸ hi)
  apply says_den (φ := (phi_180))
  by_cases hlt : i < a.toL.length
  · simp [e_a, e_b, E_a, E_b, tree_180, T.says, X.den, O1.den, O2.den, O3.den, callD, XArg.ev, XArg.dat, Callee'.num, backs, DArg.back, Conds.den, cloArgs, phi_180, pd_80, hlt, E_b']
    (repeat' (first | (with_reducible apply And.intro) | intro _))
    · omega
    · simp [sameTable, allR_false (p := fun i => sameEffect (a.elem i) (b.elem i)) hlt ‹_›]
    · (first | omega | (simp only [IntKind.wrap_i64, maxL] at *; omega) | (simp [IntKind.wrap_i64, maxL] at *; omega))
    · grind
  · have ht := allR_true (p := fun i => sameEffect (a.elem i) (b.elem i)) (n := a.toL.length) (fun j hj => hR j (by omega))
    simp [e_a, e_b, E_a, E_b, tree_180, T.says, X.den, O1.den, O2.den, O3.den, callD, XArg.ev, XArg.dat, Callee'.num, backs, DArg.back, Conds.den, cloArgs, phi_180, pd_80, hlt, sameTable, ht]
    all_goals omega
theorem pd_180 (a b : D) (Q : List D → Prop) (ho : Q [.bool (sameTable a b)]) : PC Try.prog 180 [.sc (.sl [(.int .i64), (.int .i64), (.int .i64), (.int .i64), (.int .i64), (.int .i64), (.int .i64), (.int .i64), (.int .i64), (.int .i64), (.int .i64), (.int .i64), (.int .i64), (.int .i64), (.int .i64), (.int .i64), (.int .i64), (.int .i64), .bool, (.sl [(.int .i64), (.int .i64), (.int .i64), (.int .i64), (.int .i64), (.int .i64), .bool]), (.int .i64), (.int .i64)]) a, .sc (.sl [(.int .i64), (.int .i64), (.int .i64), (.int .i64), (.int .i64), (.int .i64), (.int .i64), (.int .i64), (.int .i64), (.int .i64), (.int .i64), (.int .i64), (.int .i64), (.int .i64), (.int .i64), (.int .i64), (.int .i64), (.int .i64), .bool, (.sl [(.int .i64), (.int .i64), (.int .i64), (.int .i64), (.int .i64), (.int .i64), .bool]), (.int .i64), (.int .i64)]) b, .clo 80 []] [.sc .bool] Q := (pc_180 a b).mono fun _ h => h ▸ ho
/- impl.SameTable -/
def phi_101 : Nat → List D → List D
  | 80, [a, b] => [.bool (sameEffect a b)]
  | 180, [a, b, _] => [.bool (sameTable a b)]
  | _, _ => []
theorem pc_101 (a b : D) : PC Try.prog 101 [.sc (.sl [(.int .i64), (.int .i64), (.int .i64), (.int .i64), (.int .i64), (.int .i64), (.int .i64), (.int .i64), (.int .i64), (.int .i64), (.int .i64), (.int .i64), (.int .i64), (.int .i64), (.int .i64), (.int .i64), (.int .i64), (.int .i64), .bool, (.sl [(.int .i64), (.int .i64), (.int .i64), (.int .i64), (.int .i64), (.int .i64), .bool]), (.int .i64), (.int .i64)]) a, .sc (.sl [(.int .i64), (.int .i64), (.int .i64), (.int .i64), (.int .i64), (.int .i64), (.int .i64), (.int .i64), (.int .i64), (.int .i64), (.int .i64), (.int .i64), (.int .i64), (.int .i64), (.int .i64), (.int .i64), (.int .i64), (.int .i64), .bool, (.sl [(.int .i64), (.int .i64), (.int .i64), (.int .i64), (.int .i64), (.int .i64), .bool]), (.int .i64), (.int .i64)]) b] [.sc .bool] fun o => o = [.bool (sameTable a b)] := by
  refine PC.of_sig mix sig_101 ⟨rfl, rfl, trivial⟩ rfl fun hok => ?_
  have e_a := sl_eta (hok _ (.head _))
  have l_a := sl_len (hok _ (.head _))
  have k_a := sl_all (hok _ (.head _))
  have E_a : ∀ i, i < a.toL.length → D.lst [(a.elem i).fld 0, (a.elem i).fld 1, (a.elem i).fld 2, (a.elem i).fld 3, (a.elem i).fld 4, (a.elem i).fld 5, (a.elem i).fld 6, (a.elem i).fld 7, (a.elem i).fld 8, (a.elem i).fld 9, (a.elem i).fld 10, (a.elem i).fld 11, (a.elem i).fld 12, (a.elem i).fld 13, (a.elem i).fld 14, (a.elem i).fld 15, (a.elem i).fld 16, (a.elem i).fld 17, (a.elem i).fld 18, (a.elem i).fld 19, (a.elem i).fld 20, (a.elem i).fld 21] = a.elem i := fun i hi => by simpa [List.range, List.range.loop] using okL_eta (k_a _ (elem_mem hi))
  have e_b := sl_eta (hok _ (.tail _ (.head _)))
  have l_b := sl_len (hok _ (.tail _ (.head _)))
  have k_b := sl_all (hok _ (.tail _ (.head _)))
  have E_b : ∀ i, i < b.toL.length → D.lst [(b.elem i).fld 0, (b.elem i).fld 1, (b.elem i).fld 2, (b.elem i).fld 3, (b.elem i).fld 4, (b.elem i).fld 5, (b.elem i).fld 6, (b.elem i).fld 7, (b.elem i).fld 8, (b.elem i).fld 9, (b.elem i).fld 10, (b.elem i).fld 11, (b.elem i).fld 12, (b.elem i).fld 13, (b.elem i).fld 14, (b.elem i).fld 15, (b.elem i).fld 16, (b.elem i).fld 17, (b.elem i).fld 18, (b.elem i).fld 19, (b.elem i).fld 20, (b.elem i).fld 21] = b.elem i := fun i hi => by simpa [List.range, List.range.loop] using okL_eta (k_b _ (elem_mem hi))
  apply says_den (φ := (phi_101))
  simp [e_a, e_b, E_a, E_b, tree_101, T.says, X.den, O1.den, O2.den, O3.den, callD, XArg.ev, XArg.dat, Callee'.num, backs, DArg.back, Conds.den, cloArgs, phi_101, pd_80, pd_180]
theorem pd_101 (a b : D) (Q : List D → Prop) (ho : Q [.bool (sameTable a b)]) : PC Try.prog 101 [.sc (.sl [(.int .i64), (.int .i64), (.int .i64), (.int .i64), (.int .i64), (.int .i64), (.int .i64), (.int .i64), (.int .i64), (.int .i64), (.int .i64), (.int .i64), (.int .i64), (.int .i64), (.int .i64), (.int .i64), (.int .i64), (.int .i64), .bool, (.sl [(.int .i64), (.int .i64), (.int .i64), (.int .i64), (.int .i64), (.int .i64), .bool]), (.int .i64), (.int .i64)]) a, .sc (.sl [(.int .i64), (.int .i64), (.int .i64), (.int .i64), (.int .i64), (.int .i64), (.int .i64), (.int .i64), (.int .i64), (.int .i64), (.int .i64), (.int .i64), (.int .i64), (.int .i64), (.int .i64), (.int .i64), (.int .i64), (.int .i64), .bool, (.sl [(.int .i64), (.int .i64), (.int .i64), (.int .i64), (.int .i64), (.int .i64), .bool]), (.int .i64), (.int .i64)]) b] [.sc .bool] Q := (pc_101 a b).mono fun _ h => h ▸ ho
/- impl.EffectAt$1 -/
theorem pc_185 (e c : D) : PC Try.prog 185 [.st [(.int .i64), (.int .i64), (.int .i64), (.int .i64), (.int .i64), (.int .i64), (.int .i64), (.int .i64), (.int .i64), (.int .i64), (.int .i64), (.int .i64), (.int .i64), (.int .i64), (.int .i64), (.int .i64), (.int .i64), (.int .i64), .bool, (.sl [(.int .i64), (.int .i64), (.int .i64), (.int .i64), (.int .i64), (.int .i64), .bool]), (.int .i64), (.int .i64)] e, .bx [(.int .i64)] c] [.sc .bool] fun o => o = [.bool ((e.fld 0).toI == (c.fld 0).toI)] := by
  refine PC.of_sigC («as» := [.st [(.int .i64), (.int .i64), (.int .i64), (.int .i64), (.int .i64), (.int .i64), (.int .i64), (.int .i64), (.int .i64), (.int .i64), (.int .i64), (.int .i64), (.int .i64), (.int .i64), (.int .i64), (.int .i64), (.int .i64), (.int .i64), .bool, (.sl [(.int .i64), (.int .i64), (.int .i64), (.int .i64), (.int .i64), (.int .i64), .bool]), (.int .i64), (.int .i64)] e]) [([(.int .i64)], c)] mix sig_185 ⟨rfl, trivial⟩ rfl fun hok => ?_
  have e_e : D.lst [e.fld 0, e.fld 1, e.fld 2, e.fld 3, e.fld 4, e.fld 5, e.fld 6, e.fld 7, e.fld 8, e.fld 9, e.fld 10, e.fld 11, e.fld 12, e.fld 13, e.fld 14, e.fld 15, e.fld 16, e.fld 17, e.fld 18, e.fld 19, e.fld 20, e.fld 21] = e := by simpa [List.range, List.range.loop] using okL_eta (hok _ (.head _))
  have k_e : okL [(.int .i64), (.int .i64), (.int .i64), (.int .i64), (.int .i64), (.int .i64), (.int .i64), (.int .i64), (.int .i64), (.int .i64), (.int .i64), (.int .i64), (.int .i64), (.int .i64), (.int .i64), (.int .i64), (.int .i64), (.int .i64), .bool, (.sl [(.int .i64), (.int .i64), (.int .i64), (.int .i64), (.int .i64), (.int .i64), .bool]), (.int .i64), (.int .i64)] e := (hok _ (.head _))
  have e_e_19 : D.lst (e.fld 19).toL = e.fld 19 := sl_eta (okL_at k_e (i := 19) rfl)
  have l_e_19 := sl_len (okL_at k_e (i := 19) rfl)
  have k_e_19 := sl_all (okL_at k_e (i := 19) rfl)
  have E_e_19 : ∀ i, i < (e.fld 19).toL.length → D.lst [((e.fld 19).elem i).fld 0, ((e.fld 19).elem i).fld 1, ((e.fld 19).elem i).fld 2, ((e.fld 19).elem i).fld 3, ((e.fld 19).elem i).fld 4, ((e.fld 19).elem i).fld 5, ((e.fld 19).elem i).fld 6] = (e.fld 19).elem i := fun i hi => by simpa [List.range, List.range.loop] using okL_eta (k_e_19 _ (elem_mem hi))
  apply says_den (φ := fun _ _ => [])
  simp [e_e_19, E_e_19, e_e, tree_185, T.says, X.den, O1.den, O2.den, O3.den, callD, XArg.ev, XArg.dat, Callee'.num, backs, DArg.back, Conds.den, cloArgs]
theorem pd_185 (e c : D) (Q : List D → Prop) (ho : Q [.bool ((e.fld 0).toI == (c.fld 0).toI)]) : PC Try.prog 185 [.st [(.int .i64), (.int .i64), (.int .i64), (.int .i64), (.int .i64), (.int .i64), (.int .i64), (.int .i64), (.int .i64), (.int .i64), (.int .i64), (.int .i64), (.int .i64), (.int .i64), (.int .i64), (.int .i64), (.int .i64), (.int .i64), .bool, (.sl [(.int .i64), (.int .i64), (.int .i64), (.int .i64), (.int .i64), (.int .i64), .bool]), (.int .i64), (.int .i64)] e, .bx [(.int .i64)] c] [.sc .bool] Q := (pc_185 e c).mono fun _ h => h ▸ ho
/- slices.IndexFunc[[]impl.Effect,impl.Effect] -/
def phi_184 (a c : D) : Nat → List D → List D
  | 185, [e, c] => [.bool ((e.fld 0).toI == (c.fld 0).toI)]
  | 0, [e] => [.bool ((e.fld 0).toI == (c.fld 0).toI)]
  | _, _ => []
theorem pc_184 (a c : D) : PC Try.prog 184 [.sc (.sl [(.int .i64), (.int .i64), (.int .i64), (.int .i64), (.int .i64), (.int .i64), (.int .i64), (.int .i64), (.int .i64), (.int .i64), (.int .i64), (.int .i64), (.int .i64), (.int .i64), (.int .i64), (.int .i64), (.int .i64), (.int .i64), .bool, (.sl [(.int .i64), (.int .i64), (.int .i64), (.int .i64), (.int .i64), (.int .i64), .bool]), (.int .i64), (.int .i64)]) a, .clo 185 [([(.int .i64)], c)]] [.sc (.int .i64)] fun o => o = [.int (findR (fun i => ((a.elem i).fld 0).toI == (c.fld 0).toI) a.toL.length)] := by
  refine PC.of_sig mix sig_184 ⟨rfl, trivial, trivial⟩ rfl fun hok => ?_
  have e_a := sl_eta (hok _ (.head _))
  have l_a := sl_len (hok _ (.head _))
  have k_a := sl_all (hok _ (.head _))
  have E_a : ∀ i, i < a.toL.length → D.lst [(a.elem i).fld 0, (a.elem i).fld 1, (a.elem i).fld 2, (a.elem i).fld 3, (a.elem i).fld 4, (a.elem i).fld 5, (a.elem i).fld 6, (a.elem i).fld 7, (a.elem i).fld 8, (a.elem i).fld 9, (a.elem i).fld 10, (a.elem i).fld 11, (a.elem i).fld 12, (a.elem i).fld 13, (a.elem i).fld 14, (a.elem i).fld 15, (a.elem i).fld 16, (a.elem i).fld 17, (a.elem i).fld 18, (a.elem i).fld 19, (a.elem i).fld 20, (a.elem i).fld 21] = a.elem i := fun i hi => by simpa [List.range, List.range.loop] using okL_eta (k_a _ (elem_mem hi))
  apply says_den (φ := (phi_184 a c))
  simp [e_a, E_a, tree_184, T.says, X.den, O1.den, O2.den, O3.den, callD, XArg.ev, XArg.dat, Callee'.num, backs, DArg.back, Conds.den, cloArgs, phi_184, pd_185]
  refine fun _ => ?_
  refine den_for a.toL.length 0 (fun i => [.int i]) (fun i => ∀ j, j < i → (((a.elem j).fld 0).toI == (c.fld 0).toI) = false) (by simp) (by simp [X.den]) (by simp) fun i hi hR => ?_
  apply says_den (φ := (phi_184 a c))
  by_cases hlt : i < a.toL.length
  · simp [e_a, E_a, tree_184, T.says, X.den, O1.den, O2.den, O3.den, callD, XArg.ev, XArg.dat, Callee'.num, backs, DArg.back, Conds.den, cloArgs, phi_184, pd_185, hlt]
    (repeat' (first | (with_reducible apply And.intro) | intro _))
    · exact (findR_some (p := fun i => ((a.elem i).fld 0).toI == (c.fld 0).toI) hlt (by simp_all) hR).symm
    · (first | omega | (simp only [IntKind.wrap_i64, maxL] at *; omega) | (simp [IntKind.wrap_i64, maxL] at *; omega))
    · grind
  · simp [e_a, E_a, tree_184, T.says, X.den, O1.den, O2.den, O3.den, callD, XArg.ev, XArg.dat, Callee'.num, backs, DArg.back, Conds.den, cloArgs, phi_184, pd_185, hlt]
    (repeat' (first | (with_reducible apply And.intro) | intro _))
    · exact (findR_none fun j hj => hR j (by omega)).symm
theorem pd_184 (a c : D) (Q : List D → Prop) (ho : Q [.int (findR (fun i => ((a.elem i).fld 0).toI == (c.fld 0).toI) a.toL.length)]) : PC Try.prog 184 [.sc (.sl [(.int .i64), (.int .i64), (.int .i64), (.int .i64), (.int .i64), (.int .i64), (.int .i64), (.int .i64), (.int .i64), (.int .i64), (.int .i64), (.int .i64), (.int .i64), (.int .i64), (.int .i64), (.int .i64), (.int .i64), (.int .i64), .bool, (.sl [(.int .i64), (.int .i64), (.int .i64), (.int .i64), (.int .i64), (.int .i64), .bool]), (.int .i64), (.int .i64)]) a, .clo 185 [([(.int .i64)], c)]] [.sc (.int .i64)] Q := (pc_184 a c).mono fun _ h => h ▸ ho
/- impl.EffectAt -/
def phi_106 (d n : D) : Nat → List D → List D
  | 184, [a, _] => [.int (findR (fun i => ((a.elem i).fld 0).toI == n.toI) a.toL.length)]
  | 185, [e, c] => [.bool ((e.fld 0).toI == (c.fld 0).toI)]
  | _, _ => []
theorem pc_106 (d n : D) : PC Try.prog 106 [.sc (.sl [(.int .i64), (.int .i64), (.int .i64), (.int .i64), (.int .i64), (.int .i64), (.int .i64), (.int .i64), (.int .i64), (.int .i64), (.int .i64), (.int .i64), (.int .i64), (.int .i64), (.int .i64), (.int .i64), (.int .i64), (.int .i64), .bool, (.sl [(.int .i64), (.int .i64), (.int .i64), (.int .i64), (.int .i64), (.int .i64), .bool]), (.int .i64), (.int .i64)]) d, .sc (.int .i64) n] [.sc (.int .i64)] fun o => o = [.int (effAt d n.toI)] := by
  refine PC.of_sig mix sig_106 ⟨rfl, rfl, trivial⟩ rfl fun hok => ?_
  have e_d := sl_eta (hok _ (.head _))
  have l_d := sl_len (hok _ (.head _))
  have k_d := sl_all (hok _ (.head _))
  have E_d : ∀ i, i < d.toL.length → D.lst [(d.elem i).fld 0, (d.elem i).fld 1, (d.elem i).fld 2, (d.elem i).fld 3, (d.elem i).fld 4, (d.elem i).fld 5, (d.elem i).fld 6, (d.elem i).fld 7, (d.elem i).fld 8, (d.elem i).fld 9, (d.elem i).fld 10, (d.elem i).fld 11, (d.elem i).fld 12, (d.elem i).fld 13, (d.elem i).fld 14, (d.elem i).fld 15, (d.elem i).fld 16, (d.elem i).fld 17, (d.elem i).fld 18, (d.elem i).fld 19, (d.elem i).fld 20, (d.elem i).fld 21] = d.elem i := fun i hi => by simpa [List.range, List.range.loop] using okL_eta (k_d _ (elem_mem hi))
  have e_n := int_eta (hok _ (.tail _ (.head _)))
  have b_n := int_range (hok _ (.tail _ (.head _)))
  apply says_den (φ := (phi_106 d n))
  simp [e_d, e_n, E_d, tree_106, T.says, X.den, O1.den, O2.den, O3.den, callD, XArg.ev, XArg.dat, Callee'.num, backs, DArg.back, Conds.den, cloArgs, phi_106, pd_184, pd_185, effAt]
theorem pd_106 (d n : D) (Q : List D → Prop) (ho : Q [.int (effAt d n.toI)]) : PC Try.prog 106 [.sc (.sl [(.int .i64), (.int .i64), (.int .i64), (.int .i64), (.int .i64), (.int .i64), (.int .i64), (.int .i64), (.int .i64), (.int .i64), (.int .i64), (.int .i64), (.int .i64), (.int .i64), (.int .i64), (.int .i64), (.int .i64), (.int .i64), .bool, (.sl [(.int .i64), (.int .i64), (.int .i64), (.int .i64), (.int .i64), (.int .i64), .bool]), (.int .i64), (.int .i64)]) d, .sc (.int .i64) n] [.sc (.int .i64)] Q := (pc_106 d n).mono fun _ h => h ▸ ho
/- spec.l1New -/
theorem pc_113 (a : D) : PC Try.prog 113 [.sc (.sl [(.int .u8)]) a] [.cur] fun o => o = [a] := by
  refine PC.of_sig mix sig_113 ⟨rfl, trivial⟩ rfl fun hok => ?_
  have e_a := sl_eta (hok _ (.head _))
  have l_a := sl_len (hok _ (.head _))
  have k_a := sl_all (hok _ (.head _))
  apply says_den (φ := fun _ _ => [])
  simp [e_a, tree_113, T.says, X.den, O1.den, O2.den, O3.den, callD, XArg.ev, XArg.dat, Callee'.num, backs, DArg.back, Conds.den, cloArgs]
  refine fun _ => ?_
  refine den_loop (fun vs => ∃ (h : Int) (i : Nat), vs = [.int h, .int i] ∧ i ≤ a.toL.length) (fun vs => a.toL.length - ((vs.getD 1 default).toI).toNat) ⟨IntKind.i64.wrap (139871 + (a.toL.length : Int)), 0, by simp [X.den, O1.den, O2.den], by omega⟩ ?_
  rintro vs hvl ⟨h, i, rfl, hi⟩
  apply says_den (φ := fun _ _ => [])
  by_cases hlt : i < a.toL.length
  · have hz : IntKind.i64.wrap ((i : Int) + 1) = ((i + 1 : Nat) : Int) := by (first | omega | (simp only [IntKind.wrap_i64, maxL] at *; omega) | (simp [IntKind.wrap_i64, maxL] at *; omega))
    simp [e_a, tree_113, T.says, X.den, O1.den, O2.den, O3.den, callD, XArg.ev, XArg.dat, Callee'.num, backs, DArg.back, Conds.den, cloArgs, hlt, hz]
    (repeat' (first | (with_reducible apply And.intro) | intro _)) <;> first | exact ⟨_, i + 1, ⟨rfl, by omega⟩, by omega⟩ | exact ⟨i + 1, rfl, by omega⟩ | (rw [hz]; omega) | omega | skip
  · simp [e_a, tree_113, T.says, X.den, O1.den, O2.den, O3.den, callD, XArg.ev, XArg.dat, Callee'.num, backs, DArg.back, Conds.den, cloArgs, hlt]
theorem pd_113 (a : D) (Q : List D → Prop) (ho : Q [a]) : PC Try.prog 113 [.sc (.sl [(.int .u8)]) a] [.cur] Q := (pc_113 a).mono fun _ h => h ▸ ho
/- spec.l1Byte -/
def phi_190 : Nat → List D → (List D → Prop) → Prop
  | _, _, _ => False
theorem pc_190 (c : D) : PC Try.prog 190 [.cur c] [.sc (.int .i64)] fun o => ∃ (m : Int), (0 ≤ m ∧ m ≤ 255) ∧ o = [.int m] := by
  refine PC.of_sigK mix sig_190 ⟨trivial, trivial⟩ rfl fun hok ci ch hci hcn hch => ?_
  have hci := inK_i64 hci
  have hw : ci < c.toL.length → c.toL.length ≤ maxL → IntKind.i64.wrap (ci + 1) = ci + 1 := fun h h2 => by rw [IntKind.wrap_i64]; simp only [maxL] at h2; omega
  apply sayR_den (φ := (phi_190))
  simp [tree_190, T.sayR, inK_i64_iff, RS.oks, RS.ok, CK.okD, X.den, O1.den, O2.den, O3.den, callD, XArg.ev, XArg.dat, Callee'.num, backs, DArg.back, Conds.den, cloArgs]
  (repeat' (first | (with_reducible apply And.intro) | intro _)) <;> first | exact (bits2_and255 _).1 | exact (bits2_and255 _).2 | omega | (rw [hw (by assumption) (by assumption)]; omega) | skip
theorem pd_190 (c : D) (Q : List D → Prop) (ho : ∀ (m : Int), (0 ≤ m ∧ m ≤ 255) → Q [.int m]) : PC Try.prog 190 [.cur c] [.sc (.int .i64)] Q := (pc_190 c).mono (by rintro _ ⟨m, hc, rfl⟩; exact ho m hc)
/- spec.l1Below -/
def phi_117 : Nat → List D → (List D → Prop) → Prop
  | 190, [c], K => ∀ (m : Int), (0 ≤ m ∧ m ≤ 255) → K [.int m]
  | _, _, _ => False
theorem pc_117 (c n : D) : PC Try.prog 117 [.cur c, .sc (.int .i64) n] [.sc (.int .i64)] fun o => ∃ (m : Int), (0 ≤ m ∧ m ≤ 16777215 ∧ (0 < n.toI → m < n.toI) ∧ (n.toI ≤ 0 → m = 0)) ∧ o = [.int m] := by
  refine PC.of_sigK mix sig_117 ⟨trivial, rfl, trivial⟩ rfl fun hok ci ch hci hcn hch => ?_
  have e_n := int_eta (hok _ (.head _))
  have b_n := int_range (hok _ (.head _))
  apply sayR_den (φ := (phi_117))
  simp [e_n, tree_117, T.sayR, inK_i64_iff, RS.oks, RS.ok, CK.okD, X.den, O1.den, O2.den, O3.den, callD, XArg.ev, XArg.dat, Callee'.num, backs, DArg.back, Conds.den, cloArgs, phi_117]
  (repeat' (first | (with_reducible apply And.intro) | intro _)) <;> (try rw [mix3 (by assumption) (by assumption) (by assumption) (by assumption) (by assumption) (by assumption)]) <;> first | omega | assumption | (exact (tmod_lt (by omega) (by omega)).1) | (exact (tmod_lt (by omega) (by omega)).2) | (exact Int.le_trans (tmod_le (by omega) _) (by omega)) | (first | (with_reducible assumption) | (with_reducible exact trivial) | (first | ((with_reducible refine ⟨?_⟩); simp [e_n, tree_117, T.sayR, inK_i64_iff, RS.oks, RS.ok, CK.okD, X.den, O1.den, O2.den, O3.den, callD, XArg.ev, XArg.dat, Callee'.num, backs, DArg.back, Conds.den, cloArgs]; intro K hK; (try simp only [phi_117] at hK); intros; first | contradiction | ((with_reducible refine pd_190 _ _ ?ho); (case ho => exact hK)) | (exact pd_190 _ _ hK)) | ((with_reducible show CallIn _ _ _ _ _); first | (refine .inr ⟨_, rfl, fun K hK => hK⟩) | (refine .inr ⟨_, rfl, fun K hK => hK true⟩) | (refine .inr ⟨_, rfl, fun K hK => hK 0 (by simp)⟩))) | omega | (simp only [IntKind.wrap_i64, maxL] at *; omega) | assumption | rfl | contradiction | grind) | skip
theorem pd_117 (c n : D) (Q : List D → Prop) (ho : ∀ (m : Int), (0 ≤ m ∧ m ≤ 16777215 ∧ (0 < n.toI → m < n.toI) ∧ (n.toI ≤ 0 → m = 0)) → Q [.int m]) : PC Try.prog 117 [.cur c, .sc (.int .i64) n] [.sc (.int .i64)] Q := (pc_117 c n).mono (by rintro _ ⟨m, hc, rfl⟩; exact ho m hc)
/- spec.l1Int -/
def phi_189 : Nat → List D → (List D → Prop) → Prop
  | 117, [c, n], K => ∀ (m : Int), (0 ≤ m ∧ m ≤ 16777215 ∧ (0 < n.toI → m < n.toI) ∧ (n.toI ≤ 0 → m = 0)) → K [.int m]
  | _, _, _ => False
theorem pc_189 (c l : D) (h : l.toL ≠ []) : PC Try.prog 189 [.cur c, .sc (.sl [(.int .i64)]) l] [.sc (.int .i64)] fun o => ∃ (m : Int), (oneOf l m) ∧ o = [.int m] := by
  refine PC.of_sigK mix sig_189 ⟨trivial, rfl, trivial⟩ rfl fun hok ci ch hci hcn hch => ?_
  have e_l := sl_eta (hok _ (.head _))
  have l_l := sl_len (hok _ (.head _))
  have k_l := sl_all (hok _ (.head _))
  apply sayR_den (φ := (phi_189))
  have hp : 0 < l.toL.length := List.length_pos_iff.mpr h
  have hin : ∀ i : Nat, i < l.toL.length → ∃ m : Int, oneOf l m ∧ (l.elem i).fld 0 = .int m := fun i hi => ⟨_, List.mem_map.2 ⟨_, elem_mem hi, rfl⟩, (int_eta (okL_at (k_l _ (elem_mem hi)) (i := 0) rfl)).symm⟩
  simp [e_l, tree_189, T.sayR, inK_i64_iff, RS.oks, RS.ok, CK.okD, X.den, O1.den, O2.den, O3.den, callD, XArg.ev, XArg.dat, Callee'.num, backs, DArg.back, Conds.den, cloArgs, phi_189, hp]
  (repeat' (first | (with_reducible apply And.intro) | intro _)) <;> first | omega | (simpa using hin _ (by omega)) | (first | (with_reducible assumption) | (with_reducible exact trivial) | (first | ((with_reducible refine ⟨?_⟩); simp [e_l, tree_189, T.sayR, inK_i64_iff, RS.oks, RS.ok, CK.okD, X.den, O1.den, O2.den, O3.den, callD, XArg.ev, XArg.dat, Callee'.num, backs, DArg.back, Conds.den, cloArgs]; intro K hK; (try simp only [phi_189] at hK); intros; first | contradiction | ((with_reducible refine pd_117 _ _ _ ?ho); (case ho => exact hK)) | (exact pd_117 _ _ _ hK)) | ((with_reducible show CallIn _ _ _ _ _); first | (refine .inr ⟨_, rfl, fun K hK => hK⟩) | (refine .inr ⟨_, rfl, fun K hK => hK true⟩) | (refine .inr ⟨_, rfl, fun K hK => hK 0 (by simp)⟩))) | omega | (simp only [IntKind.wrap_i64, maxL] at *; omega) | assumption | rfl | contradiction | grind) | skip
theorem pd_189 (c l : D) (h : l.toL ≠ []) (Q : List D → Prop) (ho : ∀ (m : Int), (oneOf l m) → Q [.int m]) : PC Try.prog 189 [.cur c, .sc (.sl [(.int .i64)]) l] [.sc (.int .i64)] Q := (pc_189 c l h).mono (by rintro _ ⟨m, hc, rfl⟩; exact ho m hc)
/- spec.StateNew -/
def phi_191 : Nat → List D → (List D → Prop) → Prop
  | _, _, _ => False
theorem pc_191 (n : D) : PC Try.prog 191 [.sc (.int .i64) n] [.st [(.sl [(.int .i64), (.int .i64), (.int .i64), (.int .i64), (.int .i64), (.int .i64), (.int .i64), (.int .i64), (.int .i64), (.int .i64), (.int .i64), .bool, .bool]), (.sl [(.int .i64), (.int .i64), .bool]), (.int .i64), (.int .i64)]] fun o => ∃ (s : D), ((s.fld 0).toL = [] ∧ 2 ≤ (s.fld 1).toL.length ∧ (s.fld 1).toL.length ≤ 3) ∧ o = [s] := by
  refine PC.of_sig mix sig_191 ⟨rfl, trivial⟩ rfl fun hok => ?_
  have e_n := int_eta (hok _ (.head _))
  have b_n := int_range (hok _ (.head _))
  apply sayR_den (φ := (phi_191))
  simp [e_n, tree_191, T.sayR, inK_i64_iff, RS.oks, RS.ok, CK.okD, X.den, O1.den, O2.den, O3.den, callD, XArg.ev, XArg.dat, Callee'.num, backs, DArg.back, Conds.den, cloArgs]
  all_goals ((repeat' (first | (with_reducible apply And.intro) | intro _)) <;> first | exact ⟨_, by simp, rfl⟩ | (refine ⟨D.lst _, ?_, rfl⟩; simp) | (first | (with_reducible assumption) | (with_reducible exact trivial) | (first | ((with_reducible refine ⟨?_⟩); simp [e_n, tree_191, T.sayR, inK_i64_iff, RS.oks, RS.ok, CK.okD, X.den, O1.den, O2.den, O3.den, callD, XArg.ev, XArg.dat, Callee'.num, backs, DArg.back, Conds.den, cloArgs]; intro K hK; intros; first | contradiction) | ((with_reducible show CallIn _ _ _ _ _); first | (refine .inr ⟨_, rfl, fun K hK => hK⟩) | (refine .inr ⟨_, rfl, fun K hK => hK true⟩) | (refine .inr ⟨_, rfl, fun K hK => hK 0 (by simp)⟩))) | omega | (simp only [IntKind.wrap_i64, maxL] at *; omega) | assumption | rfl | contradiction | grind) | skip)
theorem pd_191 (n : D) (Q : List D → Prop) (ho : ∀ (s : D), ((s.fld 0).toL = [] ∧ 2 ≤ (s.fld 1).toL.length ∧ (s.fld 1).toL.length ≤ 3) → Q [s]) : PC Try.prog 191 [.sc (.int .i64) n] [.st [(.sl [(.int .i64), (.int .i64), (.int .i64), (.int .i64), (.int .i64), (.int .i64), (.int .i64), (.int .i64), (.int .i64), (.int .i64), (.int .i64), .bool, .bool]), (.sl [(.int .i64), (.int .i64), .bool]), (.int .i64), (.int .i64)]] Q := (pc_191 n).mono (by rintro _ ⟨s, hc, rfl⟩; exact ho s hc)
/- spec.l1Once -/
def phi_115 : Nat → List D → (List D → Prop) → Prop
  | 117, [c, n], K => ∀ (m : Int), (0 ≤ m ∧ m ≤ 16777215 ∧ (0 < n.toI → m < n.toI) ∧ (n.toI ≤ 0 → m = 0)) → K [.int m]
  | _, _, _ => False
theorem pc_115 (c n : D) : PC Try.prog 115 [.cur c, .sc (.int .i64) n] [.sc .bool] fun o => ∃ (b : Bool), o = [.bool b] := by
  refine PC.of_sigK mix sig_115 ⟨trivial, rfl, trivial⟩ rfl fun hok ci ch hci hcn hch => ?_
  have e_n := int_eta (hok _ (.head _))
  have b_n := int_range (hok _ (.head _))
  apply sayR_den (φ := (phi_115))
  simp [e_n, tree_115, T.sayR, inK_i64_iff, RS.oks, RS.ok, CK.okD, X.den, O1.den, O2.den, O3.den, callD, XArg.ev, XArg.dat, Callee'.num, backs, DArg.back, Conds.den, cloArgs, phi_115]
  all_goals ((repeat' (first | (with_reducible apply And.intro) | intro _)) <;> (first | (with_reducible assumption) | (with_reducible exact trivial) | (first | ((with_reducible refine ⟨?_⟩); simp [e_n, tree_115, T.sayR, inK_i64_iff, RS.oks, RS.ok, CK.okD, X.den, O1.den, O2.den, O3.den, callD, XArg.ev, XArg.dat, Callee'.num, backs, DArg.back, Conds.den, cloArgs]; intro K hK; (try simp only [phi_115] at hK); intros; first | contradiction | ((with_reducible refine pd_117 _ _ _ ?ho); (case ho => exact hK)) | (exact pd_117 _ _ _ hK)) | ((with_reducible show CallIn _ _ _ _ _); first | (refine .inr ⟨_, rfl, fun K hK => hK⟩) | (refine .inr ⟨_, rfl, fun K hK => hK true⟩) | (refine .inr ⟨_, rfl, fun K hK => hK 0 (by simp)⟩))) | omega | (simp only [IntKind.wrap_i64, maxL] at *; omega) | assumption | rfl | contradiction | grind))
theorem pd_115 (c n : D) (Q : List D → Prop) (ho : ∀ (b : Bool), Q [.bool b]) : PC Try.prog 115 [.cur c, .sc (.int .i64) n] [.sc .bool] Q := (pc_115 c n).mono (by rintro _ ⟨b, rfl⟩; exact ho b)
/- spec.l4Draw -/
def phi_192 : Nat → List D → (List D → Prop) → Prop
  | 115, [c, n], K => ∀ (b : Bool), K [.bool b]
  | 117, [c, n], K => ∀ (m : Int), (0 ≤ m ∧ m ≤ 16777215 ∧ (0 < n.toI → m < n.toI) ∧ (n.toI ≤ 0 → m = 0)) → K [.int m]
  | 189, [c, l], K => ∀ (m : Int), (oneOf l m) → K [.int m]
  | _, _, _ => False
theorem pc_192 (c n : D) : PC Try.prog 192 [.cur c, .sc (.int .i64) n] [.st [(.int .i64), (.int .i64), (.int .i64), (.int .i64), (.int .i64), (.int .i64), (.int .i64), (.int .i64), (.int .i64), (.int .i64), (.int .i64), .bool, .bool]] fun o => ∃ (p : D), (-1 ≤ (p.fld 2).toI) ∧ o = [p] := by
  refine PC.of_sigK mix sig_192 ⟨trivial, rfl, trivial⟩ rfl fun hok ci ch hci hcn hch => ?_
  have e_n := int_eta (hok _ (.head _))
  have b_n := int_range (hok _ (.head _))
  apply sayR_den (φ := (phi_192))
  simp [e_n, tree_192, T.sayR, inK_i64_iff, RS.oks, RS.ok, CK.okD, X.den, O1.den, O2.den, O3.den, callD, XArg.ev, XArg.dat, Callee'.num, backs, DArg.back, Conds.den, cloArgs, phi_192]
  (repeat' (first | (with_reducible apply And.intro) | intro _)) <;> first | (first | (with_reducible assumption) | (with_reducible exact trivial) | (first | ((with_reducible refine ⟨?_⟩); simp [e_n, tree_192, T.sayR, inK_i64_iff, RS.oks, RS.ok, CK.okD, X.den, O1.den, O2.den, O3.den, callD, XArg.ev, XArg.dat, Callee'.num, backs, DArg.back, Conds.den, cloArgs]; intro K hK; (try simp only [phi_192] at hK); intros; first | contradiction | ((with_reducible refine pd_115 _ _ _ ?ho); (case ho => exact hK)) | ((with_reducible refine pd_117 _ _ _ ?ho); (case ho => exact hK)) | ((with_reducible refine pd_189 _ _ ?_ _ ?ho); (case ho => exact hK); all_goals (exact (by first | (with_reducible assumption) | omega | assumption | (simp; done) | (simp; omega) | (simp [*]; done) | exact smallE_of (n := 1048576) (by omega) (by omega) | (simp [*] at *; omega) | grind [szS]))) | (exact pd_115 _ _ _ hK) | (exact pd_117 _ _ _ hK) | (exact pd_189 _ _ (by first | (with_reducible assumption) | omega | assumption | (simp; done) | (simp; omega) | (simp [*]; done) | exact smallE_of (n := 1048576) (by omega) (by omega) | (simp [*] at *; omega) | grind [szS]) _ hK)) | ((with_reducible show CallIn _ _ _ _ _); first | (refine .inr ⟨_, rfl, fun K hK => hK⟩) | (refine .inr ⟨_, rfl, fun K hK => hK true⟩) | (refine .inr ⟨_, rfl, fun K hK => hK 0 (by simp)⟩))) | omega | (simp only [IntKind.wrap_i64, maxL] at *; omega) | assumption | rfl | contradiction | grind) | skip
  obtain ⟨I, hI⟩ : ∃ I : List D → Prop, ∀ vs, I vs ↔ ∃ (i : Nat) (t : Int), vs = [.int i, .int t] ∧ i ≤ 6 := ⟨_, fun _ => Iff.rfl⟩
  obtain ⟨μ, hμ⟩ : ∃ μ : List D → Nat, ∀ vs, μ vs = 6 - ((vs.getD 0 default).toI).toNat := ⟨_, fun _ => rfl⟩
  refine den_loop I μ ((hI _).2 ⟨0, 0, by simp [X.den], by omega⟩) ?_
  intro vs hvl hv
  obtain ⟨i, t, rfl, hinv⟩ := (hI _).1 hv
  clear hv
  apply sayR_den (φ := (phi_192))
  by_cases hlt : i < 6
  · have hz : IntKind.i64.wrap ((i : Int) + 1) = ((i + 1 : Nat) : Int) := by (first | omega | (simp only [IntKind.wrap_i64, maxL] at *; omega) | (simp [IntKind.wrap_i64, maxL] at *; omega))
    have hlt2 : (i : Int) < 6 := by omega
    simp [e_n, tree_192, T.sayR, inK_i64_iff, RS.oks, RS.ok, CK.okD, X.den, O1.den, O2.den, O3.den, callD, XArg.ev, XArg.dat, Callee'.num, backs, DArg.back, Conds.den, cloArgs, phi_192, hlt, hlt2, hz]
    (repeat' (first | (with_reducible apply And.intro) | intro _)) <;> first | (exact (hI _).2 ⟨i + 1, _, rfl, by omega⟩) | (rw [hμ, hμ]; simp; omega) | (first | (with_reducible assumption) | (with_reducible exact trivial) | (first | ((with_reducible refine ⟨?_⟩); simp [e_n, tree_192, T.sayR, inK_i64_iff, RS.oks, RS.ok, CK.okD, X.den, O1.den, O2.den, O3.den, callD, XArg.ev, XArg.dat, Callee'.num, backs, DArg.back, Conds.den, cloArgs]; intro K hK; (try simp only [phi_192] at hK); intros; first | contradiction | ((with_reducible refine pd_115 _ _ _ ?ho); (case ho => exact hK)) | ((with_reducible refine pd_117 _ _ _ ?ho); (case ho => exact hK)) | ((with_reducible refine pd_189 _ _ ?_ _ ?ho); (case ho => exact hK); all_goals (exact (by first | (with_reducible assumption) | omega | assumption | (simp; done) | (simp; omega) | (simp [*]; done) | exact smallE_of (n := 1048576) (by omega) (by omega) | (simp [*] at *; omega) | grind [szS]))) | (exact pd_115 _ _ _ hK) | (exact pd_117 _ _ _ hK) | (exact pd_189 _ _ (by first | (with_reducible assumption) | omega | assumption | (simp; done) | (simp; omega) | (simp [*]; done) | exact smallE_of (n := 1048576) (by omega) (by omega) | (simp [*] at *; omega) | grind [szS]) _ hK)) | ((with_reducible show CallIn _ _ _ _ _); first | (refine .inr ⟨_, rfl, fun K hK => hK⟩) | (refine .inr ⟨_, rfl, fun K hK => hK true⟩) | (refine .inr ⟨_, rfl, fun K hK => hK 0 (by simp)⟩))) | omega | (simp only [IntKind.wrap_i64, maxL] at *; omega) | assumption | rfl | contradiction | grind) | skip
  · have : i = 6 := by omega
    subst this
    simp [e_n, tree_192, T.sayR, inK_i64_iff, RS.oks, RS.ok, CK.okD, X.den, O1.den, O2.den, O3.den, callD, XArg.ev, XArg.dat, Callee'.num, backs, DArg.back, Conds.den, cloArgs, phi_192]
    (repeat' (first | (with_reducible apply And.intro) | intro _)) <;> first | (first | (with_reducible assumption) | (with_reducible exact trivial) | (first | ((with_reducible refine ⟨?_⟩); simp [e_n, tree_192, T.sayR, inK_i64_iff, RS.oks, RS.ok, CK.okD, X.den, O1.den, O2.den, O3.den, callD, XArg.ev, XArg.dat, Callee'.num, backs, DArg.back, Conds.den, cloArgs]; intro K hK; (try simp only [phi_192] at hK); intros; first | contradiction | ((with_reducible refine pd_115 _ _ _ ?ho); (case ho => exact hK)) | ((with_reducible refine pd_117 _ _ _ ?ho); (case ho => exact hK)) | ((with_reducible refine pd_189 _ _ ?_ _ ?ho); (case ho => exact hK); all_goals (exact (by first | (with_reducible assumption) | omega | assumption | (simp; done) | (simp; omega) | (simp [*]; done) | exact smallE_of (n := 1048576) (by omega) (by omega) | (simp [*] at *; omega) | grind [szS]))) | (exact pd_115 _ _ _ hK) | (exact pd_117 _ _ _ hK) | (exact pd_189 _ _ (by first | (with_reducible assumption) | omega | assumption | (simp; done) | (simp; omega) | (simp [*]; done) | exact smallE_of (n := 1048576) (by omega) (by omega) | (simp [*] at *; omega) | grind [szS]) _ hK)) | ((with_reducible show CallIn _ _ _ _ _); first | (refine .inr ⟨_, rfl, fun K hK => hK⟩) | (refine .inr ⟨_, rfl, fun K hK => hK true⟩) | (refine .inr ⟨_, rfl, fun K hK => hK 0 (by simp)⟩))) | omega | (simp only [IntKind.wrap_i64, maxL] at *; omega) | assumption | rfl | contradiction | grind) | (refine ⟨_, ?_, rfl⟩; simp; (first | omega | (simp only [IntKind.wrap_i64, maxL] at *; omega) | (simp [IntKind.wrap_i64, maxL] at *; omega))) | skip
theorem pd_192 (c n : D) (Q : List D → Prop) (ho : ∀ (p : D), (-1 ≤ (p.fld 2).toI) → Q [p]) : PC Try.prog 192 [.cur c, .sc (.int .i64) n] [.st [(.int .i64), (.int .i64), (.int .i64), (.int .i64), (.int .i64), (.int .i64), (.int .i64), (.int .i64), (.int .i64), (.int .i64), (.int .i64), .bool, .bool]] Q := (pc_192 c n).mono (by rintro _ ⟨p, hc, rfl⟩; exact ho p hc)
/- spec.l5Draw -/
def phi_119 : Nat → List D → (List D → Prop) → Prop
  | 117, [c, n], K => ∀ (m : Int), (0 ≤ m ∧ m ≤ 16777215 ∧ (0 < n.toI → m < n.toI) ∧ (n.toI ≤ 0 → m = 0)) → K [.int m]
  | 189, [c, l], K => ∀ (m : Int), (oneOf l m) → K [.int m]
  | 191, [n], K => ∀ (s : D), ((s.fld 0).toL = [] ∧ 2 ≤ (s.fld 1).toL.length ∧ (s.fld 1).toL.length ≤ 3) → K [s]
  | 192, [c, n], K => ∀ (p : D), (-1 ≤ (p.fld 2).toI) → K [p]
  | _, _, _ => False
theorem pc_119 (c : D) : PC Try.prog 119 [.cur c] [.st [(.sl [(.int .i64), (.int .i64), (.int .i64), (.int .i64), (.int .i64), (.int .i64), (.int .i64), (.int .i64), (.int .i64), (.int .i64), (.int .i64), .bool, .bool]), (.sl [(.int .i64), (.int .i64), .bool]), (.int .i64), (.int .i64)]] fun o => ∃ (s : D), (stateN 5 3 s) ∧ o = [s] := by
  refine PC.of_sigK mix sig_119 ⟨trivial, trivial⟩ rfl fun hok ci ch hci hcn hch => ?_
  apply sayR_den (φ := (phi_119))
  simp [tree_119, T.sayR, inK_i64_iff, RS.oks, RS.ok, CK.okD, X.den, O1.den, O2.den, O3.den, callD, XArg.ev, XArg.dat, Callee'.num, backs, DArg.back, Conds.den, cloArgs, phi_119]
  (repeat' (first | (with_reducible apply And.intro) | intro _)) <;> first | (first | (with_reducible assumption) | (with_reducible exact trivial) | (first | ((with_reducible refine ⟨?_⟩); simp [tree_119, T.sayR, inK_i64_iff, RS.oks, RS.ok, CK.okD, X.den, O1.den, O2.den, O3.den, callD, XArg.ev, XArg.dat, Callee'.num, backs, DArg.back, Conds.den, cloArgs]; intro K hK; (try simp only [phi_119] at hK); intros; first | contradiction | ((with_reducible refine pd_117 _ _ _ ?ho); (case ho => exact hK)) | ((with_reducible refine pd_189 _ _ ?_ _ ?ho); (case ho => exact hK); all_goals (exact (by first | (with_reducible assumption) | omega | assumption | (simp; done) | (simp; omega) | (simp [*]; done) | exact smallE_of (n := 1048576) (by omega) (by omega) | (simp [*] at *; omega) | grind [szS]))) | ((with_reducible refine pd_191 _ _ ?ho); (case ho => exact hK)) | ((with_reducible refine pd_192 _ _ _ ?ho); (case ho => exact hK)) | (exact pd_117 _ _ _ hK) | (exact pd_189 _ _ (by first | (with_reducible assumption) | omega | assumption | (simp; done) | (simp; omega) | (simp [*]; done) | exact smallE_of (n := 1048576) (by omega) (by omega) | (simp [*] at *; omega) | grind [szS]) _ hK) | (exact pd_191 _ _ hK) | (exact pd_192 _ _ _ hK)) | ((with_reducible show CallIn _ _ _ _ _); first | (refine .inr ⟨_, rfl, fun K hK => hK⟩) | (refine .inr ⟨_, rfl, fun K hK => hK true⟩) | (refine .inr ⟨_, rfl, fun K hK => hK 0 (by simp)⟩))) | omega | (simp only [IntKind.wrap_i64, maxL] at *; omega) | assumption | rfl | contradiction | grind) | skip
  rename_i s0 hs0 hs1 hs2 hk m1 _ _ _ _ _ m2 _ _ _ _ _
  have e1 := sl_eta (okL_at hk (i := 1) rfl)
  have e0 : s0.fld 0 = .lst [] := by rw [← sl_eta (okL_at hk (i := 0) rfl), hs0]
  obtain ⟨I, hI⟩ : ∃ I : List D → Prop, ∀ vs, I vs ↔ ∃ (i : Nat) (l : List D), vs = [.int i, .lst l] ∧ i ≤ 2 ∧ 2 ≤ l.length ∧ l.length ≤ 3 := ⟨_, fun _ => Iff.rfl⟩
  obtain ⟨μ, hμ⟩ : ∃ μ : List D → Nat, ∀ vs, μ vs = 2 - ((vs.getD 0 default).toI).toNat := ⟨_, fun _ => rfl⟩
  refine den_loop I μ ((hI _).2 ⟨0, (s0.fld 1).toL, by simp [X.den, O1.den, e1], by omega, hs1, hs2⟩) ?_
  intro vs hvl hv
  obtain ⟨i, l, rfl, hinv⟩ := (hI _).1 hv
  clear hv
  apply sayR_den (φ := (phi_119))
  by_cases hlt : i < 2
  · have hz : IntKind.i64.wrap ((i : Int) + 1) = ((i + 1 : Nat) : Int) := by (first | omega | (simp only [IntKind.wrap_i64, maxL] at *; omega) | (simp [IntKind.wrap_i64, maxL] at *; omega))
    have hlt2 : (i : Int) < 2 := by omega
    have hl2 : i < l.length := by omega
    simp [tree_119, T.sayR, inK_i64_iff, RS.oks, RS.ok, CK.okD, X.den, O1.den, O2.den, O3.den, callD, XArg.ev, XArg.dat, Callee'.num, backs, DArg.back, Conds.den, cloArgs, phi_119, hlt, hlt2, hz, hl2]
    (repeat' (first | (with_reducible apply And.intro) | intro _)) <;> first | (exact (hI _).2 ⟨i + 1, _, rfl, by omega, by simp; omega, by simp; omega⟩) | (rw [hμ, hμ]; simp; omega) | (first | (with_reducible assumption) | (with_reducible exact trivial) | (first | ((with_reducible refine ⟨?_⟩); simp [tree_119, T.sayR, inK_i64_iff, RS.oks, RS.ok, CK.okD, X.den, O1.den, O2.den, O3.den, callD, XArg.ev, XArg.dat, Callee'.num, backs, DArg.back, Conds.den, cloArgs]; intro K hK; (try simp only [phi_119] at hK); intros; first | contradiction | ((with_reducible refine pd_117 _ _ _ ?ho); (case ho => exact hK)) | ((with_reducible refine pd_189 _ _ ?_ _ ?ho); (case ho => exact hK); all_goals (exact (by first | (with_reducible assumption) | omega | assumption | (simp; done) | (simp; omega) | (simp [*]; done) | exact smallE_of (n := 1048576) (by omega) (by omega) | (simp [*] at *; omega) | grind [szS]))) | ((with_reducible refine pd_191 _ _ ?ho); (case ho => exact hK)) | ((with_reducible refine pd_192 _ _ _ ?ho); (case ho => exact hK)) | (exact pd_117 _ _ _ hK) | (exact pd_189 _ _ (by first | (with_reducible assumption) | omega | assumption | (simp; done) | (simp; omega) | (simp [*]; done) | exact smallE_of (n := 1048576) (by omega) (by omega) | (simp [*] at *; omega) | grind [szS]) _ hK) | (exact pd_191 _ _ hK) | (exact pd_192 _ _ _ hK)) | ((with_reducible show CallIn _ _ _ _ _); first | (refine .inr ⟨_, rfl, fun K hK => hK⟩) | (refine .inr ⟨_, rfl, fun K hK => hK true⟩) | (refine .inr ⟨_, rfl, fun K hK => hK 0 (by simp)⟩))) | omega | (simp only [IntKind.wrap_i64, maxL] at *; omega) | assumption | rfl | contradiction | grind) | skip
  · have : i = 2 := by omega
    subst this
    simp [tree_119, T.sayR, inK_i64_iff, RS.oks, RS.ok, CK.okD, X.den, O1.den, O2.den, O3.den, callD, XArg.ev, XArg.dat, Callee'.num, backs, DArg.back, Conds.den, cloArgs, phi_119]
    (repeat' (first | (with_reducible apply And.intro) | intro _)) <;> first | (first | (with_reducible assumption) | (with_reducible exact trivial) | (first | ((with_reducible refine ⟨?_⟩); simp [tree_119, T.sayR, inK_i64_iff, RS.oks, RS.ok, CK.okD, X.den, O1.den, O2.den, O3.den, callD, XArg.ev, XArg.dat, Callee'.num, backs, DArg.back, Conds.den, cloArgs]; intro K hK; (try simp only [phi_119] at hK); intros; first | contradiction | ((with_reducible refine pd_117 _ _ _ ?ho); (case ho => exact hK)) | ((with_reducible refine pd_189 _ _ ?_ _ ?ho); (case ho => exact hK); all_goals (exact (by first | (with_reducible assumption) | omega | assumption | (simp; done) | (simp; omega) | (simp [*]; done) | exact smallE_of (n := 1048576) (by omega) (by omega) | (simp [*] at *; omega) | grind [szS]))) | ((with_reducible refine pd_191 _ _ ?ho); (case ho => exact hK)) | ((with_reducible refine pd_192 _ _ _ ?ho); (case ho => exact hK)) | (exact pd_117 _ _ _ hK) | (exact pd_189 _ _ (by first | (with_reducible assumption) | omega | assumption | (simp; done) | (simp; omega) | (simp [*]; done) | exact smallE_of (n := 1048576) (by omega) (by omega) | (simp [*] at *; omega) | grind [szS]) _ hK) | (exact pd_191 _ _ hK) | (exact pd_192 _ _ _ hK)) | ((with_reducible show CallIn _ _ _ _ _); first | (refine .inr ⟨_, rfl, fun K hK => hK⟩) | (refine .inr ⟨_, rfl, fun K hK => hK true⟩) | (refine .inr ⟨_, rfl, fun K hK => hK 0 (by simp)⟩))) | omega | (simp only [IntKind.wrap_i64, maxL] at *; omega) | assumption | rfl | contradiction | grind) | skip
    rename_i m3 h30 _ h34 _ _
    obtain ⟨k, hk3⟩ : ∃ k : Nat, m3 = k := ⟨m3.toNat, by omega⟩
    subst hk3
    have hw : IntKind.i64.wrap (1 + (k : Int)) = ((k + 1 : Nat) : Int) := by (first | omega | (simp only [IntKind.wrap_i64, maxL] at *; omega) | (simp [IntKind.wrap_i64, maxL] at *; omega))
    obtain ⟨I, hI⟩ : ∃ I : List D → Prop, ∀ vs, I vs ↔ ∃ (q : Int) (j : Nat) (ps : List D), vs = [.int q, .int j, .lst ps] ∧ ps.length + j = k + 1 ∧ ∀ x ∈ ps, -1 ≤ (x.fld 2).toI := ⟨_, fun _ => Iff.rfl⟩
    obtain ⟨μ, hμ⟩ : ∃ μ : List D → Nat, ∀ vs, μ vs = ((vs.getD 1 default).toI).toNat := ⟨_, fun _ => rfl⟩
    refine den_loop I μ ((hI _).2 ⟨0, k + 1, [], by simp [X.den, O1.den, O2.den, e0, hw], by simp, by simp⟩) ?_
    intro vs hvl hv
    obtain ⟨q, j, ps, rfl, hinv⟩ := (hI _).1 hv
    clear hv
    apply sayR_den (φ := (phi_119))
    cases j with
    | succ j =>
      have hz : IntKind.i64.wrap (j : Int) = j := by (first | omega | (simp only [IntKind.wrap_i64, maxL] at *; omega) | (simp [IntKind.wrap_i64, maxL] at *; omega))
      have hp : (0 : Int) < (j : Int) + 1 := by omega
      simp [tree_119, T.sayR, inK_i64_iff, RS.oks, RS.ok, CK.okD, X.den, O1.den, O2.den, O3.den, callD, XArg.ev, XArg.dat, Callee'.num, backs, DArg.back, Conds.den, cloArgs, phi_119, hz, hp]
      (repeat' (first | (with_reducible apply And.intro) | intro _)) <;> first | ((with_reducible refine (hI _).2 ?_); refine ⟨_, j, _, rfl, (by simp only [List.length_append, List.length_singleton]; omega), sides_app hinv.2 ?_⟩; first | (rename_i h _; exact h) | (rename_i h _ _; exact h)) | (rw [hμ, hμ]; simp <;> omega) | (first | (with_reducible assumption) | (with_reducible exact trivial) | (first | ((with_reducible refine ⟨?_⟩); simp [tree_119, T.sayR, inK_i64_iff, RS.oks, RS.ok, CK.okD, X.den, O1.den, O2.den, O3.den, callD, XArg.ev, XArg.dat, Callee'.num, backs, DArg.back, Conds.den, cloArgs]; intro K hK; (try simp only [phi_119] at hK); intros; first | contradiction | ((with_reducible refine pd_117 _ _ _ ?ho); (case ho => exact hK)) | ((with_reducible refine pd_189 _ _ ?_ _ ?ho); (case ho => exact hK); all_goals (exact (by first | (with_reducible assumption) | omega | assumption | (simp; done) | (simp; omega) | (simp [*]; done) | exact smallE_of (n := 1048576) (by omega) (by omega) | (simp [*] at *; omega) | grind [szS]))) | ((with_reducible refine pd_191 _ _ ?ho); (case ho => exact hK)) | ((with_reducible refine pd_192 _ _ _ ?ho); (case ho => exact hK)) | (exact pd_117 _ _ _ hK) | (exact pd_189 _ _ (by first | (with_reducible assumption) | omega | assumption | (simp; done) | (simp; omega) | (simp [*]; done) | exact smallE_of (n := 1048576) (by omega) (by omega) | (simp [*] at *; omega) | grind [szS]) _ hK) | (exact pd_191 _ _ hK) | (exact pd_192 _ _ _ hK)) | ((with_reducible show CallIn _ _ _ _ _); first | (refine .inr ⟨_, rfl, fun K hK => hK⟩) | (refine .inr ⟨_, rfl, fun K hK => hK true⟩) | (refine .inr ⟨_, rfl, fun K hK => hK 0 (by simp)⟩))) | omega | (simp only [IntKind.wrap_i64, maxL] at *; omega) | assumption | rfl | contradiction | grind) | skip
    | zero =>
      simp [tree_119, T.sayR, inK_i64_iff, RS.oks, RS.ok, CK.okD, X.den, O1.den, O2.den, O3.den, callD, XArg.ev, XArg.dat, Callee'.num, backs, DArg.back, Conds.den, cloArgs, phi_119]
      exact stateN_mk (by omega) (by omega) (by omega) (by omega) hinv.2
theorem pd_119 (c : D) (Q : List D → Prop) (ho : ∀ (s : D), (stateN 5 3 s) → Q [s]) : PC Try.prog 119 [.cur c] [.st [(.sl [(.int .i64), (.int .i64), (.int .i64), (.int .i64), (.int .i64), (.int .i64), (.int .i64), (.int .i64), (.int .i64), (.int .i64), (.int .i64), .bool, .bool]), (.sl [(.int .i64), (.int .i64), .bool]), (.int .i64), (.int .i64)]] Q := (pc_119 c).mono (by rintro _ ⟨s, hc, rfl⟩; exact ho s hc)
/- spec.l1Odd -/
def phi_116 : Nat → List D → (List D → Prop) → Prop
  | 189, [c, l], K => ∀ (m : Int), (oneOf l m) → K [.int m]
  | _, _, _ => False
theorem pc_116 (c : D) : PC Try.prog 116 [.cur c] [.sc (.int .i64)] fun o => ∃ (m : Int), o = [.int m] := by
  refine PC.of_sigK mix sig_116 ⟨trivial, trivial⟩ rfl fun hok ci ch hci hcn hch => ?_
  apply sayR_den (φ := (phi_116))
  simp [tree_116, T.sayR, inK_i64_iff, RS.oks, RS.ok, CK.okD, X.den, O1.den, O2.den, O3.den, callD, XArg.ev, XArg.dat, Callee'.num, backs, DArg.back, Conds.den, cloArgs, phi_116]
  all_goals ((repeat' (first | (with_reducible apply And.intro) | intro _)) <;> (first | (with_reducible assumption) | (with_reducible exact trivial) | (first | ((with_reducible refine ⟨?_⟩); simp [tree_116, T.sayR, inK_i64_iff, RS.oks, RS.ok, CK.okD, X.den, O1.den, O2.den, O3.den, callD, XArg.ev, XArg.dat, Callee'.num, backs, DArg.back, Conds.den, cloArgs]; intro K hK; (try simp only [phi_116] at hK); intros; first | contradiction | ((with_reducible refine pd_189 _ _ ?_ _ ?ho); (case ho => exact hK); all_goals (exact (by first | (with_reducible assumption) | omega | assumption | (simp; done) | (simp; omega) | (simp [*]; done) | exact smallE_of (n := 1048576) (by omega) (by omega) | (simp [*] at *; omega) | grind [szS]))) | (exact pd_189 _ _ (by first | (with_reducible assumption) | omega | assumption | (simp; done) | (simp; omega) | (simp [*]; done) | exact smallE_of (n := 1048576) (by omega) (by omega) | (simp [*] at *; omega) | grind [szS]) _ hK)) | ((with_reducible show CallIn _ _ _ _ _); first | (refine .inr ⟨_, rfl, fun K hK => hK⟩) | (refine .inr ⟨_, rfl, fun K hK => hK true⟩) | (refine .inr ⟨_, rfl, fun K hK => hK 0 (by simp)⟩))) | omega | (simp only [IntKind.wrap_i64, maxL] at *; omega) | assumption | rfl | contradiction | grind))
theorem pd_116 (c : D) (Q : List D → Prop) (ho : ∀ (m : Int), Q [.int m]) : PC Try.prog 116 [.cur c] [.sc (.int .i64)] Q := (pc_116 c).mono (by rintro _ ⟨m, rfl⟩; exact ho m)
/- spec.l1Raw -/
def phi_133 : Nat → List D → (List D → Prop) → Prop
  | 115, [c, n], K => ∀ (b : Bool), K [.bool b]
  | 116, [c], K => ∀ (m : Int), K [.int m]
  | 189, [c, l], K => ∀ (m : Int), (oneOf l m) → K [.int m]
  | _, _, _ => False
theorem pc_133 (c : D) : PC Try.prog 133 [.cur c] [.sc (.int .i64)] fun o => ∃ (m : Int), o = [.int m] := by
  refine PC.of_sigK mix sig_133 ⟨trivial, trivial⟩ rfl fun hok ci ch hci hcn hch => ?_
  apply sayR_den (φ := (phi_133))
  simp [tree_133, T.sayR, inK_i64_iff, RS.oks, RS.ok, CK.okD, X.den, O1.den, O2.den, O3.den, callD, XArg.ev, XArg.dat, Callee'.num, backs, DArg.back, Conds.den, cloArgs, phi_133]
  all_goals ((repeat' (first | (with_reducible apply And.intro) | intro _)) <;> (first | (with_reducible assumption) | (with_reducible exact trivial) | (first | ((with_reducible refine ⟨?_⟩); simp [tree_133, T.sayR, inK_i64_iff, RS.oks, RS.ok, CK.okD, X.den, O1.den, O2.den, O3.den, callD, XArg.ev, XArg.dat, Callee'.num, backs, DArg.back, Conds.den, cloArgs]; intro K hK; (try simp only [phi_133] at hK); intros; first | contradiction | ((with_reducible refine pd_115 _ _ _ ?ho); (case ho => exact hK)) | ((with_reducible refine pd_116 _ _ ?ho); (case ho => exact hK)) | ((with_reducible refine pd_189 _ _ ?_ _ ?ho); (case ho => exact hK); all_goals (exact (by first | (with_reducible assumption) | omega | assumption | (simp; done) | (simp; omega) | (simp [*]; done) | exact smallE_of (n := 1048576) (by omega) (by omega) | (simp [*] at *; omega) | grind [szS]))) | (exact pd_115 _ _ _ hK) | (exact pd_116 _ _ hK) | (exact pd_189 _ _ (by first | (with_reducible assumption) | omega | assumption | (simp; done) | (simp; omega) | (simp [*]; done) | exact smallE_of (n := 1048576) (by omega) (by omega) | (simp [*] at *; omega) | grind [szS]) _ hK)) | ((with_reducible show CallIn _ _ _ _ _); first | (refine .inr ⟨_, rfl, fun K hK => hK⟩) | (refine .inr ⟨_, rfl, fun K hK => hK true⟩) | (refine .inr ⟨_, rfl, fun K hK => hK 0 (by simp)⟩))) | omega | (simp only [IntKind.wrap_i64, maxL] at *; omega) | assumption | rfl | contradiction | grind))
theorem pd_133 (c : D) (Q : List D → Prop) (ho : ∀ (m : Int), Q [.int m]) : PC Try.prog 133 [.cur c] [.sc (.int .i64)] Q := (pc_133 c).mono (by rintro _ ⟨m, rfl⟩; exact ho m)
/- spec.l6Id -/
def phi_199 : Nat → List D → (List D → Prop) → Prop
  | 115, [c, n], K => ∀ (b : Bool), K [.bool b]
  | 117, [c, n], K => ∀ (m : Int), (0 ≤ m ∧ m ≤ 16777215 ∧ (0 < n.toI → m < n.toI) ∧ (n.toI ≤ 0 → m = 0)) → K [.int m]
  | _, _, _ => False
theorem pc_199 (c s : D) : PC Try.prog 199 [.cur c, .st [(.sl [(.int .i64), (.int .i64), (.int .i64), (.int .i64), (.int .i64), (.int .i64), (.int .i64), (.int .i64), (.int .i64), (.int .i64), (.int .i64), .bool, .bool]), (.sl [(.int .i64), (.int .i64), .bool]), (.int .i64), (.int .i64)] s] [.sc (.int .i64)] fun o => ∃ (m : Int), o = [.int m] := by
  refine PC.of_sigK mix sig_199 ⟨trivial, rfl, trivial⟩ rfl fun hok ci ch hci hcn hch => ?_
  have e_s : D.lst [s.fld 0, s.fld 1, s.fld 2, s.fld 3] = s := by simpa [List.range, List.range.loop] using okL_eta (hok _ (.head _))
  have k_s : okL [(.sl [(.int .i64), (.int .i64), (.int .i64), (.int .i64), (.int .i64), (.int .i64), (.int .i64), (.int .i64), (.int .i64), (.int .i64), (.int .i64), .bool, .bool]), (.sl [(.int .i64), (.int .i64), .bool]), (.int .i64), (.int .i64)] s := (hok _ (.head _))
  have e_s_0 : D.lst (s.fld 0).toL = s.fld 0 := sl_eta (okL_at k_s (i := 0) rfl)
  have l_s_0 := sl_len (okL_at k_s (i := 0) rfl)
  have k_s_0 := sl_all (okL_at k_s (i := 0) rfl)
  have E_s_0 : ∀ i, i < (s.fld 0).toL.length → D.lst [((s.fld 0).elem i).fld 0, ((s.fld 0).elem i).fld 1, ((s.fld 0).elem i).fld 2, ((s.fld 0).elem i).fld 3, ((s.fld 0).elem i).fld 4, ((s.fld 0).elem i).fld 5, ((s.fld 0).elem i).fld 6, ((s.fld 0).elem i).fld 7, ((s.fld 0).elem i).fld 8, ((s.fld 0).elem i).fld 9, ((s.fld 0).elem i).fld 10, ((s.fld 0).elem i).fld 11, ((s.fld 0).elem i).fld 12] = (s.fld 0).elem i := fun i hi => by simpa [List.range, List.range.loop] using okL_eta (k_s_0 _ (elem_mem hi))
  have e_s_1 : D.lst (s.fld 1).toL = s.fld 1 := sl_eta (okL_at k_s (i := 1) rfl)
  have l_s_1 := sl_len (okL_at k_s (i := 1) rfl)
  have k_s_1 := sl_all (okL_at k_s (i := 1) rfl)
  have E_s_1 : ∀ i, i < (s.fld 1).toL.length → D.lst [((s.fld 1).elem i).fld 0, ((s.fld 1).elem i).fld 1, ((s.fld 1).elem i).fld 2] = (s.fld 1).elem i := fun i hi => by simpa [List.range, List.range.loop] using okL_eta (k_s_1 _ (elem_mem hi))
  apply sayR_den (φ := (phi_199))
  have hin : ∀ i : Nat, i < (s.fld 0).toL.length → ∃ m : Int, ((s.fld 0).elem i).fld 0 = .int m := fun i hi => ⟨_, (int_eta (okL_at (k_s_0 _ (elem_mem hi)) (i := 0) rfl)).symm⟩
  by_cases hp : 0 < (s.fld 0).toL.length
  · simp [e_s_0, E_s_0, e_s_1, E_s_1, e_s, tree_199, T.sayR, inK_i64_iff, RS.oks, RS.ok, CK.okD, X.den, O1.den, O2.den, O3.den, callD, XArg.ev, XArg.dat, Callee'.num, backs, DArg.back, Conds.den, cloArgs, phi_199, hp]
    (repeat' (first | (with_reducible apply And.intro) | intro _)) <;> first | omega | (exact hin _ (by omega)) | (first | (with_reducible assumption) | (with_reducible exact trivial) | (first | ((with_reducible refine ⟨?_⟩); simp [e_s_0, E_s_0, e_s_1, E_s_1, e_s, tree_199, T.sayR, inK_i64_iff, RS.oks, RS.ok, CK.okD, X.den, O1.den, O2.den, O3.den, callD, XArg.ev, XArg.dat, Callee'.num, backs, DArg.back, Conds.den, cloArgs]; intro K hK; (try simp only [phi_199] at hK); intros; first | contradiction | ((with_reducible refine pd_115 _ _ _ ?ho); (case ho => exact hK)) | ((with_reducible refine pd_117 _ _ _ ?ho); (case ho => exact hK)) | (exact pd_115 _ _ _ hK) | (exact pd_117 _ _ _ hK)) | ((with_reducible show CallIn _ _ _ _ _); first | (refine .inr ⟨_, rfl, fun K hK => hK⟩) | (refine .inr ⟨_, rfl, fun K hK => hK true⟩) | (refine .inr ⟨_, rfl, fun K hK => hK 0 (by simp)⟩))) | omega | (simp only [IntKind.wrap_i64, maxL] at *; omega) | assumption | rfl | contradiction | grind) | skip
  · have he : (s.fld 0).toL = [] := by cases h : (s.fld 0).toL <;> simp_all
    simp [e_s_0, E_s_0, e_s_1, E_s_1, e_s, tree_199, T.sayR, inK_i64_iff, RS.oks, RS.ok, CK.okD, X.den, O1.den, O2.den, O3.den, callD, XArg.ev, XArg.dat, Callee'.num, backs, DArg.back, Conds.den, cloArgs, phi_199, he]
    (repeat' (first | (with_reducible apply And.intro) | intro _)) <;> first | omega | (first | (with_reducible assumption) | (with_reducible exact trivial) | (first | ((with_reducible refine ⟨?_⟩); simp [e_s_0, E_s_0, e_s_1, E_s_1, e_s, tree_199, T.sayR, inK_i64_iff, RS.oks, RS.ok, CK.okD, X.den, O1.den, O2.den, O3.den, callD, XArg.ev, XArg.dat, Callee'.num, backs, DArg.back, Conds.den, cloArgs]; intro K hK; (try simp only [phi_199] at hK); intros; first | contradiction | ((with_reducible refine pd_115 _ _ _ ?ho); (case ho => exact hK)) | ((with_reducible refine pd_117 _ _ _ ?ho); (case ho => exact hK)) | (exact pd_115 _ _ _ hK) | (exact pd_117 _ _ _ hK)) | ((with_reducible show CallIn _ _ _ _ _); first | (refine .inr ⟨_, rfl, fun K hK => hK⟩) | (refine .inr ⟨_, rfl, fun K hK => hK true⟩) | (refine .inr ⟨_, rfl, fun K hK => hK 0 (by simp)⟩))) | omega | (simp only [IntKind.wrap_i64, maxL] at *; omega) | assumption | rfl | contradiction | grind) | skip
theorem pd_199 (c s : D) (Q : List D → Prop) (ho : ∀ (m : Int), Q [.int m]) : PC Try.prog 199 [.cur c, .st [(.sl [(.int .i64), (.int .i64), (.int .i64), (.int .i64), (.int .i64), (.int .i64), (.int .i64), (.int .i64), (.int .i64), (.int .i64), (.int .i64), .bool, .bool]), (.sl [(.int .i64), (.int .i64), .bool]), (.int .i64), (.int .i64)] s] [.sc (.int .i64)] Q := (pc_199 c s).mono (by rintro _ ⟨m, rfl⟩; exact ho m)
/- spec.l7Draw -/
def phi_193 : Nat → List D → (List D → Prop) → Prop
  | 115, [c, n], K => ∀ (b : Bool), K [.bool b]
  | 189, [c, l], K => ∀ (m : Int), (oneOf l m) → K [.int m]
  | 199, [c, s], K => ∀ (m : Int), K [.int m]
  | _, _, _ => False
theorem pc_193 (c s : D) : PC Try.prog 193 [.cur c, .st [(.sl [(.int .i64), (.int .i64), (.int .i64), (.int .i64), (.int .i64), (.int .i64), (.int .i64), (.int .i64), (.int .i64), (.int .i64), (.int .i64), .bool, .bool]), (.sl [(.int .i64), (.int .i64), .bool]), (.int .i64), (.int .i64)] s] [.st [(.int .i64), (.int .i64), (.int .i64), (.int .i64), (.int .i64), (.int .i64), (.int .i64)]] fun o => ∃ (p : D), o = [p] := by
  refine PC.of_sigK mix sig_193 ⟨trivial, rfl, trivial⟩ rfl fun hok ci ch hci hcn hch => ?_
  have e_s : D.lst [s.fld 0, s.fld 1, s.fld 2, s.fld 3] = s := by simpa [List.range, List.range.loop] using okL_eta (hok _ (.head _))
  have k_s : okL [(.sl [(.int .i64), (.int .i64), (.int .i64), (.int .i64), (.int .i64), (.int .i64), (.int .i64), (.int .i64), (.int .i64), (.int .i64), (.int .i64), .bool, .bool]), (.sl [(.int .i64), (.int .i64), .bool]), (.int .i64), (.int .i64)] s := (hok _ (.head _))
  have e_s_0 : D.lst (s.fld 0).toL = s.fld 0 := sl_eta (okL_at k_s (i := 0) rfl)
  have l_s_0 := sl_len (okL_at k_s (i := 0) rfl)
  have k_s_0 := sl_all (okL_at k_s (i := 0) rfl)
  have E_s_0 : ∀ i, i < (s.fld 0).toL.length → D.lst [((s.fld 0).elem i).fld 0, ((s.fld 0).elem i).fld 1, ((s.fld 0).elem i).fld 2, ((s.fld 0).elem i).fld 3, ((s.fld 0).elem i).fld 4, ((s.fld 0).elem i).fld 5, ((s.fld 0).elem i).fld 6, ((s.fld 0).elem i).fld 7, ((s.fld 0).elem i).fld 8, ((s.fld 0).elem i).fld 9, ((s.fld 0).elem i).fld 10, ((s.fld 0).elem i).fld 11, ((s.fld 0).elem i).fld 12] = (s.fld 0).elem i := fun i hi => by simpa [List.range, List.range.loop] using okL_eta (k_s_0 _ (elem_mem hi))
  have e_s_1 : D.lst (s.fld 1).toL = s.fld 1 := sl_eta (okL_at k_s (i := 1) rfl)
  have l_s_1 := sl_len (okL_at k_s (i := 1) rfl)
  have k_s_1 := sl_all (okL_at k_s (i := 1) rfl)
  have E_s_1 : ∀ i, i < (s.fld 1).toL.length → D.lst [((s.fld 1).elem i).fld 0, ((s.fld 1).elem i).fld 1, ((s.fld 1).elem i).fld 2] = (s.fld 1).elem i := fun i hi => by simpa [List.range, List.range.loop] using okL_eta (k_s_1 _ (elem_mem hi))
  apply sayR_den (φ := (phi_193))
  simp (config := { maxSteps := 2000000 }) [e_s_0, E_s_0, e_s_1, E_s_1, e_s, tree_193, T.sayR, inK_i64_iff, RS.oks, RS.ok, CK.okD, X.den, O1.den, O2.den, O3.den, callD, XArg.ev, XArg.dat, Callee'.num, backs, DArg.back, Conds.den, cloArgs, phi_193]
  (repeat' (first | (with_reducible apply And.intro) | intro _)) <;> first | (first | ((with_reducible refine ⟨?_⟩); simp [e_s_0, E_s_0, e_s_1, E_s_1, e_s, tree_193, T.sayR, inK_i64_iff, RS.oks, RS.ok, CK.okD, X.den, O1.den, O2.den, O3.den, callD, XArg.ev, XArg.dat, Callee'.num, backs, DArg.back, Conds.den, cloArgs]; intro K hK; (try simp only [phi_193] at hK); intros; first | contradiction | ((with_reducible refine pd_115 _ _ _ ?ho); (case ho => exact hK)) | ((with_reducible refine pd_189 _ _ ?_ _ ?ho); (case ho => exact hK); all_goals (exact (by first | (with_reducible assumption) | omega | assumption | (simp; done) | (simp; omega) | (simp [*]; done) | exact smallE_of (n := 1048576) (by omega) (by omega) | (simp [*] at *; omega) | grind [szS]))) | ((with_reducible refine pd_199 _ _ _ ?ho); (case ho => exact hK)) | (exact pd_115 _ _ _ hK) | (exact pd_189 _ _ (by first | (with_reducible assumption) | omega | assumption | (simp; done) | (simp; omega) | (simp [*]; done) | exact smallE_of (n := 1048576) (by omega) (by omega) | (simp [*] at *; omega) | grind [szS]) _ hK) | (exact pd_199 _ _ _ hK)) | ((with_reducible show CallIn _ _ _ _ _); first | (refine .inr ⟨_, rfl, fun K hK => hK⟩) | (refine .inr ⟨_, rfl, fun K hK => hK true⟩) | (refine .inr ⟨_, rfl, fun K hK => hK 0 (by simp)⟩))) | exact ⟨_, rfl⟩ | (first | (with_reducible assumption) | (with_reducible exact trivial) | (first | ((with_reducible refine ⟨?_⟩); simp [e_s_0, E_s_0, e_s_1, E_s_1, e_s, tree_193, T.sayR, inK_i64_iff, RS.oks, RS.ok, CK.okD, X.den, O1.den, O2.den, O3.den, callD, XArg.ev, XArg.dat, Callee'.num, backs, DArg.back, Conds.den, cloArgs]; intro K hK; (try simp only [phi_193] at hK); intros; first | contradiction | ((with_reducible refine pd_115 _ _ _ ?ho); (case ho => exact hK)) | ((with_reducible refine pd_189 _ _ ?_ _ ?ho); (case ho => exact hK); all_goals (exact (by first | (with_reducible assumption) | omega | assumption | (simp; done) | (simp; omega) | (simp [*]; done) | exact smallE_of (n := 1048576) (by omega) (by omega) | (simp [*] at *; omega) | grind [szS]))) | ((with_reducible refine pd_199 _ _ _ ?ho); (case ho => exact hK)) | (exact pd_115 _ _ _ hK) | (exact pd_189 _ _ (by first | (with_reducible assumption) | omega | assumption | (simp; done) | (simp; omega) | (simp [*]; done) | exact smallE_of (n := 1048576) (by omega) (by omega) | (simp [*] at *; omega) | grind [szS]) _ hK) | (exact pd_199 _ _ _ hK)) | ((with_reducible show CallIn _ _ _ _ _); first | (refine .inr ⟨_, rfl, fun K hK => hK⟩) | (refine .inr ⟨_, rfl, fun K hK => hK true⟩) | (refine .inr ⟨_, rfl, fun K hK => hK 0 (by simp)⟩))) | omega | (simp only [IntKind.wrap_i64, maxL] at *; omega) | assumption | rfl | contradiction | grind) | skip
theorem pd_193 (c s : D) (Q : List D → Prop) (ho : ∀ (p : D), Q [p]) : PC Try.prog 193 [.cur c, .st [(.sl [(.int .i64), (.int .i64), (.int .i64), (.int .i64), (.int .i64), (.int .i64), (.int .i64), (.int .i64), (.int .i64), (.int .i64), (.int .i64), .bool, .bool]), (.sl [(.int .i64), (.int .i64), .bool]), (.int .i64), (.int .i64)] s] [.st [(.int .i64), (.int .i64), (.int .i64), (.int .i64), (.int .i64), (.int .i64), (.int .i64)]] Q := (pc_193 c s).mono (by rintro _ ⟨p, rfl⟩; exact ho p)
/- spec.l7Any -/
def phi_120 : Nat → List D → (List D → Prop) → Prop
  | 117, [c, n], K => ∀ (m : Int), (0 ≤ m ∧ m ≤ 16777215 ∧ (0 < n.toI → m < n.toI) ∧ (n.toI ≤ 0 → m = 0)) → K [.int m]
  | 133, [c], K => ∀ (m : Int), K [.int m]
  | 189, [c, l], K => ∀ (m : Int), (oneOf l m) → K [.int m]
  | 193, [c, s], K => ∀ (p : D), K [p]
  | _, _, _ => False
theorem pc_120 (c s : D) : PC Try.prog 120 [.cur c, .st [(.sl [(.int .i64), (.int .i64), (.int .i64), (.int .i64), (.int .i64), (.int .i64), (.int .i64), (.int .i64), (.int .i64), (.int .i64), (.int .i64), .bool, .bool]), (.sl [(.int .i64), (.int .i64), .bool]), (.int .i64), (.int .i64)] s] [.st [(.int .i64), (.int .i64), (.int .i64), (.int .i64), (.int .i64), (.int .i64), (.int .i64)]] fun o => ∃ (p : D), o = [p] := by
  refine PC.of_sigK mix sig_120 ⟨trivial, rfl, trivial⟩ rfl fun hok ci ch hci hcn hch => ?_
  have e_s : D.lst [s.fld 0, s.fld 1, s.fld 2, s.fld 3] = s := by simpa [List.range, List.range.loop] using okL_eta (hok _ (.head _))
  have k_s : okL [(.sl [(.int .i64), (.int .i64), (.int .i64), (.int .i64), (.int .i64), (.int .i64), (.int .i64), (.int .i64), (.int .i64), (.int .i64), (.int .i64), .bool, .bool]), (.sl [(.int .i64), (.int .i64), .bool]), (.int .i64), (.int .i64)] s := (hok _ (.head _))
  have e_s_0 : D.lst (s.fld 0).toL = s.fld 0 := sl_eta (okL_at k_s (i := 0) rfl)
  have l_s_0 := sl_len (okL_at k_s (i := 0) rfl)
  have k_s_0 := sl_all (okL_at k_s (i := 0) rfl)
  have E_s_0 : ∀ i, i < (s.fld 0).toL.length → D.lst [((s.fld 0).elem i).fld 0, ((s.fld 0).elem i).fld 1, ((s.fld 0).elem i).fld 2, ((s.fld 0).elem i).fld 3, ((s.fld 0).elem i).fld 4, ((s.fld 0).elem i).fld 5, ((s.fld 0).elem i).fld 6, ((s.fld 0).elem i).fld 7, ((s.fld 0).elem i).fld 8, ((s.fld 0).elem i).fld 9, ((s.fld 0).elem i).fld 10, ((s.fld 0).elem i).fld 11, ((s.fld 0).elem i).fld 12] = (s.fld 0).elem i := fun i hi => by simpa [List.range, List.range.loop] using okL_eta (k_s_0 _ (elem_mem hi))
  have e_s_1 : D.lst (s.fld 1).toL = s.fld 1 := sl_eta (okL_at k_s (i := 1) rfl)
  have l_s_1 := sl_len (okL_at k_s (i := 1) rfl)
  have k_s_1 := sl_all (okL_at k_s (i := 1) rfl)
  have E_s_1 : ∀ i, i < (s.fld 1).toL.length → D.lst [((s.fld 1).elem i).fld 0, ((s.fld 1).elem i).fld 1, ((s.fld 1).elem i).fld 2] = (s.fld 1).elem i := fun i hi => by simpa [List.range, List.range.loop] using okL_eta (k_s_1 _ (elem_mem hi))
  apply sayR_den (φ := (phi_120))
  simp [e_s_0, E_s_0, e_s_1, E_s_1, e_s, tree_120, T.sayR, inK_i64_iff, RS.oks, RS.ok, CK.okD, X.den, O1.den, O2.den, O3.den, callD, XArg.ev, XArg.dat, Callee'.num, backs, DArg.back, Conds.den, cloArgs, phi_120]
  (repeat' (first | (with_reducible apply And.intro) | intro _)) <;> first | (first | ((with_reducible refine ⟨?_⟩); simp [e_s_0, E_s_0, e_s_1, E_s_1, e_s, tree_120, T.sayR, inK_i64_iff, RS.oks, RS.ok, CK.okD, X.den, O1.den, O2.den, O3.den, callD, XArg.ev, XArg.dat, Callee'.num, backs, DArg.back, Conds.den, cloArgs]; intro K hK; (try simp only [phi_120] at hK); intros; first | contradiction | ((with_reducible refine pd_117 _ _ _ ?ho); (case ho => exact hK)) | ((with_reducible refine pd_133 _ _ ?ho); (case ho => exact hK)) | ((with_reducible refine pd_189 _ _ ?_ _ ?ho); (case ho => exact hK); all_goals (exact (by first | (with_reducible assumption) | omega | assumption | (simp; done) | (simp; omega) | (simp [*]; done) | exact smallE_of (n := 1048576) (by omega) (by omega) | (simp [*] at *; omega) | grind [szS]))) | ((with_reducible refine pd_193 _ _ _ ?ho); (case ho => exact hK)) | (exact pd_117 _ _ _ hK) | (exact pd_133 _ _ hK) | (exact pd_189 _ _ (by first | (with_reducible assumption) | omega | assumption | (simp; done) | (simp; omega) | (simp [*]; done) | exact smallE_of (n := 1048576) (by omega) (by omega) | (simp [*] at *; omega) | grind [szS]) _ hK) | (exact pd_193 _ _ _ hK)) | ((with_reducible show CallIn _ _ _ _ _); first | (refine .inr ⟨_, rfl, fun K hK => hK⟩) | (refine .inr ⟨_, rfl, fun K hK => hK true⟩) | (refine .inr ⟨_, rfl, fun K hK => hK 0 (by simp)⟩))) | exact ⟨_, rfl⟩ | (first | (with_reducible assumption) | (with_reducible exact trivial) | (first | ((with_reducible refine ⟨?_⟩); simp [e_s_0, E_s_0, e_s_1, E_s_1, e_s, tree_120, T.sayR, inK_i64_iff, RS.oks, RS.ok, CK.okD, X.den, O1.den, O2.den, O3.den, callD, XArg.ev, XArg.dat, Callee'.num, backs, DArg.back, Conds.den, cloArgs]; intro K hK; (try simp only [phi_120] at hK); intros; first | contradiction | ((with_reducible refine pd_117 _ _ _ ?ho); (case ho => exact hK)) | ((with_reducible refine pd_133 _ _ ?ho); (case ho => exact hK)) | ((with_reducible refine pd_189 _ _ ?_ _ ?ho); (case ho => exact hK); all_goals (exact (by first | (with_reducible assumption) | omega | assumption | (simp; done) | (simp; omega) | (simp [*]; done) | exact smallE_of (n := 1048576) (by omega) (by omega) | (simp [*] at *; omega) | grind [szS]))) | ((with_reducible refine pd_193 _ _ _ ?ho); (case ho => exact hK)) | (exact pd_117 _ _ _ hK) | (exact pd_133 _ _ hK) | (exact pd_189 _ _ (by first | (with_reducible assumption) | omega | assumption | (simp; done) | (simp; omega) | (simp [*]; done) | exact smallE_of (n := 1048576) (by omega) (by omega) | (simp [*] at *; omega) | grind [szS]) _ hK) | (exact pd_193 _ _ _ hK)) | ((with_reducible show CallIn _ _ _ _ _); first | (refine .inr ⟨_, rfl, fun K hK => hK⟩) | (refine .inr ⟨_, rfl, fun K hK => hK true⟩) | (refine .inr ⟨_, rfl, fun K hK => hK 0 (by simp)⟩))) | omega | (simp only [IntKind.wrap_i64, maxL] at *; omega) | assumption | rfl | contradiction | grind) | skip
theorem pd_120 (c s : D) (Q : List D → Prop) (ho : ∀ (p : D), Q [p]) : PC Try.prog 120 [.cur c, .st [(.sl [(.int .i64), (.int .i64), (.int .i64), (.int .i64), (.int .i64), (.int .i64), (.int .i64), (.int .i64), (.int .i64), (.int .i64), (.int .i64), .bool, .bool]), (.sl [(.int .i64), (.int .i64), .bool]), (.int .i64), (.int .i64)] s] [.st [(.int .i64), (.int .i64), (.int .i64), (.int .i64), (.int .i64), (.int .i64), (.int .i64)]] Q := (pc_120 c s).mono (by rintro _ ⟨p, rfl⟩; exact ho p)
/- spec.l8Draw -/
def phi_195 : Nat → List D → (List D → Prop) → Prop
  | 115, [c, n], K => ∀ (b : Bool), K [.bool b]
  | 117, [c, n], K => ∀ (m : Int), (0 ≤ m ∧ m ≤ 16777215 ∧ (0 < n.toI → m < n.toI) ∧ (n.toI ≤ 0 → m = 0)) → K [.int m]
  | 189, [c, l], K => ∀ (m : Int), (oneOf l m) → K [.int m]
  | _, _, _ => False
theorem pc_195 (c : D) : PC Try.prog 195 [.cur c] [.st [(.int .i64), (.int .i64)]] fun o => ∃ (g : D), o = [g] := by
  refine PC.of_sigK mix sig_195 ⟨trivial, trivial⟩ rfl fun hok ci ch hci hcn hch => ?_
  apply sayR_den (φ := (phi_195))
  simp [tree_195, T.sayR, inK_i64_iff, RS.oks, RS.ok, CK.okD, X.den, O1.den, O2.den, O3.den, callD, XArg.ev, XArg.dat, Callee'.num, backs, DArg.back, Conds.den, cloArgs, phi_195]
  (repeat' (first | (with_reducible apply And.intro) | intro _)) <;> first | (first | ((with_reducible refine ⟨?_⟩); simp [tree_195, T.sayR, inK_i64_iff, RS.oks, RS.ok, CK.okD, X.den, O1.den, O2.den, O3.den, callD, XArg.ev, XArg.dat, Callee'.num, backs, DArg.back, Conds.den, cloArgs]; intro K hK; (try simp only [phi_195] at hK); intros; first | contradiction | ((with_reducible refine pd_115 _ _ _ ?ho); (case ho => exact hK)) | ((with_reducible refine pd_117 _ _ _ ?ho); (case ho => exact hK)) | ((with_reducible refine pd_189 _ _ ?_ _ ?ho); (case ho => exact hK); all_goals (exact (by first | (with_reducible assumption) | omega | assumption | (simp; done) | (simp; omega) | (simp [*]; done) | exact smallE_of (n := 1048576) (by omega) (by omega) | (simp [*] at *; omega) | grind [szS]))) | (exact pd_115 _ _ _ hK) | (exact pd_117 _ _ _ hK) | (exact pd_189 _ _ (by first | (with_reducible assumption) | omega | assumption | (simp; done) | (simp; omega) | (simp [*]; done) | exact smallE_of (n := 1048576) (by omega) (by omega) | (simp [*] at *; omega) | grind [szS]) _ hK)) | ((with_reducible show CallIn _ _ _ _ _); first | (refine .inr ⟨_, rfl, fun K hK => hK⟩) | (refine .inr ⟨_, rfl, fun K hK => hK true⟩) | (refine .inr ⟨_, rfl, fun K hK => hK 0 (by simp)⟩))) | exact ⟨_, rfl⟩ | (first | (with_reducible assumption) | (with_reducible exact trivial) | (first | ((with_reducible refine ⟨?_⟩); simp [tree_195, T.sayR, inK_i64_iff, RS.oks, RS.ok, CK.okD, X.den, O1.den, O2.den, O3.den, callD, XArg.ev, XArg.dat, Callee'.num, backs, DArg.back, Conds.den, cloArgs]; intro K hK; (try simp only [phi_195] at hK); intros; first | contradiction | ((with_reducible refine pd_115 _ _ _ ?ho); (case ho => exact hK)) | ((with_reducible refine pd_117 _ _ _ ?ho); (case ho => exact hK)) | ((with_reducible refine pd_189 _ _ ?_ _ ?ho); (case ho => exact hK); all_goals (exact (by first | (with_reducible assumption) | omega | assumption | (simp; done) | (simp; omega) | (simp [*]; done) | exact smallE_of (n := 1048576) (by omega) (by omega) | (simp [*] at *; omega) | grind [szS]))) | (exact pd_115 _ _ _ hK) | (exact pd_117 _ _ _ hK) | (exact pd_189 _ _ (by first | (with_reducible assumption) | omega | assumption | (simp; done) | (simp; omega) | (simp [*]; done) | exact smallE_of (n := 1048576) (by omega) (by omega) | (simp [*] at *; omega) | grind [szS]) _ hK)) | ((with_reducible show CallIn _ _ _ _ _); first | (refine .inr ⟨_, rfl, fun K hK => hK⟩) | (refine .inr ⟨_, rfl, fun K hK => hK true⟩) | (refine .inr ⟨_, rfl, fun K hK => hK 0 (by simp)⟩))) | omega | (simp only [IntKind.wrap_i64, maxL] at *; omega) | assumption | rfl | contradiction | grind) | skip
theorem pd_195 (c : D) (Q : List D → Prop) (ho : ∀ (g : D), Q [g]) : PC Try.prog 195 [.cur c] [.st [(.int .i64), (.int .i64)]] Q := (pc_195 c).mono (by rintro _ ⟨g, rfl⟩; exact ho g)
/- spec.l8Any -/
def phi_128 : Nat → List D → (List D → Prop) → Prop
  | 117, [c, n], K => ∀ (m : Int), (0 ≤ m ∧ m ≤ 16777215 ∧ (0 < n.toI → m < n.toI) ∧ (n.toI ≤ 0 → m = 0)) → K [.int m]
  | 133, [c], K => ∀ (m : Int), K [.int m]
  | 189, [c, l], K => ∀ (m : Int), (oneOf l m) → K [.int m]
  | 195, [c], K => ∀ (g : D), K [g]
  | _, _, _ => False
theorem pc_128 (c : D) : PC Try.prog 128 [.cur c] [.st [(.int .i64), (.int .i64)]] fun o => ∃ (g : D), o = [g] := by
  refine PC.of_sigK mix sig_128 ⟨trivial, trivial⟩ rfl fun hok ci ch hci hcn hch => ?_
  apply sayR_den (φ := (phi_128))
  simp [tree_128, T.sayR, inK_i64_iff, RS.oks, RS.ok, CK.okD, X.den, O1.den, O2.den, O3.den, callD, XArg.ev, XArg.dat, Callee'.num, backs, DArg.back, Conds.den, cloArgs, phi_128]
  (repeat' (first | (with_reducible apply And.intro) | intro _)) <;> first | (first | ((with_reducible refine ⟨?_⟩); simp [tree_128, T.sayR, inK_i64_iff, RS.oks, RS.ok, CK.okD, X.den, O1.den, O2.den, O3.den, callD, XArg.ev, XArg.dat, Callee'.num, backs, DArg.back, Conds.den, cloArgs]; intro K hK; (try simp only [phi_128] at hK); intros; first | contradiction | ((with_reducible refine pd_117 _ _ _ ?ho); (case ho => exact hK)) | ((with_reducible refine pd_133 _ _ ?ho); (case ho => exact hK)) | ((with_reducible refine pd_189 _ _ ?_ _ ?ho); (case ho => exact hK); all_goals (exact (by first | (with_reducible assumption) | omega | assumption | (simp; done) | (simp; omega) | (simp [*]; done) | exact smallE_of (n := 1048576) (by omega) (by omega) | (simp [*] at *; omega) | grind [szS]))) | ((with_reducible refine pd_195 _ _ ?ho); (case ho => exact hK)) | (exact pd_117 _ _ _ hK) | (exact pd_133 _ _ hK) | (exact pd_189 _ _ (by first | (with_reducible assumption) | omega | assumption | (simp; done) | (simp; omega) | (simp [*]; done) | exact smallE_of (n := 1048576) (by omega) (by omega) | (simp [*] at *; omega) | grind [szS]) _ hK) | (exact pd_195 _ _ hK)) | ((with_reducible show CallIn _ _ _ _ _); first | (refine .inr ⟨_, rfl, fun K hK => hK⟩) | (refine .inr ⟨_, rfl, fun K hK => hK true⟩) | (refine .inr ⟨_, rfl, fun K hK => hK 0 (by simp)⟩))) | exact ⟨_, rfl⟩ | (first | (with_reducible assumption) | (with_reducible exact trivial) | (first | ((with_reducible refine ⟨?_⟩); simp [tree_128, T.sayR, inK_i64_iff, RS.oks, RS.ok, CK.okD, X.den, O1.den, O2.den, O3.den, callD, XArg.ev, XArg.dat, Callee'.num, backs, DArg.back, Conds.den, cloArgs]; intro K hK; (try simp only [phi_128] at hK); intros; first | contradiction | ((with_reducible refine pd_117 _ _ _ ?ho); (case ho => exact hK)) | ((with_reducible refine pd_133 _ _ ?ho); (case ho => exact hK)) | ((with_reducible refine pd_189 _ _ ?_ _ ?ho); (case ho => exact hK); all_goals (exact (by first | (with_reducible assumption) | omega | assumption | (simp; done) | (simp; omega) | (simp [*]; done) | exact smallE_of (n := 1048576) (by omega) (by omega) | (simp [*] at *; omega) | grind [szS]))) | ((with_reducible refine pd_195 _ _ ?ho); (case ho => exact hK)) | (exact pd_117 _ _ _ hK) | (exact pd_133 _ _ hK) | (exact pd_189 _ _ (by first | (with_reducible assumption) | omega | assumption | (simp; done) | (simp; omega) | (simp [*]; done) | exact smallE_of (n := 1048576) (by omega) (by omega) | (simp [*] at *; omega) | grind [szS]) _ hK) | (exact pd_195 _ _ hK)) | ((with_reducible show CallIn _ _ _ _ _); first | (refine .inr ⟨_, rfl, fun K hK => hK⟩) | (refine .inr ⟨_, rfl, fun K hK => hK true⟩) | (refine .inr ⟨_, rfl, fun K hK => hK 0 (by simp)⟩))) | omega | (simp only [IntKind.wrap_i64, maxL] at *; omega) | assumption | rfl | contradiction | grind) | skip
theorem pd_128 (c : D) (Q : List D → Prop) (ho : ∀ (g : D), Q [g]) : PC Try.prog 128 [.cur c] [.st [(.int .i64), (.int .i64)]] Q := (pc_128 c).mono (by rintro _ ⟨g, rfl⟩; exact ho g)
/- spec.l6Draw -/
def phi_149 : Nat → List D → (List D → Prop) → Prop
  | 115, [c, n], K => ∀ (b : Bool), K [.bool b]
  | 117, [c, n], K => ∀ (m : Int), (0 ≤ m ∧ m ≤ 16777215 ∧ (0 < n.toI → m < n.toI) ∧ (n.toI ≤ 0 → m = 0)) → K [.int m]
  | 189, [c, l], K => ∀ (m : Int), (oneOf l m) → K [.int m]
  | 199, [c, s], K => ∀ (m : Int), K [.int m]
  | _, _, _ => False
theorem pc_149 (c s : D) : PC Try.prog 149 [.cur c, .st [(.sl [(.int .i64), (.int .i64), (.int .i64), (.int .i64), (.int .i64), (.int .i64), (.int .i64), (.int .i64), (.int .i64), (.int .i64), (.int .i64), .bool, .bool]), (.sl [(.int .i64), (.int .i64), .bool]), (.int .i64), (.int .i64)] s] [.st [(.int .i64), (.int .i64), (.int .i64), (.int .i64), (.int .i64), (.int .i64), .bool]] fun o => ∃ (e : D), o = [e] := by
  refine PC.of_sigK mix sig_149 ⟨trivial, rfl, trivial⟩ rfl fun hok ci ch hci hcn hch => ?_
  have e_s : D.lst [s.fld 0, s.fld 1, s.fld 2, s.fld 3] = s := by simpa [List.range, List.range.loop] using okL_eta (hok _ (.head _))
  have k_s : okL [(.sl [(.int .i64), (.int .i64), (.int .i64), (.int .i64), (.int .i64), (.int .i64), (.int .i64), (.int .i64), (.int .i64), (.int .i64), (.int .i64), .bool, .bool]), (.sl [(.int .i64), (.int .i64), .bool]), (.int .i64), (.int .i64)] s := (hok _ (.head _))
  have e_s_0 : D.lst (s.fld 0).toL = s.fld 0 := sl_eta (okL_at k_s (i := 0) rfl)
  have l_s_0 := sl_len (okL_at k_s (i := 0) rfl)
  have k_s_0 := sl_all (okL_at k_s (i := 0) rfl)
  have E_s_0 : ∀ i, i < (s.fld 0).toL.length → D.lst [((s.fld 0).elem i).fld 0, ((s.fld 0).elem i).fld 1, ((s.fld 0).elem i).fld 2, ((s.fld 0).elem i).fld 3, ((s.fld 0).elem i).fld 4, ((s.fld 0).elem i).fld 5, ((s.fld 0).elem i).fld 6, ((s.fld 0).elem i).fld 7, ((s.fld 0).elem i).fld 8, ((s.fld 0).elem i).fld 9, ((s.fld 0).elem i).fld 10, ((s.fld 0).elem i).fld 11, ((s.fld 0).elem i).fld 12] = (s.fld 0).elem i := fun i hi => by simpa [List.range, List.range.loop] using okL_eta (k_s_0 _ (elem_mem hi))
  have e_s_1 : D.lst (s.fld 1).toL = s.fld 1 := sl_eta (okL_at k_s (i := 1) rfl)
  have l_s_1 := sl_len (okL_at k_s (i := 1) rfl)
  have k_s_1 := sl_all (okL_at k_s (i := 1) rfl)
  have E_s_1 : ∀ i, i < (s.fld 1).toL.length → D.lst [((s.fld 1).elem i).fld 0, ((s.fld 1).elem i).fld 1, ((s.fld 1).elem i).fld 2] = (s.fld 1).elem i := fun i hi => by simpa [List.range, List.range.loop] using okL_eta (k_s_1 _ (elem_mem hi))
  apply sayR_den (φ := (phi_149))
  simp [e_s_0, E_s_0, e_s_1, E_s_1, e_s, tree_149, T.sayR, inK_i64_iff, RS.oks, RS.ok, CK.okD, X.den, O1.den, O2.den, O3.den, callD, XArg.ev, XArg.dat, Callee'.num, backs, DArg.back, Conds.den, cloArgs, phi_149]
  (repeat' (first | (with_reducible apply And.intro) | intro _)) <;> first | (first | (with_reducible assumption) | (with_reducible exact trivial) | (first | ((with_reducible refine ⟨?_⟩); simp [e_s_0, E_s_0, e_s_1, E_s_1, e_s, tree_149, T.sayR, inK_i64_iff, RS.oks, RS.ok, CK.okD, X.den, O1.den, O2.den, O3.den, callD, XArg.ev, XArg.dat, Callee'.num, backs, DArg.back, Conds.den, cloArgs]; intro K hK; (try simp only [phi_149] at hK); intros; first | contradiction | ((with_reducible refine pd_115 _ _ _ ?ho); (case ho => exact hK)) | ((with_reducible refine pd_117 _ _ _ ?ho); (case ho => exact hK)) | ((with_reducible refine pd_189 _ _ ?_ _ ?ho); (case ho => exact hK); all_goals (exact (by first | (with_reducible assumption) | omega | assumption | (simp; done) | (simp; omega) | (simp [*]; done) | exact smallE_of (n := 1048576) (by omega) (by omega) | (simp [*] at *; omega) | grind [szS]))) | ((with_reducible refine pd_199 _ _ _ ?ho); (case ho => exact hK)) | (exact pd_115 _ _ _ hK) | (exact pd_117 _ _ _ hK) | (exact pd_189 _ _ (by first | (with_reducible assumption) | omega | assumption | (simp; done) | (simp; omega) | (simp [*]; done) | exact smallE_of (n := 1048576) (by omega) (by omega) | (simp [*] at *; omega) | grind [szS]) _ hK) | (exact pd_199 _ _ _ hK)) | ((with_reducible show CallIn _ _ _ _ _); first | (refine .inr ⟨_, rfl, fun K hK => hK⟩) | (refine .inr ⟨_, rfl, fun K hK => hK true⟩) | (refine .inr ⟨_, rfl, fun K hK => hK 0 (by simp)⟩))) | omega | (simp only [IntKind.wrap_i64, maxL] at *; omega) | assumption | rfl | contradiction | grind) | exact ⟨_, rfl⟩ | skip
theorem pd_149 (c s : D) (Q : List D → Prop) (ho : ∀ (e : D), Q [e]) : PC Try.prog 149 [.cur c, .st [(.sl [(.int .i64), (.int .i64), (.int .i64), (.int .i64), (.int .i64), (.int .i64), (.int .i64), (.int .i64), (.int .i64), (.int .i64), (.int .i64), .bool, .bool]), (.sl [(.int .i64), (.int .i64), .bool]), (.int .i64), (.int .i64)] s] [.st [(.int .i64), (.int .i64), (.int .i64), (.int .i64), (.int .i64), (.int .i64), .bool]] Q := (pc_149 c s).mono (by rintro _ ⟨e, rfl⟩; exact ho e)
/- spec.l6Any -/
def phi_148 : Nat → List D → (List D → Prop) → Prop
  | 117, [c, n], K => ∀ (m : Int), (0 ≤ m ∧ m ≤ 16777215 ∧ (0 < n.toI → m < n.toI) ∧ (n.toI ≤ 0 → m = 0)) → K [.int m]
  | 133, [c], K => ∀ (m : Int), K [.int m]
  | 149, [c, s], K => ∀ (e : D), K [e]
  | 189, [c, l], K => ∀ (m : Int), (oneOf l m) → K [.int m]
  | _, _, _ => False
theorem pc_148 (c s : D) : PC Try.prog 148 [.cur c, .st [(.sl [(.int .i64), (.int .i64), (.int .i64), (.int .i64), (.int .i64), (.int .i64), (.int .i64), (.int .i64), (.int .i64), (.int .i64), (.int .i64), .bool, .bool]), (.sl [(.int .i64), (.int .i64), .bool]), (.int .i64), (.int .i64)] s] [.st [(.int .i64), (.int .i64), (.int .i64), (.int .i64), (.int .i64), (.int .i64), .bool]] fun o => ∃ (e : D), o = [e] := by
  refine PC.of_sigK mix sig_148 ⟨trivial, rfl, trivial⟩ rfl fun hok ci ch hci hcn hch => ?_
  have e_s : D.lst [s.fld 0, s.fld 1, s.fld 2, s.fld 3] = s := by simpa [List.range, List.range.loop] using okL_eta (hok _ (.head _))
  have k_s : okL [(.sl [(.int .i64), (.int .i64), (.int .i64), (.int .i64), (.int .i64), (.int .i64), (.int .i64), (.int .i64), (.int .i64), (.int .i64), (.int .i64), .bool, .bool]), (.sl [(.int .i64), (.int .i64), .bool]), (.int .i64), (.int .i64)] s := (hok _ (.head _))
  have e_s_0 : D.lst (s.fld 0).toL = s.fld 0 := sl_eta (okL_at k_s (i := 0) rfl)
  have l_s_0 := sl_len (okL_at k_s (i := 0) rfl)
  have k_s_0 := sl_all (okL_at k_s (i := 0) rfl)
  have E_s_0 : ∀ i, i < (s.fld 0).toL.length → D.lst [((s.fld 0).elem i).fld 0, ((s.fld 0).elem i).fld 1, ((s.fld 0).elem i).fld 2, ((s.fld 0).elem i).fld 3, ((s.fld 0).elem i).fld 4, ((s.fld 0).elem i).fld 5, ((s.fld 0).elem i).fld 6, ((s.fld 0).elem i).fld 7, ((s.fld 0).elem i).fld 8, ((s.fld 0).elem i).fld 9, ((s.fld 0).elem i).fld 10, ((s.fld 0).elem i).fld 11, ((s.fld 0).elem i).fld 12] = (s.fld 0).elem i := fun i hi => by simpa [List.range, List.range.loop] using okL_eta (k_s_0 _ (elem_mem hi))
  have e_s_1 : D.lst (s.fld 1).toL = s.fld 1 := sl_eta (okL_at k_s (i := 1) rfl)
  have l_s_1 := sl_len (okL_at k_s (i := 1) rfl)
  have k_s_1 := sl_all (okL_at k_s (i := 1) rfl)
  have E_s_1 : ∀ i, i < (s.fld 1).toL.length → D.lst [((s.fld 1).elem i).fld 0, ((s.fld 1).elem i).fld 1, ((s.fld 1).elem i).fld 2] = (s.fld 1).elem i := fun i hi => by simpa [List.range, List.range.loop] using okL_eta (k_s_1 _ (elem_mem hi))
  apply sayR_den (φ := (phi_148))
  simp [e_s_0, E_s_0, e_s_1, E_s_1, e_s, tree_148, T.sayR, inK_i64_iff, RS.oks, RS.ok, CK.okD, X.den, O1.den, O2.den, O3.den, callD, XArg.ev, XArg.dat, Callee'.num, backs, DArg.back, Conds.den, cloArgs, phi_148]
  (repeat' (first | (with_reducible apply And.intro) | intro _)) <;> first | (first | (with_reducible assumption) | (with_reducible exact trivial) | (first | ((with_reducible refine ⟨?_⟩); simp [e_s_0, E_s_0, e_s_1, E_s_1, e_s, tree_148, T.sayR, inK_i64_iff, RS.oks, RS.ok, CK.okD, X.den, O1.den, O2.den, O3.den, callD, XArg.ev, XArg.dat, Callee'.num, backs, DArg.back, Conds.den, cloArgs]; intro K hK; (try simp only [phi_148] at hK); intros; first | contradiction | ((with_reducible refine pd_117 _ _ _ ?ho); (case ho => exact hK)) | ((with_reducible refine pd_133 _ _ ?ho); (case ho => exact hK)) | ((with_reducible refine pd_149 _ _ _ ?ho); (case ho => exact hK)) | ((with_reducible refine pd_189 _ _ ?_ _ ?ho); (case ho => exact hK); all_goals (exact (by first | (with_reducible assumption) | omega | assumption | (simp; done) | (simp; omega) | (simp [*]; done) | exact smallE_of (n := 1048576) (by omega) (by omega) | (simp [*] at *; omega) | grind [szS]))) | (exact pd_117 _ _ _ hK) | (exact pd_133 _ _ hK) | (exact pd_149 _ _ _ hK) | (exact pd_189 _ _ (by first | (with_reducible assumption) | omega | assumption | (simp; done) | (simp; omega) | (simp [*]; done) | exact smallE_of (n := 1048576) (by omega) (by omega) | (simp [*] at *; omega) | grind [szS]) _ hK)) | ((with_reducible show CallIn _ _ _ _ _); first | (refine .inr ⟨_, rfl, fun K hK => hK⟩) | (refine .inr ⟨_, rfl, fun K hK => hK true⟩) | (refine .inr ⟨_, rfl, fun K hK => hK 0 (by simp)⟩))) | omega | (simp only [IntKind.wrap_i64, maxL] at *; omega) | assumption | rfl | contradiction | grind) | exact ⟨_, rfl⟩ | skip
theorem pd_148 (c s : D) (Q : List D → Prop) (ho : ∀ (e : D), Q [e]) : PC Try.prog 148 [.cur c, .st [(.sl [(.int .i64), (.int .i64), (.int .i64), (.int .i64), (.int .i64), (.int .i64), (.int .i64), (.int .i64), (.int .i64), (.int .i64), (.int .i64), .bool, .bool]), (.sl [(.int .i64), (.int .i64), .bool]), (.int .i64), (.int .i64)] s] [.st [(.int .i64), (.int .i64), (.int .i64), (.int .i64), (.int .i64), (.int .i64), .bool]] Q := (pc_148 c s).mono (by rintro _ ⟨e, rfl⟩; exact ho e)
/- spec.l1In -/
theorem pc_126 (a b c : D) : PC Try.prog 126 [.sc (.int .i64) a, .sc (.int .i64) b, .sc (.int .i64) c] [.sc .bool] fun o => o = [.bool (inR a.toI b.toI c.toI)] := by
  refine PC.of_sig mix sig_126 ⟨rfl, rfl, rfl, trivial⟩ rfl fun hok => ?_
  have e_a := int_eta (hok _ (.head _))
  have b_a := int_range (hok _ (.head _))
  have e_b := int_eta (hok _ (.tail _ (.head _)))
  have b_b := int_range (hok _ (.tail _ (.head _)))
  have e_c := int_eta (hok _ (.tail _ (.tail _ (.head _))))
  have b_c := int_range (hok _ (.tail _ (.tail _ (.head _))))
  apply says_den (φ := fun _ _ => [])
  simp [e_a, e_b, e_c, tree_126, T.says, X.den, O1.den, O2.den, O3.den, callD, XArg.ev, XArg.dat, Callee'.num, backs, DArg.back, Conds.den, cloArgs, inR]
theorem pd_126 (a b c : D) (Q : List D → Prop) (ho : Q [.bool (inR a.toI b.toI c.toI)]) : PC Try.prog 126 [.sc (.int .i64) a, .sc (.int .i64) b, .sc (.int .i64) c] [.sc .bool] Q := (pc_126 a b c).mono fun _ h => h ▸ ho
/- spec.ActFits -/
def phi_73 : Nat → List D → List D
  | 126, [a, b, c] => [.bool (inR a.toI b.toI c.toI)]
  | _, _ => []
theorem pc_73 (a n : D) : PC Try.prog 73 [.st [(.int .i64), (.int .i64), (.int .i64), (.int .i64), (.int .i64), .bool, (.sl [(.int .i64), (.int .i64), (.int .i64), (.int .i64), (.int .i64), (.int .i64), .bool])] a, .sc (.int .i64) n] [.sc .bool] fun o => o = [.bool (actFits a n.toI)] := by
  refine PC.of_sig mix sig_73 ⟨rfl, rfl, trivial⟩ rfl fun hok => ?_
  have e_a : D.lst [a.fld 0, a.fld 1, a.fld 2, a.fld 3, a.fld 4, a.fld 5, a.fld 6] = a := by simpa [List.range, List.range.loop] using okL_eta (hok _ (.head _))
  have k_a : okL [(.int .i64), (.int .i64), (.int .i64), (.int .i64), (.int .i64), .bool, (.sl [(.int .i64), (.int .i64), (.int .i64), (.int .i64), (.int .i64), (.int .i64), .bool])] a := (hok _ (.head _))
  have e_a_6 : D.lst (a.fld 6).toL = a.fld 6 := sl_eta (okL_at k_a (i := 6) rfl)
  have l_a_6 := sl_len (okL_at k_a (i := 6) rfl)
  have k_a_6 := sl_all (okL_at k_a (i := 6) rfl)
  have E_a_6 : ∀ i, i < (a.fld 6).toL.length → D.lst [((a.fld 6).elem i).fld 0, ((a.fld 6).elem i).fld 1, ((a.fld 6).elem i).fld 2, ((a.fld 6).elem i).fld 3, ((a.fld 6).elem i).fld 4, ((a.fld 6).elem i).fld 5, ((a.fld 6).elem i).fld 6] = (a.fld 6).elem i := fun i hi => by simpa [List.range, List.range.loop] using okL_eta (k_a_6 _ (elem_mem hi))
  have e_n := int_eta (hok _ (.tail _ (.head _)))
  have b_n := int_range (hok _ (.tail _ (.head _)))
  apply says_den (φ := (phi_73))
  simp [e_a_6, E_a_6, e_a, e_n, tree_73, T.says, X.den, O1.den, O2.den, O3.den, callD, XArg.ev, XArg.dat, Callee'.num, backs, DArg.back, Conds.den, cloArgs, phi_73, pd_126]
  (repeat' (first | (with_reducible apply And.intro) | intro _)) <;> grind [actFits]
theorem pd_73 (a n : D) (Q : List D → Prop) (ho : Q [.bool (actFits a n.toI)]) : PC Try.prog 73 [.st [(.int .i64), (.int .i64), (.int .i64), (.int .i64), (.int .i64), .bool, (.sl [(.int .i64), (.int .i64), (.int .i64), (.int .i64), (.int .i64), (.int .i64), .bool])] a, .sc (.int .i64) n] [.sc .bool] Q := (pc_73 a n).mono fun _ h => h ▸ ho
/- spec.l9Draw -/
def phi_196 : Nat → List D → (List D → Prop) → Prop
  | 73, [a, n], K => K [.bool (actFits a n.toI)]
  | 115, [c, n], K => ∀ (b : Bool), K [.bool b]
  | 117, [c, n], K => ∀ (m : Int), (0 ≤ m ∧ m ≤ 16777215 ∧ (0 < n.toI → m < n.toI) ∧ (n.toI ≤ 0 → m = 0)) → K [.int m]
  | 149, [c, s], K => ∀ (e : D), K [e]
  | 189, [c, l], K => ∀ (m : Int), (oneOf l m) → K [.int m]
  | 199, [c, s], K => ∀ (m : Int), K [.int m]
  | _, _, _ => False
theorem pc_196 (c s k : D) : PC Try.prog 196 [.cur c, .st [(.sl [(.int .i64), (.int .i64), (.int .i64), (.int .i64), (.int .i64), (.int .i64), (.int .i64), (.int .i64), (.int .i64), (.int .i64), (.int .i64), .bool, .bool]), (.sl [(.int .i64), (.int .i64), .bool]), (.int .i64), (.int .i64)] s, .sc (.int .i64) k] [.st [(.int .i64), (.int .i64), (.int .i64), (.int .i64), (.int .i64), .bool, (.sl [(.int .i64), (.int .i64), (.int .i64), (.int .i64), (.int .i64), (.int .i64), .bool])]] fun o => ∃ (a : D), ((((a.fld 6).toL.length : Int) ≤ 2)) ∧ o = [a] := by
  refine PC.of_sigK mix sig_196 ⟨trivial, rfl, rfl, trivial⟩ rfl fun hok ci ch hci hcn hch => ?_
  have e_s : D.lst [s.fld 0, s.fld 1, s.fld 2, s.fld 3] = s := by simpa [List.range, List.range.loop] using okL_eta (hok _ (.head _))
  have k_s : okL [(.sl [(.int .i64), (.int .i64), (.int .i64), (.int .i64), (.int .i64), (.int .i64), (.int .i64), (.int .i64), (.int .i64), (.int .i64), (.int .i64), .bool, .bool]), (.sl [(.int .i64), (.int .i64), .bool]), (.int .i64), (.int .i64)] s := (hok _ (.head _))
  have e_s_0 : D.lst (s.fld 0).toL = s.fld 0 := sl_eta (okL_at k_s (i := 0) rfl)
  have l_s_0 := sl_len (okL_at k_s (i := 0) rfl)
  have k_s_0 := sl_all (okL_at k_s (i := 0) rfl)
  have E_s_0 : ∀ i, i < (s.fld 0).toL.length → D.lst [((s.fld 0).elem i).fld 0, ((s.fld 0).elem i).fld 1, ((s.fld 0).elem i).fld 2, ((s.fld 0).elem i).fld 3, ((s.fld 0).elem i).fld 4, ((s.fld 0).elem i).fld 5, ((s.fld 0).elem i).fld 6, ((s.fld 0).elem i).fld 7, ((s.fld 0).elem i).fld 8, ((s.fld 0).elem i).fld 9, ((s.fld 0).elem i).fld 10, ((s.fld 0).elem i).fld 11, ((s.fld 0).elem i).fld 12] = (s.fld 0).elem i := fun i hi => by simpa [List.range, List.range.loop] using okL_eta (k_s_0 _ (elem_mem hi))
  have e_s_1 : D.lst (s.fld 1).toL = s.fld 1 := sl_eta (okL_at k_s (i := 1) rfl)
  have l_s_1 := sl_len (okL_at k_s (i := 1) rfl)
  have k_s_1 := sl_all (okL_at k_s (i := 1) rfl)
  have E_s_1 : ∀ i, i < (s.fld 1).toL.length → D.lst [((s.fld 1).elem i).fld 0, ((s.fld 1).elem i).fld 1, ((s.fld 1).elem i).fld 2] = (s.fld 1).elem i := fun i hi => by simpa [List.range, List.range.loop] using okL_eta (k_s_1 _ (elem_mem hi))
  have e_k := int_eta (hok _ (.tail _ (.head _)))
  have b_k := int_range (hok _ (.tail _ (.head _)))
  apply sayR_den (φ := (phi_196))
  simp [e_s_0, E_s_0, e_s_1, E_s_1, e_s, e_k, tree_196, T.sayR, inK_i64_iff, RS.oks, RS.ok, CK.okD, X.den, O1.den, O2.den, O3.den, callD, XArg.ev, XArg.dat, Callee'.num, backs, DArg.back, Conds.den, cloArgs, phi_196]
  refine ⟨by (first | ((with_reducible refine ⟨?_⟩); simp [e_s_0, E_s_0, e_s_1, E_s_1, e_s, e_k, tree_196, T.sayR, inK_i64_iff, RS.oks, RS.ok, CK.okD, X.den, O1.den, O2.den, O3.den, callD, XArg.ev, XArg.dat, Callee'.num, backs, DArg.back, Conds.den, cloArgs]; intro K hK; (try simp only [phi_196] at hK); intros; first | contradiction | ((with_reducible refine pd_73 _ _ _ ?ho); (case ho => exact hK)) | ((with_reducible refine pd_115 _ _ _ ?ho); (case ho => exact hK)) | ((with_reducible refine pd_117 _ _ _ ?ho); (case ho => exact hK)) | ((with_reducible refine pd_149 _ _ _ ?ho); (case ho => exact hK)) | ((with_reducible refine pd_189 _ _ ?_ _ ?ho); (case ho => exact hK); all_goals (exact (by first | (with_reducible assumption) | omega | assumption | (simp; done) | (simp; omega) | (simp [*]; done) | exact smallE_of (n := 1048576) (by omega) (by omega) | (simp [*] at *; omega) | grind [szS]))) | ((with_reducible refine pd_199 _ _ _ ?ho); (case ho => exact hK)) | (exact pd_73 _ _ _ hK) | (exact pd_115 _ _ _ hK) | (exact pd_117 _ _ _ hK) | (exact pd_149 _ _ _ hK) | (exact pd_189 _ _ (by first | (with_reducible assumption) | omega | assumption | (simp; done) | (simp; omega) | (simp [*]; done) | exact smallE_of (n := 1048576) (by omega) (by omega) | (simp [*] at *; omega) | grind [szS]) _ hK) | (exact pd_199 _ _ _ hK)) | ((with_reducible show CallIn _ _ _ _ _); first | (refine .inr ⟨_, rfl, fun K hK => hK⟩) | (refine .inr ⟨_, rfl, fun K hK => hK true⟩) | (refine .inr ⟨_, rfl, fun K hK => hK 0 (by simp)⟩))), ?_⟩
  intro m0
  intros
  obtain ⟨I, hI⟩ : ∃ I : List D → Prop, ∀ vs, I vs ↔ ∃ (i : Int) (q : Int), vs = [.int i, .int q] ∧ 0 ≤ i ∧ i ≤ 6 := ⟨_, fun _ => Iff.rfl⟩
  obtain ⟨μ, hμ⟩ : ∃ μ : List D → Nat, ∀ vs, μ vs = (6 - (vs.getD 0 default).toI).toNat := ⟨_, fun _ => rfl⟩
  refine den_loop I μ ((hI _).2 ⟨0, m0, by simp [X.den], by omega, by omega⟩) ?_
  intro vs hvl hv
  obtain ⟨i, q, rfl, hinv⟩ := (hI _).1 hv
  clear hv
  apply sayR_den (φ := (phi_196))
  have hz : i < 6 → IntKind.i64.wrap (i + 1) = i + 1 := by intro h; (first | omega | (simp only [IntKind.wrap_i64, maxL] at *; omega) | (simp [IntKind.wrap_i64, maxL] at *; omega))
  simp (config := { maxSteps := 2000000 }) [e_s_0, E_s_0, e_s_1, E_s_1, e_s, e_k, tree_196, T.sayR, inK_i64_iff, RS.oks, RS.ok, CK.okD, X.den, O1.den, O2.den, O3.den, callD, XArg.ev, XArg.dat, Callee'.num, backs, DArg.back, Conds.den, cloArgs, phi_196, hz]
  (repeat' (first | (with_reducible apply And.intro) | intro _)) <;> first | (first | ((with_reducible refine ⟨?_⟩); simp [e_s_0, E_s_0, e_s_1, E_s_1, e_s, e_k, tree_196, T.sayR, inK_i64_iff, RS.oks, RS.ok, CK.okD, X.den, O1.den, O2.den, O3.den, callD, XArg.ev, XArg.dat, Callee'.num, backs, DArg.back, Conds.den, cloArgs]; intro K hK; (try simp only [phi_196] at hK); intros; first | contradiction | ((with_reducible refine pd_73 _ _ _ ?ho); (case ho => exact hK)) | ((with_reducible refine pd_115 _ _ _ ?ho); (case ho => exact hK)) | ((with_reducible refine pd_117 _ _ _ ?ho); (case ho => exact hK)) | ((with_reducible refine pd_149 _ _ _ ?ho); (case ho => exact hK)) | ((with_reducible refine pd_189 _ _ ?_ _ ?ho); (case ho => exact hK); all_goals (exact (by first | (with_reducible assumption) | omega | assumption | (simp; done) | (simp; omega) | (simp [*]; done) | exact smallE_of (n := 1048576) (by omega) (by omega) | (simp [*] at *; omega) | grind [szS]))) | ((with_reducible refine pd_199 _ _ _ ?ho); (case ho => exact hK)) | (exact pd_73 _ _ _ hK) | (exact pd_115 _ _ _ hK) | (exact pd_117 _ _ _ hK) | (exact pd_149 _ _ _ hK) | (exact pd_189 _ _ (by first | (with_reducible assumption) | omega | assumption | (simp; done) | (simp; omega) | (simp [*]; done) | exact smallE_of (n := 1048576) (by omega) (by omega) | (simp [*] at *; omega) | grind [szS]) _ hK) | (exact pd_199 _ _ _ hK)) | ((with_reducible show CallIn _ _ _ _ _); first | (refine .inr ⟨_, rfl, fun K hK => hK⟩) | (refine .inr ⟨_, rfl, fun K hK => hK true⟩) | (refine .inr ⟨_, rfl, fun K hK => hK 0 (by simp)⟩))) | exact ⟨_, by simp, rfl⟩ | skip
  · rw [hz (by omega)]
    exact (hI _).2 ⟨i + 1, _, rfl, by omega, by omega⟩
  · rw [hz (by omega), hμ, hμ]
    simp
    omega
  obtain ⟨I, hI⟩ : ∃ I : List D → Prop, ∀ vs, I vs ↔ ∃ (j : Int) (ps : List D), vs = [.int j, .lst ps] ∧ 0 ≤ j ∧ j ≤ 2 ∧ (ps.length : Int) ≤ 2 - j := ⟨_, fun _ => Iff.rfl⟩
  obtain ⟨μ, hμ⟩ : ∃ μ : List D → Nat, ∀ vs, μ vs = ((vs.getD 0 default).toI).toNat := ⟨_, fun _ => rfl⟩
  refine den_loop I μ ((hI _).2 ⟨_, [], by simp [X.den, O1.den, O2.den]; exact rfl, by (first | omega | (simp only [IntKind.wrap_i64, maxL] at *; omega) | (simp [IntKind.wrap_i64, maxL] at *; omega)), by (first | omega | (simp only [IntKind.wrap_i64, maxL] at *; omega) | (simp [IntKind.wrap_i64, maxL] at *; omega)), by simp; (first | omega | (simp only [IntKind.wrap_i64, maxL] at *; omega) | (simp [IntKind.wrap_i64, maxL] at *; omega))⟩) ?_
  intro vs hvl hv
  obtain ⟨j, ps, rfl, hinv⟩ := (hI _).1 hv
  clear hv
  apply sayR_den (φ := (phi_196))
  have hy : 0 < j → IntKind.i64.wrap (j - 1) = j - 1 := by intro h; (first | omega | (simp only [IntKind.wrap_i64, maxL] at *; omega) | (simp [IntKind.wrap_i64, maxL] at *; omega))
  simp (config := { maxSteps := 2000000 }) [e_s_0, E_s_0, e_s_1, E_s_1, e_s, e_k, tree_196, T.sayR, inK_i64_iff, RS.oks, RS.ok, CK.okD, X.den, O1.den, O2.den, O3.den, callD, XArg.ev, XArg.dat, Callee'.num, backs, DArg.back, Conds.den, cloArgs, phi_196, hy]
  (repeat' (first | (with_reducible apply And.intro) | intro _)) <;> first | (first | ((with_reducible refine ⟨?_⟩); simp [e_s_0, E_s_0, e_s_1, E_s_1, e_s, e_k, tree_196, T.sayR, inK_i64_iff, RS.oks, RS.ok, CK.okD, X.den, O1.den, O2.den, O3.den, callD, XArg.ev, XArg.dat, Callee'.num, backs, DArg.back, Conds.den, cloArgs]; intro K hK; (try simp only [phi_196] at hK); intros; first | contradiction | ((with_reducible refine pd_73 _ _ _ ?ho); (case ho => exact hK)) | ((with_reducible refine pd_115 _ _ _ ?ho); (case ho => exact hK)) | ((with_reducible refine pd_117 _ _ _ ?ho); (case ho => exact hK)) | ((with_reducible refine pd_149 _ _ _ ?ho); (case ho => exact hK)) | ((with_reducible refine pd_189 _ _ ?_ _ ?ho); (case ho => exact hK); all_goals (exact (by first | (with_reducible assumption) | omega | assumption | (simp; done) | (simp; omega) | (simp [*]; done) | exact smallE_of (n := 1048576) (by omega) (by omega) | (simp [*] at *; omega) | grind [szS]))) | ((with_reducible refine pd_199 _ _ _ ?ho); (case ho => exact hK)) | (exact pd_73 _ _ _ hK) | (exact pd_115 _ _ _ hK) | (exact pd_117 _ _ _ hK) | (exact pd_149 _ _ _ hK) | (exact pd_189 _ _ (by first | (with_reducible assumption) | omega | assumption | (simp; done) | (simp; omega) | (simp [*]; done) | exact smallE_of (n := 1048576) (by omega) (by omega) | (simp [*] at *; omega) | grind [szS]) _ hK) | (exact pd_199 _ _ _ hK)) | ((with_reducible show CallIn _ _ _ _ _); first | (refine .inr ⟨_, rfl, fun K hK => hK⟩) | (refine .inr ⟨_, rfl, fun K hK => hK true⟩) | (refine .inr ⟨_, rfl, fun K hK => hK 0 (by simp)⟩))) | exact ⟨_, by simp, rfl⟩ | omega | ((with_reducible refine (hI _).2 ?_); rw [hy (by omega)]; exact ⟨j - 1, _, rfl, by omega, by omega, by simp; omega⟩) | (rw [hy (by omega), hμ, hμ]; simp; omega) | (refine ⟨_, ?_, rfl⟩; simp; omega)
theorem pd_196 (c s k : D) (Q : List D → Prop) (ho : ∀ (a : D), ((((a.fld 6).toL.length : Int) ≤ 2)) → Q [a]) : PC Try.prog 196 [.cur c, .st [(.sl [(.int .i64), (.int .i64), (.int .i64), (.int .i64), (.int .i64), (.int .i64), (.int .i64), (.int .i64), (.int .i64), (.int .i64), (.int .i64), .bool, .bool]), (.sl [(.int .i64), (.int .i64), .bool]), (.int .i64), (.int .i64)] s, .sc (.int .i64) k] [.st [(.int .i64), (.int .i64), (.int .i64), (.int .i64), (.int .i64), .bool, (.sl [(.int .i64), (.int .i64), (.int .i64), (.int .i64), (.int .i64), (.int .i64), .bool])]] Q := (pc_196 c s k).mono (by rintro _ ⟨a, hc, rfl⟩; exact ho a hc)
/- spec.l9Any -/
def phi_132 : Nat → List D → (List D → Prop) → Prop
  | 117, [c, n], K => ∀ (m : Int), (0 ≤ m ∧ m ≤ 16777215 ∧ (0 < n.toI → m < n.toI) ∧ (n.toI ≤ 0 → m = 0)) → K [.int m]
  | 133, [c], K => ∀ (m : Int), K [.int m]
  | 148, [c, s], K => ∀ (e : D), K [e]
  | 149, [c, s], K => ∀ (e : D), K [e]
  | 189, [c, l], K => ∀ (m : Int), (oneOf l m) → K [.int m]
  | 196, [c, s, k], K => ∀ (a : D), ((((a.fld 6).toL.length : Int) ≤ 2)) → K [a]
  | _, _, _ => False
theorem pc_132 (c s : D) : PC Try.prog 132 [.cur c, .st [(.sl [(.int .i64), (.int .i64), (.int .i64), (.int .i64), (.int .i64), (.int .i64), (.int .i64), (.int .i64), (.int .i64), (.int .i64), (.int .i64), .bool, .bool]), (.sl [(.int .i64), (.int .i64), .bool]), (.int .i64), (.int .i64)] s] [.st [(.int .i64), (.int .i64), (.int .i64), (.int .i64), (.int .i64), .bool, (.sl [(.int .i64), (.int .i64), (.int .i64), (.int .i64), (.int .i64), (.int .i64), .bool])]] fun o => ∃ (a : D), ((((a.fld 6).toL.length : Int) ≤ 5)) ∧ o = [a] := by
  refine PC.of_sigK mix sig_132 ⟨trivial, rfl, trivial⟩ rfl fun hok ci ch hci hcn hch => ?_
  have e_s : D.lst [s.fld 0, s.fld 1, s.fld 2, s.fld 3] = s := by simpa [List.range, List.range.loop] using okL_eta (hok _ (.head _))
  have k_s : okL [(.sl [(.int .i64), (.int .i64), (.int .i64), (.int .i64), (.int .i64), (.int .i64), (.int .i64), (.int .i64), (.int .i64), (.int .i64), (.int .i64), .bool, .bool]), (.sl [(.int .i64), (.int .i64), .bool]), (.int .i64), (.int .i64)] s := (hok _ (.head _))
  have e_s_0 : D.lst (s.fld 0).toL = s.fld 0 := sl_eta (okL_at k_s (i := 0) rfl)
  have l_s_0 := sl_len (okL_at k_s (i := 0) rfl)
  have k_s_0 := sl_all (okL_at k_s (i := 0) rfl)
  have E_s_0 : ∀ i, i < (s.fld 0).toL.length → D.lst [((s.fld 0).elem i).fld 0, ((s.fld 0).elem i).fld 1, ((s.fld 0).elem i).fld 2, ((s.fld 0).elem i).fld 3, ((s.fld 0).elem i).fld 4, ((s.fld 0).elem i).fld 5, ((s.fld 0).elem i).fld 6, ((s.fld 0).elem i).fld 7, ((s.fld 0).elem i).fld 8, ((s.fld 0).elem i).fld 9, ((s.fld 0).elem i).fld 10, ((s.fld 0).elem i).fld 11, ((s.fld 0).elem i).fld 12] = (s.fld 0).elem i := fun i hi => by simpa [List.range, List.range.loop] using okL_eta (k_s_0 _ (elem_mem hi))
  have e_s_1 : D.lst (s.fld 1).toL = s.fld 1 := sl_eta (okL_at k_s (i := 1) rfl)
  have l_s_1 := sl_len (okL_at k_s (i := 1) rfl)
  have k_s_1 := sl_all (okL_at k_s (i := 1) rfl)
  have E_s_1 : ∀ i, i < (s.fld 1).toL.length → D.lst [((s.fld 1).elem i).fld 0, ((s.fld 1).elem i).fld 1, ((s.fld 1).elem i).fld 2] = (s.fld 1).elem i := fun i hi => by simpa [List.range, List.range.loop] using okL_eta (k_s_1 _ (elem_mem hi))
  apply sayR_den (φ := (phi_132))
  simp (config := { maxSteps := 2000000 }) [e_s_0, E_s_0, e_s_1, E_s_1, e_s, tree_132, T.sayR, inK_i64_iff, RS.oks, RS.ok, CK.okD, X.den, O1.den, O2.den, O3.den, callD, XArg.ev, XArg.dat, Callee'.num, backs, DArg.back, Conds.den, cloArgs, phi_132]
  (repeat' (first | (with_reducible apply And.intro) | intro _)) <;> first | (first | ((with_reducible refine ⟨?_⟩); simp [e_s_0, E_s_0, e_s_1, E_s_1, e_s, tree_132, T.sayR, inK_i64_iff, RS.oks, RS.ok, CK.okD, X.den, O1.den, O2.den, O3.den, callD, XArg.ev, XArg.dat, Callee'.num, backs, DArg.back, Conds.den, cloArgs]; intro K hK; (try simp only [phi_132] at hK); intros; first | contradiction | ((with_reducible refine pd_117 _ _ _ ?ho); (case ho => exact hK)) | ((with_reducible refine pd_133 _ _ ?ho); (case ho => exact hK)) | ((with_reducible refine pd_148 _ _ _ ?ho); (case ho => exact hK)) | ((with_reducible refine pd_149 _ _ _ ?ho); (case ho => exact hK)) | ((with_reducible refine pd_189 _ _ ?_ _ ?ho); (case ho => exact hK); all_goals (exact (by first | (with_reducible assumption) | omega | assumption | (simp; done) | (simp; omega) | (simp [*]; done) | exact smallE_of (n := 1048576) (by omega) (by omega) | (simp [*] at *; omega) | grind [szS]))) | ((with_reducible refine pd_196 _ _ _ _ ?ho); (case ho => exact hK)) | (exact pd_117 _ _ _ hK) | (exact pd_133 _ _ hK) | (exact pd_148 _ _ _ hK) | (exact pd_149 _ _ _ hK) | (exact pd_189 _ _ (by first | (with_reducible assumption) | omega | assumption | (simp; done) | (simp; omega) | (simp [*]; done) | exact smallE_of (n := 1048576) (by omega) (by omega) | (simp [*] at *; omega) | grind [szS]) _ hK) | (exact pd_196 _ _ _ _ hK)) | ((with_reducible show CallIn _ _ _ _ _); first | (refine .inr ⟨_, rfl, fun K hK => hK⟩) | (refine .inr ⟨_, rfl, fun K hK => hK true⟩) | (refine .inr ⟨_, rfl, fun K hK => hK 0 (by simp)⟩))) | omega | (refine ⟨_, ?_, rfl⟩; simp; omega) | skip
theorem pd_132 (c s : D) (Q : List D → Prop) (ho : ∀ (a : D), ((((a.fld 6).toL.length : Int) ≤ 5)) → Q [a]) : PC Try.prog 132 [.cur c, .st [(.sl [(.int .i64), (.int .i64), (.int .i64), (.int .i64), (.int .i64), (.int .i64), (.int .i64), (.int .i64), (.int .i64), (.int .i64), (.int .i64), .bool, .bool]), (.sl [(.int .i64), (.int .i64), .bool]), (.int .i64), (.int .i64)] s] [.st [(.int .i64), (.int .i64), (.int .i64), (.int .i64), (.int .i64), .bool, (.sl [(.int .i64), (.int .i64), (.int .i64), (.int .i64), (.int .i64), (.int .i64), .bool])]] Q := (pc_132 c s).mono (by rintro _ ⟨a, hc, rfl⟩; exact ho a hc)
/- spec.l10Draw -/
def phi_204 : Nat → List D → (List D → Prop) → Prop
  | 115, [c, n], K => ∀ (b : Bool), K [.bool b]
  | 117, [c, n], K => ∀ (m : Int), (0 ≤ m ∧ m ≤ 16777215 ∧ (0 < n.toI → m < n.toI) ∧ (n.toI ≤ 0 → m = 0)) → K [.int m]
  | 189, [c, l], K => ∀ (m : Int), (oneOf l m) → K [.int m]
  | 193, [c, s], K => ∀ (p : D), K [p]
  | 195, [c], K => ∀ (g : D), K [g]
  | 196, [c, s, k], K => ∀ (a : D), ((((a.fld 6).toL.length : Int) ≤ 2)) → K [a]
  | 199, [c, s], K => ∀ (m : Int), K [.int m]
  | _, _, _ => False
theorem pc_204 (c s i : D) : PC Try.prog 204 [.cur c, .st [(.sl [(.int .i64), (.int .i64), (.int .i64), (.int .i64), (.int .i64), (.int .i64), (.int .i64), (.int .i64), (.int .i64), (.int .i64), (.int .i64), .bool, .bool]), (.sl [(.int .i64), (.int .i64), .bool]), (.int .i64), (.int .i64)] s, .sc (.int .i64) i] [.st [(.int .i64), (.int .i64), (.int .i64), (.int .i64), (.int .i64), (.int .i64), (.int .i64), (.int .i64), (.int .i64), (.int .i64), (.int .i64), (.int .i64), (.int .i64), (.int .i64), (.int .i64), (.int .i64), (.int .i64), (.int .i64), .bool, (.sl [(.int .i64), (.int .i64), (.int .i64), (.int .i64), (.int .i64), (.int .i64), .bool]), (.int .i64), (.int .i64)]] fun o => ∃ (e : D), (effB e) ∧ o = [e] := by
  refine PC.of_sigK mix sig_204 ⟨trivial, rfl, rfl, trivial⟩ rfl fun hok ci ch hci hcn hch => ?_
  have e_s : D.lst [s.fld 0, s.fld 1, s.fld 2, s.fld 3] = s := by simpa [List.range, List.range.loop] using okL_eta (hok _ (.head _))
  have k_s : okL [(.sl [(.int .i64), (.int .i64), (.int .i64), (.int .i64), (.int .i64), (.int .i64), (.int .i64), (.int .i64), (.int .i64), (.int .i64), (.int .i64), .bool, .bool]), (.sl [(.int .i64), (.int .i64), .bool]), (.int .i64), (.int .i64)] s := (hok _ (.head _))
  have e_s_0 : D.lst (s.fld 0).toL = s.fld 0 := sl_eta (okL_at k_s (i := 0) rfl)
  have l_s_0 := sl_len (okL_at k_s (i := 0) rfl)
  have k_s_0 := sl_all (okL_at k_s (i := 0) rfl)
  have E_s_0 : ∀ i, i < (s.fld 0).toL.length → D.lst [((s.fld 0).elem i).fld 0, ((s.fld 0).elem i).fld 1, ((s.fld 0).elem i).fld 2, ((s.fld 0).elem i).fld 3, ((s.fld 0).elem i).fld 4, ((s.fld 0).elem i).fld 5, ((s.fld 0).elem i).fld 6, ((s.fld 0).elem i).fld 7, ((s.fld 0).elem i).fld 8, ((s.fld 0).elem i).fld 9, ((s.fld 0).elem i).fld 10, ((s.fld 0).elem i).fld 11, ((s.fld 0).elem i).fld 12] = (s.fld 0).elem i := fun i hi => by simpa [List.range, List.range.loop] using okL_eta (k_s_0 _ (elem_mem hi))
  have e_s_1 : D.lst (s.fld 1).toL = s.fld 1 := sl_eta (okL_at k_s (i := 1) rfl)
  have l_s_1 := sl_len (okL_at k_s (i := 1) rfl)
  have k_s_1 := sl_all (okL_at k_s (i := 1) rfl)
  have E_s_1 : ∀ i, i < (s.fld 1).toL.length → D.lst [((s.fld 1).elem i).fld 0, ((s.fld 1).elem i).fld 1, ((s.fld 1).elem i).fld 2] = (s.fld 1).elem i := fun i hi => by simpa [List.range, List.range.loop] using okL_eta (k_s_1 _ (elem_mem hi))
  have e_i := int_eta (hok _ (.tail _ (.head _)))
  have b_i := int_range (hok _ (.tail _ (.head _)))
  apply sayR_den (φ := (phi_204))
  simp (config := { maxSteps := 2000000 }) [e_s_0, E_s_0, e_s_1, E_s_1, e_s, e_i, tree_204, T.sayR, inK_i64_iff, RS.oks, RS.ok, CK.okD, X.den, O1.den, O2.den, O3.den, callD, XArg.ev, XArg.dat, Callee'.num, backs, DArg.back, Conds.den, cloArgs, phi_204]
  (repeat' (first | (with_reducible apply And.intro) | intro _)) <;> first | (first | ((with_reducible refine ⟨?_⟩); simp [e_s_0, E_s_0, e_s_1, E_s_1, e_s, e_i, tree_204, T.sayR, inK_i64_iff, RS.oks, RS.ok, CK.okD, X.den, O1.den, O2.den, O3.den, callD, XArg.ev, XArg.dat, Callee'.num, backs, DArg.back, Conds.den, cloArgs]; intro K hK; (try simp only [phi_204] at hK); intros; first | contradiction | ((with_reducible refine pd_115 _ _ _ ?ho); (case ho => exact hK)) | ((with_reducible refine pd_117 _ _ _ ?ho); (case ho => exact hK)) | ((with_reducible refine pd_189 _ _ ?_ _ ?ho); (case ho => exact hK); all_goals (exact (by first | (with_reducible assumption) | omega | assumption | (simp; done) | (simp; omega) | (simp [*]; done) | exact smallE_of (n := 1048576) (by omega) (by omega) | (simp [*] at *; omega) | grind [szS]))) | ((with_reducible refine pd_193 _ _ _ ?ho); (case ho => exact hK)) | ((with_reducible refine pd_195 _ _ ?ho); (case ho => exact hK)) | ((with_reducible refine pd_196 _ _ _ _ ?ho); (case ho => exact hK)) | ((with_reducible refine pd_199 _ _ _ ?ho); (case ho => exact hK)) | (exact pd_115 _ _ _ hK) | (exact pd_117 _ _ _ hK) | (exact pd_189 _ _ (by first | (with_reducible assumption) | omega | assumption | (simp; done) | (simp; omega) | (simp [*]; done) | exact smallE_of (n := 1048576) (by omega) (by omega) | (simp [*] at *; omega) | grind [szS]) _ hK) | (exact pd_193 _ _ _ hK) | (exact pd_195 _ _ hK) | (exact pd_196 _ _ _ _ hK) | (exact pd_199 _ _ _ hK)) | ((with_reducible show CallIn _ _ _ _ _); first | (refine .inr ⟨_, rfl, fun K hK => hK⟩) | (refine .inr ⟨_, rfl, fun K hK => hK true⟩) | (refine .inr ⟨_, rfl, fun K hK => hK 0 (by simp)⟩))) | (simp [effB]; omega) | omega | (first | (with_reducible assumption) | (with_reducible exact trivial) | (first | ((with_reducible refine ⟨?_⟩); simp [e_s_0, E_s_0, e_s_1, E_s_1, e_s, e_i, tree_204, T.sayR, inK_i64_iff, RS.oks, RS.ok, CK.okD, X.den, O1.den, O2.den, O3.den, callD, XArg.ev, XArg.dat, Callee'.num, backs, DArg.back, Conds.den, cloArgs]; intro K hK; (try simp only [phi_204] at hK); intros; first | contradiction | ((with_reducible refine pd_115 _ _ _ ?ho); (case ho => exact hK)) | ((with_reducible refine pd_117 _ _ _ ?ho); (case ho => exact hK)) | ((with_reducible refine pd_189 _ _ ?_ _ ?ho); (case ho => exact hK); all_goals (exact (by first | (with_reducible assumption) | omega | assumption | (simp; done) | (simp; omega) | (simp [*]; done) | exact smallE_of (n := 1048576) (by omega) (by omega) | (simp [*] at *; omega) | grind [szS]))) | ((with_reducible refine pd_193 _ _ _ ?ho); (case ho => exact hK)) | ((with_reducible refine pd_195 _ _ ?ho); (case ho => exact hK)) | ((with_reducible refine pd_196 _ _ _ _ ?ho); (case ho => exact hK)) | ((with_reducible refine pd_199 _ _ _ ?ho); (case ho => exact hK)) | (exact pd_115 _ _ _ hK) | (exact pd_117 _ _ _ hK) | (exact pd_189 _ _ (by first | (with_reducible assumption) | omega | assumption | (simp; done) | (simp; omega) | (simp [*]; done) | exact smallE_of (n := 1048576) (by omega) (by omega) | (simp [*] at *; omega) | grind [szS]) _ hK) | (exact pd_193 _ _ _ hK) | (exact pd_195 _ _ hK) | (exact pd_196 _ _ _ _ hK) | (exact pd_199 _ _ _ hK)) | ((with_reducible show CallIn _ _ _ _ _); first | (refine .inr ⟨_, rfl, fun K hK => hK⟩) | (refine .inr ⟨_, rfl, fun K hK => hK true⟩) | (refine .inr ⟨_, rfl, fun K hK => hK 0 (by simp)⟩))) | omega | (simp only [IntKind.wrap_i64, maxL] at *; omega) | assumption | rfl | contradiction | grind)
theorem pd_204 (c s i : D) (Q : List D → Prop) (ho : ∀ (e : D), (effB e) → Q [e]) : PC Try.prog 204 [.cur c, .st [(.sl [(.int .i64), (.int .i64), (.int .i64), (.int .i64), (.int .i64), (.int .i64), (.int .i64), (.int .i64), (.int .i64), (.int .i64), (.int .i64), .bool, .bool]), (.sl [(.int .i64), (.int .i64), .bool]), (.int .i64), (.int .i64)] s, .sc (.int .i64) i] [.st [(.int .i64), (.int .i64), (.int .i64), (.int .i64), (.int .i64), (.int .i64), (.int .i64), (.int .i64), (.int .i64), (.int .i64), (.int .i64), (.int .i64), (.int .i64), (.int .i64), (.int .i64), (.int .i64), (.int .i64), (.int .i64), .bool, (.sl [(.int .i64), (.int .i64), (.int .i64), (.int .i64), (.int .i64), (.int .i64), .bool]), (.int .i64), (.int .i64)]] Q := (pc_204 c s i).mono (by rintro _ ⟨e, hc, rfl⟩; exact ho e hc)
/- spec.l10Any -/
def phi_164 : Nat → List D → (List D → Prop) → Prop
  | 117, [c, n], K => ∀ (m : Int), (0 ≤ m ∧ m ≤ 16777215 ∧ (0 < n.toI → m < n.toI) ∧ (n.toI ≤ 0 → m = 0)) → K [.int m]
  | 120, [c, s], K => ∀ (p : D), K [p]
  | 128, [c], K => ∀ (g : D), K [g]
  | 132, [c, s], K => ∀ (a : D), ((((a.fld 6).toL.length : Int) ≤ 5)) → K [a]
  | 189, [c, l], K => ∀ (m : Int), (oneOf l m) → K [.int m]
  | 204, [c, s, i], K => ∀ (e : D), (effB e) → K [e]
  | _, _, _ => False
theorem pc_164 (c s : D) : PC Try.prog 164 [.cur c, .st [(.sl [(.int .i64), (.int .i64), (.int .i64), (.int .i64), (.int .i64), (.int .i64), (.int .i64), (.int .i64), (.int .i64), (.int .i64), (.int .i64), .bool, .bool]), (.sl [(.int .i64), (.int .i64), .bool]), (.int .i64), (.int .i64)] s] [.st [(.int .i64), (.int .i64), (.int .i64), (.int .i64), (.int .i64), (.int .i64), (.int .i64), (.int .i64), (.int .i64), (.int .i64), (.int .i64), (.int .i64), (.int .i64), (.int .i64), (.int .i64), (.int .i64), (.int .i64), (.int .i64), .bool, (.sl [(.int .i64), (.int .i64), (.int .i64), (.int .i64), (.int .i64), (.int .i64), .bool]), (.int .i64), (.int .i64)]] fun o => ∃ (e : D), (effB e) ∧ o = [e] := by
  refine PC.of_sigK mix sig_164 ⟨trivial, rfl, trivial⟩ rfl fun hok ci ch hci hcn hch => ?_
  have e_s : D.lst [s.fld 0, s.fld 1, s.fld 2, s.fld 3] = s := by simpa [List.range, List.range.loop] using okL_eta (hok _ (.head _))
  have k_s : okL [(.sl [(.int .i64), (.int .i64), (.int .i64), (.int .i64), (.int .i64), (.int .i64), (.int .i64), (.int .i64), (.int .i64), (.int .i64), (.int .i64), .bool, .bool]), (.sl [(.int .i64), (.int .i64), .bool]), (.int .i64), (.int .i64)] s := (hok _ (.head _))
  have e_s_0 : D.lst (s.fld 0).toL = s.fld 0 := sl_eta (okL_at k_s (i := 0) rfl)
  have l_s_0 := sl_len (okL_at k_s (i := 0) rfl)
  have k_s_0 := sl_all (okL_at k_s (i := 0) rfl)
  have E_s_0 : ∀ i, i < (s.fld 0).toL.length → D.lst [((s.fld 0).elem i).fld 0, ((s.fld 0).elem i).fld 1, ((s.fld 0).elem i).fld 2, ((s.fld 0).elem i).fld 3, ((s.fld 0).elem i).fld 4, ((s.fld 0).elem i).fld 5, ((s.fld 0).elem i).fld 6, ((s.fld 0).elem i).fld 7, ((s.fld 0).elem i).fld 8, ((s.fld 0).elem i).fld 9, ((s.fld 0).elem i).fld 10, ((s.fld 0).elem i).fld 11, ((s.fld 0).elem i).fld 12] = (s.fld 0).elem i := fun i hi => by simpa [List.range, List.range.loop] using okL_eta (k_s_0 _ (elem_mem hi))
  have e_s_1 : D.lst (s.fld 1).toL = s.fld 1 := sl_eta (okL_at k_s (i := 1) rfl)
  have l_s_1 := sl_len (okL_at k_s (i := 1) rfl)
  have k_s_1 := sl_all (okL_at k_s (i := 1) rfl)
  have E_s_1 : ∀ i, i < (s.fld 1).toL.length → D.lst [((s.fld 1).elem i).fld 0, ((s.fld 1).elem i).fld 1, ((s.fld 1).elem i).fld 2] = (s.fld 1).elem i := fun i hi => by simpa [List.range, List.range.loop] using okL_eta (k_s_1 _ (elem_mem hi))
  apply sayR_den (φ := (phi_164))
  simp (config := { maxSteps := 2000000 }) [e_s_0, E_s_0, e_s_1, E_s_1, e_s, tree_164, T.sayR, inK_i64_iff, RS.oks, RS.ok, CK.okD, X.den, O1.den, O2.den, O3.den, callD, XArg.ev, XArg.dat, Callee'.num, backs, DArg.back, Conds.den, cloArgs, phi_164]
  refine ⟨by (first | ((with_reducible refine ⟨?_⟩); simp [e_s_0, E_s_0, e_s_1, E_s_1, e_s, tree_164, T.sayR, inK_i64_iff, RS.oks, RS.ok, CK.okD, X.den, O1.den, O2.den, O3.den, callD, XArg.ev, XArg.dat, Callee'.num, backs, DArg.back, Conds.den, cloArgs]; intro K hK; (try simp only [phi_164] at hK); intros; first | contradiction | ((with_reducible refine pd_117 _ _ _ ?ho); (case ho => exact hK)) | ((with_reducible refine pd_120 _ _ _ ?ho); (case ho => exact hK)) | ((with_reducible refine pd_128 _ _ ?ho); (case ho => exact hK)) | ((with_reducible refine pd_132 _ _ _ ?ho); (case ho => exact hK)) | ((with_reducible refine pd_189 _ _ ?_ _ ?ho); (case ho => exact hK); all_goals (exact (by first | (with_reducible assumption) | omega | assumption | (simp; done) | (simp; omega) | (simp [*]; done) | exact smallE_of (n := 1048576) (by omega) (by omega) | (simp [*] at *; omega) | grind [szS]))) | ((with_reducible refine pd_204 _ _ _ _ ?ho); (case ho => exact hK)) | (exact pd_117 _ _ _ hK) | (exact pd_120 _ _ _ hK) | (exact pd_128 _ _ hK) | (exact pd_132 _ _ _ hK) | (exact pd_189 _ _ (by first | (with_reducible assumption) | omega | assumption | (simp; done) | (simp; omega) | (simp [*]; done) | exact smallE_of (n := 1048576) (by omega) (by omega) | (simp [*] at *; omega) | grind [szS]) _ hK) | (exact pd_204 _ _ _ _ hK)) | ((with_reducible show CallIn _ _ _ _ _); first | (refine .inr ⟨_, rfl, fun K hK => hK⟩) | (refine .inr ⟨_, rfl, fun K hK => hK true⟩) | (refine .inr ⟨_, rfl, fun K hK => hK 0 (by simp)⟩))), ?_⟩
  intro m0
  intros
  refine ⟨by (first | ((with_reducible refine ⟨?_⟩); simp [e_s_0, E_s_0, e_s_1, E_s_1, e_s, tree_164, T.sayR, inK_i64_iff, RS.oks, RS.ok, CK.okD, X.den, O1.den, O2.den, O3.den, callD, XArg.ev, XArg.dat, Callee'.num, backs, DArg.back, Conds.den, cloArgs]; intro K hK; (try simp only [phi_164] at hK); intros; first | contradiction | ((with_reducible refine pd_117 _ _ _ ?ho); (case ho => exact hK)) | ((with_reducible refine pd_120 _ _ _ ?ho); (case ho => exact hK)) | ((with_reducible refine pd_128 _ _ ?ho); (case ho => exact hK)) | ((with_reducible refine pd_132 _ _ _ ?ho); (case ho => exact hK)) | ((with_reducible refine pd_189 _ _ ?_ _ ?ho); (case ho => exact hK); all_goals (exact (by first | (with_reducible assumption) | omega | assumption | (simp; done) | (simp; omega) | (simp [*]; done) | exact smallE_of (n := 1048576) (by omega) (by omega) | (simp [*] at *; omega) | grind [szS]))) | ((with_reducible refine pd_204 _ _ _ _ ?ho); (case ho => exact hK)) | (exact pd_117 _ _ _ hK) | (exact pd_120 _ _ _ hK) | (exact pd_128 _ _ hK) | (exact pd_132 _ _ _ hK) | (exact pd_189 _ _ (by first | (with_reducible assumption) | omega | assumption | (simp; done) | (simp; omega) | (simp [*]; done) | exact smallE_of (n := 1048576) (by omega) (by omega) | (simp [*] at *; omega) | grind [szS]) _ hK) | (exact pd_204 _ _ _ _ hK)) | ((with_reducible show CallIn _ _ _ _ _); first | (refine .inr ⟨_, rfl, fun K hK => hK⟩) | (refine .inr ⟨_, rfl, fun K hK => hK true⟩) | (refine .inr ⟨_, rfl, fun K hK => hK 0 (by simp)⟩))), fun e he hk => ?_⟩
  (repeat' (first | (with_reducible apply And.intro) | intro _)) <;> first | (first | ((with_reducible refine ⟨?_⟩); simp [e_s_0, E_s_0, e_s_1, E_s_1, e_s, tree_164, T.sayR, inK_i64_iff, RS.oks, RS.ok, CK.okD, X.den, O1.den, O2.den, O3.den, callD, XArg.ev, XArg.dat, Callee'.num, backs, DArg.back, Conds.den, cloArgs]; intro K hK; (try simp only [phi_164] at hK); intros; first | contradiction | ((with_reducible refine pd_117 _ _ _ ?ho); (case ho => exact hK)) | ((with_reducible refine pd_120 _ _ _ ?ho); (case ho => exact hK)) | ((with_reducible refine pd_128 _ _ ?ho); (case ho => exact hK)) | ((with_reducible refine pd_132 _ _ _ ?ho); (case ho => exact hK)) | ((with_reducible refine pd_189 _ _ ?_ _ ?ho); (case ho => exact hK); all_goals (exact (by first | (with_reducible assumption) | omega | assumption | (simp; done) | (simp; omega) | (simp [*]; done) | exact smallE_of (n := 1048576) (by omega) (by omega) | (simp [*] at *; omega) | grind [szS]))) | ((with_reducible refine pd_204 _ _ _ _ ?ho); (case ho => exact hK)) | (exact pd_117 _ _ _ hK) | (exact pd_120 _ _ _ hK) | (exact pd_128 _ _ hK) | (exact pd_132 _ _ _ hK) | (exact pd_189 _ _ (by first | (with_reducible assumption) | omega | assumption | (simp; done) | (simp; omega) | (simp [*]; done) | exact smallE_of (n := 1048576) (by omega) (by omega) | (simp [*] at *; omega) | grind [szS]) _ hK) | (exact pd_204 _ _ _ _ hK)) | ((with_reducible show CallIn _ _ _ _ _); first | (refine .inr ⟨_, rfl, fun K hK => hK⟩) | (refine .inr ⟨_, rfl, fun K hK => hK true⟩) | (refine .inr ⟨_, rfl, fun K hK => hK 0 (by simp)⟩))) | (exact he) | (simp [effB]; omega) | omega | (first | (with_reducible assumption) | (with_reducible exact trivial) | (first | ((with_reducible refine ⟨?_⟩); simp [e_s_0, E_s_0, e_s_1, E_s_1, e_s, tree_164, T.sayR, inK_i64_iff, RS.oks, RS.ok, CK.okD, X.den, O1.den, O2.den, O3.den, callD, XArg.ev, XArg.dat, Callee'.num, backs, DArg.back, Conds.den, cloArgs]; intro K hK; (try simp only [phi_164] at hK); intros; first | contradiction | ((with_reducible refine pd_117 _ _ _ ?ho); (case ho => exact hK)) | ((with_reducible refine pd_120 _ _ _ ?ho); (case ho => exact hK)) | ((with_reducible refine pd_128 _ _ ?ho); (case ho => exact hK)) | ((with_reducible refine pd_132 _ _ _ ?ho); (case ho => exact hK)) | ((with_reducible refine pd_189 _ _ ?_ _ ?ho); (case ho => exact hK); all_goals (exact (by first | (with_reducible assumption) | omega | assumption | (simp; done) | (simp; omega) | (simp [*]; done) | exact smallE_of (n := 1048576) (by omega) (by omega) | (simp [*] at *; omega) | grind [szS]))) | ((with_reducible refine pd_204 _ _ _ _ ?ho); (case ho => exact hK)) | (exact pd_117 _ _ _ hK) | (exact pd_120 _ _ _ hK) | (exact pd_128 _ _ hK) | (exact pd_132 _ _ _ hK) | (exact pd_189 _ _ (by first | (with_reducible assumption) | omega | assumption | (simp; done) | (simp; omega) | (simp [*]; done) | exact smallE_of (n := 1048576) (by omega) (by omega) | (simp [*] at *; omega) | grind [szS]) _ hK) | (exact pd_204 _ _ _ _ hK)) | ((with_reducible show CallIn _ _ _ _ _); first | (refine .inr ⟨_, rfl, fun K hK => hK⟩) | (refine .inr ⟨_, rfl, fun K hK => hK true⟩) | (refine .inr ⟨_, rfl, fun K hK => hK 0 (by simp)⟩))) | omega | (simp only [IntKind.wrap_i64, maxL] at *; omega) | assumption | rfl | contradiction | grind)
theorem pd_164 (c s : D) (Q : List D → Prop) (ho : ∀ (e : D), (effB e) → Q [e]) : PC Try.prog 164 [.cur c, .st [(.sl [(.int .i64), (.int .i64), (.int .i64), (.int .i64), (.int .i64), (.int .i64), (.int .i64), (.int .i64), (.int .i64), (.int .i64), (.int .i64), .bool, .bool]), (.sl [(.int .i64), (.int .i64), .bool]), (.int .i64), (.int .i64)] s] [.st [(.int .i64), (.int .i64), (.int .i64), (.int .i64), (.int .i64), (.int .i64), (.int .i64), (.int .i64), (.int .i64), (.int .i64), (.int .i64), (.int .i64), (.int .i64), (.int .i64), (.int .i64), (.int .i64), (.int .i64), (.int .i64), .bool, (.sl [(.int .i64), (.int .i64), (.int .i64), (.int .i64), (.int .i64), (.int .i64), .bool]), (.int .i64), (.int .i64)]] Q := (pc_164 c s).mono (by rintro _ ⟨e, hc, rfl⟩; exact ho e hc)
/- spec.l11Draw -/
def phi_210 : Nat → List D → (List D → Prop) → Prop
  | 117, [c, n], K => ∀ (m : Int), (0 ≤ m ∧ m ≤ 16777215 ∧ (0 < n.toI → m < n.toI) ∧ (n.toI ≤ 0 → m = 0)) → K [.int m]
  | 204, [c, s, i], K => ∀ (e : D), (effB e) → K [e]
  | _, _, _ => False
theorem pc_210 (c s : D) : PC Try.prog 210 [.cur c, .st [(.sl [(.int .i64), (.int .i64), (.int .i64), (.int .i64), (.int .i64), (.int .i64), (.int .i64), (.int .i64), (.int .i64), (.int .i64), (.int .i64), .bool, .bool]), (.sl [(.int .i64), (.int .i64), .bool]), (.int .i64), (.int .i64)] s] [.sc (.sl [(.int .i64), (.int .i64), (.int .i64), (.int .i64), (.int .i64), (.int .i64), (.int .i64), (.int .i64), (.int .i64), (.int .i64), (.int .i64), (.int .i64), (.int .i64), (.int .i64), (.int .i64), (.int .i64), (.int .i64), (.int .i64), .bool, (.sl [(.int .i64), (.int .i64), (.int .i64), (.int .i64), (.int .i64), (.int .i64), .bool]), (.int .i64), (.int .i64)])] fun o => ∃ (l : D), (tabN 4 l) ∧ o = [l] := by
  refine PC.of_sigK mix sig_210 ⟨trivial, rfl, trivial⟩ rfl fun hok ci ch hci hcn hch => ?_
  have e_s : D.lst [s.fld 0, s.fld 1, s.fld 2, s.fld 3] = s := by simpa [List.range, List.range.loop] using okL_eta (hok _ (.head _))
  have k_s : okL [(.sl [(.int .i64), (.int .i64), (.int .i64), (.int .i64), (.int .i64), (.int .i64), (.int .i64), (.int .i64), (.int .i64), (.int .i64), (.int .i64), .bool, .bool]), (.sl [(.int .i64), (.int .i64), .bool]), (.int .i64), (.int .i64)] s := (hok _ (.head _))
  have e_s_0 : D.lst (s.fld 0).toL = s.fld 0 := sl_eta (okL_at k_s (i := 0) rfl)
  have l_s_0 := sl_len (okL_at k_s (i := 0) rfl)
  have k_s_0 := sl_all (okL_at k_s (i := 0) rfl)
  have E_s_0 : ∀ i, i < (s.fld 0).toL.length → D.lst [((s.fld 0).elem i).fld 0, ((s.fld 0).elem i).fld 1, ((s.fld 0).elem i).fld 2, ((s.fld 0).elem i).fld 3, ((s.fld 0).elem i).fld 4, ((s.fld 0).elem i).fld 5, ((s.fld 0).elem i).fld 6, ((s.fld 0).elem i).fld 7, ((s.fld 0).elem i).fld 8, ((s.fld 0).elem i).fld 9, ((s.fld 0).elem i).fld 10, ((s.fld 0).elem i).fld 11, ((s.fld 0).elem i).fld 12] = (s.fld 0).elem i := fun i hi => by simpa [List.range, List.range.loop] using okL_eta (k_s_0 _ (elem_mem hi))
  have e_s_1 : D.lst (s.fld 1).toL = s.fld 1 := sl_eta (okL_at k_s (i := 1) rfl)
  have l_s_1 := sl_len (okL_at k_s (i := 1) rfl)
  have k_s_1 := sl_all (okL_at k_s (i := 1) rfl)
  have E_s_1 : ∀ i, i < (s.fld 1).toL.length → D.lst [((s.fld 1).elem i).fld 0, ((s.fld 1).elem i).fld 1, ((s.fld 1).elem i).fld 2] = (s.fld 1).elem i := fun i hi => by simpa [List.range, List.range.loop] using okL_eta (k_s_1 _ (elem_mem hi))
  apply sayR_den (φ := (phi_210))
  simp (config := { maxSteps := 2000000 }) [e_s_0, E_s_0, e_s_1, E_s_1, e_s, tree_210, T.sayR, inK_i64_iff, RS.oks, RS.ok, CK.okD, X.den, O1.den, O2.den, O3.den, callD, XArg.ev, XArg.dat, Callee'.num, backs, DArg.back, Conds.den, cloArgs, phi_210]
  refine ⟨by (first | ((with_reducible refine ⟨?_⟩); simp [e_s_0, E_s_0, e_s_1, E_s_1, e_s, tree_210, T.sayR, inK_i64_iff, RS.oks, RS.ok, CK.okD, X.den, O1.den, O2.den, O3.den, callD, XArg.ev, XArg.dat, Callee'.num, backs, DArg.back, Conds.den, cloArgs]; intro K hK; (try simp only [phi_210] at hK); intros; first | contradiction | ((with_reducible refine pd_117 _ _ _ ?ho); (case ho => exact hK)) | ((with_reducible refine pd_204 _ _ _ _ ?ho); (case ho => exact hK)) | (exact pd_117 _ _ _ hK) | (exact pd_204 _ _ _ _ hK)) | ((with_reducible show CallIn _ _ _ _ _); first | (refine .inr ⟨_, rfl, fun K hK => hK⟩) | (refine .inr ⟨_, rfl, fun K hK => hK true⟩) | (refine .inr ⟨_, rfl, fun K hK => hK 0 (by simp)⟩))), ?_⟩
  intro m0
  intros
  obtain ⟨I, hI⟩ : ∃ I : List D → Prop, ∀ vs, I vs ↔ ∃ (j : Int) (q : Int) (ps : List D), vs = [.int q, .int j, .lst ps] ∧ 0 ≤ j ∧ j ≤ 4 ∧ tabN (4 - j) (.lst ps) := ⟨_, fun _ => Iff.rfl⟩
  obtain ⟨μ, hμ⟩ : ∃ μ : List D → Nat, ∀ vs, μ vs = ((vs.getD 1 default).toI).toNat := ⟨_, fun _ => rfl⟩
  refine den_loop I μ ((hI _).2 ⟨m0, 0, [], by simp [X.den, O1.den, O2.den], by omega, by omega, ⟨by simp [D.toL]; omega, by simp [D.toL]⟩⟩) ?_
  intro vs hvl hv
  obtain ⟨j, q, ps, rfl, hinv⟩ := (hI _).1 hv
  clear hv
  apply sayR_den (φ := (phi_210))
  have hl : (ps.length : Int) ≤ 4 := by have := hinv.2.2.1; simp [D.toL] at this; omega
  have hy : 0 < j → IntKind.i64.wrap (j - 1) = j - 1 := by intro h; (first | omega | (simp only [IntKind.wrap_i64, maxL] at *; omega) | (simp [IntKind.wrap_i64, maxL] at *; omega))
  simp (config := { maxSteps := 2000000 }) [e_s_0, E_s_0, e_s_1, E_s_1, e_s, tree_210, T.sayR, inK_i64_iff, RS.oks, RS.ok, CK.okD, X.den, O1.den, O2.den, O3.den, callD, XArg.ev, XArg.dat, Callee'.num, backs, DArg.back, Conds.den, cloArgs, phi_210, hy]
  (repeat' (first | (with_reducible apply And.intro) | intro _)) <;> first | (first | ((with_reducible refine ⟨?_⟩); simp [e_s_0, E_s_0, e_s_1, E_s_1, e_s, tree_210, T.sayR, inK_i64_iff, RS.oks, RS.ok, CK.okD, X.den, O1.den, O2.den, O3.den, callD, XArg.ev, XArg.dat, Callee'.num, backs, DArg.back, Conds.den, cloArgs]; intro K hK; (try simp only [phi_210] at hK); intros; first | contradiction | ((with_reducible refine pd_117 _ _ _ ?ho); (case ho => exact hK)) | ((with_reducible refine pd_204 _ _ _ _ ?ho); (case ho => exact hK)) | (exact pd_117 _ _ _ hK) | (exact pd_204 _ _ _ _ hK)) | ((with_reducible show CallIn _ _ _ _ _); first | (refine .inr ⟨_, rfl, fun K hK => hK⟩) | (refine .inr ⟨_, rfl, fun K hK => hK true⟩) | (refine .inr ⟨_, rfl, fun K hK => hK 0 (by simp)⟩))) | omega | ((with_reducible refine (hI _).2 ?_); rw [hy (by omega)]; exact ⟨j - 1, _, _, rfl, by omega, by omega, tabN_app hinv.2.2 (by assumption) (by omega)⟩) | (rw [hy (by omega), hμ, hμ]; simp; omega) | (exact tabN_le hinv.2.2 (by omega))
theorem pd_210 (c s : D) (Q : List D → Prop) (ho : ∀ (l : D), (tabN 4 l) → Q [l]) : PC Try.prog 210 [.cur c, .st [(.sl [(.int .i64), (.int .i64), (.int .i64), (.int .i64), (.int .i64), (.int .i64), (.int .i64), (.int .i64), (.int .i64), (.int .i64), (.int .i64), .bool, .bool]), (.sl [(.int .i64), (.int .i64), .bool]), (.int .i64), (.int .i64)] s] [.sc (.sl [(.int .i64), (.int .i64), (.int .i64), (.int .i64), (.int .i64), (.int .i64), (.int .i64), (.int .i64), (.int .i64), (.int .i64), (.int .i64), (.int .i64), (.int .i64), (.int .i64), (.int .i64), (.int .i64), (.int .i64), (.int .i64), .bool, (.sl [(.int .i64), (.int .i64), (.int .i64), (.int .i64), (.int .i64), (.int .i64), .bool]), (.int .i64), (.int .i64)])] Q := (pc_210 c s).mono (by rintro _ ⟨l, hc, rfl⟩; exact ho l hc)
/- spec.l11Any -/
def phi_174 : Nat → List D → (List D → Prop) → Prop
  | 117, [c, n], K => ∀ (m : Int), (0 ≤ m ∧ m ≤ 16777215 ∧ (0 < n.toI → m < n.toI) ∧ (n.toI ≤ 0 → m = 0)) → K [.int m]
  | 164, [c, s], K => ∀ (e : D), (effB e) → K [e]
  | 204, [c, s, i], K => ∀ (e : D), (effB e) → K [e]
  | 210, [c, s], K => ∀ (l : D), (tabN 4 l) → K [l]
  | _, _, _ => False
theorem pc_174 (c s : D) : PC Try.prog 174 [.cur c, .st [(.sl [(.int .i64), (.int .i64), (.int .i64), (.int .i64), (.int .i64), (.int .i64), (.int .i64), (.int .i64), (.int .i64), (.int .i64), (.int .i64), .bool, .bool]), (.sl [(.int .i64), (.int .i64), .bool]), (.int .i64), (.int .i64)] s] [.sc (.sl [(.int .i64), (.int .i64), (.int .i64), (.int .i64), (.int .i64), (.int .i64), (.int .i64), (.int .i64), (.int .i64), (.int .i64), (.int .i64), (.int .i64), (.int .i64), (.int .i64), (.int .i64), (.int .i64), (.int .i64), (.int .i64), .bool, (.sl [(.int .i64), (.int .i64), (.int .i64), (.int .i64), (.int .i64), (.int .i64), .bool]), (.int .i64), (.int .i64)])] fun o => ∃ (l : D), (tabB l) ∧ o = [l] := by
  refine PC.of_sigK mix sig_174 ⟨trivial, rfl, trivial⟩ rfl fun hok ci ch hci hcn hch => ?_
  have e_s : D.lst [s.fld 0, s.fld 1, s.fld 2, s.fld 3] = s := by simpa [List.range, List.range.loop] using okL_eta (hok _ (.head _))
  have k_s : okL [(.sl [(.int .i64), (.int .i64), (.int .i64), (.int .i64), (.int .i64), (.int .i64), (.int .i64), (.int .i64), (.int .i64), (.int .i64), (.int .i64), .bool, .bool]), (.sl [(.int .i64), (.int .i64), .bool]), (.int .i64), (.int .i64)] s := (hok _ (.head _))
  have e_s_0 : D.lst (s.fld 0).toL = s.fld 0 := sl_eta (okL_at k_s (i := 0) rfl)
  have l_s_0 := sl_len (okL_at k_s (i := 0) rfl)
  have k_s_0 := sl_all (okL_at k_s (i := 0) rfl)
  have E_s_0 : ∀ i, i < (s.fld 0).toL.length → D.lst [((s.fld 0).elem i).fld 0, ((s.fld 0).elem i).fld 1, ((s.fld 0).elem i).fld 2, ((s.fld 0).elem i).fld 3, ((s.fld 0).elem i).fld 4, ((s.fld 0).elem i).fld 5, ((s.fld 0).elem i).fld 6, ((s.fld 0).elem i).fld 7, ((s.fld 0).elem i).fld 8, ((s.fld 0).elem i).fld 9, ((s.fld 0).elem i).fld 10, ((s.fld 0).elem i).fld 11, ((s.fld 0).elem i).fld 12] = (s.fld 0).elem i := fun i hi => by simpa [List.range, List.range.loop] using okL_eta (k_s_0 _ (elem_mem hi))
  have e_s_1 : D.lst (s.fld 1).toL = s.fld 1 := sl_eta (okL_at k_s (i := 1) rfl)
  have l_s_1 := sl_len (okL_at k_s (i := 1) rfl)
  have k_s_1 := sl_all (okL_at k_s (i := 1) rfl)
  have E_s_1 : ∀ i, i < (s.fld 1).toL.length → D.lst [((s.fld 1).elem i).fld 0, ((s.fld 1).elem i).fld 1, ((s.fld 1).elem i).fld 2] = (s.fld 1).elem i := fun i hi => by simpa [List.range, List.range.loop] using okL_eta (k_s_1 _ (elem_mem hi))
  apply sayR_den (φ := (phi_174))
  simp (config := { maxSteps := 2000000 }) [e_s_0, E_s_0, e_s_1, E_s_1, e_s, tree_174, T.sayR, inK_i64_iff, RS.oks, RS.ok, okD_int, okD_bool, X.den, O1.den, O2.den, O3.den, callD, XArg.ev, XArg.dat, Callee'.num, backs, DArg.back, Conds.den, cloArgs, phi_174]
  refine ⟨by (first | ((with_reducible refine ⟨?_⟩); simp [e_s_0, E_s_0, e_s_1, E_s_1, e_s, tree_174, T.sayR, inK_i64_iff, RS.oks, RS.ok, okD_int, okD_bool, X.den, O1.den, O2.den, O3.den, callD, XArg.ev, XArg.dat, Callee'.num, backs, DArg.back, Conds.den, cloArgs]; intro K hK; (try simp only [phi_174] at hK); intros; first | contradiction | ((with_reducible refine pd_117 _ _ _ ?ho); (case ho => exact hK)) | ((with_reducible refine pd_164 _ _ _ ?ho); (case ho => exact hK)) | ((with_reducible refine pd_204 _ _ _ _ ?ho); (case ho => exact hK)) | ((with_reducible refine pd_210 _ _ _ ?ho); (case ho => exact hK)) | (exact pd_117 _ _ _ hK) | (exact pd_164 _ _ _ hK) | (exact pd_204 _ _ _ _ hK) | (exact pd_210 _ _ _ hK)) | ((with_reducible show CallIn _ _ _ _ _); first | (refine .inr ⟨_, rfl, fun K hK => hK⟩) | (refine .inr ⟨_, rfl, fun K hK => hK true⟩) | (refine .inr ⟨_, rfl, fun K hK => hK 0 (by simp)⟩))), fun l hl hk => ?_⟩
  have hl1 := hl.1
  (repeat' (first | (with_reducible apply And.intro) | intro _)) <;> first | (first | ((with_reducible refine ⟨?_⟩); simp [e_s_0, E_s_0, e_s_1, E_s_1, e_s, tree_174, T.sayR, inK_i64_iff, RS.oks, RS.ok, okD_int, okD_bool, X.den, O1.den, O2.den, O3.den, callD, XArg.ev, XArg.dat, Callee'.num, backs, DArg.back, Conds.den, cloArgs]; intro K hK; (try simp only [phi_174] at hK); intros; first | contradiction | ((with_reducible refine pd_117 _ _ _ ?ho); (case ho => exact hK)) | ((with_reducible refine pd_164 _ _ _ ?ho); (case ho => exact hK)) | ((with_reducible refine pd_204 _ _ _ _ ?ho); (case ho => exact hK)) | ((with_reducible refine pd_210 _ _ _ ?ho); (case ho => exact hK)) | (exact pd_117 _ _ _ hK) | (exact pd_164 _ _ _ hK) | (exact pd_204 _ _ _ _ hK) | (exact pd_210 _ _ _ hK)) | ((with_reducible show CallIn _ _ _ _ _); first | (refine .inr ⟨_, rfl, fun K hK => hK⟩) | (refine .inr ⟨_, rfl, fun K hK => hK true⟩) | (refine .inr ⟨_, rfl, fun K hK => hK 0 (by simp)⟩))) | (exact tabN_le hl (by decide)) | (exact tabN_app (tabN_toL hl) (by assumption) (by decide)) | (exact tabN_app3 (tabN_toL hl) (by assumption) (by assumption) (by assumption) (by decide)) | (exact tabN_set (tabN_toL hl) (by assumption) (by decide)) | omega
theorem pd_174 (c s : D) (Q : List D → Prop) (ho : ∀ (l : D), (tabB l) → Q [l]) : PC Try.prog 174 [.cur c, .st [(.sl [(.int .i64), (.int .i64), (.int .i64), (.int .i64), (.int .i64), (.int .i64), (.int .i64), (.int .i64), (.int .i64), (.int .i64), (.int .i64), .bool, .bool]), (.sl [(.int .i64), (.int .i64), .bool]), (.int .i64), (.int .i64)] s] [.sc (.sl [(.int .i64), (.int .i64), (.int .i64), (.int .i64), (.int .i64), (.int .i64), (.int .i64), (.int .i64), (.int .i64), (.int .i64), (.int .i64), (.int .i64), (.int .i64), (.int .i64), (.int .i64), (.int .i64), (.int .i64), (.int .i64), .bool, (.sl [(.int .i64), (.int .i64), (.int .i64), (.int .i64), (.int .i64), (.int .i64), .bool]), (.int .i64), (.int .i64)])] Q := (pc_174 c s).mono (by rintro _ ⟨l, hc, rfl⟩; exact ho l hc)
/- spec.DrawInstall -/
def phi_107 : Nat → List D → (List D → Prop) → Prop
  | 113, [a], K => K [a]
  | 119, [c], K => ∀ (s : D), (stateN 5 3 s) → K [s]
  | 164, [c, s], K => ∀ (e : D), (effB e) → K [e]
  | 174, [c, s], K => ∀ (l : D), (tabB l) → K [l]
  | _, _, _ => False
theorem pc_107 (code : D) : PC Try.prog 107 [.sc (.sl [(.int .u8)]) code] [.sc (.sl [(.int .i64), (.int .i64), (.int .i64), (.int .i64), (.int .i64), (.int .i64), (.int .i64), (.int .i64), (.int .i64), (.int .i64), (.int .i64), (.int .i64), (.int .i64), (.int .i64), (.int .i64), (.int .i64), (.int .i64), (.int .i64), .bool, (.sl [(.int .i64), (.int .i64), (.int .i64), (.int .i64), (.int .i64), (.int .i64), .bool]), (.int .i64), (.int .i64)]), .st [(.int .i64), (.int .i64), (.int .i64), (.int .i64), (.int .i64), (.int .i64), (.int .i64), (.int .i64), (.int .i64), (.int .i64), (.int .i64), (.int .i64), (.int .i64), (.int .i64), (.int .i64), (.int .i64), (.int .i64), (.int .i64), .bool, (.sl [(.int .i64), (.int .i64), (.int .i64), (.int .i64), (.int .i64), (.int .i64), .bool]), (.int .i64), (.int .i64)]] fun o => ∃ (l : D) (e : D), (tabB l ∧ effB e) ∧ o = [l, e] := by
  refine PC.of_sig mix sig_107 ⟨rfl, trivial⟩ rfl fun hok => ?_
  have e_code := sl_eta (hok _ (.head _))
  have l_code := sl_len (hok _ (.head _))
  have k_code := sl_all (hok _ (.head _))
  apply sayR_den (φ := (phi_107))
  simp (config := { maxSteps := 2000000 }) [e_code, tree_107, T.sayR, inK_i64_iff, RS.oks, RS.ok, okD_int, okD_bool, X.den, O1.den, O2.den, O3.den, callD, XArg.ev, XArg.dat, Callee'.num, backs, DArg.back, Conds.den, cloArgs, phi_107]
  (repeat' (first | (with_reducible apply And.intro) | intro _)) <;> first | (first | ((with_reducible refine ⟨?_⟩); simp [e_code, tree_107, T.sayR, inK_i64_iff, RS.oks, RS.ok, okD_int, okD_bool, X.den, O1.den, O2.den, O3.den, callD, XArg.ev, XArg.dat, Callee'.num, backs, DArg.back, Conds.den, cloArgs]; intro K hK; (try simp only [phi_107] at hK); intros; first | contradiction | ((with_reducible refine pd_113 _ _ ?ho); (case ho => exact hK)) | ((with_reducible refine pd_119 _ _ ?ho); (case ho => exact hK)) | ((with_reducible refine pd_164 _ _ _ ?ho); (case ho => exact hK)) | ((with_reducible refine pd_174 _ _ _ ?ho); (case ho => exact hK)) | (exact pd_113 _ _ hK) | (exact pd_119 _ _ hK) | (exact pd_164 _ _ _ hK) | (exact pd_174 _ _ _ hK)) | ((with_reducible show CallIn _ _ _ _ _); first | (refine .inr ⟨_, rfl, fun K hK => hK⟩) | (refine .inr ⟨_, rfl, fun K hK => hK true⟩) | (refine .inr ⟨_, rfl, fun K hK => hK 0 (by simp)⟩))) | omega | assumption
theorem pd_107 (code : D) (Q : List D → Prop) (ho : ∀ (l : D) (e : D), (tabB l ∧ effB e) → Q [l, e]) : PC Try.prog 107 [.sc (.sl [(.int .u8)]) code] [.sc (.sl [(.int .i64), (.int .i64), (.int .i64), (.int .i64), (.int .i64), (.int .i64), (.int .i64), (.int .i64), (.int .i64), (.int .i64), (.int .i64), (.int .i64), (.int .i64), (.int .i64), (.int .i64), (.int .i64), (.int .i64), (.int .i64), .bool, (.sl [(.int .i64), (.int .i64), (.int .i64), (.int .i64), (.int .i64), (.int .i64), .bool]), (.int .i64), (.int .i64)]), .st [(.int .i64), (.int .i64), (.int .i64), (.int .i64), (.int .i64), (.int .i64), (.int .i64), (.int .i64), (.int .i64), (.int .i64), (.int .i64), (.int .i64), (.int .i64), (.int .i64), (.int .i64), (.int .i64), (.int .i64), (.int .i64), .bool, (.sl [(.int .i64), (.int .i64), (.int .i64), (.int .i64), (.int .i64), (.int .i64), .bool]), (.int .i64), (.int .i64)]] Q := (pc_107 code).mono (by rintro _ ⟨l, e, hc, rfl⟩; exact ho l e hc)
/- slices.Clone[[]impl.Event,impl.Event] -/
theorem pc_205 (d : D) (h : (d.toL.length : Int) ≤ 1048576) : PC Try.prog 205 [.sc (.sl [(.int .i64), (.int .i64), (.int .i64), (.int .i64), (.int .i64), (.int .i64), .bool]) d] [.sc (.sl [(.int .i64), (.int .i64), (.int .i64), (.int .i64), (.int .i64), (.int .i64), .bool])] fun o => o = [d] := by
  refine PC.of_sig mix sig_205 ⟨rfl, trivial⟩ rfl fun hok => ?_
  have e_d := sl_eta (hok _ (.head _))
  have l_d := sl_len (hok _ (.head _))
  have k_d := sl_all (hok _ (.head _))
  have E_d : ∀ i, i < d.toL.length → D.lst [(d.elem i).fld 0, (d.elem i).fld 1, (d.elem i).fld 2, (d.elem i).fld 3, (d.elem i).fld 4, (d.elem i).fld 5, (d.elem i).fld 6] = d.elem i := fun i hi => by simpa [List.range, List.range.loop] using okL_eta (k_d _ (elem_mem hi))
  apply says_den (φ := fun _ _ => [])
  simp [e_d, E_d, tree_205, T.says, X.den, O1.den, O2.den, O3.den, callD, XArg.ev, XArg.dat, Callee'.num, backs, DArg.back, Conds.den, cloArgs] at h ⊢
  (repeat' (first | (with_reducible apply And.intro) | intro _))
  · omega
  · have e0 := e_d; rw [‹d.toL = []›] at e0; exact e0
theorem pd_205 (d : D) (h : (d.toL.length : Int) ≤ 1048576) (Q : List D → Prop) (ho : Q [d]) : PC Try.prog 205 [.sc (.sl [(.int .i64), (.int .i64), (.int .i64), (.int .i64), (.int .i64), (.int .i64), .bool]) d] [.sc (.sl [(.int .i64), (.int .i64), (.int .i64), (.int .i64), (.int .i64), (.int .i64), .bool])] Q := (pc_205 d h).mono fun _ h => h ▸ ho
/- impl.copyEffect -/
def phi_165 : Nat → List D → List D
  | 205, [d] => [d]
  | _, _ => []
theorem pc_165 (e : D) (h : ((e.fld 19).toL.length : Int) ≤ 1048576) : PC Try.prog 165 [.st [(.int .i64), (.int .i64), (.int .i64), (.int .i64), (.int .i64), (.int .i64), (.int .i64), (.int .i64), (.int .i64), (.int .i64), (.int .i64), (.int .i64), (.int .i64), (.int .i64), (.int .i64), (.int .i64), (.int .i64), (.int .i64), .bool, (.sl [(.int .i64), (.int .i64), (.int .i64), (.int .i64), (.int .i64), (.int .i64), .bool]), (.int .i64), (.int .i64)] e] [.st [(.int .i64), (.int .i64), (.int .i64), (.int .i64), (.int .i64), (.int .i64), (.int .i64), (.int .i64), (.int .i64), (.int .i64), (.int .i64), (.int .i64), (.int .i64), (.int .i64), (.int .i64), (.int .i64), (.int .i64), (.int .i64), .bool, (.sl [(.int .i64), (.int .i64), (.int .i64), (.int .i64), (.int .i64), (.int .i64), .bool]), (.int .i64), (.int .i64)]] fun o => o = [e] := by
  refine PC.of_sig mix sig_165 ⟨rfl, trivial⟩ rfl fun hok => ?_
  have e_e : D.lst [e.fld 0, e.fld 1, e.fld 2, e.fld 3, e.fld 4, e.fld 5, e.fld 6, e.fld 7, e.fld 8, e.fld 9, e.fld 10, e.fld 11, e.fld 12, e.fld 13, e.fld 14, e.fld 15, e.fld 16, e.fld 17, e.fld 18, e.fld 19, e.fld 20, e.fld 21] = e := by simpa [List.range, List.range.loop] using okL_eta (hok _ (.head _))
  have k_e : okL [(.int .i64), (.int .i64), (.int .i64), (.int .i64), (.int .i64), (.int .i64), (.int .i64), (.int .i64), (.int .i64), (.int .i64), (.int .i64), (.int .i64), (.int .i64), (.int .i64), (.int .i64), (.int .i64), (.int .i64), (.int .i64), .bool, (.sl [(.int .i64), (.int .i64), (.int .i64), (.int .i64), (.int .i64), (.int .i64), .bool]), (.int .i64), (.int .i64)] e := (hok _ (.head _))
  have e_e_19 : D.lst (e.fld 19).toL = e.fld 19 := sl_eta (okL_at k_e (i := 19) rfl)
  have l_e_19 := sl_len (okL_at k_e (i := 19) rfl)
  have k_e_19 := sl_all (okL_at k_e (i := 19) rfl)
  have E_e_19 : ∀ i, i < (e.fld 19).toL.length → D.lst [((e.fld 19).elem i).fld 0, ((e.fld 19).elem i).fld 1, ((e.fld 19).elem i).fld 2, ((e.fld 19).elem i).fld 3, ((e.fld 19).elem i).fld 4, ((e.fld 19).elem i).fld 5, ((e.fld 19).elem i).fld 6] = (e.fld 19).elem i := fun i hi => by simpa [List.range, List.range.loop] using okL_eta (k_e_19 _ (elem_mem hi))
  apply says_den (φ := (phi_165))
  simp [e_e_19, E_e_19, e_e, tree_165, T.says, X.den, O1.den, O2.den, O3.den, callD, XArg.ev, XArg.dat, Callee'.num, backs, DArg.back, Conds.den, cloArgs, phi_165, pd_205, h]
theorem pd_165 (e : D) (h : ((e.fld 19).toL.length : Int) ≤ 1048576) (Q : List D → Prop) (ho : Q [e]) : PC Try.prog 165 [.st [(.int .i64), (.int .i64), (.int .i64), (.int .i64), (.int .i64), (.int .i64), (.int .i64), (.int .i64), (.int .i64), (.int .i64), (.int .i64), (.int .i64), (.int .i64), (.int .i64), (.int .i64), (.int .i64), (.int .i64), (.int .i64), .bool, (.sl [(.int .i64), (.int .i64), (.int .i64), (.int .i64), (.int .i64), (.int .i64), .bool]), (.int .i64), (.int .i64)] e] [.st [(.int .i64), (.int .i64), (.int .i64), (.int .i64), (.int .i64), (.int .i64), (.int .i64), (.int .i64), (.int .i64), (.int .i64), (.int .i64), (.int .i64), (.int .i64), (.int .i64), (.int .i64), (.int .i64), (.int .i64), (.int .i64), .bool, (.sl [(.int .i64), (.int .i64), (.int .i64), (.int .i64), (.int .i64), (.int .i64), .bool]), (.int .i64), (.int .i64)]] Q := (pc_165 e h).mono fun _ h => h ▸ ho
/- impl.copyTable -/
def phi_177 : Nat → List D → List D
  | 165, [e] => [e]
  | _, _ => []
theorem pc_177 (d : D) (h : smallE d) : PC Try.prog 177 [.sc (.sl [(.int .i64), (.int .i64), (.int .i64), (.int .i64), (.int .i64), (.int .i64), (.int .i64), (.int .i64), (.int .i64), (.int .i64), (.int .i64), (.int .i64), (.int .i64), (.int .i64), (.int .i64), (.int .i64), (.int .i64), (.int .i64), .bool, (.sl [(.int .i64), (.int .i64), (.int .i64), (.int .i64), (.int .i64), (.int .i64), .bool]), (.int .i64), (.int .i64)]) d] [.sc (.sl [(.int .i64), (.int .i64), (.int .i64), (.int .i64), (.int .i64), (.int .i64), (.int .i64), (.int .i64), (.int .i64), (.int .i64), (.int .i64), (.int .i64), (.int .i64), (.int .i64), (.int .i64), (.int .i64), (.int .i64), (.int .i64), .bool, (.sl [(.int .i64), (.int .i64), (.int .i64), (.int .i64), (.int .i64), (.int .i64), .bool]), (.int .i64), (.int .i64)])] fun o => o = [d] := by
  refine PC.of_sig mix sig_177 ⟨rfl, trivial⟩ rfl fun hok => ?_
  have e_d := sl_eta (hok _ (.head _))
  have l_d := sl_len (hok _ (.head _))
  have k_d := sl_all (hok _ (.head _))
  have E_d : ∀ i, i < d.toL.length → D.lst [(d.elem i).fld 0, (d.elem i).fld 1, (d.elem i).fld 2, (d.elem i).fld 3, (d.elem i).fld 4, (d.elem i).fld 5, (d.elem i).fld 6, (d.elem i).fld 7, (d.elem i).fld 8, (d.elem i).fld 9, (d.elem i).fld 10, (d.elem i).fld 11, (d.elem i).fld 12, (d.elem i).fld 13, (d.elem i).fld 14, (d.elem i).fld 15, (d.elem i).fld 16, (d.elem i).fld 17, (d.elem i).fld 18, (d.elem i).fld 19, (d.elem i).fld 20, (d.elem i).fld 21] = d.elem i := fun i hi => by simpa [List.range, List.range.loop] using okL_eta (k_d _ (elem_mem hi))
  have h1 := h.1
  apply says_den (φ := (phi_177))
  simp [e_d, E_d, tree_177, T.says, X.den, O1.den, O2.den, O3.den, callD, XArg.ev, XArg.dat, Callee'.num, backs, DArg.back, Conds.den, cloArgs, phi_177, pd_165]
  refine fun _ => ?_
  refine den_for d.toL.length 0 (fun i => [.int i, .lst (d.toL.take i)]) (fun _ => True) (by simp) (by simp [X.den]) trivial fun i hi _ => ?_
  apply says_den (φ := (phi_177))
  by_cases hlt : i < d.toL.length
  · have h2 := h.2 i hlt
    simp [e_d, E_d, tree_177, T.says, X.den, O1.den, O2.den, O3.den, callD, XArg.ev, XArg.dat, Callee'.num, backs, DArg.back, Conds.den, cloArgs, phi_177, pd_165, hlt, h2, take_elem hlt]
    (repeat' (first | (with_reducible apply And.intro) | intro _)) <;> first | omega | (first | omega | (simp only [IntKind.wrap_i64, maxL] at *; omega) | (simp [IntKind.wrap_i64, maxL] at *; omega)) | (first | assumption | (exact pd_165 _ (by first | (with_reducible assumption) | omega | assumption | (simp; done) | (simp; omega) | (simp [*]; done) | exact smallE_of (n := 1048576) (by omega) (by omega) | (simp [*] at *; omega) | grind [szS]) _ (by first | rfl | simp | (simp; omega))) | (first | omega | (simp only [IntKind.wrap_i64, maxL] at *; omega) | (simp [IntKind.wrap_i64, maxL] at *; omega)) | rfl | contradiction | grind) | skip
  · simp [e_d, E_d, tree_177, T.says, X.den, O1.den, O2.den, O3.den, callD, XArg.ev, XArg.dat, Callee'.num, backs, DArg.back, Conds.den, cloArgs, phi_177, pd_165, hlt]
    (repeat' (first | (with_reducible apply And.intro) | intro _)) <;> first | omega | (rw [List.take_of_length_le (by omega), e_d]) | skip
theorem pd_177 (d : D) (h : smallE d) (Q : List D → Prop) (ho : Q [d]) : PC Try.prog 177 [.sc (.sl [(.int .i64), (.int .i64), (.int .i64), (.int .i64), (.int .i64), (.int .i64), (.int .i64), (.int .i64), (.int .i64), (.int .i64), (.int .i64), (.int .i64), (.int .i64), (.int .i64), (.int .i64), (.int .i64), (.int .i64), (.int .i64), .bool, (.sl [(.int .i64), (.int .i64), (.int .i64), (.int .i64), (.int .i64), (.int .i64), .bool]), (.int .i64), (.int .i64)]) d] [.sc (.sl [(.int .i64), (.int .i64), (.int .i64), (.int .i64), (.int .i64), (.int .i64), (.int .i64), (.int .i64), (.int .i64), (.int .i64), (.int .i64), (.int .i64), (.int .i64), (.int .i64), (.int .i64), (.int .i64), (.int .i64), (.int .i64), .bool, (.sl [(.int .i64), (.int .i64), (.int .i64), (.int .i64), (.int .i64), (.int .i64), .bool]), (.int .i64), (.int .i64)])] Q := (pc_177 d h).mono fun _ h => h ▸ ho
/- impl.Install$1 -/
theorem pc_186 (x e : D) : PC Try.prog 186 [.st [(.int .i64), (.int .i64), (.int .i64), (.int .i64), (.int .i64), (.int .i64), (.int .i64), (.int .i64), (.int .i64), (.int .i64), (.int .i64), (.int .i64), (.int .i64), (.int .i64), (.int .i64), (.int .i64), (.int .i64), (.int .i64), .bool, (.sl [(.int .i64), (.int .i64), (.int .i64), (.int .i64), (.int .i64), (.int .i64), .bool]), (.int .i64), (.int .i64)] x, .bx [(.int .i64), (.int .i64), (.int .i64), (.int .i64), (.int .i64), (.int .i64), (.int .i64), (.int .i64), (.int .i64), (.int .i64), (.int .i64), (.int .i64), (.int .i64), (.int .i64), (.int .i64), (.int .i64), (.int .i64), (.int .i64), .bool, (.sl [(.int .i64), (.int .i64), (.int .i64), (.int .i64), (.int .i64), (.int .i64), .bool]), (.int .i64), (.int .i64)] e] [.sc .bool] fun o => o = [.bool (decide ((e.fld 0).toI ≤ (x.fld 0).toI))] := by
  refine PC.of_sigC («as» := [.st [(.int .i64), (.int .i64), (.int .i64), (.int .i64), (.int .i64), (.int .i64), (.int .i64), (.int .i64), (.int .i64), (.int .i64), (.int .i64), (.int .i64), (.int .i64), (.int .i64), (.int .i64), (.int .i64), (.int .i64), (.int .i64), .bool, (.sl [(.int .i64), (.int .i64), (.int .i64), (.int .i64), (.int .i64), (.int .i64), .bool]), (.int .i64), (.int .i64)] x]) [([(.int .i64), (.int .i64), (.int .i64), (.int .i64), (.int .i64), (.int .i64), (.int .i64), (.int .i64), (.int .i64), (.int .i64), (.int .i64), (.int .i64), (.int .i64), (.int .i64), (.int .i64), (.int .i64), (.int .i64), (.int .i64), .bool, (.sl [(.int .i64), (.int .i64), (.int .i64), (.int .i64), (.int .i64), (.int .i64), .bool]), (.int .i64), (.int .i64)], e)] mix sig_186 ⟨rfl, trivial⟩ rfl fun hok => ?_
  have e_x : D.lst [x.fld 0, x.fld 1, x.fld 2, x.fld 3, x.fld 4, x.fld 5, x.fld 6, x.fld 7, x.fld 8, x.fld 9, x.fld 10, x.fld 11, x.fld 12, x.fld 13, x.fld 14, x.fld 15, x.fld 16, x.fld 17, x.fld 18, x.fld 19, x.fld 20, x.fld 21] = x := by simpa [List.range, List.range.loop] using okL_eta (hok _ (.head _))
  have k_x : okL [(.int .i64), (.int .i64), (.int .i64), (.int .i64), (.int .i64), (.int .i64), (.int .i64), (.int .i64), (.int .i64), (.int .i64), (.int .i64), (.int .i64), (.int .i64), (.int .i64), (.int .i64), (.int .i64), (.int .i64), (.int .i64), .bool, (.sl [(.int .i64), (.int .i64), (.int .i64), (.int .i64), (.int .i64), (.int .i64), .bool]), (.int .i64), (.int .i64)] x := (hok _ (.head _))
  have e_x_19 : D.lst (x.fld 19).toL = x.fld 19 := sl_eta (okL_at k_x (i := 19) rfl)
  have l_x_19 := sl_len (okL_at k_x (i := 19) rfl)
  have k_x_19 := sl_all (okL_at k_x (i := 19) rfl)
  have E_x_19 : ∀ i, i < (x.fld 19).toL.length → D.lst [((x.fld 19).elem i).fld 0, ((x.fld 19).elem i).fld 1, ((x.fld 19).elem i).fld 2, ((x.fld 19).elem i).fld 3, ((x.fld 19).elem i).fld 4, ((x.fld 19).elem i).fld 5, ((x.fld 19).elem i).fld 6] = (x.fld 19).elem i := fun i hi => by simpa [List.range, List.range.loop] using okL_eta (k_x_19 _ (elem_mem hi))
  apply says_den (φ := fun _ _ => [])
  simp [e_x_19, E_x_19, e_x, tree_186, T.says, X.den, O1.den, O2.den, O3.den, callD, XArg.ev, XArg.dat, Callee'.num, backs, DArg.back, Conds.den, cloArgs]
theorem pd_186 (x e : D) (Q : List D → Prop) (ho : Q [.bool (decide ((e.fld 0).toI ≤ (x.fld 0).toI))]) : PC Try.prog 186 [.st [(.int .i64), (.int .i64), (.int .i64), (.int .i64), (.int .i64), (.int .i64), (.int .i64), (.int .i64), (.int .i64), (.int .i64), (.int .i64), (.int .i64), (.int .i64), (.int .i64), (.int .i64), (.int .i64), (.int .i64), (.int .i64), .bool, (.sl [(.int .i64), (.int .i64), (.int .i64), (.int .i64), (.int .i64), (.int .i64), .bool]), (.int .i64), (.int .i64)] x, .bx [(.int .i64), (.int .i64), (.int .i64), (.int .i64), (.int .i64), (.int .i64), (.int .i64), (.int .i64), (.int .i64), (.int .i64), (.int .i64), (.int .i64), (.int .i64), (.int .i64), (.int .i64), (.int .i64), (.int .i64), (.int .i64), .bool, (.sl [(.int .i64), (.int .i64), (.int .i64), (.int .i64), (.int .i64), (.int .i64), .bool]), (.int .i64), (.int .i64)] e] [.sc .bool] Q := (pc_186 x e).mono fun _ h => h ▸ ho
/- slices.Insert[[]impl.Effect,impl.Effect] -/
namespace L187
open Go.RowKit
theorem setCells_row {w : World} {b off : Nat} {vs : List Value} {cur : Array Value} {T : TypeId} (hh : w.heap[b]? = some (.cells cur T (0, 0))) (hle : off + vs.length ≤ cur.size) (h1 : ∀ v ∈ vs, v.oneCell' = true) : w.setCells b off vs = w.setRow b (spl cur.toList off vs).toArray := by
  have h2 := run_storeCells_at Try.prog b off T vs 0 cur w hh (by simpa using hle) h1
  have hc : ∀ j, j < vs.length → (w.cell? ⟨b, off + j, none⟩).isSome = true := fun j hj => by
    simp only [World.cell?, hh, Option.isSome_none, Bool.false_eq_true, if_false]
    rw [Array.getElem?_eq_getElem (by omega)]
    rfl
  have hf : ∀ j, j < vs.length → w.frozen? ⟨b, off + j, none⟩ = false := fun j hj => by
    simp [World.frozen?, hh]
  have h3 := run_storeCells_cells (P := Try.prog) b off vs 0 w (by simpa using hc) (by simpa using hf) h1
  rw [h2] at h3
  injection h3 with _ h4
  simpa [spl] using h4.symm
theorem setRow_setRow (w : World) (b : Nat) (c1 c2 : Array Value) : (w.setRow b c1).setRow b c2 = w.setRow b c2 := by
  unfold World.setRow
  congr 1
  apply Array.ext_getElem?
  intro i
  simp only [Array.getElem?_modify]
  split
  · cases w.heap[i]? with
    | none => rfl
    | some o => cases o <;> rfl
  · rfl
theorem drew_heap (w : World) : w.drew.heap = w.heap := rfl
theorem zc_size (z : Array Value) (n : Nat) : (Builtin.zeroCells z n).size = n * z.size := by simp [Builtin.zeroCells]
theorem zc_one (z : Array Value) (h : ∀ v ∈ z.toList, v.oneCell' = true) (n : Nat) : ∀ v ∈ (Builtin.zeroCells z n).toList, v.oneCell' = true := by
  intro v hv
  simp only [Builtin.zeroCells, Array.toList_map, List.mem_map, Array.mem_toList_iff, Array.mem_range] at hv
  obtain ⟨i, hi, rfl⟩ := hv
  have hlt : i % z.size < z.size := Nat.mod_lt _ (by rcases Nat.eq_zero_or_pos z.size with h0 | h0; (rw [h0] at hi; simp at hi); exact h0)
  rw [getElem!_pos z _ hlt]
  exact h _ (by simp)
def zeroV : Value := .agg #[.int .i64 0, .int .i64 0, .int .i64 0, .int .i64 0, .int .i64 0, .int .i64 0, .int .i64 0, .int .i64 0, .int .i64 0, .int .i64 0, .int .i64 0, .int .i64 0, .int .i64 0, .int .i64 0, .int .i64 0, .int .i64 0, .int .i64 0, .int .i64 0, .bool false, .slice none 0 0, .int .i64 0, .int .i64 0]
theorem zero_size : zeroV.cells.size = 22 := rfl
theorem zero_one : ∀ v ∈ zeroV.cells.toList, v.oneCell' = true := by
  intro v hv
  have : zeroV.cells.toList.all Value.oneCell' = true := by kernel_rfl
  exact List.all_eq_true.1 this v hv
theorem clear_run {w : World} {b off n c : Nat} {cur : Array Value} {T : TypeId} (ty : TypeId) (hn : 0 < n) (hh : w.heap[b]? = some (.cells cur T (0, 0))) (hle : off + n * 22 ≤ cur.size) :
    (Builtin.clear_ #[105] ty #[.slice (some ⟨b, off, none⟩) n c]).run Try.prog w = .ok (.tuple #[]) (w.setRow b (spl cur.toList off (Builtin.zeroCells zeroV.cells n).toList).toArray) := by
  have h2 := run_storeCells_at Try.prog b off T (Builtin.zeroCells zeroV.cells n).toList 0 cur w hh (by rw [Array.length_toList, zc_size, zero_size]; simpa using hle) (zc_one _ zero_one n)
  obtain ⟨m, rfl⟩ : ∃ m, n = m + 1 := ⟨n - 1, by omega⟩
  simp only [Builtin.clear_, List.getElem?_toArray, List.getElem?_cons_zero, Sem.run_bind, Sem.run_pure, Result.andThen_ok, run_underlying Try.underlying105]
  simp only [Nat.add_zero] at h2
  simp only [spl]
  have hz : ∀ w, (zeroValue 89).run Try.prog w = .ok zeroV w := Try.zeroValue89
  simp [hz, h2]
section
variable {P : Program} {ops : Array Oper} {rest : List Oper} {a : Act} {w : World} {Q : Exit → Act → World → Prop}
theorem wpList_loadE {dst : Option Tmp} {t ty : TypeId} {x : Operand} {pos : String} {after : Array Edge} (A : Addr) (v : Value) (hx : a.eval x = .pointer (some A)) (hr : (Instr.loadAt t (.pointer (some A))).run P w = .ok v w) (h : wpList P ops Q rest (a.put dst v) w) :
    wpList P ops Q ({ dst := dst, op := .load t x, type := ty, pos := pos, after := after, guard := none } :: rest) a w := by
  refine wpList_plain rfl fun K hK => ?_
  unfold Oper.wp
  have he : (execOp a.eval { dst := dst, op := .load t x, type := ty, pos := pos, after := after, guard := none }).run P w = .ok (.value v) w := by simp [execOp, hx, hr]
  rw [he, Oper.upon_value]
  exact hK _ _ h
theorem wpList_storeE {t ty : TypeId} {x y : Operand} {pos : String} {after : Array Edge} {w' : World} (A : Addr) (v : Value) (hx : a.eval x = .pointer (some A)) (hy : a.eval y = v) (hr : (Instr.storeAt t (.pointer (some A)) v).run P w = .ok () w') (h : wpList P ops Q rest a w') :
    wpList P ops Q ({ dst := none, op := .store t x y, type := ty, pos := pos, after := after, guard := none } :: rest) a w := by
  refine wpList_plain rfl fun K hK => ?_
  unfold Oper.wp
  have he : (execOp a.eval { dst := none, op := .store t x y, type := ty, pos := pos, after := after, guard := none }).run P w = .ok .skip w' := by simp only [execOp, hx, hy, Sem.run_bind, hr, Result.andThen_ok, Sem.run_pure]
  rw [he, Oper.upon_skip]
  exact hK _ _ h
end
theorem loadAt_var {P : Program} {t : TypeId} {A : Addr} {v : Value} {w : World} (h : (loadVar t A).run P w = .ok v w) : (Instr.loadAt t (.pointer (some A))).run P w = .ok v w := by
  simp [Instr.loadAt, Instr.sureAddr, h]
/-- An element of a block of cells, read. -/
theorem load_elem {w : World} {b q : Nat} {dk : Array Value} {T : TypeId} (hb : w.heap[b]? = some (.cells dk T (0, 0))) (hq : q + 22 ≤ dk.size) : (Instr.loadAt 89 (.pointer (some ⟨b, q, none⟩))).run Try.prog w = .ok (.agg ((List.range 22).map fun c => dk.getD (q + c) undef).toArray) w := by
  refine loadAt_var (run_loadVar_agg (n := 22) (by kernel_rfl) (by kernel_rfl) b q (fun c => dk.getD (q + c) undef) fun c hc => ?_)
  simp only [World.cell?, hb, Option.isSome_none, Bool.false_eq_true, if_false]
  rw [Array.getD_eq_getD_getElem?, Array.getElem?_eq_getElem (by omega)]
  rfl
/-- The world has grown: what was there is there still. -/
structure Keep (w w' : World) : Prop where
  os : w'.os = w.os
  tape : w'.tape = w.tape
  output : w'.output = w.output
  size : w.heap.size ≤ w'.heap.size
  block : ∀ b, b < w.heap.size → w'.heap[b]? = w.heap[b]?
/-- .. but for one block. -/
structure KeepBut (b : Nat) (w w' : World) : Prop where
  os : w'.os = w.os
  tape : w'.tape = w.tape
  output : w'.output = w.output
  size : w.heap.size ≤ w'.heap.size
  block : ∀ b', b' < w.heap.size → b' ≠ b → w'.heap[b']? = w.heap[b']?
theorem flatIdx {k q n : Nat} (hk : 0 < k) (h : q < n * k) : q / k < n ∧ q % k < k ∧ q / k * k + q % k = q := ⟨Nat.div_lt_of_lt_mul (by rwa [Nat.mul_comm]), Nat.mod_lt _ hk, by rw [Nat.mul_comm]; exact Nat.div_add_mod q k⟩
theorem fp_mono {n m k : Nat} {fps fpq : Nat → Nat → List Nat} (p : Nat → Nat) (hp : ∀ i, i < n → p i < m) (hinj : ∀ i j, i < n → j < n → p i = p j → i = j) (he : ∀ i c, i < n → fpq i c = fps (p i) c) (h : (fpAll m k fps).Nodup) : (fpAll n k fpq).Nodup ∧ ∀ b ∈ fpAll n k fpq, b ∈ fpAll m k fps := by
  obtain ⟨a1, a2⟩ := fpAll_inv h
  refine ⟨fpAll_nodup (fun i c hi hc => ?_) (fun i c i' c' hi hc hi' hc' hne b hb hb' => ?_), fun b hb => ?_⟩
  · rw [he i c hi]; exact a1 _ c (hp i hi) hc
  · rw [he i c hi] at hb
    rw [he i' c' hi'] at hb'
    refine a2 _ c _ c' (hp i hi) hc (hp i' hi') hc' (fun e => hne ?_) b hb hb'
    injection e with e1 e2
    rw [hinj i i' hi hi' e1, e2]
  · obtain ⟨i, c, hi, hc, hm⟩ := fpAll_mem hb
    rw [he i c hi] at hm
    exact mem_fpAll (hp i hi) hc hm
/-- A list whose elements are some of an owned list's, at their places now. -/
theorem own_pick {w w' : World} {ks : List CK} {xs : List D} {b cap m : Nat} {cs cs' : Array Value} {T : TypeId} {fps : Nat → Nat → List Nat} (hk : 0 < ks.length) (hh' : w'.heap[b]? = some (.cells cs' T (0, 0))) (hsz : cap * ks.length ≤ cs'.size) (hmc : m ≤ cap) (hmax : xs.length ≤ maxL)
    (hsh : ∀ i, i < xs.length → Shp ks.length (xs.getD i default)) (hown : ∀ i c, i < xs.length → c < ks.length → Own w (ks.getD c default) ((xs.getD i default).fld c) (cs.getD (i * ks.length + c) undef) (fps i c))
    (hnd : (b :: fpAll xs.length ks.length fps).Nodup) (hold : ∀ b', b' ≠ b → w'.heap[b']? = w.heap[b']?) (ys : List D) (hym : ys.length = m) (p : Nat → Nat) (hp : ∀ i, i < m → p i < xs.length) (hinj : ∀ i j, i < m → j < m → p i = p j → i = j) (hml : m ≤ xs.length)
    (hy : ∀ i, i < m → ys.getD i default = xs.getD (p i) default) (hc : ∀ i c, i < m → c < ks.length → cs'.getD (i * ks.length + c) undef = cs.getD (p i * ks.length + c) undef) :
    ∃ fp', Own w' (.sl ks) (.lst ys) (.slice (some ⟨b, 0, none⟩) m cap) fp' ∧ fp'.Nodup ∧ ∀ b' ∈ fp', b' ∈ b :: fpAll xs.length ks.length fps := by
  obtain ⟨n1, n2⟩ := List.nodup_cons.1 hnd
  obtain ⟨f1, f2⟩ := fp_mono (fpq := fun i c => fps (p i) c) p hp hinj (fun _ _ _ => rfl) n2
  subst hym
  refine ⟨b :: fpAll ys.length ks.length (fun i c => fps (p i) c), ?_, List.nodup_cons.2 ⟨fun h => n1 (f2 b h), f1⟩, fun b' hb' => ?_⟩
  · refine .sl b cap cs' T ys _ hh' hsz hmc (by omega) (fun i hi => ?_) (fun i c hi hc' => ?_)
    · rw [hy i hi]; exact hsh _ (hp i hi)
    · rw [hy i hi, hc i c hi hc']
      exact (hown _ c (hp i hi) hc').frame fun b' hb' => hold b' fun e => n1 (e ▸ mem_fpAll (hp i hi) hc' hb')
  · rcases List.mem_cons.1 hb' with rfl | hb'
    · simp
    · exact List.mem_cons_of_mem _ (f2 b' hb')
/-- A list whose elements are some of an owned list's, at their places now. -/
theorem own_pick2 {w w' : World} {ks : List CK} {xs : List D} {b cap m : Nat} {cs cs' : Array Value} {T : TypeId} {fps : Nat → Nat → List Nat} (hk : 0 < ks.length) (hh' : w'.heap[b]? = some (.cells cs' T (0, 0))) (hsz : cap * ks.length ≤ cs'.size) (hmc : m ≤ cap) (hmax : xs.length ≤ maxL)
    (hsh : ∀ i, i < xs.length → Shp ks.length (xs.getD i default)) (hown : ∀ i c, i < xs.length → c < ks.length → Own w (ks.getD c default) ((xs.getD i default).fld c) (cs.getD (i * ks.length + c) undef) (fps i c))
    (hnd : (b :: fpAll xs.length ks.length fps).Nodup) (hbl : b < w.heap.size) (hold : ∀ b', b' < w.heap.size → b' ≠ b → w'.heap[b']? = w.heap[b']?) (ys : List D) (hym : ys.length = m) (p : Nat → Nat) (hp : ∀ i, i < m → p i < xs.length) (hinj : ∀ i j, i < m → j < m → p i = p j → i = j) (hml : m ≤ xs.length)
    (hy : ∀ i, i < m → ys.getD i default = xs.getD (p i) default) (hc : ∀ i c, i < m → c < ks.length → cs'.getD (i * ks.length + c) undef = cs.getD (p i * ks.length + c) undef) :
    ∃ fp', Own w' (.sl ks) (.lst ys) (.slice (some ⟨b, 0, none⟩) m cap) fp' ∧ fp'.Nodup ∧ ∀ b' ∈ fp', b' ∈ b :: fpAll xs.length ks.length fps := by
  obtain ⟨n1, n2⟩ := List.nodup_cons.1 hnd
  obtain ⟨f1, f2⟩ := fp_mono (fpq := fun i c => fps (p i) c) p hp hinj (fun _ _ _ => rfl) n2
  subst hym
  refine ⟨b :: fpAll ys.length ks.length (fun i c => fps (p i) c), ?_, List.nodup_cons.2 ⟨fun h => n1 (f2 b h), f1⟩, fun b' hb' => ?_⟩
  · refine .sl b cap cs' T ys _ hh' hsz hmc (by omega) (fun i hi => ?_) (fun i c hi hc' => ?_)
    · rw [hy i hi]; exact hsh _ (hp i hi)
    · rw [hy i hi, hc i c hi hc']
      exact (hown _ c (hp i hi) hc').frame fun b' hb' => hold b' ((hown _ c (hp i hi) hc').lt b' hb') fun e => n1 (e ▸ mem_fpAll (hp i hi) hc' hb')
  · rcases List.mem_cons.1 hb' with rfl | hb'
    · simp
    · exact List.mem_cons_of_mem _ (f2 b' hb')
theorem int_arg {w : World} {S G : Nat → Prop} {i : D} {v : Value} {fp : List Nat} (h : ArgR w S G (.sc (.int .i64) i) v fp) : ∃ n : Int, i = .int n ∧ v = .int .i64 n ∧ fp = [] ∧ inK .i64 n = true := by
  cases h with
  | sc h => cases h with
    | flat h => cases h with
      | int h => exact ⟨_, rfl, rfl, rfl, h⟩
theorem copy_run {w : World} {db dO dLen dCap sb sO sLen sCap k : Nat} {cur cs : Array Value} {T T2 : TypeId} (ty : TypeId) (hk : Nat.min sLen dLen = k) (hd : w.heap[db]? = some (.cells cur T (0, 0))) (hs : w.heap[sb]? = some (.cells cs T2 (0, 0))) (hle : dO + k * 22 ≤ cur.size) (hls : sO + k * 22 ≤ cs.size)
    (h1 : ∀ q, q < k * 22 → (cs.getD (sO + q) undef).oneCell' = true) :
    (Builtin.copy_ #[105, 105] ty #[.slice (some ⟨db, dO, none⟩) dLen dCap, .slice (some ⟨sb, sO, none⟩) sLen sCap]).run Try.prog w = .ok (goInt k) (w.setRow db (spl cur.toList dO ((List.range (k * 22)).map fun q => cs.getD (sO + q) undef)).toArray) := by
  have hl := run_loadCells (P := Try.prog) w ⟨sb, sO, none⟩ (k * 22) (fun q => cs.getD (sO + q) undef) (fun q hq => by
    rw [Addr.add_lit]
    simp only [World.cell?, hs, Option.isSome_none, Bool.false_eq_true, if_false]
    rw [Array.getD_eq_getD_getElem?, Array.getElem?_eq_getElem (by omega)]
    rfl)
  have h2 := run_storeCells_at Try.prog db dO T ((List.range (k * 22)).map fun q => cs.getD (sO + q) undef) 0 cur w hd (by simp; omega) (fun v hv => by
    obtain ⟨q, hq, rfl⟩ := List.mem_map.1 hv
    exact h1 q (List.mem_range.1 hq))
  simp only [Nat.add_zero] at h2
  simp only [spl]
  obtain ⟨L, hL⟩ : ∃ L : List Value, L = (List.range (k * 22)).map fun q => cs.getD (sO + q) undef := ⟨_, rfl⟩
  rw [← hL] at hl h2 ⊢
  clear hL
  simp only [Builtin.copy_, List.getElem?_toArray, List.getElem?_cons_zero, List.getElem?_cons_succ, Sem.run_bind, Sem.run_pure, Result.andThen_ok, run_underlying Try.underlying105, Try.sizeOf89, Builtin.lenOf, Builtin.firstCells, hk, hl, h2]
theorem ins_end {w w' : World} {base ad' : Option Addr} {n cap cap' m vb vc : Nat} (hm : 0 < m) (hn : n ≤ 140737488355328) (hrun : ∀ ty, (Builtin.append_ #[105, 105] ty #[.slice base n cap, .slice (some ⟨vb, 0, none⟩) m vc]).run Try.prog w = .ok (.slice ad' (n + m) cap') w') (hnil : base = none → n = 0) :
    Calls Try.prog 187 #[.slice base n cap, .int .i64 n, .slice (some ⟨vb, 0, none⟩) m vc] w fun e w2 => e = .returned (.slice ad' (n + m) cap') ∧ w2 = w' := by
  have mixed := mix
  have hz1 : ¬ ((m : Int) = 0) := by omega
  go_enter Try.func187, Try.ntmps187
  cases base with
  | none =>
    have h0 := hnil rfl
    subst h0
    go_wp2_with (at_builtin; refine Lib.wpList_append_run _ rfl _ _ _ _ rfl _ _ rfl rfl _ _ (hrun _) ?_)
    go_ret
    exact ⟨rfl, rfl⟩
  | some a =>
    obtain ⟨ab, ao, asp⟩ := a
    go_wp2_with (at_builtin; refine Lib.wpList_append_run _ rfl _ _ _ _ rfl _ _ rfl rfl _ _ (hrun _) ?_)
    all_goals (go_ret; exact ⟨rfl, rfl⟩)
theorem ins_shift {w : World} {b n c i vb m vc : Nat} {cs vs : Array Value} {T T2 : TypeId} (hi : i < n) (hm : 0 < m) (hroom : n + m ≤ c) (hmax : n + m ≤ 140737488355328) (hvb : vb ≠ b) (hb : w.heap[b]? = some (.cells cs T (0, 0))) (hv : w.heap[vb]? = some (.cells vs T2 (0, 0)))
    (hcs : c * 22 ≤ cs.size) (hvs : m * 22 ≤ vs.size) (h1c : ∀ q, q < n * 22 → (cs.getD q undef).oneCell' = true) (h1v : ∀ q, q < m * 22 → (vs.getD q undef).oneCell' = true) :
    Calls Try.prog 187 #[.slice (some ⟨b, 0, none⟩) n c, .int .i64 i, .slice (some ⟨vb, 0, none⟩) m vc] w fun e w' => e = .returned (.slice (some ⟨b, 0, none⟩) (n + m) c) ∧
      ∃ (w1 : World) (cs' : Array Value), w1.heap = w.heap ∧ w1.os = w.os ∧ w1.tape = w.tape ∧ w1.output = w.output ∧ w' = w1.setRow b cs' ∧ cs'.size = cs.size ∧
        ∀ q k, q < n + m → k < 22 → cs'.getD (q * 22 + k) undef = if q < i then cs.getD (q * 22 + k) undef else if q < i + m then vs.getD ((q - i) * 22 + k) undef else cs.getD ((q - m) * 22 + k) undef := by
  have mixed := mix
  have hz1 : ¬ ((m : Int) = 0) := by omega
  have hz2 : ¬ ((i : Int) = (n : Int)) := by omega
  have hov : ∀ lb cb, (callFunc 211 #[.slice (some ⟨vb, 0, none⟩) m vc, .slice (some ⟨b, (i + m) * 22, none⟩) lb cb]).run Try.prog w = .ok (.value (.bool false)) w := fun lb cb => by
    rw [run_callFunc_extern Try.func211 (by kernel_rfl) (by kernel_rfl) (by kernel_rfl) (e := Extern.SlicesOverlaps.overlaps #[105, 105] #[4]) (by kernel_rfl),
      Lib.run_overlaps_apart w 105 4 89 Try.underlying105 22 Try.sizeOf89 ⟨vb, 0, none⟩ ⟨b, (i + m) * 22, none⟩ m vc lb cb hvb T2 T vs.size cs.size (by simp [World.shape?, hv]) (by simp [World.shape?, hb]) (by omega) (by simp [World.frozen?, hv]) (by simp [World.frozen?, hv])]
    rfl
  have hw1 : IntKind.i64.wrap ((i : Int) + (m : Int)) = (i : Int) + (m : Int) := by rw [IntKind.wrap_i64]; omega
  have hb1 : (0 : Int) ≤ (i : Int) + (m : Int) := by omega
  have hin : i ≤ n := by omega
  have htn : ((i : Int) + (m : Int)).toNat = i + m := by omega
  have hb2 : ¬ (c = i + m) := by omega
  have hb3 : (i : Int) ≤ (n : Int) + (m : Int) := by omega
  have hb4 : ¬ (c = i) := by omega
  obtain ⟨c1, hc1⟩ : ∃ c1 : Array Value, c1 = (spl cs.toList ((i + m) * 22) ((List.range ((n - i) * 22)).map fun q => cs.getD (i * 22 + q) undef)).toArray := ⟨_, rfl⟩
  have hs1 : c1.size = cs.size := by rw [hc1, List.size_toArray, spl_length (by simp; omega), Array.length_toList]
  have hcp1 : ∀ ty dc sc, (Builtin.copy_ #[105, 105] ty #[.slice (some ⟨b, (i + m) * 22, none⟩) (n + m - (i + m)) dc, .slice (some ⟨b, i * 22, none⟩) (n + m - i) sc]).run Try.prog w.drew = .ok (goInt (n - i : Nat)) (w.drew.setRow b c1) := fun ty dc sc => by
    rw [hc1]
    exact copy_run (w := w.drew) ty (by simp only [Nat.min_def]; split <;> omega) hb hb (by omega) (by omega) fun q hq => h1c _ (by omega)
  obtain ⟨W1, hW1⟩ : ∃ W1, W1 = w.drew.setRow b c1 := ⟨_, rfl⟩
  have hbl : b < w.heap.size := (Array.getElem?_eq_some_iff.1 hb).1
  have hW1b : W1.heap[b]? = some (.cells c1 T (0, 0)) := by rw [hW1]; exact setRow_heap _ b cs c1 T (0, 0) hb
  have hW1v : W1.heap[vb]? = some (.cells vs T2 (0, 0)) := by rw [hW1, setRow_old _ _ hvb]; exact hv
  obtain ⟨c2, hc2⟩ : ∃ c2 : Array Value, c2 = (spl c1.toList (i * 22) ((List.range (m * 22)).map fun q => vs.getD (0 + q) undef)).toArray := ⟨_, rfl⟩
  have hs2 : c2.size = cs.size := by rw [hc2, List.size_toArray, spl_length (by simp; omega), Array.length_toList, hs1]
  have hcp2 : ∀ (W : World), W.heap = W1.heap → ∀ ty dc, (Builtin.copy_ #[105, 105] ty #[.slice (some ⟨b, i * 22, none⟩) (n + m - i) dc, .slice (some ⟨vb, 0, none⟩) m vc]).run Try.prog W = .ok (goInt (m : Nat)) (W.setRow b c2) := fun W hW ty dc => by
    rw [hc2]
    exact copy_run (w := W) ty (by simp only [Nat.min_def]; split <;> omega) (by rw [hW]; exact hW1b) (by rw [hW]; exact hW1v) (by omega) (by omega) fun q hq => h1v _ (by omega)
  rw [← hW1] at hcp1
  have HC1 : Aside (c1 = (spl cs.toList ((i + m) * 22) ((List.range ((n - i) * 22)).map fun q => cs.getD (i * 22 + q) undef)).toArray) := hc1
  have HC2 : Aside (c2 = (spl c1.toList (i * 22) ((List.range (m * 22)).map fun q => vs.getD (0 + q) undef)).toArray) := hc2
  have HW1 : Aside (W1 = w.drew.setRow b c1) := hW1
  have HS : Aside (c1.size = cs.size ∧ c2.size = cs.size) := ⟨hs1, hs2⟩
  clear hc1 hc2 hW1 hs1 hs2 hb hv h1c h1v hW1b hW1v
  go_enter Try.func187, Try.ntmps187
  go_wp2_with (simp only [hov])
  go_region_law_o (refine step_copy_runI rfl _ _ 105 105 rfl _ _ (by simp [Act.eval, Act.put]) (by simp [Act.eval, Act.put]) (hcp1 _ _ _) ?_)
  go_wp2_with (at_builtin; refine wpList_copy_runI _ rfl _ _ 105 105 rfl _ _ rfl rfl (hcp2 _ rfl _ _) ?_)
  go_ret
  refine ⟨rfl, w.drew, c2, rfl, rfl, rfl, rfl, ?_, HS.out.2, fun q k hq hk => ?_⟩
  · rw [HW1.out, setRow_setRow]
  · have hs1 := HS.out.1
    have e1 := spl_getD (es := cs.toList) (ys := (List.range ((n - i) * 22)).map fun q => cs.getD (i * 22 + q) undef) (off := (i + m) * 22) (by simp; omega)
    have e2 := spl_getD (es := c1.toList) (ys := (List.range (m * 22)).map fun q => vs.getD (0 + q) undef) (off := i * 22) (by simp; omega)
    rw [HC2.out, Array.getD_eq_getD_getElem?, List.getElem?_toArray, ← List.getD_eq_getElem?_getD, e2]
    simp only [List.length_map, List.length_range]
    by_cases h1 : q < i
    · rw [if_pos h1, if_neg (by omega), HC1.out, e1]
      simp only [List.length_map, List.length_range]
      rw [if_neg (by omega), List.getD_eq_getElem?_getD, Array.getElem?_toList, ← Array.getD_eq_getD_getElem?]
    · rw [if_neg h1]
      by_cases h2 : q < i + m
      · rw [if_pos h2, if_pos (by omega), List.getD_eq_getElem?_getD, List.getElem?_map, List.getElem?_range (by omega)]
        show vs.getD _ undef = _
        congr 1
        omega
      · rw [if_neg h2, if_neg (by omega), HC1.out, e1]
        simp only [List.length_map, List.length_range]
        rw [if_pos (by omega), List.getD_eq_getElem?_getD, List.getElem?_map, List.getElem?_range (by omega)]
        show cs.getD _ undef = _
        congr 1
        omega
theorem ins_grow {w : World} {b n c i vb m vc : Nat} {cs vs : Array Value} {T T2 : TypeId} (hi : i < n) (hm : 0 < m) (hnc : n ≤ c) (hroom : c < n + m) (hbig : (n + m) * 192 ≤ 140737488355328) (hb : w.heap[b]? = some (.cells cs T (0, 0))) (hv : w.heap[vb]? = some (.cells vs T2 (0, 0)))
    (hcs : c * 22 ≤ cs.size) (hvs : m * 22 ≤ vs.size) (h1c : ∀ q, q < n * 22 → (cs.getD q undef).oneCell' = true) (h1v : ∀ q, q < m * 22 → (vs.getD q undef).oneCell' = true) :
    Calls Try.prog 187 #[.slice (some ⟨b, 0, none⟩) n c, .int .i64 i, .slice (some ⟨vb, 0, none⟩) m vc] w fun e w' => ∃ (G : Nat) (cs' : Array Value), e = .returned (.slice (some ⟨w.heap.size, 0, none⟩) (n + m) G) ∧
      Keep w w' ∧ w'.heap[w.heap.size]? = some (.cells cs' 89 (0, 0)) ∧ w.heap.size < w'.heap.size ∧ n + m ≤ G ∧ G * 22 ≤ cs'.size ∧
        ∀ q k, q < n + m → k < 22 → cs'.getD (q * 22 + k) undef = if q < i then cs.getD (q * 22 + k) undef else if q < i + m then vs.getD ((q - i) * 22 + k) undef else cs.getD ((q - m) * 22 + k) undef := by
  have mixed := mix
  have hsz : (Try.prog.info? 89).map (fun i => (i.size, i.bytes, i.zero)) = some (22, 192, some zeroV) := by kernel_rfl
  obtain ⟨i0, hi0, hz0⟩ := Option.map_eq_some_iff.1 hsz
  injection hz0 with hzs hz1
  injection hz1 with hzb hzz
  have hz1 : ¬ ((m : Int) = 0) := by omega
  have hz2 : ¬ ((i : Int) = (n : Int)) := by omega
  have hz3 : (c : Int) < (n : Int) + (m : Int) := by omega
  have hbw : b < w.heap.size := (Array.getElem?_eq_some_iff.1 hb).1
  have hvw : vb < w.heap.size := (Array.getElem?_eq_some_iff.1 hv).1
  have hkk : (n : Int) + (m : Int) - (i : Int) = ((n + m - i : Nat) : Int) := by omega
  have hik : i + (n + m - i) = n + m := by omega
  obtain ⟨olds, holds⟩ : ∃ olds : List Value, olds = (List.range (i * 22)).map fun q => cs.getD q undef := ⟨_, rfl⟩
  have hold : (Builtin.firstCells i0.size i (.slice (some ⟨b, 0, none⟩) i c)).run Try.prog w.drew = .ok olds.toArray w.drew := by
    have hl := run_loadCells (P := Try.prog) w.drew ⟨b, 0, none⟩ (i * 22) (fun q => cs.getD q undef) (fun q hq => by
      rw [Addr.add_lit]
      simp only [World.cell?, drew_heap, hb, Option.isSome_none, Bool.false_eq_true, if_false, Nat.zero_add]
      rw [Array.getD_eq_getD_getElem?, Array.getElem?_eq_getElem (by omega)]
      rfl)
    rw [hzs, holds]
    exact hl
  obtain ⟨G, hG⟩ : ∃ G, G = grownCap w (n + m) c 89 := ⟨_, rfl⟩
  have hGn : n + m ≤ G := by rw [hG]; exact grownCap_ge w _ _ _
  have hG63 : G ≤ 9223372036854775807 := by
    have := grownCap_le_maxLen w (n + m) c 89 (by unfold maxLen; omega)
    rw [← hG] at this
    unfold maxLen at this
    omega
  obtain ⟨ROW, hROW⟩ : ∃ ROW : Array Value, ROW = olds.toArray ++ Builtin.zeroCells zeroV.cells (n + m - i) ++ Builtin.zeroCells zeroV.cells (G - (n + m)) := ⟨_, rfl⟩
  have hRs : ROW.size = G * 22 := by
    rw [hROW, Array.size_append, Array.size_append, zc_size, zc_size, zero_size, List.size_toArray, holds, List.length_map, List.length_range]
    omega
  have hR0 : ∀ q, q < i * 22 → ROW.getD q undef = cs.getD q undef := fun q hq => by
    rw [hROW, Array.getD_eq_getD_getElem?, Array.append_assoc, Array.getElem?_append_left (by rw [List.size_toArray, holds]; simpa using hq), List.getElem?_toArray, holds, List.getElem?_map, List.getElem?_range hq]
    rfl
  have hrz : ∀ ty, (Builtin.append_ #[105, 3] ty #[.slice (some ⟨b, 0, none⟩) i c, .int .i64 ((n : Int) + (m : Int) - (i : Int))]).run Try.prog w = .ok (.slice (some ⟨w.heap.size, 0, none⟩) (n + m) G) (w.drew.alloc (.cells ROW 89)) := fun ty => by
    have h := Lib.run_append_grow_zeros w 105 3 ty 89 i0 _ .i64 .i64 Try.underlying105 Try.underlying3 hi0 hzz (some ⟨b, 0, none⟩) i c olds hold (n + m - i) (by omega) (by omega) (by omega) (by omega) (by rw [hzb]; omega) (by rw [hzb, hik]; exact growslice_fits hroom hbig)
    rw [hik] at h
    rw [hkk, hROW, hG]
    exact h
  obtain ⟨W1, hW1⟩ : ∃ W1, W1 = w.drew.alloc (.cells ROW 89) := ⟨_, rfl⟩
  have hN : W1.heap[w.heap.size]? = some (.cells ROW 89 (0, 0)) := by rw [hW1]; exact heap_new w.drew _
  have hO : ∀ b', b' < w.heap.size → W1.heap[b']? = w.heap[b']? := fun b' h => by rw [hW1]; exact heap_old w.drew _ h
  have hZ : W1.heap.size = w.heap.size + 1 := by rw [hW1]; simp [World.alloc, drew_heap]
  obtain ⟨c1, hc1⟩ : ∃ c1 : Array Value, c1 = (spl ROW.toList (i * 22) ((List.range (m * 22)).map fun q => vs.getD (0 + q) undef)).toArray := ⟨_, rfl⟩
  have hs1 : c1.size = ROW.size := by rw [hc1, List.size_toArray, spl_length (by simp; omega), Array.length_toList]
  have hcpA : ∀ (W : World), W.heap = W1.heap → ∀ ty dc, (Builtin.copy_ #[105, 105] ty #[.slice (some ⟨w.heap.size, i * 22, none⟩) (n + m - i) dc, .slice (some ⟨vb, 0, none⟩) m vc]).run Try.prog W = .ok (goInt (m : Nat)) (W.setRow w.heap.size c1) := fun W hW ty dc => by
    rw [hc1]
    exact copy_run (w := W) ty (by simp only [Nat.min_def]; split <;> omega) (by rw [hW]; exact hN) (by rw [hW, hO vb hvw]; exact hv) (by omega) (by omega) fun q hq => h1v _ (by omega)
  obtain ⟨c2, hc2⟩ : ∃ c2 : Array Value, c2 = (spl c1.toList ((i + m) * 22) ((List.range ((n - i) * 22)).map fun q => cs.getD (i * 22 + q) undef)).toArray := ⟨_, rfl⟩
  have hs2 : c2.size = ROW.size := by rw [hc2, List.size_toArray, spl_length (by simp; omega), Array.length_toList, hs1]
  have hcpB : ∀ (W W2 : World), W2.heap = W1.heap → W.heap = (W2.setRow w.heap.size c1).heap → ∀ ty dc sc, (Builtin.copy_ #[105, 105] ty #[.slice (some ⟨w.heap.size, (i + m) * 22, none⟩) (n + m - (i + m)) dc, .slice (some ⟨b, i * 22, none⟩) (n - i) sc]).run Try.prog W = .ok (goInt (n - i : Nat)) (W.setRow w.heap.size c2) := fun W W2 h2 hW ty dc sc => by
    rw [hc2]
    exact copy_run (w := W) ty (by simp only [Nat.min_def]; split <;> omega) (by rw [hW]; exact setRow_heap _ _ ROW c1 89 (0, 0) (by rw [h2]; exact hN)) (by rw [hW, setRow_old _ _ (by omega), h2, hO b hbw]; exact hb) (by omega) (by omega) fun q hq => h1c _ (by omega)
  have hGi : ¬ (G = i) := by omega
  have hGim : ¬ (G = i + m) := by omega
  have hci : ¬ (c = i) := by omega
  have hw1 : IntKind.i64.wrap ((i : Int) + (m : Int)) = (i : Int) + (m : Int) := by rw [IntKind.wrap_i64]; omega
  have hb1 : (0 : Int) ≤ (i : Int) + (m : Int) := by omega
  have hin : i ≤ n := by omega
  have htn : ((i : Int) + (m : Int)).toNat = i + m := by omega
  have hb3 : (i : Int) ≤ (n : Int) := by omega
  have HC1 : Aside (c1 = (spl ROW.toList (i * 22) ((List.range (m * 22)).map fun q => vs.getD (0 + q) undef)).toArray) := hc1
  have HC2 : Aside (c2 = (spl c1.toList ((i + m) * 22) ((List.range ((n - i) * 22)).map fun q => cs.getD (i * 22 + q) undef)).toArray) := hc2
  have HN : Aside (W1.heap[w.heap.size]? = some (.cells ROW 89 (0, 0))) := hN
  have HO : Aside (∀ b', b' < w.heap.size → W1.heap[b']? = w.heap[b']?) := hO
  have HZ : Aside (W1.heap.size = w.heap.size + 1) := hZ
  have HS : Aside (c1.size = ROW.size ∧ c2.size = ROW.size ∧ ROW.size = G * 22) := ⟨hs1, hs2, hRs⟩
  have HR0 : Aside (∀ q, q < i * 22 → ROW.getD q undef = cs.getD q undef) := hR0
  have HW1 : Aside (W1.os = w.os ∧ W1.tape = w.tape ∧ W1.output = w.output) := by rw [hW1]; exact ⟨rfl, rfl, rfl⟩
  rw [← hW1] at hrz
  clear hW1 hc1 hc2 hs1 hs2 hRs hR0 hN hO hZ hROW hG hold holds hkk hik hb hv h1c h1v hsz
  go_enter Try.func187, Try.ntmps187
  go_wp2_with (first
    | (at_builtin; refine Lib.wpList_append_run _ rfl _ _ _ _ rfl _ _ rfl rfl _ _ (hrz _) ?_)
    | (at_builtin; refine wpList_copy_runI _ rfl _ _ 105 105 rfl _ _ rfl rfl (hcpA _ rfl _ _) ?_)
    | (at_builtin; refine wpList_copy_runI _ rfl _ _ 105 105 rfl _ _ rfl rfl (hcpB _ _ rfl rfl _ _ _) ?_))
  go_region_law_o (refine step_copy_runI rfl _ _ 105 105 rfl (.slice (some ⟨w.heap.size, (i + m) * 22, none⟩) (n + m - (i + m)) (G - (i + m))) (.slice (some ⟨b, i * 22, none⟩) (n - i) (c - i)) (by simp [Act.eval, Act.put]) (by simp [Act.eval, Act.put]) (hcpB (W1.setRow w.heap.size c1).drew W1 rfl rfl 3 (G - (i + m)) (c - i)) ?_)
  go_wp2
  go_ret
  have hs1 := HS.out.1
  have hs2 := HS.out.2.1
  have hRs := HS.out.2.2
  have hN := HN.out
  have hO := HO.out
  have hZ := HZ.out
  refine ⟨G, c2, rfl, ⟨HW1.out.1, HW1.out.2.1, HW1.out.2.2, by rw [setRow_size, drew_heap, setRow_size, hZ]; omega, fun b' h => by rw [setRow_old _ _ (by omega), drew_heap, setRow_old _ _ (by omega)]; exact hO b' h⟩,
    setRow_heap _ _ c1 c2 89 (0, 0) (by rw [drew_heap]; exact setRow_heap _ _ ROW c1 89 (0, 0) hN), by rw [setRow_size, drew_heap, setRow_size, hZ]; omega, hGn, by rw [hs2, hRs]; exact Nat.le_refl _, fun q k hq hk => ?_⟩
  have e1 := spl_getD (es := ROW.toList) (ys := (List.range (m * 22)).map fun q => vs.getD (0 + q) undef) (off := i * 22) (by simp; omega)
  have e2 := spl_getD (es := c1.toList) (ys := (List.range ((n - i) * 22)).map fun q => cs.getD (i * 22 + q) undef) (off := (i + m) * 22) (by simp; omega)
  rw [HC2.out, Array.getD_eq_getD_getElem?, List.getElem?_toArray, ← List.getD_eq_getElem?_getD, e2]
  simp only [List.length_map, List.length_range]
  by_cases h1 : q < i
  · rw [if_pos h1, if_neg (by omega), HC1.out, e1]
    simp only [List.length_map, List.length_range]
    rw [if_neg (by omega), List.getD_eq_getElem?_getD, Array.getElem?_toList, ← Array.getD_eq_getD_getElem?]
    exact HR0.out _ (by omega)
  · rw [if_neg h1]
    by_cases h2 : q < i + m
    · rw [if_pos h2, if_neg (by omega), HC1.out, e1]
      simp only [List.length_map, List.length_range]
      rw [if_pos (by omega), List.getD_eq_getElem?_getD, List.getElem?_map, List.getElem?_range (by omega)]
      show vs.getD _ undef = _
      congr 1
      omega
    · rw [if_neg h2, if_pos (by omega), List.getD_eq_getElem?_getD, List.getElem?_map, List.getElem?_range (by omega)]
      show cs.getD _ undef = _
      congr 1
      omega
def fpsC (n : Nat) (fps fpv : Nat → Nat → List Nat) (j c : Nat) : List Nat := if j < n then fps j c else fpv (j - n) c
theorem fpsC_left {n j c : Nat} {fps fpv : Nat → Nat → List Nat} (h : j < n) : fpsC n fps fpv j c = fps j c := if_pos h
theorem fpsC_right {n j c : Nat} {fps fpv : Nat → Nat → List Nat} : fpsC n fps fpv (n + j) c = fpv j c := by
  unfold fpsC
  rw [if_neg (by omega), Nat.add_sub_cancel_left]
theorem own_two {w' : World} {ks : List CK} {zs : List D} {b cap n m : Nat} {cs' : Array Value} {T : TypeId} {fps fpv : Nat → Nat → List Nat} (hh : w'.heap[b]? = some (.cells cs' T (0, 0))) (hsz : cap * ks.length ≤ cs'.size) (hcap : n + m ≤ cap) (hmax : n + m ≤ maxL) (hz : zs.length = n + m)
    (hn1 : (fpAll n ks.length fps).Nodup) (hn2 : (fpAll m ks.length fpv).Nodup) (hdis : ∀ b' ∈ fpAll n ks.length fps, b' ∉ fpAll m ks.length fpv) (hb1 : b ∉ fpAll n ks.length fps) (hb2 : b ∉ fpAll m ks.length fpv) (p : Nat → Nat) (hp : ∀ i, i < n + m → p i < n + m) (hinj : ∀ i j, i < n + m → j < n + m → p i = p j → i = j)
    (hsh : ∀ q, q < n + m → Shp ks.length (zs.getD q default)) (hown : ∀ q c, q < n + m → c < ks.length → Own w' (ks.getD c default) ((zs.getD q default).fld c) (cs'.getD (q * ks.length + c) undef) (fpsC n fps fpv (p q) c)) :
    ∃ fp', Own w' (.sl ks) (.lst zs) (.slice (some ⟨b, 0, none⟩) (n + m) cap) fp' ∧ fp'.Nodup ∧ ∀ b' ∈ fp', b' = b ∨ b' ∈ fpAll n ks.length fps ∨ b' ∈ fpAll m ks.length fpv := by
  obtain ⟨h1, h2⟩ := both_nodup hn1 hn2 hdis
  obtain ⟨f1, f2⟩ := fp_mono (fpq := fun q c => fpsC n fps fpv (p q) c) p hp hinj (fun _ _ _ => rfl) h1
  have hm : ∀ b' ∈ fpAll (n + m) ks.length (fun q c => fpsC n fps fpv (p q) c), b' ∈ fpAll n ks.length fps ∨ b' ∈ fpAll m ks.length fpv := fun b' hb' => h2 b' (f2 b' hb')
  refine ⟨b :: fpAll (n + m) ks.length (fun q c => fpsC n fps fpv (p q) c), ?_, List.nodup_cons.2 ⟨fun h => ?_, f1⟩, fun b' hb' => ?_⟩
  · have := Own.sl (w := w') (ks := ks) b cap cs' T zs (fun q c => fpsC n fps fpv (p q) c) hh hsz (by omega) (by omega) (fun q hq => hsh q (by omega)) (fun q c hq hc => hown q c (by omega) hc)
    rw [hz] at this
    exact this
  · rcases hm b h with h | h
    · exact hb1 h
    · exact hb2 h
  · rcases List.mem_cons.1 hb' with rfl | hb'
    · exact .inl rfl
    · exact .inr (hm b' hb')
def insP (n m i q : Nat) : Nat := if q < i then q else if q < i + m then n + (q - i) else q - m
theorem ins_list {xs ys : List D} {i q : Nat} (hi : i ≤ xs.length) (hq : q < xs.length + ys.length) : (xs.take i ++ ys ++ xs.drop i).getD q default = if q < i then xs.getD q default else if q < i + ys.length then ys.getD (q - i) default else xs.getD (q - ys.length) default := by
  have hl : (xs.take i).length = i := by simp; omega
  by_cases h1 : q < i
  · rw [if_pos h1, List.getD_eq_getElem?_getD, List.append_assoc, List.getElem?_append_left (by omega), List.getElem?_take, if_pos h1, ← List.getD_eq_getElem?_getD]
  · rw [if_neg h1, List.getD_eq_getElem?_getD, List.append_assoc, List.getElem?_append_right (by omega), hl]
    by_cases h2 : q < i + ys.length
    · rw [if_pos h2, List.getElem?_append_left (by omega), ← List.getD_eq_getElem?_getD]
    · rw [if_neg h2, List.getElem?_append_right (by omega), List.getElem?_drop, ← List.getD_eq_getElem?_getD]
      congr 1
      omega
theorem args3 {w : World} {S G : Nat → Prop} {a1 a2 a3 : DArg} {vs : List Value} {F : List Nat} (h : ArgsR w S G [a1, a2, a3] vs F) : ∃ v1 v2 v3 f1 f2 f3, vs = [v1, v2, v3] ∧ F = f1 ++ (f2 ++ (f3 ++ [])) ∧ ArgR w S G a1 v1 f1 ∧ ArgR w S G a2 v2 f2 ∧ ArgR w S G a3 v3 f3 := by
  cases h with
  | cons h1 h2 =>
    cases h2 with
    | cons h2 h3 =>
      cases h3 with
      | cons h3 h4 =>
        cases h4
        exact ⟨_, _, _, _, _, _, rfl, rfl, h1, h2, h3⟩
theorem take_inv3 {w : World} {S G : Nat → Prop} {ks : List CK} {d : D} {v : Value} {fp : List Nat} (h : ArgR w S G (.take ks d) v fp) : Own w (.sl ks) d v fp := by
  cases h
  assumption
theorem ins_post {w w' : World} {G : Nat → Prop} {F : List Nat} {d i v : D} {v1 v2 v3 sv : Value} {zs : List D} {fp' : List Nat} (ho : Own w' (.sl [(.int .i64), (.int .i64), (.int .i64), (.int .i64), (.int .i64), (.int .i64), (.int .i64), (.int .i64), (.int .i64), (.int .i64), (.int .i64), (.int .i64), (.int .i64), (.int .i64), (.int .i64), (.int .i64), (.int .i64), (.int .i64), .bool, (.sl [(.int .i64), (.int .i64), (.int .i64), (.int .i64), (.int .i64), (.int .i64), .bool]), (.int .i64), (.int .i64)]) (.lst zs) sv fp') (hn : fp'.Nodup) (hm : ∀ b ∈ fp', b ∈ F ∨ w.heap.size ≤ b) (hk : KeptS (outside w F) w w') :
    Post w F G [.take [(.int .i64), (.int .i64), (.int .i64), (.int .i64), (.int .i64), (.int .i64), (.int .i64), (.int .i64), (.int .i64), (.int .i64), (.int .i64), (.int .i64), (.int .i64), (.int .i64), (.int .i64), (.int .i64), (.int .i64), (.int .i64), .bool, (.sl [(.int .i64), (.int .i64), (.int .i64), (.int .i64), (.int .i64), (.int .i64), .bool]), (.int .i64), (.int .i64)] d, .sc (.int .i64) i, .take [(.int .i64), (.int .i64), (.int .i64), (.int .i64), (.int .i64), (.int .i64), (.int .i64), (.int .i64), (.int .i64), (.int .i64), (.int .i64), (.int .i64), (.int .i64), (.int .i64), (.int .i64), (.int .i64), (.int .i64), (.int .i64), .bool, (.sl [(.int .i64), (.int .i64), (.int .i64), (.int .i64), (.int .i64), (.int .i64), .bool]), (.int .i64), (.int .i64)] v] [v1, v2, v3] [.sc (.sl [(.int .i64), (.int .i64), (.int .i64), (.int .i64), (.int .i64), (.int .i64), (.int .i64), (.int .i64), (.int .i64), (.int .i64), (.int .i64), (.int .i64), (.int .i64), (.int .i64), (.int .i64), (.int .i64), (.int .i64), (.int .i64), .bool, (.sl [(.int .i64), (.int .i64), (.int .i64), (.int .i64), (.int .i64), (.int .i64), .bool]), (.int .i64), (.int .i64)])] (fun o => o = [.lst zs]) w' sv := by
  refine ⟨[_], [_], [], fp', [], rfl, ?_, .skip trivial (.skip trivial (.skip trivial .nil)), rfl, by simpa using hn, fun b hb => hm b (by simpa using hb), hk⟩
  have := RetsR.cons (r := .sc (.sl [(.int .i64), (.int .i64), (.int .i64), (.int .i64), (.int .i64), (.int .i64), (.int .i64), (.int .i64), (.int .i64), (.int .i64), (.int .i64), (.int .i64), (.int .i64), (.int .i64), (.int .i64), (.int .i64), (.int .i64), (.int .i64), .bool, (.sl [(.int .i64), (.int .i64), (.int .i64), (.int .i64), (.int .i64), (.int .i64), .bool]), (.int .i64), (.int .i64)])) (w := w') (G := G) (.sc ho) .nil
  simpa using this
theorem lib_pc (d i v : D) (h : 0 ≤ i.toI ∧ i.toI ≤ d.toL.length) (hv : 0 < v.toL.length) (hl : (d.toL.length + v.toL.length) * 192 ≤ 140737488355328) : PC Try.prog 187 [.take [(.int .i64), (.int .i64), (.int .i64), (.int .i64), (.int .i64), (.int .i64), (.int .i64), (.int .i64), (.int .i64), (.int .i64), (.int .i64), (.int .i64), (.int .i64), (.int .i64), (.int .i64), (.int .i64), (.int .i64), (.int .i64), .bool, (.sl [(.int .i64), (.int .i64), (.int .i64), (.int .i64), (.int .i64), (.int .i64), .bool]), (.int .i64), (.int .i64)] d, .sc (.int .i64) i, .take [(.int .i64), (.int .i64), (.int .i64), (.int .i64), (.int .i64), (.int .i64), (.int .i64), (.int .i64), (.int .i64), (.int .i64), (.int .i64), (.int .i64), (.int .i64), (.int .i64), (.int .i64), (.int .i64), (.int .i64), (.int .i64), .bool, (.sl [(.int .i64), (.int .i64), (.int .i64), (.int .i64), (.int .i64), (.int .i64), .bool]), (.int .i64), (.int .i64)] v] [.sc (.sl [(.int .i64), (.int .i64), (.int .i64), (.int .i64), (.int .i64), (.int .i64), (.int .i64), (.int .i64), (.int .i64), (.int .i64), (.int .i64), (.int .i64), (.int .i64), (.int .i64), (.int .i64), (.int .i64), (.int .i64), (.int .i64), .bool, (.sl [(.int .i64), (.int .i64), (.int .i64), (.int .i64), (.int .i64), (.int .i64), .bool]), (.int .i64), (.int .i64)])] fun o => o = [.lst (d.toL.take i.toI.toNat ++ v.toL ++ d.toL.drop i.toI.toNat)] := by
  refine ⟨⟨Try.f187, Try.func187, by kernel_rfl, by kernel_rfl⟩, fun w vs F G hF hG ha => ?_⟩
  obtain ⟨v1, v2, v3, f1, f2, f3, rfl, rfl, h1, h2, h3⟩ := args3 ha
  replace h1 := take_inv3 h1
  replace h3 := take_inv3 h3
  obtain ⟨n0, rfl, rfl, rfl, _⟩ := int_arg h2
  simp only [D.toI, List.append_nil, List.nil_append] at h hF hG ⊢
  clear ha h2
  obtain ⟨i, rfl⟩ := Int.eq_ofNat_of_zero_le h.1
  simp only [Int.toNat_natCast]
  obtain ⟨hF1, hF3, hFd⟩ := List.nodup_append.1 hF
  have hK : ([(.int .i64), (.int .i64), (.int .i64), (.int .i64), (.int .i64), (.int .i64), (.int .i64), (.int .i64), (.int .i64), (.int .i64), (.int .i64), (.int .i64), (.int .i64), (.int .i64), (.int .i64), (.int .i64), (.int .i64), (.int .i64), .bool, (.sl [(.int .i64), (.int .i64), (.int .i64), (.int .i64), (.int .i64), (.int .i64), .bool]), (.int .i64), (.int .i64)] : List CK).length = 22 := rfl
  have hse : sliceElem Try.prog 105 = some (89, [(.int .i64), (.int .i64), (.int .i64), (.int .i64), (.int .i64), (.int .i64), (.int .i64), (.int .i64), (.int .i64), (.int .i64), (.int .i64), (.int .i64), (.int .i64), (.int .i64), (.int .i64), (.int .i64), (.int .i64), (.int .i64), .bool, (.sl [(.int .i64), (.int .i64), (.int .i64), (.int .i64), (.int .i64), (.int .i64), .bool]), (.int .i64), (.int .i64)]) := by kernel_rfl
  have hu := (sliceElem_ok hse).1
  have hd13 : ∀ b ∈ f1, b ∉ f3 := fun b hb hb' => hFd b hb b hb' rfl
  obtain ⟨ys, hys0⟩ : ∃ ys, v = .lst ys := by
    cases h3 with
    | flat h => cases h
    | nil => exact ⟨_, rfl⟩
    | sl => exact ⟨_, rfl⟩
  subst hys0
  have hsrc := src_own (P := Try.prog) (t := 105) hu h3 hF3
  have hlt3 := h3.lt
  cases h3 with
  | flat h => cases h
  | nil => simp [D.toL] at hv
  | sl vb vcap vcs T2 _ fpv hvb hvsz hvcap hvmax hvsh hvown =>
    simp only [toL_lst] at hv hl ⊢
    rw [hK] at hvsz
    obtain ⟨hvn1, hvn2⟩ := List.nodup_cons.1 hF3
    have h1v : ∀ q, q < ys.length * 22 → (vcs.getD q undef).oneCell' = true := fun q hq => by
      obtain ⟨q1, q2, q3⟩ := flatIdx (k := 22) (by decide) hq
      have := (hvown (q / 22) (q % 22) q1 q2).one
      rwa [hK, q3] at this
    have hvbl : vb < w.heap.size := (Array.getElem?_eq_some_iff.1 hvb).1
    by_cases hend : i = d.toL.length
    · -- at the end: an append
      obtain ⟨xs, hxs⟩ : ∃ xs, d = .lst xs := by
        cases h1 with
        | flat h => cases h
        | nil => exact ⟨_, rfl⟩
        | sl => exact ⟨_, rfl⟩
      subst hxs
      obtain ⟨ad, cap, hv1⟩ : ∃ ad cap, v1 = .slice ad xs.length cap := by
        cases h1 with
        | flat h => cases h
        | nil => exact ⟨_, _, rfl⟩
        | sl => exact ⟨_, _, rfl⟩
      subst hv1
      have hnil : ad = none → xs.length = 0 := by
        intro e
        subst e
        cases h1 with
        | flat h => cases h
        | nil => rfl
      simp only [toL_lst] at hend hl ⊢
      subst hend
      have hinfo : (Try.prog.info? 89).map (fun i => (i.bytes, i.zero.map fun z => z.cells.size == i.size)) = some (192, some true) := by kernel_rfl
      obtain ⟨i0, hi0, hz0⟩ := Option.map_eq_some_iff.1 hinfo
      injection hz0 with hzb hzz
      obtain ⟨z, hz1, hz2⟩ := Option.map_eq_some_iff.1 hzz
      obtain ⟨news, fpn, s1, s2⟩ := hsrc
      have hmaxb : Nat.max i0.bytes 1 = 192 := by rw [hzb]; rfl
      obtain ⟨w', ad', cap', fp', r1, r2, r3, r4, r5, r6, r7, r8, r9⟩ := (append_run (P := Try.prog) (w := w) (t := 105) (ty := 0) hse hi0 ⟨z, hz1, by simpa using hz2⟩ h1 hF1 (fun b hb => hlt3 b (s2 b hb)) s1 (fun b hb hb' => hd13 b hb (s2 b hb')) (by rw [hmaxb]; exact hl)).ex
      refine (ins_end hv (by omega) (fun ty => r1) hnil).mono ?_
      rintro e w2 ⟨rfl, rfl⟩
      refine ⟨_, rfl, ?_⟩
      have hz : xs.take xs.length ++ ys ++ xs.drop xs.length = xs ++ ys := by simp
      rw [hz]
      refine ins_post r2 r3 (fun b hb => ?_) ⟨r6, r7, r8, r9, fun b hb => r5 b hb.1 fun e => hb.2 (List.mem_append_left _ e)⟩
      rcases r4 b hb with h | h | h
      · exact .inl (List.mem_append_left _ h)
      · exact .inl (List.mem_append_right _ (s2 b h))
      · exact .inr h.1
    · have hi : i < d.toL.length := by omega
      cases h1 with
      | flat h => cases h
      | nil => simp [D.toL] at hi
      | sl b cap cs T xs fps hb hsz hcap hmax hsh hown =>
        simp only [toL_lst] at hi hl ⊢
        rw [hK] at hsz
        obtain ⟨hn1, hn2⟩ := List.nodup_cons.1 hF1
        have hbl : b < w.heap.size := (Array.getElem?_eq_some_iff.1 hb).1
        have h1c : ∀ q, q < xs.length * 22 → (cs.getD q undef).oneCell' = true := fun q hq => by
          obtain ⟨q1, q2, q3⟩ := flatIdx (k := 22) (by decide) hq
          have := (hown (q / 22) (q % 22) q1 q2).one
          rwa [hK, q3] at this
        have hvb2 : vb ≠ b := fun e => hd13 b (by simp) (by rw [e]; simp)
        have hzl : (xs.take i ++ ys ++ xs.drop i).length = xs.length + ys.length := by simp; omega
        have hmx : xs.length + ys.length ≤ maxL := by unfold maxL; omega
        have hdd : ∀ b' ∈ fpAll xs.length ([(.int .i64), (.int .i64), (.int .i64), (.int .i64), (.int .i64), (.int .i64), (.int .i64), (.int .i64), (.int .i64), (.int .i64), (.int .i64), (.int .i64), (.int .i64), (.int .i64), (.int .i64), (.int .i64), (.int .i64), (.int .i64), .bool, (.sl [(.int .i64), (.int .i64), (.int .i64), (.int .i64), (.int .i64), (.int .i64), .bool]), (.int .i64), (.int .i64)] : List CK).length fps, b' ∉ fpAll ys.length ([(.int .i64), (.int .i64), (.int .i64), (.int .i64), (.int .i64), (.int .i64), (.int .i64), (.int .i64), (.int .i64), (.int .i64), (.int .i64), (.int .i64), (.int .i64), (.int .i64), (.int .i64), (.int .i64), (.int .i64), (.int .i64), .bool, (.sl [(.int .i64), (.int .i64), (.int .i64), (.int .i64), (.int .i64), (.int .i64), .bool]), (.int .i64), (.int .i64)] : List CK).length fpv := fun b' h1 h2 => hd13 b' (List.mem_cons_of_mem _ h1) (List.mem_cons_of_mem _ h2)
        have hpl : ∀ q, q < xs.length + ys.length → insP xs.length ys.length i q < xs.length + ys.length := fun q hq => by
          simp only [insP]
          split
          · omega
          · split <;> omega
        have hpi : ∀ q q', q < xs.length + ys.length → q' < xs.length + ys.length → insP xs.length ys.length i q = insP xs.length ys.length i q' → q = q' := fun q q' hq hq' e => by
          simp only [insP] at e
          split at e <;> split at e <;> (try split at e) <;> (try split at e) <;> omega
        have hshz : ∀ q, q < xs.length + ys.length → Shp ([(.int .i64), (.int .i64), (.int .i64), (.int .i64), (.int .i64), (.int .i64), (.int .i64), (.int .i64), (.int .i64), (.int .i64), (.int .i64), (.int .i64), (.int .i64), (.int .i64), (.int .i64), (.int .i64), (.int .i64), (.int .i64), .bool, (.sl [(.int .i64), (.int .i64), (.int .i64), (.int .i64), (.int .i64), (.int .i64), .bool]), (.int .i64), (.int .i64)] : List CK).length ((xs.take i ++ ys ++ xs.drop i).getD q default) := fun q hq => by
          rw [ins_list (by omega) hq]
          by_cases h1 : q < i
          · rw [if_pos h1]; exact hsh _ (by omega)
          · rw [if_neg h1]
            by_cases h2 : q < i + ys.length
            · rw [if_pos h2]; exact hvsh _ (by omega)
            · rw [if_neg h2]; exact hsh _ (by omega)
        -- the elements where they lie now
        have key : ∀ (w' : World) (cs' : Array Value), (∀ b', b' < w.heap.size → b' ≠ b → w'.heap[b']? = w.heap[b']?) → (∀ q k, q < xs.length + ys.length → k < 22 → cs'.getD (q * 22 + k) undef = if q < i then cs.getD (q * 22 + k) undef else if q < i + ys.length then vcs.getD ((q - i) * 22 + k) undef else cs.getD ((q - ys.length) * 22 + k) undef) →
            ∀ q c, q < xs.length + ys.length → c < ([(.int .i64), (.int .i64), (.int .i64), (.int .i64), (.int .i64), (.int .i64), (.int .i64), (.int .i64), (.int .i64), (.int .i64), (.int .i64), (.int .i64), (.int .i64), (.int .i64), (.int .i64), (.int .i64), (.int .i64), (.int .i64), .bool, (.sl [(.int .i64), (.int .i64), (.int .i64), (.int .i64), (.int .i64), (.int .i64), .bool]), (.int .i64), (.int .i64)] : List CK).length → Own w' (([(.int .i64), (.int .i64), (.int .i64), (.int .i64), (.int .i64), (.int .i64), (.int .i64), (.int .i64), (.int .i64), (.int .i64), (.int .i64), (.int .i64), (.int .i64), (.int .i64), (.int .i64), (.int .i64), (.int .i64), (.int .i64), .bool, (.sl [(.int .i64), (.int .i64), (.int .i64), (.int .i64), (.int .i64), (.int .i64), .bool]), (.int .i64), (.int .i64)] : List CK).getD c default) (((xs.take i ++ ys ++ xs.drop i).getD q default).fld c) (cs'.getD (q * ([(.int .i64), (.int .i64), (.int .i64), (.int .i64), (.int .i64), (.int .i64), (.int .i64), (.int .i64), (.int .i64), (.int .i64), (.int .i64), (.int .i64), (.int .i64), (.int .i64), (.int .i64), (.int .i64), (.int .i64), (.int .i64), .bool, (.sl [(.int .i64), (.int .i64), (.int .i64), (.int .i64), (.int .i64), (.int .i64), .bool]), (.int .i64), (.int .i64)] : List CK).length + c) undef) (fpsC xs.length fps fpv (insP xs.length ys.length i q) c) := fun w' cs' hold hcell q c hq hc => by
          have ox : ∀ j, j < xs.length → Own w' (([(.int .i64), (.int .i64), (.int .i64), (.int .i64), (.int .i64), (.int .i64), (.int .i64), (.int .i64), (.int .i64), (.int .i64), (.int .i64), (.int .i64), (.int .i64), (.int .i64), (.int .i64), (.int .i64), (.int .i64), (.int .i64), .bool, (.sl [(.int .i64), (.int .i64), (.int .i64), (.int .i64), (.int .i64), (.int .i64), .bool]), (.int .i64), (.int .i64)] : List CK).getD c default) ((xs.getD j default).fld c) (cs.getD (j * ([(.int .i64), (.int .i64), (.int .i64), (.int .i64), (.int .i64), (.int .i64), (.int .i64), (.int .i64), (.int .i64), (.int .i64), (.int .i64), (.int .i64), (.int .i64), (.int .i64), (.int .i64), (.int .i64), (.int .i64), (.int .i64), .bool, (.sl [(.int .i64), (.int .i64), (.int .i64), (.int .i64), (.int .i64), (.int .i64), .bool]), (.int .i64), (.int .i64)] : List CK).length + c) undef) (fps j c) := fun j hj =>
            (hown j c hj hc).frame fun b' hb' => hold b' ((hown j c hj hc).lt b' hb') fun e => hn1 (e ▸ mem_fpAll hj hc hb')
          have oy : ∀ j, j < ys.length → Own w' (([(.int .i64), (.int .i64), (.int .i64), (.int .i64), (.int .i64), (.int .i64), (.int .i64), (.int .i64), (.int .i64), (.int .i64), (.int .i64), (.int .i64), (.int .i64), (.int .i64), (.int .i64), (.int .i64), (.int .i64), (.int .i64), .bool, (.sl [(.int .i64), (.int .i64), (.int .i64), (.int .i64), (.int .i64), (.int .i64), .bool]), (.int .i64), (.int .i64)] : List CK).getD c default) ((ys.getD j default).fld c) (vcs.getD (j * ([(.int .i64), (.int .i64), (.int .i64), (.int .i64), (.int .i64), (.int .i64), (.int .i64), (.int .i64), (.int .i64), (.int .i64), (.int .i64), (.int .i64), (.int .i64), (.int .i64), (.int .i64), (.int .i64), (.int .i64), (.int .i64), .bool, (.sl [(.int .i64), (.int .i64), (.int .i64), (.int .i64), (.int .i64), (.int .i64), .bool]), (.int .i64), (.int .i64)] : List CK).length + c) undef) (fpv j c) := fun j hj =>
            (hvown j c hj hc).frame fun b' hb' => hold b' ((hvown j c hj hc).lt b' hb') fun e => hd13 b (by simp) (e ▸ List.mem_cons_of_mem _ (mem_fpAll hj hc hb'))
          rw [hK] at hc ox oy ⊢
          rw [ins_list (by omega) hq, hcell q c hq hc]
          by_cases h1 : q < i
          · have e0 : insP xs.length ys.length i q = q := by simp only [insP, if_pos h1]
            have ep : fpsC xs.length fps fpv (insP xs.length ys.length i q) c = fps q c := by
              rw [e0]
              exact fpsC_left (by omega)
            rw [ep, if_pos h1, if_pos h1]
            exact ox q (by omega)
          · by_cases h2 : q < i + ys.length
            · have e0 : insP xs.length ys.length i q = xs.length + (q - i) := by simp only [insP, if_neg h1, if_pos h2]
              have ep : fpsC xs.length fps fpv (insP xs.length ys.length i q) c = fpv (q - i) c := by
                rw [e0]
                exact fpsC_right
              rw [ep, if_neg h1, if_neg h1, if_pos h2, if_pos h2]
              exact oy _ (by omega)
            · have e0 : insP xs.length ys.length i q = q - ys.length := by simp only [insP, if_neg h1, if_neg h2]
              have ep : fpsC xs.length fps fpv (insP xs.length ys.length i q) c = fps (q - ys.length) c := by
                rw [e0]
                exact fpsC_left (by omega)
              rw [ep, if_neg h1, if_neg h1, if_neg h2, if_neg h2]
              exact ox _ (by omega)
        by_cases hroom : xs.length + ys.length ≤ cap
        · refine (ins_shift hi hv hroom (by omega) hvb2 hb hvb hsz (Nat.le_trans (Nat.mul_le_mul_right _ hvcap) hvsz) h1c h1v).mono ?_
          rintro e w' ⟨rfl, w1, cs', g1, g2, g3, g4, rfl, g5, g6⟩
          have hold : ∀ b', b' < w.heap.size → b' ≠ b → (w1.setRow b cs').heap[b']? = w.heap[b']? := fun b' _ hne => by rw [setRow_old w1 cs' hne, g1]
          obtain ⟨fp', o1, o2, o3⟩ := own_two (w' := w1.setRow b cs') (setRow_heap w1 b cs cs' T (0, 0) (by rw [g1]; exact hb)) (by rw [hK, g5]; exact hsz) hroom hmx hzl hn2 hvn2 hdd hn1 (fun e => hd13 b (by simp) (List.mem_cons_of_mem _ e)) (insP xs.length ys.length i) hpl hpi hshz (key _ cs' hold g6)
          refine ⟨_, rfl, ins_post o1 o2 (fun b' hb' => ?_) ⟨by rw [setRow_os, g2], by rw [setRow_tape, g3], by rw [setRow_output, g4], by rw [setRow_size, g1]; exact Nat.le_refl _, fun b' hb' => hold b' hb'.1 fun e => hb'.2 (by rw [e]; simp)⟩⟩
          rcases o3 b' hb' with rfl | h | h
          · exact .inl (by simp)
          · exact .inl (List.mem_append_left _ (List.mem_cons_of_mem _ h))
          · exact .inl (List.mem_append_right _ (List.mem_cons_of_mem _ h))
        · refine (ins_grow hi hv hcap (by omega) hl hb hvb hsz (Nat.le_trans (Nat.mul_le_mul_right _ hvcap) hvsz) h1c h1v).mono ?_
          rintro e w' ⟨G', cs', rfl, k, g4, g5, g6, g7, g8⟩
          have hnn : w.heap.size ∉ fpAll xs.length ([(.int .i64), (.int .i64), (.int .i64), (.int .i64), (.int .i64), (.int .i64), (.int .i64), (.int .i64), (.int .i64), (.int .i64), (.int .i64), (.int .i64), (.int .i64), (.int .i64), (.int .i64), (.int .i64), (.int .i64), (.int .i64), .bool, (.sl [(.int .i64), (.int .i64), (.int .i64), (.int .i64), (.int .i64), (.int .i64), .bool]), (.int .i64), (.int .i64)] : List CK).length fps := fun e => by
            obtain ⟨j, c, hj, hc, hm⟩ := fpAll_mem e
            exact Nat.lt_irrefl _ ((hown j c hj hc).lt _ hm)
          have hnv : w.heap.size ∉ fpAll ys.length ([(.int .i64), (.int .i64), (.int .i64), (.int .i64), (.int .i64), (.int .i64), (.int .i64), (.int .i64), (.int .i64), (.int .i64), (.int .i64), (.int .i64), (.int .i64), (.int .i64), (.int .i64), (.int .i64), (.int .i64), (.int .i64), .bool, (.sl [(.int .i64), (.int .i64), (.int .i64), (.int .i64), (.int .i64), (.int .i64), .bool]), (.int .i64), (.int .i64)] : List CK).length fpv := fun e => by
            obtain ⟨j, c, hj, hc, hm⟩ := fpAll_mem e
            exact Nat.lt_irrefl _ ((hvown j c hj hc).lt _ hm)
          obtain ⟨fp', o1, o2, o3⟩ := own_two (w' := w') g4 (by rw [hK]; exact g7) g6 hmx hzl hn2 hvn2 hdd hnn hnv (insP xs.length ys.length i) hpl hpi hshz (key w' cs' (fun b' h1 _ => k.block b' h1) g8)
          refine ⟨_, rfl, ins_post o1 o2 (fun b' hb' => ?_) ⟨k.os, k.tape, k.output, k.size, fun b' hb' => k.block b' hb'.1⟩⟩
          rcases o3 b' hb' with rfl | h | h
          · exact .inr (Nat.le_refl _)
          · exact .inl (List.mem_append_left _ (List.mem_cons_of_mem _ h))
          · exact .inl (List.mem_append_right _ (List.mem_cons_of_mem _ h))
def phiI (p : D → Bool) : Nat → List D → List D
  | 0, [x] => [.bool (p x)]
  | _, _ => []
theorem idx_pc (a : D) (g : Nat) (caps : List (List CK × D)) (p : D → Bool) (hd : ∀ x, PC Try.prog g (.st [(.int .i64), (.int .i64), (.int .i64), (.int .i64), (.int .i64), (.int .i64), (.int .i64), (.int .i64), (.int .i64), (.int .i64), (.int .i64), (.int .i64), (.int .i64), (.int .i64), (.int .i64), (.int .i64), (.int .i64), (.int .i64), .bool, (.sl [(.int .i64), (.int .i64), (.int .i64), (.int .i64), (.int .i64), (.int .i64), .bool]), (.int .i64), (.int .i64)] x :: caps.map fun q => .bx q.1 q.2) [.sc .bool] fun o => o = [.bool (p x)]) :
    PC Try.prog 184 [.sc (.sl [(.int .i64), (.int .i64), (.int .i64), (.int .i64), (.int .i64), (.int .i64), (.int .i64), (.int .i64), (.int .i64), (.int .i64), (.int .i64), (.int .i64), (.int .i64), (.int .i64), (.int .i64), (.int .i64), (.int .i64), (.int .i64), .bool, (.sl [(.int .i64), (.int .i64), (.int .i64), (.int .i64), (.int .i64), (.int .i64), .bool]), (.int .i64), (.int .i64)]) a, .clo g caps] [.sc (.int .i64)] fun o => o = [.int (findR (fun i => p (a.elem i)) a.toL.length)] := by
  refine PC.of_sig mix sig_184 ⟨rfl, trivial, trivial⟩ rfl fun hok => ?_
  have e_a := sl_eta (hok _ (.head _))
  have l_a := sl_len (hok _ (.head _))
  have k_a := sl_all (hok _ (.head _))
  have E_a : ∀ i, i < a.toL.length → D.lst [(a.elem i).fld 0, (a.elem i).fld 1, (a.elem i).fld 2, (a.elem i).fld 3, (a.elem i).fld 4, (a.elem i).fld 5, (a.elem i).fld 6, (a.elem i).fld 7, (a.elem i).fld 8, (a.elem i).fld 9, (a.elem i).fld 10, (a.elem i).fld 11, (a.elem i).fld 12, (a.elem i).fld 13, (a.elem i).fld 14, (a.elem i).fld 15, (a.elem i).fld 16, (a.elem i).fld 17, (a.elem i).fld 18, (a.elem i).fld 19, (a.elem i).fld 20, (a.elem i).fld 21] = a.elem i := fun i hi => by simpa [List.range, List.range.loop] using okL_eta (k_a _ (elem_mem hi))
  have hd' : ∀ (x : D) (Q : List D → Prop), Q [.bool (p x)] → PC Try.prog g (.st [(.int .i64), (.int .i64), (.int .i64), (.int .i64), (.int .i64), (.int .i64), (.int .i64), (.int .i64), (.int .i64), (.int .i64), (.int .i64), (.int .i64), (.int .i64), (.int .i64), (.int .i64), (.int .i64), (.int .i64), (.int .i64), .bool, (.sl [(.int .i64), (.int .i64), (.int .i64), (.int .i64), (.int .i64), (.int .i64), .bool]), (.int .i64), (.int .i64)] x :: caps.map fun q => .bx q.1 q.2) [.sc .bool] Q := fun x Q h => (hd x).mono fun _ e => e ▸ h
  apply says_den (φ := phiI p)
  simp [e_a, tree_184, T.says, X.den, O1.den, O2.den, O3.den, callD, XArg.ev, XArg.dat, Callee'.num, backs, DArg.back, Conds.den, cloArgs, phiI]
  refine fun _ => ?_
  refine den_for a.toL.length 0 (fun i => [.int i]) (fun i => ∀ j, j < i → (p (a.elem j)) = false) (by simp) (by simp [X.den]) (by simp) fun i hi hR => ?_
  apply says_den (φ := phiI p)
  by_cases hlt : i < a.toL.length
  · simp [e_a, E_a i hlt, tree_184, T.says, X.den, O1.den, O2.den, O3.den, callD, XArg.ev, XArg.dat, Callee'.num, backs, DArg.back, Conds.den, cloArgs, phiI, hlt]
    (repeat' (first | (with_reducible apply And.intro) | intro _))
    · exact hd' _ _ rfl
    · exact (findR_some (p := fun i => p (a.elem i)) hlt (by simp_all) hR).symm
    · (first | omega | (simp only [IntKind.wrap_i64, maxL] at *; omega))
    · rename_i j hj
      by_cases hji : j = i
      · subst hji; assumption
      · exact hR j (by omega)
  · simp [e_a, tree_184, T.says, X.den, O1.den, O2.den, O3.den, callD, XArg.ev, XArg.dat, Callee'.num, backs, DArg.back, Conds.den, cloArgs, phiI, hlt]
    (repeat' (first | (with_reducible apply And.intro) | intro _))
    · exact (findR_none fun j hj => hR j (by omega)).symm
end L187
theorem pc_187 (d i v : D) (h : 0 ≤ i.toI ∧ i.toI ≤ d.toL.length) (hv : 0 < v.toL.length) (hl : (d.toL.length + v.toL.length) * 192 ≤ 140737488355328) : PC Try.prog 187 [.take [(.int .i64), (.int .i64), (.int .i64), (.int .i64), (.int .i64), (.int .i64), (.int .i64), (.int .i64), (.int .i64), (.int .i64), (.int .i64), (.int .i64), (.int .i64), (.int .i64), (.int .i64), (.int .i64), (.int .i64), (.int .i64), .bool, (.sl [(.int .i64), (.int .i64), (.int .i64), (.int .i64), (.int .i64), (.int .i64), .bool]), (.int .i64), (.int .i64)] d, .sc (.int .i64) i, .take [(.int .i64), (.int .i64), (.int .i64), (.int .i64), (.int .i64), (.int .i64), (.int .i64), (.int .i64), (.int .i64), (.int .i64), (.int .i64), (.int .i64), (.int .i64), (.int .i64), (.int .i64), (.int .i64), (.int .i64), (.int .i64), .bool, (.sl [(.int .i64), (.int .i64), (.int .i64), (.int .i64), (.int .i64), (.int .i64), .bool]), (.int .i64), (.int .i64)] v] [.sc (.sl [(.int .i64), (.int .i64), (.int .i64), (.int .i64), (.int .i64), (.int .i64), (.int .i64), (.int .i64), (.int .i64), (.int .i64), (.int .i64), (.int .i64), (.int .i64), (.int .i64), (.int .i64), (.int .i64), (.int .i64), (.int .i64), .bool, (.sl [(.int .i64), (.int .i64), (.int .i64), (.int .i64), (.int .i64), (.int .i64), .bool]), (.int .i64), (.int .i64)])] fun o => o = [.lst (d.toL.take i.toI.toNat ++ v.toL ++ d.toL.drop i.toI.toNat)] := L187.lib_pc d i v h hv hl
theorem pd_187 (d i v : D) (h : 0 ≤ i.toI ∧ i.toI ≤ d.toL.length) (hv : 0 < v.toL.length) (hl : (d.toL.length + v.toL.length) * 192 ≤ 140737488355328) (Q : List D → Prop) (ho : Q [.lst (d.toL.take i.toI.toNat ++ v.toL ++ d.toL.drop i.toI.toNat)]) : PC Try.prog 187 [.take [(.int .i64), (.int .i64), (.int .i64), (.int .i64), (.int .i64), (.int .i64), (.int .i64), (.int .i64), (.int .i64), (.int .i64), (.int .i64), (.int .i64), (.int .i64), (.int .i64), (.int .i64), (.int .i64), (.int .i64), (.int .i64), .bool, (.sl [(.int .i64), (.int .i64), (.int .i64), (.int .i64), (.int .i64), (.int .i64), .bool]), (.int .i64), (.int .i64)] d, .sc (.int .i64) i, .take [(.int .i64), (.int .i64), (.int .i64), (.int .i64), (.int .i64), (.int .i64), (.int .i64), (.int .i64), (.int .i64), (.int .i64), (.int .i64), (.int .i64), (.int .i64), (.int .i64), (.int .i64), (.int .i64), (.int .i64), (.int .i64), .bool, (.sl [(.int .i64), (.int .i64), (.int .i64), (.int .i64), (.int .i64), (.int .i64), .bool]), (.int .i64), (.int .i64)] v] [.sc (.sl [(.int .i64), (.int .i64), (.int .i64), (.int .i64), (.int .i64), (.int .i64), (.int .i64), (.int .i64), (.int .i64), (.int .i64), (.int .i64), (.int .i64), (.int .i64), (.int .i64), (.int .i64), (.int .i64), (.int .i64), (.int .i64), .bool, (.sl [(.int .i64), (.int .i64), (.int .i64), (.int .i64), (.int .i64), (.int .i64), .bool]), (.int .i64), (.int .i64)])] Q := (pc_187 d i v h hv hl).mono fun _ h => h ▸ ho
/- impl.Install -/
def phi_108 (d e : D) : Nat → List D → List D
  | 184, [a, _] => [.int (findR (fun i => decide ((e.fld 0).toI ≤ ((a.elem i).fld 0).toI)) a.toL.length)]
  | 99, [d] => [.bool (tableOk d)]
  | 106, [d, n] => [.int (effAt d n.toI)]
  | 165, [e] => [e]
  | 177, [d] => [d]
  | 186, [x, e] => [.bool (decide ((e.fld 0).toI ≤ (x.fld 0).toI))]
  | 187, [d, i, v] => [.lst (d.toL.take i.toI.toNat ++ v.toL ++ d.toL.drop i.toI.toNat)]
  | _, _ => []
theorem pc_108 (d e : D) (h : smallE d) (he : ((e.fld 19).toL.length : Int) ≤ 1048576) : PC Try.prog 108 [.sc (.sl [(.int .i64), (.int .i64), (.int .i64), (.int .i64), (.int .i64), (.int .i64), (.int .i64), (.int .i64), (.int .i64), (.int .i64), (.int .i64), (.int .i64), (.int .i64), (.int .i64), (.int .i64), (.int .i64), (.int .i64), (.int .i64), .bool, (.sl [(.int .i64), (.int .i64), (.int .i64), (.int .i64), (.int .i64), (.int .i64), .bool]), (.int .i64), (.int .i64)]) d, .st [(.int .i64), (.int .i64), (.int .i64), (.int .i64), (.int .i64), (.int .i64), (.int .i64), (.int .i64), (.int .i64), (.int .i64), (.int .i64), (.int .i64), (.int .i64), (.int .i64), (.int .i64), (.int .i64), (.int .i64), (.int .i64), .bool, (.sl [(.int .i64), (.int .i64), (.int .i64), (.int .i64), (.int .i64), (.int .i64), .bool]), (.int .i64), (.int .i64)] e] [.sc (.sl [(.int .i64), (.int .i64), (.int .i64), (.int .i64), (.int .i64), (.int .i64), (.int .i64), (.int .i64), (.int .i64), (.int .i64), (.int .i64), (.int .i64), (.int .i64), (.int .i64), (.int .i64), (.int .i64), (.int .i64), (.int .i64), .bool, (.sl [(.int .i64), (.int .i64), (.int .i64), (.int .i64), (.int .i64), (.int .i64), .bool]), (.int .i64), (.int .i64)]), .sc .bool] fun o => o = [(if insOk d e then insT d e else d), .bool (insOk d e)] := by
  refine PC.of_sig mix sig_108 ⟨rfl, rfl, trivial⟩ rfl fun hok => ?_
  have e_d := sl_eta (hok _ (.head _))
  have l_d := sl_len (hok _ (.head _))
  have k_d := sl_all (hok _ (.head _))
  have E_d : ∀ i, i < d.toL.length → D.lst [(d.elem i).fld 0, (d.elem i).fld 1, (d.elem i).fld 2, (d.elem i).fld 3, (d.elem i).fld 4, (d.elem i).fld 5, (d.elem i).fld 6, (d.elem i).fld 7, (d.elem i).fld 8, (d.elem i).fld 9, (d.elem i).fld 10, (d.elem i).fld 11, (d.elem i).fld 12, (d.elem i).fld 13, (d.elem i).fld 14, (d.elem i).fld 15, (d.elem i).fld 16, (d.elem i).fld 17, (d.elem i).fld 18, (d.elem i).fld 19, (d.elem i).fld 20, (d.elem i).fld 21] = d.elem i := fun i hi => by simpa [List.range, List.range.loop] using okL_eta (k_d _ (elem_mem hi))
  have e_e : D.lst [e.fld 0, e.fld 1, e.fld 2, e.fld 3, e.fld 4, e.fld 5, e.fld 6, e.fld 7, e.fld 8, e.fld 9, e.fld 10, e.fld 11, e.fld 12, e.fld 13, e.fld 14, e.fld 15, e.fld 16, e.fld 17, e.fld 18, e.fld 19, e.fld 20, e.fld 21] = e := by simpa [List.range, List.range.loop] using okL_eta (hok _ (.tail _ (.head _)))
  have k_e : okL [(.int .i64), (.int .i64), (.int .i64), (.int .i64), (.int .i64), (.int .i64), (.int .i64), (.int .i64), (.int .i64), (.int .i64), (.int .i64), (.int .i64), (.int .i64), (.int .i64), (.int .i64), (.int .i64), (.int .i64), (.int .i64), .bool, (.sl [(.int .i64), (.int .i64), (.int .i64), (.int .i64), (.int .i64), (.int .i64), .bool]), (.int .i64), (.int .i64)] e := (hok _ (.tail _ (.head _)))
  have e_e_19 : D.lst (e.fld 19).toL = e.fld 19 := sl_eta (okL_at k_e (i := 19) rfl)
  have l_e_19 := sl_len (okL_at k_e (i := 19) rfl)
  have k_e_19 := sl_all (okL_at k_e (i := 19) rfl)
  have E_e_19 : ∀ i, i < (e.fld 19).toL.length → D.lst [((e.fld 19).elem i).fld 0, ((e.fld 19).elem i).fld 1, ((e.fld 19).elem i).fld 2, ((e.fld 19).elem i).fld 3, ((e.fld 19).elem i).fld 4, ((e.fld 19).elem i).fld 5, ((e.fld 19).elem i).fld 6] = (e.fld 19).elem i := fun i hi => by simpa [List.range, List.range.loop] using okL_eta (k_e_19 _ (elem_mem hi))
  have h1 := h.1
  have hr := effAt_range d (e.fld 0).toI
  have hi := insAt_find d (e.fld 0).toI
  have hle := insAt_le d (e.fld 0).toI
  have hx : ∀ (a : D), PC Try.prog 184 [.sc (.sl [.int .i64, .int .i64, .int .i64, .int .i64, .int .i64, .int .i64, .int .i64, .int .i64, .int .i64, .int .i64, .int .i64, .int .i64, .int .i64, .int .i64, .int .i64, .int .i64, .int .i64, .int .i64, .bool, .sl [.int .i64, .int .i64, .int .i64, .int .i64, .int .i64, .int .i64, .bool], .int .i64, .int .i64]) a, .clo 186 [([.int .i64, .int .i64, .int .i64, .int .i64, .int .i64, .int .i64, .int .i64, .int .i64, .int .i64, .int .i64, .int .i64, .int .i64, .int .i64, .int .i64, .int .i64, .int .i64, .int .i64, .int .i64, .bool, .sl [.int .i64, .int .i64, .int .i64, .int .i64, .int .i64, .int .i64, .bool], .int .i64, .int .i64], e)]] [.sc (.int .i64)] fun o => o = [.int (findR (fun i => decide ((e.fld 0).toI ≤ ((a.elem i).fld 0).toI)) a.toL.length)] := fun a =>
    L187.idx_pc a 186 [([.int .i64, .int .i64, .int .i64, .int .i64, .int .i64, .int .i64, .int .i64, .int .i64, .int .i64, .int .i64, .int .i64, .int .i64, .int .i64, .int .i64, .int .i64, .int .i64, .int .i64, .int .i64, .bool, .sl [.int .i64, .int .i64, .int .i64, .int .i64, .int .i64, .int .i64, .bool], .int .i64, .int .i64], e)] (fun x => decide ((e.fld 0).toI ≤ (x.fld 0).toI)) fun x => pc_186 x e
  apply says_den (φ := (phi_108 d e))
  simp [e_e_19, E_e_19, e_d, e_e, E_d, tree_108, T.says, X.den, O1.den, O2.den, O3.den, callD, XArg.ev, XArg.dat, Callee'.num, backs, DArg.back, Conds.den, cloArgs, phi_108, pd_99, pd_106, pd_165, pd_177, pd_184, pd_186, pd_187, h, he]
  intro _
  have hfin : ∀ T : D, insT d e = T → (0 ≤ effAt d (e.fld 0).toI ∨ tableOk T = false → (insOk d e = true → d = insT d e) ∧ insOk d e = false) ∧ (effAt d (e.fld 0).toI < 0 → tableOk T = true → (T = if insOk d e = true then insT d e else d) ∧ insOk d e = true) := fun T hT => by
    refine ⟨fun hc => ?_, fun hc1 hc2 => ?_⟩
    · have : insOk d e = false := by
        rw [insOk, hT]
        rcases hc with hc | hc
        · simp; omega
        · simp [hc]
      exact ⟨fun hh => by (rw [this] at hh; cases hh), this⟩
    · have : insOk d e = true := by
        rw [insOk, hT, hc2]
        simpa using hc1
      exact ⟨by rw [if_pos this, hT], this⟩
  refine ⟨hx d, fun _ => ⟨fun hneg _ _ _ => ?_, fun hpos _ _ => ?_⟩⟩
  · rw [if_pos hneg] at hi
    have hil : insAt d (e.fld 0).toI = d.toL.length := by omega
    have hT : insT d e = .lst (d.toL ++ [e]) := by simp [insT, hil]
    exact ⟨(pc_187 d (.int d.toL.length) (.lst [e]) (by simp) (by simp) (by simp; omega)).mono fun o ho => by (rw [ho]; simp), fun _ _ => hfin _ hT⟩
  · rw [if_neg (by omega)] at hi
    rw [hi]
    simp only [Int.toNat_natCast]
    exact ⟨(pc_187 d (.int (insAt d (e.fld 0).toI)) (.lst [e]) (by simp; exact hle) (by simp) (by simp; omega)).mono fun o ho => by (rw [ho]; simp), fun _ _ => hfin _ rfl⟩
theorem pd_108 (d e : D) (h : smallE d) (he : ((e.fld 19).toL.length : Int) ≤ 1048576) (Q : List D → Prop) (ho : Q [(if insOk d e then insT d e else d), .bool (insOk d e)]) : PC Try.prog 108 [.sc (.sl [(.int .i64), (.int .i64), (.int .i64), (.int .i64), (.int .i64), (.int .i64), (.int .i64), (.int .i64), (.int .i64), (.int .i64), (.int .i64), (.int .i64), (.int .i64), (.int .i64), (.int .i64), (.int .i64), (.int .i64), (.int .i64), .bool, (.sl [(.int .i64), (.int .i64), (.int .i64), (.int .i64), (.int .i64), (.int .i64), .bool]), (.int .i64), (.int .i64)]) d, .st [(.int .i64), (.int .i64), (.int .i64), (.int .i64), (.int .i64), (.int .i64), (.int .i64), (.int .i64), (.int .i64), (.int .i64), (.int .i64), (.int .i64), (.int .i64), (.int .i64), (.int .i64), (.int .i64), (.int .i64), (.int .i64), .bool, (.sl [(.int .i64), (.int .i64), (.int .i64), (.int .i64), (.int .i64), (.int .i64), .bool]), (.int .i64), (.int .i64)] e] [.sc (.sl [(.int .i64), (.int .i64), (.int .i64), (.int .i64), (.int .i64), (.int .i64), (.int .i64), (.int .i64), (.int .i64), (.int .i64), (.int .i64), (.int .i64), (.int .i64), (.int .i64), (.int .i64), (.int .i64), (.int .i64), (.int .i64), .bool, (.sl [(.int .i64), (.int .i64), (.int .i64), (.int .i64), (.int .i64), (.int .i64), .bool]), (.int .i64), (.int .i64)]), .sc .bool] Q := (pc_108 d e h he).mono fun _ h => h ▸ ho
/- spec.PatOk -/
def phi_27 : Nat → List D → List D
  | 126, [a, b, c] => [.bool (inR a.toI b.toI c.toI)]
  | _, _ => []
theorem pc_27 (d : D) : PC Try.prog 27 [.st [(.int .i64), (.int .i64), (.int .i64), (.int .i64), (.int .i64), (.int .i64), (.int .i64)] d] [.sc .bool] fun o => o = [.bool (patOk d)] := by
  refine PC.of_sig mix sig_27 ⟨rfl, trivial⟩ rfl fun hok => ?_
  have e_d : D.lst [d.fld 0, d.fld 1, d.fld 2, d.fld 3, d.fld 4, d.fld 5, d.fld 6] = d := by simpa [List.range, List.range.loop] using okL_eta (hok _ (.head _))
  have k_d : okL [(.int .i64), (.int .i64), (.int .i64), (.int .i64), (.int .i64), (.int .i64), (.int .i64)] d := (hok _ (.head _))
  apply says_den (φ := (phi_27))
  simp [e_d, tree_27, T.says, X.den, O1.den, O2.den, O3.den, callD, XArg.ev, XArg.dat, Callee'.num, backs, DArg.back, Conds.den, cloArgs, phi_27, pd_126]
  (repeat' (first | (with_reducible apply And.intro) | intro _)) <;> grind [patOk]
theorem pd_27 (d : D) (Q : List D → Prop) (ho : Q [.bool (patOk d)]) : PC Try.prog 27 [.st [(.int .i64), (.int .i64), (.int .i64), (.int .i64), (.int .i64), (.int .i64), (.int .i64)] d] [.sc .bool] Q := (pc_27 d).mono fun _ h => h ▸ ho
/- spec.GuardOk -/
def phi_35 : Nat → List D → List D
  | 126, [a, b, c] => [.bool (inR a.toI b.toI c.toI)]
  | _, _ => []
theorem pc_35 (d : D) : PC Try.prog 35 [.st [(.int .i64), (.int .i64)] d] [.sc .bool] fun o => o = [.bool (guardOk d)] := by
  refine PC.of_sig mix sig_35 ⟨rfl, trivial⟩ rfl fun hok => ?_
  have e_d : D.lst [d.fld 0, d.fld 1] = d := by simpa [List.range, List.range.loop] using okL_eta (hok _ (.head _))
  have k_d : okL [(.int .i64), (.int .i64)] d := (hok _ (.head _))
  apply says_den (φ := (phi_35))
  simp [e_d, tree_35, T.says, X.den, O1.den, O2.den, O3.den, callD, XArg.ev, XArg.dat, Callee'.num, backs, DArg.back, Conds.den, cloArgs, phi_35, pd_126]
  (repeat' (first | (with_reducible apply And.intro) | intro _)) <;> grind [guardOk]
theorem pd_35 (d : D) (Q : List D → Prop) (ho : Q [.bool (guardOk d)]) : PC Try.prog 35 [.st [(.int .i64), (.int .i64)] d] [.sc .bool] Q := (pc_35 d).mono fun _ h => h ▸ ho
/- spec.l9Plain -/
theorem pc_161 (a : D) : PC Try.prog 161 [.st [(.int .i64), (.int .i64), (.int .i64), (.int .i64), (.int .i64), .bool, (.sl [(.int .i64), (.int .i64), (.int .i64), (.int .i64), (.int .i64), (.int .i64), .bool])] a] [.sc .bool] fun o => o = [.bool (plain a)] := by
  refine PC.of_sig mix sig_161 ⟨rfl, trivial⟩ rfl fun hok => ?_
  have e_a : D.lst [a.fld 0, a.fld 1, a.fld 2, a.fld 3, a.fld 4, a.fld 5, a.fld 6] = a := by simpa [List.range, List.range.loop] using okL_eta (hok _ (.head _))
  have k_a : okL [(.int .i64), (.int .i64), (.int .i64), (.int .i64), (.int .i64), .bool, (.sl [(.int .i64), (.int .i64), (.int .i64), (.int .i64), (.int .i64), (.int .i64), .bool])] a := (hok _ (.head _))
  have e_a_6 : D.lst (a.fld 6).toL = a.fld 6 := sl_eta (okL_at k_a (i := 6) rfl)
  have l_a_6 := sl_len (okL_at k_a (i := 6) rfl)
  have k_a_6 := sl_all (okL_at k_a (i := 6) rfl)
  have E_a_6 : ∀ i, i < (a.fld 6).toL.length → D.lst [((a.fld 6).elem i).fld 0, ((a.fld 6).elem i).fld 1, ((a.fld 6).elem i).fld 2, ((a.fld 6).elem i).fld 3, ((a.fld 6).elem i).fld 4, ((a.fld 6).elem i).fld 5, ((a.fld 6).elem i).fld 6] = (a.fld 6).elem i := fun i hi => by simpa [List.range, List.range.loop] using okL_eta (k_a_6 _ (elem_mem hi))
  apply says_den (φ := fun _ _ => [])
  simp [e_a_6, E_a_6, e_a, tree_161, T.says, X.den, O1.den, O2.den, O3.den, callD, XArg.ev, XArg.dat, Callee'.num, backs, DArg.back, Conds.den, cloArgs, plain]
theorem pd_161 (a : D) (Q : List D → Prop) (ho : Q [.bool (plain a)]) : PC Try.prog 161 [.st [(.int .i64), (.int .i64), (.int .i64), (.int .i64), (.int .i64), .bool, (.sl [(.int .i64), (.int .i64), (.int .i64), (.int .i64), (.int .i64), (.int .i64), .bool])] a] [.sc .bool] Q := (pc_161 a).mono fun _ h => h ▸ ho
/- spec.EventOk -/
def phi_59 : Nat → List D → List D
  | 126, [a, b, c] => [.bool (inR a.toI b.toI c.toI)]
  | _, _ => []
theorem pc_59 (e : D) : PC Try.prog 59 [.st [(.int .i64), (.int .i64), (.int .i64), (.int .i64), (.int .i64), (.int .i64), .bool] e] [.sc .bool] fun o => o = [.bool (eventOk e)] := by
  refine PC.of_sig mix sig_59 ⟨rfl, trivial⟩ rfl fun hok => ?_
  have e_e : D.lst [e.fld 0, e.fld 1, e.fld 2, e.fld 3, e.fld 4, e.fld 5, e.fld 6] = e := by simpa [List.range, List.range.loop] using okL_eta (hok _ (.head _))
  have k_e : okL [(.int .i64), (.int .i64), (.int .i64), (.int .i64), (.int .i64), (.int .i64), .bool] e := (hok _ (.head _))
  apply says_den (φ := (phi_59))
  simp [e_e, tree_59, T.says, X.den, O1.den, O2.den, O3.den, callD, XArg.ev, XArg.dat, Callee'.num, backs, DArg.back, Conds.den, cloArgs, phi_59, pd_126]
  (repeat' (first | (with_reducible apply And.intro) | intro _)) <;> grind [eventOk, onPiece, onPlayer]
theorem pd_59 (e : D) (Q : List D → Prop) (ho : Q [.bool (eventOk e)]) : PC Try.prog 59 [.st [(.int .i64), (.int .i64), (.int .i64), (.int .i64), (.int .i64), (.int .i64), .bool] e] [.sc .bool] Q := (pc_59 e).mono fun _ h => h ▸ ho
/- spec.l9Part -/
def phi_162 : Nat → List D → List D
  | 59, [e] => [.bool (eventOk e)]
  | _, _ => []
theorem pc_162 (e : D) : PC Try.prog 162 [.st [(.int .i64), (.int .i64), (.int .i64), (.int .i64), (.int .i64), (.int .i64), .bool] e] [.sc .bool] fun o => o = [.bool (partOk e)] := by
  refine PC.of_sig mix sig_162 ⟨rfl, trivial⟩ rfl fun hok => ?_
  have e_e : D.lst [e.fld 0, e.fld 1, e.fld 2, e.fld 3, e.fld 4, e.fld 5, e.fld 6] = e := by simpa [List.range, List.range.loop] using okL_eta (hok _ (.head _))
  have k_e : okL [(.int .i64), (.int .i64), (.int .i64), (.int .i64), (.int .i64), (.int .i64), .bool] e := (hok _ (.head _))
  apply says_den (φ := (phi_162))
  simp [e_e, tree_162, T.says, X.den, O1.den, O2.den, O3.den, callD, XArg.ev, XArg.dat, Callee'.num, backs, DArg.back, Conds.den, cloArgs, phi_162, pd_59, partOk, ev0]
  all_goals grind
theorem pd_162 (e : D) (Q : List D → Prop) (ho : Q [.bool (partOk e)]) : PC Try.prog 162 [.st [(.int .i64), (.int .i64), (.int .i64), (.int .i64), (.int .i64), (.int .i64), .bool] e] [.sc .bool] Q := (pc_162 e).mono fun _ h => h ▸ ho
/- spec.ActOk -/
def phi_71 : Nat → List D → List D
  | 126, [a, b, c] => [.bool (inR a.toI b.toI c.toI)]
  | 161, [a] => [.bool (plain a)]
  | 162, [e] => [.bool (partOk e)]
  | _, _ => []
theorem pc_71 (a : D) : PC Try.prog 71 [.st [(.int .i64), (.int .i64), (.int .i64), (.int .i64), (.int .i64), .bool, (.sl [(.int .i64), (.int .i64), (.int .i64), (.int .i64), (.int .i64), (.int .i64), .bool])] a] [.sc .bool] fun o => o = [.bool (actOk a)] := by
  refine PC.of_sig mix sig_71 ⟨rfl, trivial⟩ rfl fun hok => ?_
  have e_a : D.lst [a.fld 0, a.fld 1, a.fld 2, a.fld 3, a.fld 4, a.fld 5, a.fld 6] = a := by simpa [List.range, List.range.loop] using okL_eta (hok _ (.head _))
  have k_a : okL [(.int .i64), (.int .i64), (.int .i64), (.int .i64), (.int .i64), .bool, (.sl [(.int .i64), (.int .i64), (.int .i64), (.int .i64), (.int .i64), (.int .i64), .bool])] a := (hok _ (.head _))
  have e_a_6 : D.lst (a.fld 6).toL = a.fld 6 := sl_eta (okL_at k_a (i := 6) rfl)
  have l_a_6 := sl_len (okL_at k_a (i := 6) rfl)
  have k_a_6 := sl_all (okL_at k_a (i := 6) rfl)
  have E_a_6 : ∀ i, i < (a.fld 6).toL.length → D.lst [((a.fld 6).elem i).fld 0, ((a.fld 6).elem i).fld 1, ((a.fld 6).elem i).fld 2, ((a.fld 6).elem i).fld 3, ((a.fld 6).elem i).fld 4, ((a.fld 6).elem i).fld 5, ((a.fld 6).elem i).fld 6] = (a.fld 6).elem i := fun i hi => by simpa [List.range, List.range.loop] using okL_eta (k_a_6 _ (elem_mem hi))
  apply says_den (φ := (phi_71))
  simp [e_a_6, E_a_6, e_a, tree_71, T.says, X.den, O1.den, O2.den, O3.den, callD, XArg.ev, XArg.dat, Callee'.num, backs, DArg.back, Conds.den, cloArgs, phi_71, pd_126, pd_161, pd_162]
  (repeat' (first | (with_reducible apply And.intro) | intro _))
  all_goals first | (exfalso; omega) | (grind [actOk, plain]) | skip
  refine den_for (a.fld 6).toL.length 0 (fun i => [.int i]) (fun i => ∀ j, j < i → partOk ((a.fld 6).elem j) = true) (by simp) (by simp [X.den]) (by simp) fun i hi hR => ?_
  have hs : actOk a = ((a.fld 1).toI == 0 && (a.fld 2).toI == 0 && (a.fld 3).toI == -1 && (a.fld 4).toI == 0 && !(a.fld 5).toB && inR (a.fld 6).toL.length 1 3 && allR (fun i => partOk ((a.fld 6).elem i)) (a.fld 6).toL.length) := by
    simp [actOk, *]
  rw [hs]
  apply says_den (φ := (phi_71))
  by_cases hlt : i < (a.fld 6).toL.length
  · simp [e_a_6, E_a_6, e_a, tree_71, T.says, X.den, O1.den, O2.den, O3.den, callD, XArg.ev, XArg.dat, Callee'.num, backs, DArg.back, Conds.den, cloArgs, phi_71, pd_126, pd_161, pd_162, hlt]
    (repeat' (first | (with_reducible apply And.intro) | intro _))
    · rw [allR_false (p := fun i => partOk ((a.fld 6).elem i)) hlt ‹_›]
    · (first | omega | (simp only [IntKind.wrap_i64, maxL] at *; omega) | (simp [IntKind.wrap_i64, maxL] at *; omega))
    · grind
  · have ht := allR_true (p := fun i => partOk ((a.fld 6).elem i)) (n := (a.fld 6).toL.length) (fun j hj => hR j (by omega))
    simp [e_a_6, E_a_6, e_a, tree_71, T.says, X.den, O1.den, O2.den, O3.den, callD, XArg.ev, XArg.dat, Callee'.num, backs, DArg.back, Conds.den, cloArgs, phi_71, pd_126, pd_161, pd_162, hlt, ht]
    all_goals grind
theorem pd_71 (a : D) (Q : List D → Prop) (ho : Q [.bool (actOk a)]) : PC Try.prog 71 [.st [(.int .i64), (.int .i64), (.int .i64), (.int .i64), (.int .i64), .bool, (.sl [(.int .i64), (.int .i64), (.int .i64), (.int .i64), (.int .i64), (.int .i64), .bool])] a] [.sc .bool] Q := (pc_71 a).mono fun _ h => h ▸ ho
/- spec.EffectOk -/
def phi_179 : Nat → List D → List D
  | 27, [d] => [.bool (patOk d)]
  | 35, [d] => [.bool (guardOk d)]
  | 71, [a] => [.bool (actOk a)]
  | 73, [a, n] => [.bool (actFits a n.toI)]
  | 126, [a, b, c] => [.bool (inR a.toI b.toI c.toI)]
  | _, _ => []
theorem pc_179 (e : D) : PC Try.prog 179 [.st [(.int .i64), (.int .i64), (.int .i64), (.int .i64), (.int .i64), (.int .i64), (.int .i64), (.int .i64), (.int .i64), (.int .i64), (.int .i64), (.int .i64), (.int .i64), (.int .i64), (.int .i64), (.int .i64), (.int .i64), (.int .i64), .bool, (.sl [(.int .i64), (.int .i64), (.int .i64), (.int .i64), (.int .i64), (.int .i64), .bool]), (.int .i64), (.int .i64)] e] [.sc .bool] fun o => o = [.bool (effectOk e)] := by
  refine PC.of_sig mix sig_179 ⟨rfl, trivial⟩ rfl fun hok => ?_
  have e_e : D.lst [e.fld 0, e.fld 1, e.fld 2, e.fld 3, e.fld 4, e.fld 5, e.fld 6, e.fld 7, e.fld 8, e.fld 9, e.fld 10, e.fld 11, e.fld 12, e.fld 13, e.fld 14, e.fld 15, e.fld 16, e.fld 17, e.fld 18, e.fld 19, e.fld 20, e.fld 21] = e := by simpa [List.range, List.range.loop] using okL_eta (hok _ (.head _))
  have k_e : okL [(.int .i64), (.int .i64), (.int .i64), (.int .i64), (.int .i64), (.int .i64), (.int .i64), (.int .i64), (.int .i64), (.int .i64), (.int .i64), (.int .i64), (.int .i64), (.int .i64), (.int .i64), (.int .i64), (.int .i64), (.int .i64), .bool, (.sl [(.int .i64), (.int .i64), (.int .i64), (.int .i64), (.int .i64), (.int .i64), .bool]), (.int .i64), (.int .i64)] e := (hok _ (.head _))
  have e_e_19 : D.lst (e.fld 19).toL = e.fld 19 := sl_eta (okL_at k_e (i := 19) rfl)
  have l_e_19 := sl_len (okL_at k_e (i := 19) rfl)
  have k_e_19 := sl_all (okL_at k_e (i := 19) rfl)
  have E_e_19 : ∀ i, i < (e.fld 19).toL.length → D.lst [((e.fld 19).elem i).fld 0, ((e.fld 19).elem i).fld 1, ((e.fld 19).elem i).fld 2, ((e.fld 19).elem i).fld 3, ((e.fld 19).elem i).fld 4, ((e.fld 19).elem i).fld 5, ((e.fld 19).elem i).fld 6] = (e.fld 19).elem i := fun i hi => by simpa [List.range, List.range.loop] using okL_eta (k_e_19 _ (elem_mem hi))
  apply says_den (φ := (phi_179))
  simp [e_e_19, E_e_19, e_e, tree_179, T.says, X.den, O1.den, O2.den, O3.den, callD, XArg.ev, XArg.dat, Callee'.num, backs, DArg.back, Conds.den, cloArgs, phi_179, pd_27, pd_35, pd_71, pd_73, pd_126, effectOk, patOf, grdOf, actOf]
  all_goals grind
theorem pd_179 (e : D) (Q : List D → Prop) (ho : Q [.bool (effectOk e)]) : PC Try.prog 179 [.st [(.int .i64), (.int .i64), (.int .i64), (.int .i64), (.int .i64), (.int .i64), (.int .i64), (.int .i64), (.int .i64), (.int .i64), (.int .i64), (.int .i64), (.int .i64), (.int .i64), (.int .i64), (.int .i64), (.int .i64), (.int .i64), .bool, (.sl [(.int .i64), (.int .i64), (.int .i64), (.int .i64), (.int .i64), (.int .i64), .bool]), (.int .i64), (.int .i64)] e] [.sc .bool] Q := (pc_179 e).mono fun _ h => h ▸ ho
/- spec.TableOk -/
def phi_100 : Nat → List D → List D
  | 179, [e] => [.bool (effectOk e)]
  | _, _ => []
theorem pc_100 (d : D) : PC Try.prog 100 [.sc (.sl [(.int .i64), (.int .i64), (.int .i64), (.int .i64), (.int .i64), (.int .i64), (.int .i64), (.int .i64), (.int .i64), (.int .i64), (.int .i64), (.int .i64), (.int .i64), (.int .i64), (.int .i64), (.int .i64), (.int .i64), (.int .i64), .bool, (.sl [(.int .i64), (.int .i64), (.int .i64), (.int .i64), (.int .i64), (.int .i64), .bool]), (.int .i64), (.int .i64)]) d] [.sc .bool] fun o => o = [.bool (tableOk d)] := by
  refine PC.of_sig mix sig_100 ⟨rfl, trivial⟩ rfl fun hok => ?_
  have e_d := sl_eta (hok _ (.head _))
  have l_d := sl_len (hok _ (.head _))
  have k_d := sl_all (hok _ (.head _))
  have E_d : ∀ i, i < d.toL.length → D.lst [(d.elem i).fld 0, (d.elem i).fld 1, (d.elem i).fld 2, (d.elem i).fld 3, (d.elem i).fld 4, (d.elem i).fld 5, (d.elem i).fld 6, (d.elem i).fld 7, (d.elem i).fld 8, (d.elem i).fld 9, (d.elem i).fld 10, (d.elem i).fld 11, (d.elem i).fld 12, (d.elem i).fld 13, (d.elem i).fld 14, (d.elem i).fld 15, (d.elem i).fld 16, (d.elem i).fld 17, (d.elem i).fld 18, (d.elem i).fld 19, (d.elem i).fld 20, (d.elem i).fld 21] = d.elem i := fun i hi => by simpa [List.range, List.range.loop] using okL_eta (k_d _ (elem_mem hi))
  apply says_den (φ := (phi_100))
  simp [e_d, E_d, tree_100, T.says, X.den, O1.den, O2.den, O3.den, callD, XArg.ev, XArg.dat, Callee'.num, backs, DArg.back, Conds.den, cloArgs, phi_100, pd_179]
  refine den_for d.toL.length 0 (fun i => [.int i]) (fun i => ∀ j, j < i → rowOk d j = true) (by simp) (by simp [X.den]) (by simp) fun i hi hR => ?_
  apply says_den (φ := (phi_100))
  by_cases hlt : i < d.toL.length
  · have hz : IntKind.i64.wrap ((i : Int) + 1) = i + 1 := by (first | omega | (simp only [IntKind.wrap_i64, maxL] at *; omega) | (simp [IntKind.wrap_i64, maxL] at *; omega))
    by_cases h0 : i = 0
    · subst h0
      have hm : IntKind.i64.wrap (((0 : Nat) : Int) - 1) = -1 := by (first | omega | (simp only [IntKind.wrap_i64, maxL] at *; omega) | (simp [IntKind.wrap_i64, maxL] at *; omega))
      simp [e_d, E_d, tree_100, T.says, X.den, O1.den, O2.den, O3.den, callD, XArg.ev, XArg.dat, Callee'.num, backs, DArg.back, Conds.den, cloArgs, phi_100, pd_179, hlt, hm]
      (repeat' (first | (with_reducible apply And.intro) | intro _))
      · rw [tableOk, allR_false (p := rowOk d) hlt (by simp [rowOk, *])]; simp
      · (first | omega | (simp only [IntKind.wrap_i64, maxL] at *; omega) | (simp [IntKind.wrap_i64, maxL] at *; omega))
      · simp [rowOk, *]
    · have hm : IntKind.i64.wrap ((i : Int) - 1) = ((i - 1 : Nat) : Int) := by (first | omega | (simp only [IntKind.wrap_i64, maxL] at *; omega) | (simp [IntKind.wrap_i64, maxL] at *; omega))
      simp [e_d, E_d, tree_100, T.says, X.den, O1.den, O2.den, O3.den, callD, XArg.ev, XArg.dat, Callee'.num, backs, DArg.back, Conds.den, cloArgs, phi_100, pd_179, hlt, hm, hz]
      (repeat' (first | (with_reducible apply And.intro) | intro _))
      · omega
      · rw [tableOk, allR_false (p := rowOk d) hlt (by grind [rowOk])]; simp
      · grind [rowOk]
  · have ht := allR_true (p := rowOk d) (n := d.toL.length) (fun j hj => hR j (by omega))
    simp [e_d, E_d, tree_100, T.says, X.den, O1.den, O2.den, O3.den, callD, XArg.ev, XArg.dat, Callee'.num, backs, DArg.back, Conds.den, cloArgs, phi_100, pd_179, hlt, tableOk, ht]
    all_goals omega
theorem pd_100 (d : D) (Q : List D → Prop) (ho : Q [.bool (tableOk d)]) : PC Try.prog 100 [.sc (.sl [(.int .i64), (.int .i64), (.int .i64), (.int .i64), (.int .i64), (.int .i64), (.int .i64), (.int .i64), (.int .i64), (.int .i64), (.int .i64), (.int .i64), (.int .i64), (.int .i64), (.int .i64), (.int .i64), (.int .i64), (.int .i64), .bool, (.sl [(.int .i64), (.int .i64), (.int .i64), (.int .i64), (.int .i64), (.int .i64), .bool]), (.int .i64), (.int .i64)]) d] [.sc .bool] Q := (pc_100 d).mono fun _ h => h ▸ ho
/- spec.l9Copy -/
theorem pc_206 (a : D) (h : ((a.fld 6).toL.length : Int) ≤ 1048576) : PC Try.prog 206 [.st [(.int .i64), (.int .i64), (.int .i64), (.int .i64), (.int .i64), .bool, (.sl [(.int .i64), (.int .i64), (.int .i64), (.int .i64), (.int .i64), (.int .i64), .bool])] a] [.st [(.int .i64), (.int .i64), (.int .i64), (.int .i64), (.int .i64), .bool, (.sl [(.int .i64), (.int .i64), (.int .i64), (.int .i64), (.int .i64), (.int .i64), .bool])]] fun o => o = [a] := by
  refine PC.of_sig mix sig_206 ⟨rfl, trivial⟩ rfl fun hok => ?_
  have e_a : D.lst [a.fld 0, a.fld 1, a.fld 2, a.fld 3, a.fld 4, a.fld 5, a.fld 6] = a := by simpa [List.range, List.range.loop] using okL_eta (hok _ (.head _))
  have k_a : okL [(.int .i64), (.int .i64), (.int .i64), (.int .i64), (.int .i64), .bool, (.sl [(.int .i64), (.int .i64), (.int .i64), (.int .i64), (.int .i64), (.int .i64), .bool])] a := (hok _ (.head _))
  have e_a_6 : D.lst (a.fld 6).toL = a.fld 6 := sl_eta (okL_at k_a (i := 6) rfl)
  have l_a_6 := sl_len (okL_at k_a (i := 6) rfl)
  have k_a_6 := sl_all (okL_at k_a (i := 6) rfl)
  have E_a_6 : ∀ i, i < (a.fld 6).toL.length → D.lst [((a.fld 6).elem i).fld 0, ((a.fld 6).elem i).fld 1, ((a.fld 6).elem i).fld 2, ((a.fld 6).elem i).fld 3, ((a.fld 6).elem i).fld 4, ((a.fld 6).elem i).fld 5, ((a.fld 6).elem i).fld 6] = (a.fld 6).elem i := fun i hi => by simpa [List.range, List.range.loop] using okL_eta (k_a_6 _ (elem_mem hi))
  apply says_den (φ := fun _ _ => [])
  simp [e_a_6, E_a_6, e_a, tree_206, T.says, X.den, O1.den, O2.den, O3.den, callD, XArg.ev, XArg.dat, Callee'.num, backs, DArg.back, Conds.den, cloArgs]
  all_goals omega
theorem pd_206 (a : D) (h : ((a.fld 6).toL.length : Int) ≤ 1048576) (Q : List D → Prop) (ho : Q [a]) : PC Try.prog 206 [.st [(.int .i64), (.int .i64), (.int .i64), (.int .i64), (.int .i64), .bool, (.sl [(.int .i64), (.int .i64), (.int .i64), (.int .i64), (.int .i64), (.int .i64), .bool])] a] [.st [(.int .i64), (.int .i64), (.int .i64), (.int .i64), (.int .i64), .bool, (.sl [(.int .i64), (.int .i64), (.int .i64), (.int .i64), (.int .i64), (.int .i64), .bool])]] Q := (pc_206 a h).mono fun _ h => h ▸ ho
/- spec.l10Copy -/
def phi_168 : Nat → List D → List D
  | 206, [a] => [a]
  | _, _ => []
theorem pc_168 (e : D) (h : ((e.fld 19).toL.length : Int) ≤ 1048576) : PC Try.prog 168 [.st [(.int .i64), (.int .i64), (.int .i64), (.int .i64), (.int .i64), (.int .i64), (.int .i64), (.int .i64), (.int .i64), (.int .i64), (.int .i64), (.int .i64), (.int .i64), (.int .i64), (.int .i64), (.int .i64), (.int .i64), (.int .i64), .bool, (.sl [(.int .i64), (.int .i64), (.int .i64), (.int .i64), (.int .i64), (.int .i64), .bool]), (.int .i64), (.int .i64)] e] [.st [(.int .i64), (.int .i64), (.int .i64), (.int .i64), (.int .i64), (.int .i64), (.int .i64), (.int .i64), (.int .i64), (.int .i64), (.int .i64), (.int .i64), (.int .i64), (.int .i64), (.int .i64), (.int .i64), (.int .i64), (.int .i64), .bool, (.sl [(.int .i64), (.int .i64), (.int .i64), (.int .i64), (.int .i64), (.int .i64), .bool]), (.int .i64), (.int .i64)]] fun o => o = [e] := by
  refine PC.of_sig mix sig_168 ⟨rfl, trivial⟩ rfl fun hok => ?_
  have e_e : D.lst [e.fld 0, e.fld 1, e.fld 2, e.fld 3, e.fld 4, e.fld 5, e.fld 6, e.fld 7, e.fld 8, e.fld 9, e.fld 10, e.fld 11, e.fld 12, e.fld 13, e.fld 14, e.fld 15, e.fld 16, e.fld 17, e.fld 18, e.fld 19, e.fld 20, e.fld 21] = e := by simpa [List.range, List.range.loop] using okL_eta (hok _ (.head _))
  have k_e : okL [(.int .i64), (.int .i64), (.int .i64), (.int .i64), (.int .i64), (.int .i64), (.int .i64), (.int .i64), (.int .i64), (.int .i64), (.int .i64), (.int .i64), (.int .i64), (.int .i64), (.int .i64), (.int .i64), (.int .i64), (.int .i64), .bool, (.sl [(.int .i64), (.int .i64), (.int .i64), (.int .i64), (.int .i64), (.int .i64), .bool]), (.int .i64), (.int .i64)] e := (hok _ (.head _))
  have e_e_19 : D.lst (e.fld 19).toL = e.fld 19 := sl_eta (okL_at k_e (i := 19) rfl)
  have l_e_19 := sl_len (okL_at k_e (i := 19) rfl)
  have k_e_19 := sl_all (okL_at k_e (i := 19) rfl)
  have E_e_19 : ∀ i, i < (e.fld 19).toL.length → D.lst [((e.fld 19).elem i).fld 0, ((e.fld 19).elem i).fld 1, ((e.fld 19).elem i).fld 2, ((e.fld 19).elem i).fld 3, ((e.fld 19).elem i).fld 4, ((e.fld 19).elem i).fld 5, ((e.fld 19).elem i).fld 6] = (e.fld 19).elem i := fun i hi => by simpa [List.range, List.range.loop] using okL_eta (k_e_19 _ (elem_mem hi))
  apply says_den (φ := (phi_168))
  simp [e_e_19, E_e_19, e_e, tree_168, T.says, X.den, O1.den, O2.den, O3.den, callD, XArg.ev, XArg.dat, Callee'.num, backs, DArg.back, Conds.den, cloArgs, phi_168, pd_206, h]
theorem pd_168 (e : D) (h : ((e.fld 19).toL.length : Int) ≤ 1048576) (Q : List D → Prop) (ho : Q [e]) : PC Try.prog 168 [.st [(.int .i64), (.int .i64), (.int .i64), (.int .i64), (.int .i64), (.int .i64), (.int .i64), (.int .i64), (.int .i64), (.int .i64), (.int .i64), (.int .i64), (.int .i64), (.int .i64), (.int .i64), (.int .i64), (.int .i64), (.int .i64), .bool, (.sl [(.int .i64), (.int .i64), (.int .i64), (.int .i64), (.int .i64), (.int .i64), .bool]), (.int .i64), (.int .i64)] e] [.st [(.int .i64), (.int .i64), (.int .i64), (.int .i64), (.int .i64), (.int .i64), (.int .i64), (.int .i64), (.int .i64), (.int .i64), (.int .i64), (.int .i64), (.int .i64), (.int .i64), (.int .i64), (.int .i64), (.int .i64), (.int .i64), .bool, (.sl [(.int .i64), (.int .i64), (.int .i64), (.int .i64), (.int .i64), (.int .i64), .bool]), (.int .i64), (.int .i64)]] Q := (pc_168 e h).mono fun _ h => h ▸ ho
end Go.Proofs.Ytammagpahfmenaa
