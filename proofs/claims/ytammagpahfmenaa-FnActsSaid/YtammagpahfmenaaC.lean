/- The contracts of the functions that this claim reaches: what each hands back, for all data. -/
import Derived.Test.YtammagpahfmenaaT
import Derived.Test.YtammagpahfmenaaS
namespace Go.Proofs.Ytammagpahfmenaa
open Go.Proofs.Ytammagpahfmenaa.Eng
set_option maxRecDepth 100000
set_option maxHeartbeats 2000000
set_option linter.unusedSimpArgs false
set_option linter.unusedVariables false
/- laws.big -/
theorem pc_14 (code : D) : PC Try.prog 14 [.sc (.sl [(.int .u8)]) code] [.sc .bool] fun o => o = [.bool (decide ((1048576 : Int) < code.toL.length))] := by
  refine PC.of_sig mix sig_14 ⟨rfl, trivial⟩ rfl fun hok => ?_
  have e_code := sl_eta (hok _ (.head _))
  have l_code := sl_len (hok _ (.head _))
  have k_code := sl_all (hok _ (.head _))
  apply says_den (φ := fun _ _ => [])
  simp [e_code, tree_14, T.says, X.den, O1.den, O2.den, O3.den, callD, XArg.ev, XArg.dat, Callee'.num, backs, DArg.back, Conds.den, cloArgs]
theorem pd_14 (code : D) (Q : List D → Prop) (ho : Q [.bool (decide ((1048576 : Int) < code.toL.length))]) : PC Try.prog 14 [.sc (.sl [(.int .u8)]) code] [.sc .bool] Q := (pc_14 code).mono fun _ h => h ▸ ho
/- impl.from -/
theorem pc_123 (a b c : D) : PC Try.prog 123 [.sc (.int .i64) a, .sc (.int .i64) b, .sc (.int .i64) c] [.sc .bool] fun o => o = [.bool (inR a.toI b.toI c.toI)] := by
  refine PC.of_sig mix sig_123 ⟨rfl, rfl, rfl, trivial⟩ rfl fun hok => ?_
  have e_a := int_eta (hok _ (.head _))
  have b_a := int_range (hok _ (.head _))
  have e_b := int_eta (hok _ (.tail _ (.head _)))
  have b_b := int_range (hok _ (.tail _ (.head _)))
  have e_c := int_eta (hok _ (.tail _ (.tail _ (.head _))))
  have b_c := int_range (hok _ (.tail _ (.tail _ (.head _))))
  apply says_den (φ := fun _ _ => [])
  simp [e_a, e_b, e_c, tree_123, T.says, X.den, O1.den, O2.den, O3.den, callD, XArg.ev, XArg.dat, Callee'.num, backs, DArg.back, Conds.den, cloArgs, inR]
theorem pd_123 (a b c : D) (Q : List D → Prop) (ho : Q [.bool (inR a.toI b.toI c.toI)]) : PC Try.prog 123 [.sc (.int .i64) a, .sc (.int .i64) b, .sc (.int .i64) c] [.sc .bool] Q := (pc_123 a b c).mono fun _ h => h ▸ ho
/- impl.isId -/
def phi_142 : Nat → List D → List D
  | 123, [a, b, c] => [.bool (inR a.toI b.toI c.toI)]
  | _, _ => []
theorem pc_142 (a : D) : PC Try.prog 142 [.sc (.int .i64) a] [.sc .bool] fun o => o = [.bool (inR a.toI 1 99)] := by
  refine PC.of_sig mix sig_142 ⟨rfl, trivial⟩ rfl fun hok => ?_
  have e_a := int_eta (hok _ (.head _))
  have b_a := int_range (hok _ (.head _))
  apply says_den (φ := (phi_142))
  simp [e_a, tree_142, T.says, X.den, O1.den, O2.den, O3.den, callD, XArg.ev, XArg.dat, Callee'.num, backs, DArg.back, Conds.den, cloArgs, phi_142, pd_123]
theorem pd_142 (a : D) (Q : List D → Prop) (ho : Q [.bool (inR a.toI 1 99)]) : PC Try.prog 142 [.sc (.int .i64) a] [.sc .bool] Q := (pc_142 a).mono fun _ h => h ▸ ho
/- impl.isPlayer -/
def phi_143 : Nat → List D → List D
  | 123, [a, b, c] => [.bool (inR a.toI b.toI c.toI)]
  | _, _ => []
theorem pc_143 (a : D) : PC Try.prog 143 [.sc (.int .i64) a] [.sc .bool] fun o => o = [.bool (inR a.toI 0 2)] := by
  refine PC.of_sig mix sig_143 ⟨rfl, trivial⟩ rfl fun hok => ?_
  have e_a := int_eta (hok _ (.head _))
  have b_a := int_range (hok _ (.head _))
  apply says_den (φ := (phi_143))
  simp [e_a, tree_143, T.says, X.den, O1.den, O2.den, O3.den, callD, XArg.ev, XArg.dat, Callee'.num, backs, DArg.back, Conds.den, cloArgs, phi_143, pd_123]
theorem pd_143 (a : D) (Q : List D → Prop) (ho : Q [.bool (inR a.toI 0 2)]) : PC Try.prog 143 [.sc (.int .i64) a] [.sc .bool] Q := (pc_143 a).mono fun _ h => h ▸ ho
/- impl.isZone -/
def phi_144 : Nat → List D → List D
  | 123, [a, b, c] => [.bool (inR a.toI b.toI c.toI)]
  | _, _ => []
theorem pc_144 (a : D) : PC Try.prog 144 [.sc (.int .i64) a] [.sc .bool] fun o => o = [.bool (inR a.toI 1 4)] := by
  refine PC.of_sig mix sig_144 ⟨rfl, trivial⟩ rfl fun hok => ?_
  have e_a := int_eta (hok _ (.head _))
  have b_a := int_range (hok _ (.head _))
  apply says_den (φ := (phi_144))
  simp [e_a, tree_144, T.says, X.den, O1.den, O2.den, O3.den, callD, XArg.ev, XArg.dat, Callee'.num, backs, DArg.back, Conds.den, cloArgs, phi_144, pd_123]
theorem pd_144 (a : D) (Q : List D → Prop) (ho : Q [.bool (inR a.toI 1 4)]) : PC Try.prog 144 [.sc (.int .i64) a] [.sc .bool] Q := (pc_144 a).mono fun _ h => h ▸ ho
/- impl.isAmount -/
def phi_125 : Nat → List D → List D
  | 123, [a, b, c] => [.bool (inR a.toI b.toI c.toI)]
  | _, _ => []
theorem pc_125 (a : D) : PC Try.prog 125 [.sc (.int .i64) a] [.sc .bool] fun o => o = [.bool (inR a.toI 0 2147483647)] := by
  refine PC.of_sig mix sig_125 ⟨rfl, trivial⟩ rfl fun hok => ?_
  have e_a := int_eta (hok _ (.head _))
  have b_a := int_range (hok _ (.head _))
  apply says_den (φ := (phi_125))
  simp [e_a, tree_125, T.says, X.den, O1.den, O2.den, O3.den, callD, XArg.ev, XArg.dat, Callee'.num, backs, DArg.back, Conds.den, cloArgs, phi_125, pd_123]
theorem pd_125 (a : D) (Q : List D → Prop) (ho : Q [.bool (inR a.toI 0 2147483647)]) : PC Try.prog 125 [.sc (.int .i64) a] [.sc .bool] Q := (pc_125 a).mono fun _ h => h ▸ ho
/- impl.onPiece -/
def phi_150 : Nat → List D → List D
  | 142, [a] => [.bool (inR a.toI 1 99)]
  | _, _ => []
theorem pc_150 (e : D) : PC Try.prog 150 [.st [(.int .i64), (.int .i64), (.int .i64), (.int .i64), (.int .i64), (.int .i64), .bool] e] [.sc .bool] fun o => o = [.bool (onPiece e)] := by
  refine PC.of_sig mix sig_150 ⟨rfl, trivial⟩ rfl fun hok => ?_
  have e_e : D.lst [e.fld 0, e.fld 1, e.fld 2, e.fld 3, e.fld 4, e.fld 5, e.fld 6] = e := by simpa [List.range, List.range.loop] using okL_eta (hok _ (.head _))
  have k_e : okL [(.int .i64), (.int .i64), (.int .i64), (.int .i64), (.int .i64), (.int .i64), .bool] e := (hok _ (.head _))
  apply says_den (φ := (phi_150))
  simp [e_e, tree_150, T.says, X.den, O1.den, O2.den, O3.den, callD, XArg.ev, XArg.dat, Callee'.num, backs, DArg.back, Conds.den, cloArgs, phi_150, pd_142, onPiece]
theorem pd_150 (e : D) (Q : List D → Prop) (ho : Q [.bool (onPiece e)]) : PC Try.prog 150 [.st [(.int .i64), (.int .i64), (.int .i64), (.int .i64), (.int .i64), (.int .i64), .bool] e] [.sc .bool] Q := (pc_150 e).mono fun _ h => h ▸ ho
/- impl.onPlayer -/
def phi_151 : Nat → List D → List D
  | 143, [a] => [.bool (inR a.toI 0 2)]
  | _, _ => []
theorem pc_151 (e : D) : PC Try.prog 151 [.st [(.int .i64), (.int .i64), (.int .i64), (.int .i64), (.int .i64), (.int .i64), .bool] e] [.sc .bool] fun o => o = [.bool (onPlayer e)] := by
  refine PC.of_sig mix sig_151 ⟨rfl, trivial⟩ rfl fun hok => ?_
  have e_e : D.lst [e.fld 0, e.fld 1, e.fld 2, e.fld 3, e.fld 4, e.fld 5, e.fld 6] = e := by simpa [List.range, List.range.loop] using okL_eta (hok _ (.head _))
  have k_e : okL [(.int .i64), (.int .i64), (.int .i64), (.int .i64), (.int .i64), (.int .i64), .bool] e := (hok _ (.head _))
  apply says_den (φ := (phi_151))
  simp [e_e, tree_151, T.says, X.den, O1.den, O2.den, O3.den, callD, XArg.ev, XArg.dat, Callee'.num, backs, DArg.back, Conds.den, cloArgs, phi_151, pd_143, onPlayer]
theorem pd_151 (e : D) (Q : List D → Prop) (ho : Q [.bool (onPlayer e)]) : PC Try.prog 151 [.st [(.int .i64), (.int .i64), (.int .i64), (.int .i64), (.int .i64), (.int .i64), .bool] e] [.sc .bool] Q := (pc_151 e).mono fun _ h => h ▸ ho
/- impl.EventOk -/
def phi_58 : Nat → List D → List D
  | 125, [a] => [.bool (inR a.toI 0 2147483647)]
  | 142, [a] => [.bool (inR a.toI 1 99)]
  | 144, [a] => [.bool (inR a.toI 1 4)]
  | 150, [e] => [.bool (onPiece e)]
  | 151, [e] => [.bool (onPlayer e)]
  | _, _ => []
theorem pc_58 (e : D) : PC Try.prog 58 [.st [(.int .i64), (.int .i64), (.int .i64), (.int .i64), (.int .i64), (.int .i64), .bool] e] [.sc .bool] fun o => o = [.bool (eventOk e)] := by
  refine PC.of_sig mix sig_58 ⟨rfl, trivial⟩ rfl fun hok => ?_
  have e_e : D.lst [e.fld 0, e.fld 1, e.fld 2, e.fld 3, e.fld 4, e.fld 5, e.fld 6] = e := by simpa [List.range, List.range.loop] using okL_eta (hok _ (.head _))
  have k_e : okL [(.int .i64), (.int .i64), (.int .i64), (.int .i64), (.int .i64), (.int .i64), .bool] e := (hok _ (.head _))
  apply says_den (φ := (phi_58))
  simp [e_e, tree_58, T.says, X.den, O1.den, O2.den, O3.den, callD, XArg.ev, XArg.dat, Callee'.num, backs, DArg.back, Conds.den, cloArgs, phi_58, pd_125, pd_142, pd_144, pd_150, pd_151]
  (repeat' (first | (with_reducible apply And.intro) | intro _)) <;> grind [eventOk, inR]
theorem pd_58 (e : D) (Q : List D → Prop) (ho : Q [.bool (eventOk e)]) : PC Try.prog 58 [.st [(.int .i64), (.int .i64), (.int .i64), (.int .i64), (.int .i64), (.int .i64), .bool] e] [.sc .bool] Q := (pc_58 e).mono fun _ h => h ▸ ho
/- impl.partOk -/
def phi_147 : Nat → List D → List D
  | 58, [e] => [.bool (eventOk e)]
  | _, _ => []
theorem pc_147 (e : D) : PC Try.prog 147 [.st [(.int .i64), (.int .i64), (.int .i64), (.int .i64), (.int .i64), (.int .i64), .bool] e] [.sc .bool] fun o => o = [.bool (partOk e)] := by
  refine PC.of_sig mix sig_147 ⟨rfl, trivial⟩ rfl fun hok => ?_
  have e_e : D.lst [e.fld 0, e.fld 1, e.fld 2, e.fld 3, e.fld 4, e.fld 5, e.fld 6] = e := by simpa [List.range, List.range.loop] using okL_eta (hok _ (.head _))
  have k_e : okL [(.int .i64), (.int .i64), (.int .i64), (.int .i64), (.int .i64), (.int .i64), .bool] e := (hok _ (.head _))
  apply says_den (φ := (phi_147))
  have hneg : (e.fld 4).toI = -1 → eventOk e = false := by intro h; simp [eventOk, inR, h]
  simp [e_e, tree_147, T.says, X.den, O1.den, O2.den, O3.den, callD, XArg.ev, XArg.dat, Callee'.num, backs, DArg.back, Conds.den, cloArgs, phi_147, pd_58, partOk, ev0]
  all_goals grind
theorem pd_147 (e : D) (Q : List D → Prop) (ho : Q [.bool (partOk e)]) : PC Try.prog 147 [.st [(.int .i64), (.int .i64), (.int .i64), (.int .i64), (.int .i64), (.int .i64), .bool] e] [.sc .bool] Q := (pc_147 e).mono fun _ h => h ▸ ho
/- impl.ActOk$1 -/
def phi_146 : Nat → List D → List D
  | 147, [e] => [.bool (partOk e)]
  | _, _ => []
theorem pc_146 (e : D) : PC Try.prog 146 [.st [(.int .i64), (.int .i64), (.int .i64), (.int .i64), (.int .i64), (.int .i64), .bool] e] [.sc .bool] fun o => o = [.bool (!partOk e)] := by
  refine PC.of_sig mix sig_146 ⟨rfl, trivial⟩ rfl fun hok => ?_
  have e_e : D.lst [e.fld 0, e.fld 1, e.fld 2, e.fld 3, e.fld 4, e.fld 5, e.fld 6] = e := by simpa [List.range, List.range.loop] using okL_eta (hok _ (.head _))
  have k_e : okL [(.int .i64), (.int .i64), (.int .i64), (.int .i64), (.int .i64), (.int .i64), .bool] e := (hok _ (.head _))
  apply says_den (φ := (phi_146))
  simp [e_e, tree_146, T.says, X.den, O1.den, O2.den, O3.den, callD, XArg.ev, XArg.dat, Callee'.num, backs, DArg.back, Conds.den, cloArgs, phi_146, pd_147]
theorem pd_146 (e : D) (Q : List D → Prop) (ho : Q [.bool (!partOk e)]) : PC Try.prog 146 [.st [(.int .i64), (.int .i64), (.int .i64), (.int .i64), (.int .i64), (.int .i64), .bool] e] [.sc .bool] Q := (pc_146 e).mono fun _ h => h ▸ ho
/- slices.IndexFunc[[]impl.Event,impl.Event] -/
def phi_198 : Nat → List D → List D
  | 146, [e] => [.bool (!partOk e)]
  | 0, [e] => [.bool (!partOk e)]
  | _, _ => []
theorem pc_198 (a : D) : PC Try.prog 198 [.sc (.sl [(.int .i64), (.int .i64), (.int .i64), (.int .i64), (.int .i64), (.int .i64), .bool]) a, .clo 146 []] [.sc (.int .i64)] fun o => o = [.int (findR (fun i => !partOk (a.elem i)) a.toL.length)] := by
  refine PC.of_sig mix sig_198 ⟨rfl, trivial, trivial⟩ rfl fun hok => ?_
  have e_a := sl_eta (hok _ (.head _))
  have l_a := sl_len (hok _ (.head _))
  have k_a := sl_all (hok _ (.head _))
  have E_a : ∀ i, i < a.toL.length → D.lst [(a.elem i).fld 0, (a.elem i).fld 1, (a.elem i).fld 2, (a.elem i).fld 3, (a.elem i).fld 4, (a.elem i).fld 5, (a.elem i).fld 6] = a.elem i := fun i hi => by simpa [List.range, List.range.loop] using okL_eta (k_a _ (elem_mem hi))
  apply says_den (φ := (phi_198))
  simp [e_a, E_a, tree_198, T.says, X.den, O1.den, O2.den, O3.den, callD, XArg.ev, XArg.dat, Callee'.num, backs, DArg.back, Conds.den, cloArgs, phi_198, pd_146]
  refine fun _ => ?_
  refine den_for a.toL.length 0 (fun i => [.int i]) (fun i => ∀ j, j < i → (!partOk (a.elem j)) = false) (by simp) (by simp [X.den]) (by simp) fun i hi hR => ?_
  apply says_den (φ := (phi_198))
  by_cases hlt : i < a.toL.length
  · simp [e_a, E_a, tree_198, T.says, X.den, O1.den, O2.den, O3.den, callD, XArg.ev, XArg.dat, Callee'.num, backs, DArg.back, Conds.den, cloArgs, phi_198, pd_146, hlt]
    (repeat' (first | (with_reducible apply And.intro) | intro _))
    · exact (findR_some (p := fun i => !partOk (a.elem i)) hlt (by simp_all) hR).symm
    · (first | omega | (simp only [IntKind.wrap_i64, maxL] at *; omega) | (simp [IntKind.wrap_i64, maxL] at *; omega))
    · grind
  · simp [e_a, E_a, tree_198, T.says, X.den, O1.den, O2.den, O3.den, callD, XArg.ev, XArg.dat, Callee'.num, backs, DArg.back, Conds.den, cloArgs, phi_198, pd_146, hlt]
    (repeat' (first | (with_reducible apply And.intro) | intro _))
    · exact (findR_none fun j hj => hR j (by omega)).symm
theorem pd_198 (a : D) (Q : List D → Prop) (ho : Q [.int (findR (fun i => !partOk (a.elem i)) a.toL.length)]) : PC Try.prog 198 [.sc (.sl [(.int .i64), (.int .i64), (.int .i64), (.int .i64), (.int .i64), (.int .i64), .bool]) a, .clo 146 []] [.sc (.int .i64)] Q := (pc_198 a).mono fun _ h => h ▸ ho
/- slices.ContainsFunc[[]impl.Event,impl.Event] -/
def phi_145 : Nat → List D → List D
  | 146, [e] => [.bool (!partOk e)]
  | 198, [a, _] => [.int (findR (fun i => !partOk (a.elem i)) a.toL.length)]
  | 0, [e] => [.bool (!partOk e)]
  | _, _ => []
theorem pc_145 (a : D) : PC Try.prog 145 [.sc (.sl [(.int .i64), (.int .i64), (.int .i64), (.int .i64), (.int .i64), (.int .i64), .bool]) a, .clo 146 []] [.sc .bool] fun o => o = [.bool (!allR (fun i => partOk (a.elem i)) a.toL.length)] := by
  refine PC.of_sig mix sig_145 ⟨rfl, trivial, trivial⟩ rfl fun hok => ?_
  have e_a := sl_eta (hok _ (.head _))
  have l_a := sl_len (hok _ (.head _))
  have k_a := sl_all (hok _ (.head _))
  have E_a : ∀ i, i < a.toL.length → D.lst [(a.elem i).fld 0, (a.elem i).fld 1, (a.elem i).fld 2, (a.elem i).fld 3, (a.elem i).fld 4, (a.elem i).fld 5, (a.elem i).fld 6] = a.elem i := fun i hi => by simpa [List.range, List.range.loop] using okL_eta (k_a _ (elem_mem hi))
  apply says_den (φ := (phi_145))
  simp [e_a, E_a, tree_145, T.says, X.den, O1.den, O2.den, O3.den, callD, XArg.ev, XArg.dat, Callee'.num, backs, DArg.back, Conds.den, cloArgs, phi_145, pd_146, pd_198, findR_nn]
theorem pd_145 (a : D) (Q : List D → Prop) (ho : Q [.bool (!allR (fun i => partOk (a.elem i)) a.toL.length)]) : PC Try.prog 145 [.sc (.sl [(.int .i64), (.int .i64), (.int .i64), (.int .i64), (.int .i64), (.int .i64), .bool]) a, .clo 146 []] [.sc .bool] Q := (pc_145 a).mono fun _ h => h ▸ ho
/- impl.ActOk -/
def phi_43 : Nat → List D → List D
  | 123, [a, b, c] => [.bool (inR a.toI b.toI c.toI)]
  | 142, [a] => [.bool (inR a.toI 1 99)]
  | 143, [a] => [.bool (inR a.toI 0 2)]
  | 144, [a] => [.bool (inR a.toI 1 4)]
  | 145, [a, _] => [.bool (!allR (fun i => partOk (a.elem i)) a.toL.length)]
  | 146, [e] => [.bool (!partOk e)]
  | _, _ => []
theorem pc_43 (a : D) : PC Try.prog 43 [.st [(.int .i64), (.int .i64), (.int .i64), (.int .i64), (.int .i64), .bool, (.sl [(.int .i64), (.int .i64), (.int .i64), (.int .i64), (.int .i64), (.int .i64), .bool])] a] [.sc .bool] fun o => o = [.bool (actOk a)] := by
  refine PC.of_sig mix sig_43 ⟨rfl, trivial⟩ rfl fun hok => ?_
  have e_a : D.lst [a.fld 0, a.fld 1, a.fld 2, a.fld 3, a.fld 4, a.fld 5, a.fld 6] = a := by simpa [List.range, List.range.loop] using okL_eta (hok _ (.head _))
  have k_a : okL [(.int .i64), (.int .i64), (.int .i64), (.int .i64), (.int .i64), .bool, (.sl [(.int .i64), (.int .i64), (.int .i64), (.int .i64), (.int .i64), (.int .i64), .bool])] a := (hok _ (.head _))
  have e_a_6 : D.lst (a.fld 6).toL = a.fld 6 := sl_eta (okL_at k_a (i := 6) rfl)
  have l_a_6 := sl_len (okL_at k_a (i := 6) rfl)
  have k_a_6 := sl_all (okL_at k_a (i := 6) rfl)
  have E_a_6 : ∀ i, i < (a.fld 6).toL.length → D.lst [((a.fld 6).elem i).fld 0, ((a.fld 6).elem i).fld 1, ((a.fld 6).elem i).fld 2, ((a.fld 6).elem i).fld 3, ((a.fld 6).elem i).fld 4, ((a.fld 6).elem i).fld 5, ((a.fld 6).elem i).fld 6] = (a.fld 6).elem i := fun i hi => by simpa [List.range, List.range.loop] using okL_eta (k_a_6 _ (elem_mem hi))
  apply says_den (φ := (phi_43))
  simp [e_a_6, E_a_6, e_a, tree_43, T.says, X.den, O1.den, O2.den, O3.den, callD, XArg.ev, XArg.dat, Callee'.num, backs, DArg.back, Conds.den, cloArgs, phi_43, pd_123, pd_142, pd_143, pd_144, pd_145, pd_146]
  (repeat' (first | (with_reducible apply And.intro) | intro _))
  all_goals first | (exfalso; omega) | (grind [actOk, plain, inR]) | skip
theorem pd_43 (a : D) (Q : List D → Prop) (ho : Q [.bool (actOk a)]) : PC Try.prog 43 [.st [(.int .i64), (.int .i64), (.int .i64), (.int .i64), (.int .i64), .bool, (.sl [(.int .i64), (.int .i64), (.int .i64), (.int .i64), (.int .i64), (.int .i64), .bool])] a] [.sc .bool] Q := (pc_43 a).mono fun _ h => h ▸ ho
/- spec.l1New -/
theorem pc_113 (a : D) : PC Try.prog 113 [.sc (.sl [(.int .u8)]) a] [.cur] fun o => o = [a] := by
  refine PC.of_sig mix sig_113 ⟨rfl, trivial⟩ rfl fun hok => ?_
  have e_a := sl_eta (hok _ (.head _))
  have l_a := sl_len (hok _ (.head _))
  have k_a := sl_all (hok _ (.head _))
  apply says_den (φ := fun _ _ => [])
  simp [e_a, tree_113, T.says, X.den, O1.den, O2.den, O3.den, callD, XArg.ev, XArg.dat, Callee'.num, backs, DArg.back, Conds.den, cloArgs]
  refine fun _ => ?_
  refine den_loop (fun vs => ∃ (h : Int) (i : Nat), vs = [.int h, .int i] ∧ i ≤ a.toL.length) (fun vs => a.toL.length - ((vs.getD 1 default).toI).toNat) ⟨IntKind.i64.wrap (139871 + (a.toL.length : Int)), 0, by simp [X.den, O1.den, O2.den], by omega⟩ ?_
  rintro vs hvl ⟨h, i, rfl, hi⟩
  apply says_den (φ := fun _ _ => [])
  by_cases hlt : i < a.toL.length
  · have hz : IntKind.i64.wrap ((i : Int) + 1) = ((i + 1 : Nat) : Int) := by (first | omega | (simp only [IntKind.wrap_i64, maxL] at *; omega) | (simp [IntKind.wrap_i64, maxL] at *; omega))
    simp [e_a, tree_113, T.says, X.den, O1.den, O2.den, O3.den, callD, XArg.ev, XArg.dat, Callee'.num, backs, DArg.back, Conds.den, cloArgs, hlt, hz]
    (repeat' (first | (with_reducible apply And.intro) | intro _)) <;> first | exact ⟨_, i + 1, ⟨rfl, by omega⟩, by omega⟩ | exact ⟨i + 1, rfl, by omega⟩ | (rw [hz]; omega) | omega | skip
  · simp [e_a, tree_113, T.says, X.den, O1.den, O2.den, O3.den, callD, XArg.ev, XArg.dat, Callee'.num, backs, DArg.back, Conds.den, cloArgs, hlt]
theorem pd_113 (a : D) (Q : List D → Prop) (ho : Q [a]) : PC Try.prog 113 [.sc (.sl [(.int .u8)]) a] [.cur] Q := (pc_113 a).mono fun _ h => h ▸ ho
/- spec.l1Byte -/
def phi_190 : Nat → List D → (List D → Prop) → Prop
  | _, _, _ => False
theorem pc_190 (c : D) : PC Try.prog 190 [.cur c] [.sc (.int .i64)] fun o => ∃ (m : Int), (0 ≤ m ∧ m ≤ 255) ∧ o = [.int m] := by
  refine PC.of_sigK mix sig_190 ⟨trivial, trivial⟩ rfl fun hok ci ch hci hcn hch => ?_
  have hci := inK_i64 hci
  have hw : ci < c.toL.length → c.toL.length ≤ maxL → IntKind.i64.wrap (ci + 1) = ci + 1 := fun h h2 => by rw [IntKind.wrap_i64]; simp only [maxL] at h2; omega
  apply sayR_den (φ := (phi_190))
  simp [tree_190, T.sayR, inK_i64_iff, RS.oks, RS.ok, CK.okD, X.den, O1.den, O2.den, O3.den, callD, XArg.ev, XArg.dat, Callee'.num, backs, DArg.back, Conds.den, cloArgs]
  (repeat' (first | (with_reducible apply And.intro) | intro _)) <;> first | exact (bits2_and255 _).1 | exact (bits2_and255 _).2 | omega | (rw [hw (by assumption) (by assumption)]; omega) | skip
theorem pd_190 (c : D) (Q : List D → Prop) (ho : ∀ (m : Int), (0 ≤ m ∧ m ≤ 255) → Q [.int m]) : PC Try.prog 190 [.cur c] [.sc (.int .i64)] Q := (pc_190 c).mono (by rintro _ ⟨m, hc, rfl⟩; exact ho m hc)
/- spec.l1Below -/
def phi_117 : Nat → List D → (List D → Prop) → Prop
  | 190, [c], K => ∀ (m : Int), (0 ≤ m ∧ m ≤ 255) → K [.int m]
  | _, _, _ => False
theorem pc_117 (c n : D) : PC Try.prog 117 [.cur c, .sc (.int .i64) n] [.sc (.int .i64)] fun o => ∃ (m : Int), (0 ≤ m ∧ m ≤ 16777215 ∧ (0 < n.toI → m < n.toI) ∧ (n.toI ≤ 0 → m = 0)) ∧ o = [.int m] := by
  refine PC.of_sigK mix sig_117 ⟨trivial, rfl, trivial⟩ rfl fun hok ci ch hci hcn hch => ?_
  have e_n := int_eta (hok _ (.head _))
  have b_n := int_range (hok _ (.head _))
  apply sayR_den (φ := (phi_117))
  simp [e_n, tree_117, T.sayR, inK_i64_iff, RS.oks, RS.ok, CK.okD, X.den, O1.den, O2.den, O3.den, callD, XArg.ev, XArg.dat, Callee'.num, backs, DArg.back, Conds.den, cloArgs, phi_117]
  (repeat' (first | (with_reducible apply And.intro) | intro _)) <;> (try rw [mix3 (by assumption) (by assumption) (by assumption) (by assumption) (by assumption) (by assumption)]) <;> first | omega | assumption | (exact (tmod_lt (by omega) (by omega)).1) | (exact (tmod_lt (by omega) (by omega)).2) | (exact Int.le_trans (tmod_le (by omega) _) (by omega)) | (first | (with_reducible assumption) | (with_reducible exact trivial) | (first | ((with_reducible refine ⟨?_⟩); simp [e_n, tree_117, T.sayR, inK_i64_iff, RS.oks, RS.ok, CK.okD, X.den, O1.den, O2.den, O3.den, callD, XArg.ev, XArg.dat, Callee'.num, backs, DArg.back, Conds.den, cloArgs]; intro K hK; (try simp only [phi_117] at hK); intros; first | contradiction | ((with_reducible refine pd_190 _ _ ?ho); (case ho => exact hK)) | (exact pd_190 _ _ hK)) | ((with_reducible show CallIn _ _ _ _ _); first | (refine .inr ⟨_, rfl, fun K hK => hK⟩) | (refine .inr ⟨_, rfl, fun K hK => hK true⟩) | (refine .inr ⟨_, rfl, fun K hK => hK 0 (by simp)⟩))) | omega | (simp only [IntKind.wrap_i64, maxL] at *; omega) | assumption | rfl | contradiction | grind) | skip
theorem pd_117 (c n : D) (Q : List D → Prop) (ho : ∀ (m : Int), (0 ≤ m ∧ m ≤ 16777215 ∧ (0 < n.toI → m < n.toI) ∧ (n.toI ≤ 0 → m = 0)) → Q [.int m]) : PC Try.prog 117 [.cur c, .sc (.int .i64) n] [.sc (.int .i64)] Q := (pc_117 c n).mono (by rintro _ ⟨m, hc, rfl⟩; exact ho m hc)
/- spec.l1Int -/
def phi_189 : Nat → List D → (List D → Prop) → Prop
  | 117, [c, n], K => ∀ (m : Int), (0 ≤ m ∧ m ≤ 16777215 ∧ (0 < n.toI → m < n.toI) ∧ (n.toI ≤ 0 → m = 0)) → K [.int m]
  | _, _, _ => False
theorem pc_189 (c l : D) (h : l.toL ≠ []) : PC Try.prog 189 [.cur c, .sc (.sl [(.int .i64)]) l] [.sc (.int .i64)] fun o => ∃ (m : Int), (oneOf l m) ∧ o = [.int m] := by
  refine PC.of_sigK mix sig_189 ⟨trivial, rfl, trivial⟩ rfl fun hok ci ch hci hcn hch => ?_
  have e_l := sl_eta (hok _ (.head _))
  have l_l := sl_len (hok _ (.head _))
  have k_l := sl_all (hok _ (.head _))
  apply sayR_den (φ := (phi_189))
  have hp : 0 < l.toL.length := List.length_pos_iff.mpr h
  have hin : ∀ i : Nat, i < l.toL.length → ∃ m : Int, oneOf l m ∧ (l.elem i).fld 0 = .int m := fun i hi => ⟨_, List.mem_map.2 ⟨_, elem_mem hi, rfl⟩, (int_eta (okL_at (k_l _ (elem_mem hi)) (i := 0) rfl)).symm⟩
  simp [e_l, tree_189, T.sayR, inK_i64_iff, RS.oks, RS.ok, CK.okD, X.den, O1.den, O2.den, O3.den, callD, XArg.ev, XArg.dat, Callee'.num, backs, DArg.back, Conds.den, cloArgs, phi_189, hp]
  (repeat' (first | (with_reducible apply And.intro) | intro _)) <;> first | omega | (simpa using hin _ (by omega)) | (first | (with_reducible assumption) | (with_reducible exact trivial) | (first | ((with_reducible refine ⟨?_⟩); simp [e_l, tree_189, T.sayR, inK_i64_iff, RS.oks, RS.ok, CK.okD, X.den, O1.den, O2.den, O3.den, callD, XArg.ev, XArg.dat, Callee'.num, backs, DArg.back, Conds.den, cloArgs]; intro K hK; (try simp only [phi_189] at hK); intros; first | contradiction | ((with_reducible refine pd_117 _ _ _ ?ho); (case ho => exact hK)) | (exact pd_117 _ _ _ hK)) | ((with_reducible show CallIn _ _ _ _ _); first | (refine .inr ⟨_, rfl, fun K hK => hK⟩) | (refine .inr ⟨_, rfl, fun K hK => hK true⟩) | (refine .inr ⟨_, rfl, fun K hK => hK 0 (by simp)⟩))) | omega | (simp only [IntKind.wrap_i64, maxL] at *; omega) | assumption | rfl | contradiction | grind) | skip
theorem pd_189 (c l : D) (h : l.toL ≠ []) (Q : List D → Prop) (ho : ∀ (m : Int), (oneOf l m) → Q [.int m]) : PC Try.prog 189 [.cur c, .sc (.sl [(.int .i64)]) l] [.sc (.int .i64)] Q := (pc_189 c l h).mono (by rintro _ ⟨m, hc, rfl⟩; exact ho m hc)
/- spec.StateNew -/
def phi_191 : Nat → List D → (List D → Prop) → Prop
  | _, _, _ => False
theorem pc_191 (n : D) : PC Try.prog 191 [.sc (.int .i64) n] [.st [(.sl [(.int .i64), (.int .i64), (.int .i64), (.int .i64), (.int .i64), (.int .i64), (.int .i64), (.int .i64), (.int .i64), (.int .i64), (.int .i64), .bool, .bool]), (.sl [(.int .i64), (.int .i64), .bool]), (.int .i64), (.int .i64)]] fun o => ∃ (s : D), ((s.fld 0).toL = [] ∧ 2 ≤ (s.fld 1).toL.length ∧ (s.fld 1).toL.length ≤ 3) ∧ o = [s] := by
  refine PC.of_sig mix sig_191 ⟨rfl, trivial⟩ rfl fun hok => ?_
  have e_n := int_eta (hok _ (.head _))
  have b_n := int_range (hok _ (.head _))
  apply sayR_den (φ := (phi_191))
  simp [e_n, tree_191, T.sayR, inK_i64_iff, RS.oks, RS.ok, CK.okD, X.den, O1.den, O2.den, O3.den, callD, XArg.ev, XArg.dat, Callee'.num, backs, DArg.back, Conds.den, cloArgs]
  all_goals ((repeat' (first | (with_reducible apply And.intro) | intro _)) <;> first | exact ⟨_, by simp, rfl⟩ | (refine ⟨D.lst _, ?_, rfl⟩; simp) | (first | (with_reducible assumption) | (with_reducible exact trivial) | (first | ((with_reducible refine ⟨?_⟩); simp [e_n, tree_191, T.sayR, inK_i64_iff, RS.oks, RS.ok, CK.okD, X.den, O1.den, O2.den, O3.den, callD, XArg.ev, XArg.dat, Callee'.num, backs, DArg.back, Conds.den, cloArgs]; intro K hK; intros; first | contradiction) | ((with_reducible show CallIn _ _ _ _ _); first | (refine .inr ⟨_, rfl, fun K hK => hK⟩) | (refine .inr ⟨_, rfl, fun K hK => hK true⟩) | (refine .inr ⟨_, rfl, fun K hK => hK 0 (by simp)⟩))) | omega | (simp only [IntKind.wrap_i64, maxL] at *; omega) | assumption | rfl | contradiction | grind) | skip)
theorem pd_191 (n : D) (Q : List D → Prop) (ho : ∀ (s : D), ((s.fld 0).toL = [] ∧ 2 ≤ (s.fld 1).toL.length ∧ (s.fld 1).toL.length ≤ 3) → Q [s]) : PC Try.prog 191 [.sc (.int .i64) n] [.st [(.sl [(.int .i64), (.int .i64), (.int .i64), (.int .i64), (.int .i64), (.int .i64), (.int .i64), (.int .i64), (.int .i64), (.int .i64), (.int .i64), .bool, .bool]), (.sl [(.int .i64), (.int .i64), .bool]), (.int .i64), (.int .i64)]] Q := (pc_191 n).mono (by rintro _ ⟨s, hc, rfl⟩; exact ho s hc)
/- spec.l1Once -/
def phi_115 : Nat → List D → (List D → Prop) → Prop
  | 117, [c, n], K => ∀ (m : Int), (0 ≤ m ∧ m ≤ 16777215 ∧ (0 < n.toI → m < n.toI) ∧ (n.toI ≤ 0 → m = 0)) → K [.int m]
  | _, _, _ => False
theorem pc_115 (c n : D) : PC Try.prog 115 [.cur c, .sc (.int .i64) n] [.sc .bool] fun o => ∃ (b : Bool), o = [.bool b] := by
  refine PC.of_sigK mix sig_115 ⟨trivial, rfl, trivial⟩ rfl fun hok ci ch hci hcn hch => ?_
  have e_n := int_eta (hok _ (.head _))
  have b_n := int_range (hok _ (.head _))
  apply sayR_den (φ := (phi_115))
  simp [e_n, tree_115, T.sayR, inK_i64_iff, RS.oks, RS.ok, CK.okD, X.den, O1.den, O2.den, O3.den, callD, XArg.ev, XArg.dat, Callee'.num, backs, DArg.back, Conds.den, cloArgs, phi_115]
  all_goals ((repeat' (first | (with_reducible apply And.intro) | intro _)) <;> (first | (with_reducible assumption) | (with_reducible exact trivial) | (first | ((with_reducible refine ⟨?_⟩); simp [e_n, tree_115, T.sayR, inK_i64_iff, RS.oks, RS.ok, CK.okD, X.den, O1.den, O2.den, O3.den, callD, XArg.ev, XArg.dat, Callee'.num, backs, DArg.back, Conds.den, cloArgs]; intro K hK; (try simp only [phi_115] at hK); intros; first | contradiction | ((with_reducible refine pd_117 _ _ _ ?ho); (case ho => exact hK)) | (exact pd_117 _ _ _ hK)) | ((with_reducible show CallIn _ _ _ _ _); first | (refine .inr ⟨_, rfl, fun K hK => hK⟩) | (refine .inr ⟨_, rfl, fun K hK => hK true⟩) | (refine .inr ⟨_, rfl, fun K hK => hK 0 (by simp)⟩))) | omega | (simp only [IntKind.wrap_i64, maxL] at *; omega) | assumption | rfl | contradiction | grind))
theorem pd_115 (c n : D) (Q : List D → Prop) (ho : ∀ (b : Bool), Q [.bool b]) : PC Try.prog 115 [.cur c, .sc (.int .i64) n] [.sc .bool] Q := (pc_115 c n).mono (by rintro _ ⟨b, rfl⟩; exact ho b)
/- spec.l4Draw -/
def phi_192 : Nat → List D → (List D → Prop) → Prop
  | 115, [c, n], K => ∀ (b : Bool), K [.bool b]
  | 117, [c, n], K => ∀ (m : Int), (0 ≤ m ∧ m ≤ 16777215 ∧ (0 < n.toI → m < n.toI) ∧ (n.toI ≤ 0 → m = 0)) → K [.int m]
  | 189, [c, l], K => ∀ (m : Int), (oneOf l m) → K [.int m]
  | _, _, _ => False
theorem pc_192 (c n : D) : PC Try.prog 192 [.cur c, .sc (.int .i64) n] [.st [(.int .i64), (.int .i64), (.int .i64), (.int .i64), (.int .i64), (.int .i64), (.int .i64), (.int .i64), (.int .i64), (.int .i64), (.int .i64), .bool, .bool]] fun o => ∃ (p : D), (-1 ≤ (p.fld 2).toI) ∧ o = [p] := by
  refine PC.of_sigK mix sig_192 ⟨trivial, rfl, trivial⟩ rfl fun hok ci ch hci hcn hch => ?_
  have e_n := int_eta (hok _ (.head _))
  have b_n := int_range (hok _ (.head _))
  apply sayR_den (φ := (phi_192))
  simp [e_n, tree_192, T.sayR, inK_i64_iff, RS.oks, RS.ok, CK.okD, X.den, O1.den, O2.den, O3.den, callD, XArg.ev, XArg.dat, Callee'.num, backs, DArg.back, Conds.den, cloArgs, phi_192]
  (repeat' (first | (with_reducible apply And.intro) | intro _)) <;> first | (first | (with_reducible assumption) | (with_reducible exact trivial) | (first | ((with_reducible refine ⟨?_⟩); simp [e_n, tree_192, T.sayR, inK_i64_iff, RS.oks, RS.ok, CK.okD, X.den, O1.den, O2.den, O3.den, callD, XArg.ev, XArg.dat, Callee'.num, backs, DArg.back, Conds.den, cloArgs]; intro K hK; (try simp only [phi_192] at hK); intros; first | contradiction | ((with_reducible refine pd_115 _ _ _ ?ho); (case ho => exact hK)) | ((with_reducible refine pd_117 _ _ _ ?ho); (case ho => exact hK)) | ((with_reducible refine pd_189 _ _ ?_ _ ?ho); (case ho => exact hK); all_goals (exact (by first | (with_reducible assumption) | omega | assumption | (simp; done) | (simp; omega) | (simp [*]; done) | exact smallE_of (n := 1048576) (by omega) (by omega) | (simp [*] at *; omega) | grind [szS]))) | (exact pd_115 _ _ _ hK) | (exact pd_117 _ _ _ hK) | (exact pd_189 _ _ (by first | (with_reducible assumption) | omega | assumption | (simp; done) | (simp; omega) | (simp [*]; done) | exact smallE_of (n := 1048576) (by omega) (by omega) | (simp [*] at *; omega) | grind [szS]) _ hK)) | ((with_reducible show CallIn _ _ _ _ _); first | (refine .inr ⟨_, rfl, fun K hK => hK⟩) | (refine .inr ⟨_, rfl, fun K hK => hK true⟩) | (refine .inr ⟨_, rfl, fun K hK => hK 0 (by simp)⟩))) | omega | (simp only [IntKind.wrap_i64, maxL] at *; omega) | assumption | rfl | contradiction | grind) | skip
  obtain ⟨I, hI⟩ : ∃ I : List D → Prop, ∀ vs, I vs ↔ ∃ (i : Nat) (t : Int), vs = [.int i, .int t] ∧ i ≤ 6 := ⟨_, fun _ => Iff.rfl⟩
  obtain ⟨μ, hμ⟩ : ∃ μ : List D → Nat, ∀ vs, μ vs = 6 - ((vs.getD 0 default).toI).toNat := ⟨_, fun _ => rfl⟩
  refine den_loop I μ ((hI _).2 ⟨0, 0, by simp [X.den], by omega⟩) ?_
  intro vs hvl hv
  obtain ⟨i, t, rfl, hinv⟩ := (hI _).1 hv
  clear hv
  apply sayR_den (φ := (phi_192))
  by_cases hlt : i < 6
  · have hz : IntKind.i64.wrap ((i : Int) + 1) = ((i + 1 : Nat) : Int) := by (first | omega | (simp only [IntKind.wrap_i64, maxL] at *; omega) | (simp [IntKind.wrap_i64, maxL] at *; omega))
    have hlt2 : (i : Int) < 6 := by omega
    simp [e_n, tree_192, T.sayR, inK_i64_iff, RS.oks, RS.ok, CK.okD, X.den, O1.den, O2.den, O3.den, callD, XArg.ev, XArg.dat, Callee'.num, backs, DArg.back, Conds.den, cloArgs, phi_192, hlt, hlt2, hz]
    (repeat' (first | (with_reducible apply And.intro) | intro _)) <;> first | (exact (hI _).2 ⟨i + 1, _, rfl, by omega⟩) | (rw [hμ, hμ]; simp; omega) | (first | (with_reducible assumption) | (with_reducible exact trivial) | (first | ((with_reducible refine ⟨?_⟩); simp [e_n, tree_192, T.sayR, inK_i64_iff, RS.oks, RS.ok, CK.okD, X.den, O1.den, O2.den, O3.den, callD, XArg.ev, XArg.dat, Callee'.num, backs, DArg.back, Conds.den, cloArgs]; intro K hK; (try simp only [phi_192] at hK); intros; first | contradiction | ((with_reducible refine pd_115 _ _ _ ?ho); (case ho => exact hK)) | ((with_reducible refine pd_117 _ _ _ ?ho); (case ho => exact hK)) | ((with_reducible refine pd_189 _ _ ?_ _ ?ho); (case ho => exact hK); all_goals (exact (by first | (with_reducible assumption) | omega | assumption | (simp; done) | (simp; omega) | (simp [*]; done) | exact smallE_of (n := 1048576) (by omega) (by omega) | (simp [*] at *; omega) | grind [szS]))) | (exact pd_115 _ _ _ hK) | (exact pd_117 _ _ _ hK) | (exact pd_189 _ _ (by first | (with_reducible assumption) | omega | assumption | (simp; done) | (simp; omega) | (simp [*]; done) | exact smallE_of (n := 1048576) (by omega) (by omega) | (simp [*] at *; omega) | grind [szS]) _ hK)) | ((with_reducible show CallIn _ _ _ _ _); first | (refine .inr ⟨_, rfl, fun K hK => hK⟩) | (refine .inr ⟨_, rfl, fun K hK => hK true⟩) | (refine .inr ⟨_, rfl, fun K hK => hK 0 (by simp)⟩))) | omega | (simp only [IntKind.wrap_i64, maxL] at *; omega) | assumption | rfl | contradiction | grind) | skip
  · have : i = 6 := by omega
    subst this
    simp [e_n, tree_192, T.sayR, inK_i64_iff, RS.oks, RS.ok, CK.okD, X.den, O1.den, O2.den, O3.den, callD, XArg.ev, XArg.dat, Callee'.num, backs, DArg.back, Conds.den, cloArgs, phi_192]
    (repeat' (first | (with_reducible apply And.intro) | intro _)) <;> first | (first | (with_reducible assumption) | (with_reducible exact trivial) | (first | ((with_reducible refine ⟨?_⟩); simp [e_n, tree_192, T.sayR, inK_i64_iff, RS.oks, RS.ok, CK.okD, X.den, O1.den, O2.den, O3.den, callD, XArg.ev, XArg.dat, Callee'.num, backs, DArg.back, Conds.den, cloArgs]; intro K hK; (try simp only [phi_192] at hK); intros; first | contradiction | ((with_reducible refine pd_115 _ _ _ ?ho); (case ho => exact hK)) | ((with_reducible refine pd_117 _ _ _ ?ho); (case ho => exact hK)) | ((with_reducible refine pd_189 _ _ ?_ _ ?ho); (case ho => exact hK); all_goals (exact (by first | (with_reducible assumption) | omega | assumption | (simp; done) | (simp; omega) | (simp [*]; done) | exact smallE_of (n := 1048576) (by omega) (by omega) | (simp [*] at *; omega) | grind [szS]))) | (exact pd_115 _ _ _ hK) | (exact pd_117 _ _ _ hK) | (exact pd_189 _ _ (by first | (with_reducible assumption) | omega | assumption | (simp; done) | (simp; omega) | (simp [*]; done) | exact smallE_of (n := 1048576) (by omega) (by omega) | (simp [*] at *; omega) | grind [szS]) _ hK)) | ((with_reducible show CallIn _ _ _ _ _); first | (refine .inr ⟨_, rfl, fun K hK => hK⟩) | (refine .inr ⟨_, rfl, fun K hK => hK true⟩) | (refine .inr ⟨_, rfl, fun K hK => hK 0 (by simp)⟩))) | omega | (simp only [IntKind.wrap_i64, maxL] at *; omega) | assumption | rfl | contradiction | grind) | (refine ⟨_, ?_, rfl⟩; simp; (first | omega | (simp only [IntKind.wrap_i64, maxL] at *; omega) | (simp [IntKind.wrap_i64, maxL] at *; omega))) | skip
theorem pd_192 (c n : D) (Q : List D → Prop) (ho : ∀ (p : D), (-1 ≤ (p.fld 2).toI) → Q [p]) : PC Try.prog 192 [.cur c, .sc (.int .i64) n] [.st [(.int .i64), (.int .i64), (.int .i64), (.int .i64), (.int .i64), (.int .i64), (.int .i64), (.int .i64), (.int .i64), (.int .i64), (.int .i64), .bool, .bool]] Q := (pc_192 c n).mono (by rintro _ ⟨p, hc, rfl⟩; exact ho p hc)
/- spec.l5Draw -/
def phi_119 : Nat → List D → (List D → Prop) → Prop
  | 117, [c, n], K => ∀ (m : Int), (0 ≤ m ∧ m ≤ 16777215 ∧ (0 < n.toI → m < n.toI) ∧ (n.toI ≤ 0 → m = 0)) → K [.int m]
  | 189, [c, l], K => ∀ (m : Int), (oneOf l m) → K [.int m]
  | 191, [n], K => ∀ (s : D), ((s.fld 0).toL = [] ∧ 2 ≤ (s.fld 1).toL.length ∧ (s.fld 1).toL.length ≤ 3) → K [s]
  | 192, [c, n], K => ∀ (p : D), (-1 ≤ (p.fld 2).toI) → K [p]
  | _, _, _ => False
theorem pc_119 (c : D) : PC Try.prog 119 [.cur c] [.st [(.sl [(.int .i64), (.int .i64), (.int .i64), (.int .i64), (.int .i64), (.int .i64), (.int .i64), (.int .i64), (.int .i64), (.int .i64), (.int .i64), .bool, .bool]), (.sl [(.int .i64), (.int .i64), .bool]), (.int .i64), (.int .i64)]] fun o => ∃ (s : D), (stateN 5 3 s) ∧ o = [s] := by
  refine PC.of_sigK mix sig_119 ⟨trivial, trivial⟩ rfl fun hok ci ch hci hcn hch => ?_
  apply sayR_den (φ := (phi_119))
  simp [tree_119, T.sayR, inK_i64_iff, RS.oks, RS.ok, CK.okD, X.den, O1.den, O2.den, O3.den, callD, XArg.ev, XArg.dat, Callee'.num, backs, DArg.back, Conds.den, cloArgs, phi_119]
  (repeat' (first | (with_reducible apply And.intro) | intro _)) <;> first | (first | (with_reducible assumption) | (with_reducible exact trivial) | (first | ((with_reducible refine ⟨?_⟩); simp [tree_119, T.sayR, inK_i64_iff, RS.oks, RS.ok, CK.okD, X.den, O1.den, O2.den, O3.den, callD, XArg.ev, XArg.dat, Callee'.num, backs, DArg.back, Conds.den, cloArgs]; intro K hK; (try simp only [phi_119] at hK); intros; first | contradiction | ((with_reducible refine pd_117 _ _ _ ?ho); (case ho => exact hK)) | ((with_reducible refine pd_189 _ _ ?_ _ ?ho); (case ho => exact hK); all_goals (exact (by first | (with_reducible assumption) | omega | assumption | (simp; done) | (simp; omega) | (simp [*]; done) | exact smallE_of (n := 1048576) (by omega) (by omega) | (simp [*] at *; omega) | grind [szS]))) | ((with_reducible refine pd_191 _ _ ?ho); (case ho => exact hK)) | ((with_reducible refine pd_192 _ _ _ ?ho); (case ho => exact hK)) | (exact pd_117 _ _ _ hK) | (exact pd_189 _ _ (by first | (with_reducible assumption) | omega | assumption | (simp; done) | (simp; omega) | (simp [*]; done) | exact smallE_of (n := 1048576) (by omega) (by omega) | (simp [*] at *; omega) | grind [szS]) _ hK) | (exact pd_191 _ _ hK) | (exact pd_192 _ _ _ hK)) | ((with_reducible show CallIn _ _ _ _ _); first | (refine .inr ⟨_, rfl, fun K hK => hK⟩) | (refine .inr ⟨_, rfl, fun K hK => hK true⟩) | (refine .inr ⟨_, rfl, fun K hK => hK 0 (by simp)⟩))) | omega | (simp only [IntKind.wrap_i64, maxL] at *; omega) | assumption | rfl | contradiction | grind) | skip
  rename_i s0 hs0 hs1 hs2 hk m1 _ _ _ _ _ m2 _ _ _ _ _
  have e1 := sl_eta (okL_at hk (i := 1) rfl)
  have e0 : s0.fld 0 = .lst [] := by rw [← sl_eta (okL_at hk (i := 0) rfl), hs0]
  obtain ⟨I, hI⟩ : ∃ I : List D → Prop, ∀ vs, I vs ↔ ∃ (i : Nat) (l : List D), vs = [.int i, .lst l] ∧ i ≤ 2 ∧ 2 ≤ l.length ∧ l.length ≤ 3 := ⟨_, fun _ => Iff.rfl⟩
  obtain ⟨μ, hμ⟩ : ∃ μ : List D → Nat, ∀ vs, μ vs = 2 - ((vs.getD 0 default).toI).toNat := ⟨_, fun _ => rfl⟩
  refine den_loop I μ ((hI _).2 ⟨0, (s0.fld 1).toL, by simp [X.den, O1.den, e1], by omega, hs1, hs2⟩) ?_
  intro vs hvl hv
  obtain ⟨i, l, rfl, hinv⟩ := (hI _).1 hv
  clear hv
  apply sayR_den (φ := (phi_119))
  by_cases hlt : i < 2
  · have hz : IntKind.i64.wrap ((i : Int) + 1) = ((i + 1 : Nat) : Int) := by (first | omega | (simp only [IntKind.wrap_i64, maxL] at *; omega) | (simp [IntKind.wrap_i64, maxL] at *; omega))
    have hlt2 : (i : Int) < 2 := by omega
    have hl2 : i < l.length := by omega
    simp [tree_119, T.sayR, inK_i64_iff, RS.oks, RS.ok, CK.okD, X.den, O1.den, O2.den, O3.den, callD, XArg.ev, XArg.dat, Callee'.num, backs, DArg.back, Conds.den, cloArgs, phi_119, hlt, hlt2, hz, hl2]
    (repeat' (first | (with_reducible apply And.intro) | intro _)) <;> first | (exact (hI _).2 ⟨i + 1, _, rfl, by omega, by simp; omega, by simp; omega⟩) | (rw [hμ, hμ]; simp; omega) | (first | (with_reducible assumption) | (with_reducible exact trivial) | (first | ((with_reducible refine ⟨?_⟩); simp [tree_119, T.sayR, inK_i64_iff, RS.oks, RS.ok, CK.okD, X.den, O1.den, O2.den, O3.den, callD, XArg.ev, XArg.dat, Callee'.num, backs, DArg.back, Conds.den, cloArgs]; intro K hK; (try simp only [phi_119] at hK); intros; first | contradiction | ((with_reducible refine pd_117 _ _ _ ?ho); (case ho => exact hK)) | ((with_reducible refine pd_189 _ _ ?_ _ ?ho); (case ho => exact hK); all_goals (exact (by first | (with_reducible assumption) | omega | assumption | (simp; done) | (simp; omega) | (simp [*]; done) | exact smallE_of (n := 1048576) (by omega) (by omega) | (simp [*] at *; omega) | grind [szS]))) | ((with_reducible refine pd_191 _ _ ?ho); (case ho => exact hK)) | ((with_reducible refine pd_192 _ _ _ ?ho); (case ho => exact hK)) | (exact pd_117 _ _ _ hK) | (exact pd_189 _ _ (by first | (with_reducible assumption) | omega | assumption | (simp; done) | (simp; omega) | (simp [*]; done) | exact smallE_of (n := 1048576) (by omega) (by omega) | (simp [*] at *; omega) | grind [szS]) _ hK) | (exact pd_191 _ _ hK) | (exact pd_192 _ _ _ hK)) | ((with_reducible show CallIn _ _ _ _ _); first | (refine .inr ⟨_, rfl, fun K hK => hK⟩) | (refine .inr ⟨_, rfl, fun K hK => hK true⟩) | (refine .inr ⟨_, rfl, fun K hK => hK 0 (by simp)⟩))) | omega | (simp only [IntKind.wrap_i64, maxL] at *; omega) | assumption | rfl | contradiction | grind) | skip
  · have : i = 2 := by omega
    subst this
    simp [tree_119, T.sayR, inK_i64_iff, RS.oks, RS.ok, CK.okD, X.den, O1.den, O2.den, O3.den, callD, XArg.ev, XArg.dat, Callee'.num, backs, DArg.back, Conds.den, cloArgs, phi_119]
    (repeat' (first | (with_reducible apply And.intro) | intro _)) <;> first | (first | (with_reducible assumption) | (with_reducible exact trivial) | (first | ((with_reducible refine ⟨?_⟩); simp [tree_119, T.sayR, inK_i64_iff, RS.oks, RS.ok, CK.okD, X.den, O1.den, O2.den, O3.den, callD, XArg.ev, XArg.dat, Callee'.num, backs, DArg.back, Conds.den, cloArgs]; intro K hK; (try simp only [phi_119] at hK); intros; first | contradiction | ((with_reducible refine pd_117 _ _ _ ?ho); (case ho => exact hK)) | ((with_reducible refine pd_189 _ _ ?_ _ ?ho); (case ho => exact hK); all_goals (exact (by first | (with_reducible assumption) | omega | assumption | (simp; done) | (simp; omega) | (simp [*]; done) | exact smallE_of (n := 1048576) (by omega) (by omega) | (simp [*] at *; omega) | grind [szS]))) | ((with_reducible refine pd_191 _ _ ?ho); (case ho => exact hK)) | ((with_reducible refine pd_192 _ _ _ ?ho); (case ho => exact hK)) | (exact pd_117 _ _ _ hK) | (exact pd_189 _ _ (by first | (with_reducible assumption) | omega | assumption | (simp; done) | (simp; omega) | (simp [*]; done) | exact smallE_of (n := 1048576) (by omega) (by omega) | (simp [*] at *; omega) | grind [szS]) _ hK) | (exact pd_191 _ _ hK) | (exact pd_192 _ _ _ hK)) | ((with_reducible show CallIn _ _ _ _ _); first | (refine .inr ⟨_, rfl, fun K hK => hK⟩) | (refine .inr ⟨_, rfl, fun K hK => hK true⟩) | (refine .inr ⟨_, rfl, fun K hK => hK 0 (by simp)⟩))) | omega | (simp only [IntKind.wrap_i64, maxL] at *; omega) | assumption | rfl | contradiction | grind) | skip
    rename_i m3 h30 _ h34 _ _
    obtain ⟨k, hk3⟩ : ∃ k : Nat, m3 = k := ⟨m3.toNat, by omega⟩
    subst hk3
    have hw : IntKind.i64.wrap (1 + (k : Int)) = ((k + 1 : Nat) : Int) := by (first | omega | (simp only [IntKind.wrap_i64, maxL] at *; omega) | (simp [IntKind.wrap_i64, maxL] at *; omega))
    obtain ⟨I, hI⟩ : ∃ I : List D → Prop, ∀ vs, I vs ↔ ∃ (q : Int) (j : Nat) (ps : List D), vs = [.int q, .int j, .lst ps] ∧ ps.length + j = k + 1 ∧ ∀ x ∈ ps, -1 ≤ (x.fld 2).toI := ⟨_, fun _ => Iff.rfl⟩
    obtain ⟨μ, hμ⟩ : ∃ μ : List D → Nat, ∀ vs, μ vs = ((vs.getD 1 default).toI).toNat := ⟨_, fun _ => rfl⟩
    refine den_loop I μ ((hI _).2 ⟨0, k + 1, [], by simp [X.den, O1.den, O2.den, e0, hw], by simp, by simp⟩) ?_
    intro vs hvl hv
    obtain ⟨q, j, ps, rfl, hinv⟩ := (hI _).1 hv
    clear hv
    apply sayR_den (φ := (phi_119))
    cases j with
    | succ j =>
      have hz : IntKind.i64.wrap (j : Int) = j := by (first | omega | (simp only [IntKind.wrap_i64, maxL] at *; omega) | (simp [IntKind.wrap_i64, maxL] at *; omega))
      have hp : (0 : Int) < (j : Int) + 1 := by omega
      simp [tree_119, T.sayR, inK_i64_iff, RS.oks, RS.ok, CK.okD, X.den, O1.den, O2.den, O3.den, callD, XArg.ev, XArg.dat, Callee'.num, backs, DArg.back, Conds.den, cloArgs, phi_119, hz, hp]
      (repeat' (first | (with_reducible apply And.intro) | intro _)) <;> first | ((with_reducible refine (hI _).2 ?_); refine ⟨_, j, _, rfl, (by simp only [List.length_append, List.length_singleton]; omega), sides_app hinv.2 ?_⟩; first | (rename_i h _; exact h) | (rename_i h _ _; exact h)) | (rw [hμ, hμ]; simp <;> omega) | (first | (with_reducible assumption) | (with_reducible exact trivial) | (first | ((with_reducible refine ⟨?_⟩); simp [tree_119, T.sayR, inK_i64_iff, RS.oks, RS.ok, CK.okD, X.den, O1.den, O2.den, O3.den, callD, XArg.ev, XArg.dat, Callee'.num, backs, DArg.back, Conds.den, cloArgs]; intro K hK; (try simp only [phi_119] at hK); intros; first | contradiction | ((with_reducible refine pd_117 _ _ _ ?ho); (case ho => exact hK)) | ((with_reducible refine pd_189 _ _ ?_ _ ?ho); (case ho => exact hK); all_goals (exact (by first | (with_reducible assumption) | omega | assumption | (simp; done) | (simp; omega) | (simp [*]; done) | exact smallE_of (n := 1048576) (by omega) (by omega) | (simp [*] at *; omega) | grind [szS]))) | ((with_reducible refine pd_191 _ _ ?ho); (case ho => exact hK)) | ((with_reducible refine pd_192 _ _ _ ?ho); (case ho => exact hK)) | (exact pd_117 _ _ _ hK) | (exact pd_189 _ _ (by first | (with_reducible assumption) | omega | assumption | (simp; done) | (simp; omega) | (simp [*]; done) | exact smallE_of (n := 1048576) (by omega) (by omega) | (simp [*] at *; omega) | grind [szS]) _ hK) | (exact pd_191 _ _ hK) | (exact pd_192 _ _ _ hK)) | ((with_reducible show CallIn _ _ _ _ _); first | (refine .inr ⟨_, rfl, fun K hK => hK⟩) | (refine .inr ⟨_, rfl, fun K hK => hK true⟩) | (refine .inr ⟨_, rfl, fun K hK => hK 0 (by simp)⟩))) | omega | (simp only [IntKind.wrap_i64, maxL] at *; omega) | assumption | rfl | contradiction | grind) | skip
    | zero =>
      simp [tree_119, T.sayR, inK_i64_iff, RS.oks, RS.ok, CK.okD, X.den, O1.den, O2.den, O3.den, callD, XArg.ev, XArg.dat, Callee'.num, backs, DArg.back, Conds.den, cloArgs, phi_119]
      exact stateN_mk (by omega) (by omega) (by omega) (by omega) hinv.2
theorem pd_119 (c : D) (Q : List D → Prop) (ho : ∀ (s : D), (stateN 5 3 s) → Q [s]) : PC Try.prog 119 [.cur c] [.st [(.sl [(.int .i64), (.int .i64), (.int .i64), (.int .i64), (.int .i64), (.int .i64), (.int .i64), (.int .i64), (.int .i64), (.int .i64), (.int .i64), .bool, .bool]), (.sl [(.int .i64), (.int .i64), .bool]), (.int .i64), (.int .i64)]] Q := (pc_119 c).mono (by rintro _ ⟨s, hc, rfl⟩; exact ho s hc)
/- spec.l1Odd -/
def phi_116 : Nat → List D → (List D → Prop) → Prop
  | 189, [c, l], K => ∀ (m : Int), (oneOf l m) → K [.int m]
  | _, _, _ => False
theorem pc_116 (c : D) : PC Try.prog 116 [.cur c] [.sc (.int .i64)] fun o => ∃ (m : Int), o = [.int m] := by
  refine PC.of_sigK mix sig_116 ⟨trivial, trivial⟩ rfl fun hok ci ch hci hcn hch => ?_
  apply sayR_den (φ := (phi_116))
  simp [tree_116, T.sayR, inK_i64_iff, RS.oks, RS.ok, CK.okD, X.den, O1.den, O2.den, O3.den, callD, XArg.ev, XArg.dat, Callee'.num, backs, DArg.back, Conds.den, cloArgs, phi_116]
  all_goals ((repeat' (first | (with_reducible apply And.intro) | intro _)) <;> (first | (with_reducible assumption) | (with_reducible exact trivial) | (first | ((with_reducible refine ⟨?_⟩); simp [tree_116, T.sayR, inK_i64_iff, RS.oks, RS.ok, CK.okD, X.den, O1.den, O2.den, O3.den, callD, XArg.ev, XArg.dat, Callee'.num, backs, DArg.back, Conds.den, cloArgs]; intro K hK; (try simp only [phi_116] at hK); intros; first | contradiction | ((with_reducible refine pd_189 _ _ ?_ _ ?ho); (case ho => exact hK); all_goals (exact (by first | (with_reducible assumption) | omega | assumption | (simp; done) | (simp; omega) | (simp [*]; done) | exact smallE_of (n := 1048576) (by omega) (by omega) | (simp [*] at *; omega) | grind [szS]))) | (exact pd_189 _ _ (by first | (with_reducible assumption) | omega | assumption | (simp; done) | (simp; omega) | (simp [*]; done) | exact smallE_of (n := 1048576) (by omega) (by omega) | (simp [*] at *; omega) | grind [szS]) _ hK)) | ((with_reducible show CallIn _ _ _ _ _); first | (refine .inr ⟨_, rfl, fun K hK => hK⟩) | (refine .inr ⟨_, rfl, fun K hK => hK true⟩) | (refine .inr ⟨_, rfl, fun K hK => hK 0 (by simp)⟩))) | omega | (simp only [IntKind.wrap_i64, maxL] at *; omega) | assumption | rfl | contradiction | grind))
theorem pd_116 (c : D) (Q : List D → Prop) (ho : ∀ (m : Int), Q [.int m]) : PC Try.prog 116 [.cur c] [.sc (.int .i64)] Q := (pc_116 c).mono (by rintro _ ⟨m, rfl⟩; exact ho m)
/- spec.l1Raw -/
def phi_133 : Nat → List D → (List D → Prop) → Prop
  | 115, [c, n], K => ∀ (b : Bool), K [.bool b]
  | 116, [c], K => ∀ (m : Int), K [.int m]
  | 189, [c, l], K => ∀ (m : Int), (oneOf l m) → K [.int m]
  | _, _, _ => False
theorem pc_133 (c : D) : PC Try.prog 133 [.cur c] [.sc (.int .i64)] fun o => ∃ (m : Int), o = [.int m] := by
  refine PC.of_sigK mix sig_133 ⟨trivial, trivial⟩ rfl fun hok ci ch hci hcn hch => ?_
  apply sayR_den (φ := (phi_133))
  simp [tree_133, T.sayR, inK_i64_iff, RS.oks, RS.ok, CK.okD, X.den, O1.den, O2.den, O3.den, callD, XArg.ev, XArg.dat, Callee'.num, backs, DArg.back, Conds.den, cloArgs, phi_133]
  all_goals ((repeat' (first | (with_reducible apply And.intro) | intro _)) <;> (first | (with_reducible assumption) | (with_reducible exact trivial) | (first | ((with_reducible refine ⟨?_⟩); simp [tree_133, T.sayR, inK_i64_iff, RS.oks, RS.ok, CK.okD, X.den, O1.den, O2.den, O3.den, callD, XArg.ev, XArg.dat, Callee'.num, backs, DArg.back, Conds.den, cloArgs]; intro K hK; (try simp only [phi_133] at hK); intros; first | contradiction | ((with_reducible refine pd_115 _ _ _ ?ho); (case ho => exact hK)) | ((with_reducible refine pd_116 _ _ ?ho); (case ho => exact hK)) | ((with_reducible refine pd_189 _ _ ?_ _ ?ho); (case ho => exact hK); all_goals (exact (by first | (with_reducible assumption) | omega | assumption | (simp; done) | (simp; omega) | (simp [*]; done) | exact smallE_of (n := 1048576) (by omega) (by omega) | (simp [*] at *; omega) | grind [szS]))) | (exact pd_115 _ _ _ hK) | (exact pd_116 _ _ hK) | (exact pd_189 _ _ (by first | (with_reducible assumption) | omega | assumption | (simp; done) | (simp; omega) | (simp [*]; done) | exact smallE_of (n := 1048576) (by omega) (by omega) | (simp [*] at *; omega) | grind [szS]) _ hK)) | ((with_reducible show CallIn _ _ _ _ _); first | (refine .inr ⟨_, rfl, fun K hK => hK⟩) | (refine .inr ⟨_, rfl, fun K hK => hK true⟩) | (refine .inr ⟨_, rfl, fun K hK => hK 0 (by simp)⟩))) | omega | (simp only [IntKind.wrap_i64, maxL] at *; omega) | assumption | rfl | contradiction | grind))
theorem pd_133 (c : D) (Q : List D → Prop) (ho : ∀ (m : Int), Q [.int m]) : PC Try.prog 133 [.cur c] [.sc (.int .i64)] Q := (pc_133 c).mono (by rintro _ ⟨m, rfl⟩; exact ho m)
/- spec.l6Id -/
def phi_199 : Nat → List D → (List D → Prop) → Prop
  | 115, [c, n], K => ∀ (b : Bool), K [.bool b]
  | 117, [c, n], K => ∀ (m : Int), (0 ≤ m ∧ m ≤ 16777215 ∧ (0 < n.toI → m < n.toI) ∧ (n.toI ≤ 0 → m = 0)) → K [.int m]
  | _, _, _ => False
theorem pc_199 (c s : D) : PC Try.prog 199 [.cur c, .st [(.sl [(.int .i64), (.int .i64), (.int .i64), (.int .i64), (.int .i64), (.int .i64), (.int .i64), (.int .i64), (.int .i64), (.int .i64), (.int .i64), .bool, .bool]), (.sl [(.int .i64), (.int .i64), .bool]), (.int .i64), (.int .i64)] s] [.sc (.int .i64)] fun o => ∃ (m : Int), o = [.int m] := by
  refine PC.of_sigK mix sig_199 ⟨trivial, rfl, trivial⟩ rfl fun hok ci ch hci hcn hch => ?_
  have e_s : D.lst [s.fld 0, s.fld 1, s.fld 2, s.fld 3] = s := by simpa [List.range, List.range.loop] using okL_eta (hok _ (.head _))
  have k_s : okL [(.sl [(.int .i64), (.int .i64), (.int .i64), (.int .i64), (.int .i64), (.int .i64), (.int .i64), (.int .i64), (.int .i64), (.int .i64), (.int .i64), .bool, .bool]), (.sl [(.int .i64), (.int .i64), .bool]), (.int .i64), (.int .i64)] s := (hok _ (.head _))
  have e_s_0 : D.lst (s.fld 0).toL = s.fld 0 := sl_eta (okL_at k_s (i := 0) rfl)
  have l_s_0 := sl_len (okL_at k_s (i := 0) rfl)
  have k_s_0 := sl_all (okL_at k_s (i := 0) rfl)
  have E_s_0 : ∀ i, i < (s.fld 0).toL.length → D.lst [((s.fld 0).elem i).fld 0, ((s.fld 0).elem i).fld 1, ((s.fld 0).elem i).fld 2, ((s.fld 0).elem i).fld 3, ((s.fld 0).elem i).fld 4, ((s.fld 0).elem i).fld 5, ((s.fld 0).elem i).fld 6, ((s.fld 0).elem i).fld 7, ((s.fld 0).elem i).fld 8, ((s.fld 0).elem i).fld 9, ((s.fld 0).elem i).fld 10, ((s.fld 0).elem i).fld 11, ((s.fld 0).elem i).fld 12] = (s.fld 0).elem i := fun i hi => by simpa [List.range, List.range.loop] using okL_eta (k_s_0 _ (elem_mem hi))
  have e_s_1 : D.lst (s.fld 1).toL = s.fld 1 := sl_eta (okL_at k_s (i := 1) rfl)
  have l_s_1 := sl_len (okL_at k_s (i := 1) rfl)
  have k_s_1 := sl_all (okL_at k_s (i := 1) rfl)
  have E_s_1 : ∀ i, i < (s.fld 1).toL.length → D.lst [((s.fld 1).elem i).fld 0, ((s.fld 1).elem i).fld 1, ((s.fld 1).elem i).fld 2] = (s.fld 1).elem i := fun i hi => by simpa [List.range, List.range.loop] using okL_eta (k_s_1 _ (elem_mem hi))
  apply sayR_den (φ := (phi_199))
  have hin : ∀ i : Nat, i < (s.fld 0).toL.length → ∃ m : Int, ((s.fld 0).elem i).fld 0 = .int m := fun i hi => ⟨_, (int_eta (okL_at (k_s_0 _ (elem_mem hi)) (i := 0) rfl)).symm⟩
  by_cases hp : 0 < (s.fld 0).toL.length
  · simp [e_s_0, E_s_0, e_s_1, E_s_1, e_s, tree_199, T.sayR, inK_i64_iff, RS.oks, RS.ok, CK.okD, X.den, O1.den, O2.den, O3.den, callD, XArg.ev, XArg.dat, Callee'.num, backs, DArg.back, Conds.den, cloArgs, phi_199, hp]
    (repeat' (first | (with_reducible apply And.intro) | intro _)) <;> first | omega | (exact hin _ (by omega)) | (first | (with_reducible assumption) | (with_reducible exact trivial) | (first | ((with_reducible refine ⟨?_⟩); simp [e_s_0, E_s_0, e_s_1, E_s_1, e_s, tree_199, T.sayR, inK_i64_iff, RS.oks, RS.ok, CK.okD, X.den, O1.den, O2.den, O3.den, callD, XArg.ev, XArg.dat, Callee'.num, backs, DArg.back, Conds.den, cloArgs]; intro K hK; (try simp only [phi_199] at hK); intros; first | contradiction | ((with_reducible refine pd_115 _ _ _ ?ho); (case ho => exact hK)) | ((with_reducible refine pd_117 _ _ _ ?ho); (case ho => exact hK)) | (exact pd_115 _ _ _ hK) | (exact pd_117 _ _ _ hK)) | ((with_reducible show CallIn _ _ _ _ _); first | (refine .inr ⟨_, rfl, fun K hK => hK⟩) | (refine .inr ⟨_, rfl, fun K hK => hK true⟩) | (refine .inr ⟨_, rfl, fun K hK => hK 0 (by simp)⟩))) | omega | (simp only [IntKind.wrap_i64, maxL] at *; omega) | assumption | rfl | contradiction | grind) | skip
  · have he : (s.fld 0).toL = [] := by cases h : (s.fld 0).toL <;> simp_all
    simp [e_s_0, E_s_0, e_s_1, E_s_1, e_s, tree_199, T.sayR, inK_i64_iff, RS.oks, RS.ok, CK.okD, X.den, O1.den, O2.den, O3.den, callD, XArg.ev, XArg.dat, Callee'.num, backs, DArg.back, Conds.den, cloArgs, phi_199, he]
    (repeat' (first | (with_reducible apply And.intro) | intro _)) <;> first | omega | (first | (with_reducible assumption) | (with_reducible exact trivial) | (first | ((with_reducible refine ⟨?_⟩); simp [e_s_0, E_s_0, e_s_1, E_s_1, e_s, tree_199, T.sayR, inK_i64_iff, RS.oks, RS.ok, CK.okD, X.den, O1.den, O2.den, O3.den, callD, XArg.ev, XArg.dat, Callee'.num, backs, DArg.back, Conds.den, cloArgs]; intro K hK; (try simp only [phi_199] at hK); intros; first | contradiction | ((with_reducible refine pd_115 _ _ _ ?ho); (case ho => exact hK)) | ((with_reducible refine pd_117 _ _ _ ?ho); (case ho => exact hK)) | (exact pd_115 _ _ _ hK) | (exact pd_117 _ _ _ hK)) | ((with_reducible show CallIn _ _ _ _ _); first | (refine .inr ⟨_, rfl, fun K hK => hK⟩) | (refine .inr ⟨_, rfl, fun K hK => hK true⟩) | (refine .inr ⟨_, rfl, fun K hK => hK 0 (by simp)⟩))) | omega | (simp only [IntKind.wrap_i64, maxL] at *; omega) | assumption | rfl | contradiction | grind) | skip
theorem pd_199 (c s : D) (Q : List D → Prop) (ho : ∀ (m : Int), Q [.int m]) : PC Try.prog 199 [.cur c, .st [(.sl [(.int .i64), (.int .i64), (.int .i64), (.int .i64), (.int .i64), (.int .i64), (.int .i64), (.int .i64), (.int .i64), (.int .i64), (.int .i64), .bool, .bool]), (.sl [(.int .i64), (.int .i64), .bool]), (.int .i64), (.int .i64)] s] [.sc (.int .i64)] Q := (pc_199 c s).mono (by rintro _ ⟨m, rfl⟩; exact ho m)
/- spec.l6Draw -/
def phi_149 : Nat → List D → (List D → Prop) → Prop
  | 115, [c, n], K => ∀ (b : Bool), K [.bool b]
  | 117, [c, n], K => ∀ (m : Int), (0 ≤ m ∧ m ≤ 16777215 ∧ (0 < n.toI → m < n.toI) ∧ (n.toI ≤ 0 → m = 0)) → K [.int m]
  | 189, [c, l], K => ∀ (m : Int), (oneOf l m) → K [.int m]
  | 199, [c, s], K => ∀ (m : Int), K [.int m]
  | _, _, _ => False
theorem pc_149 (c s : D) : PC Try.prog 149 [.cur c, .st [(.sl [(.int .i64), (.int .i64), (.int .i64), (.int .i64), (.int .i64), (.int .i64), (.int .i64), (.int .i64), (.int .i64), (.int .i64), (.int .i64), .bool, .bool]), (.sl [(.int .i64), (.int .i64), .bool]), (.int .i64), (.int .i64)] s] [.st [(.int .i64), (.int .i64), (.int .i64), (.int .i64), (.int .i64), (.int .i64), .bool]] fun o => ∃ (e : D), o = [e] := by
  refine PC.of_sigK mix sig_149 ⟨trivial, rfl, trivial⟩ rfl fun hok ci ch hci hcn hch => ?_
  have e_s : D.lst [s.fld 0, s.fld 1, s.fld 2, s.fld 3] = s := by simpa [List.range, List.range.loop] using okL_eta (hok _ (.head _))
  have k_s : okL [(.sl [(.int .i64), (.int .i64), (.int .i64), (.int .i64), (.int .i64), (.int .i64), (.int .i64), (.int .i64), (.int .i64), (.int .i64), (.int .i64), .bool, .bool]), (.sl [(.int .i64), (.int .i64), .bool]), (.int .i64), (.int .i64)] s := (hok _ (.head _))
  have e_s_0 : D.lst (s.fld 0).toL = s.fld 0 := sl_eta (okL_at k_s (i := 0) rfl)
  have l_s_0 := sl_len (okL_at k_s (i := 0) rfl)
  have k_s_0 := sl_all (okL_at k_s (i := 0) rfl)
  have E_s_0 : ∀ i, i < (s.fld 0).toL.length → D.lst [((s.fld 0).elem i).fld 0, ((s.fld 0).elem i).fld 1, ((s.fld 0).elem i).fld 2, ((s.fld 0).elem i).fld 3, ((s.fld 0).elem i).fld 4, ((s.fld 0).elem i).fld 5, ((s.fld 0).elem i).fld 6, ((s.fld 0).elem i).fld 7, ((s.fld 0).elem i).fld 8, ((s.fld 0).elem i).fld 9, ((s.fld 0).elem i).fld 10, ((s.fld 0).elem i).fld 11, ((s.fld 0).elem i).fld 12] = (s.fld 0).elem i := fun i hi => by simpa [List.range, List.range.loop] using okL_eta (k_s_0 _ (elem_mem hi))
  have e_s_1 : D.lst (s.fld 1).toL = s.fld 1 := sl_eta (okL_at k_s (i := 1) rfl)
  have l_s_1 := sl_len (okL_at k_s (i := 1) rfl)
  have k_s_1 := sl_all (okL_at k_s (i := 1) rfl)
  have E_s_1 : ∀ i, i < (s.fld 1).toL.length → D.lst [((s.fld 1).elem i).fld 0, ((s.fld 1).elem i).fld 1, ((s.fld 1).elem i).fld 2] = (s.fld 1).elem i := fun i hi => by simpa [List.range, List.range.loop] using okL_eta (k_s_1 _ (elem_mem hi))
  apply sayR_den (φ := (phi_149))
  simp [e_s_0, E_s_0, e_s_1, E_s_1, e_s, tree_149, T.sayR, inK_i64_iff, RS.oks, RS.ok, CK.okD, X.den, O1.den, O2.den, O3.den, callD, XArg.ev, XArg.dat, Callee'.num, backs, DArg.back, Conds.den, cloArgs, phi_149]
  (repeat' (first | (with_reducible apply And.intro) | intro _)) <;> first | (first | (with_reducible assumption) | (with_reducible exact trivial) | (first | ((with_reducible refine ⟨?_⟩); simp [e_s_0, E_s_0, e_s_1, E_s_1, e_s, tree_149, T.sayR, inK_i64_iff, RS.oks, RS.ok, CK.okD, X.den, O1.den, O2.den, O3.den, callD, XArg.ev, XArg.dat, Callee'.num, backs, DArg.back, Conds.den, cloArgs]; intro K hK; (try simp only [phi_149] at hK); intros; first | contradiction | ((with_reducible refine pd_115 _ _ _ ?ho); (case ho => exact hK)) | ((with_reducible refine pd_117 _ _ _ ?ho); (case ho => exact hK)) | ((with_reducible refine pd_189 _ _ ?_ _ ?ho); (case ho => exact hK); all_goals (exact (by first | (with_reducible assumption) | omega | assumption | (simp; done) | (simp; omega) | (simp [*]; done) | exact smallE_of (n := 1048576) (by omega) (by omega) | (simp [*] at *; omega) | grind [szS]))) | ((with_reducible refine pd_199 _ _ _ ?ho); (case ho => exact hK)) | (exact pd_115 _ _ _ hK) | (exact pd_117 _ _ _ hK) | (exact pd_189 _ _ (by first | (with_reducible assumption) | omega | assumption | (simp; done) | (simp; omega) | (simp [*]; done) | exact smallE_of (n := 1048576) (by omega) (by omega) | (simp [*] at *; omega) | grind [szS]) _ hK) | (exact pd_199 _ _ _ hK)) | ((with_reducible show CallIn _ _ _ _ _); first | (refine .inr ⟨_, rfl, fun K hK => hK⟩) | (refine .inr ⟨_, rfl, fun K hK => hK true⟩) | (refine .inr ⟨_, rfl, fun K hK => hK 0 (by simp)⟩))) | omega | (simp only [IntKind.wrap_i64, maxL] at *; omega) | assumption | rfl | contradiction | grind) | exact ⟨_, rfl⟩ | skip
theorem pd_149 (c s : D) (Q : List D → Prop) (ho : ∀ (e : D), Q [e]) : PC Try.prog 149 [.cur c, .st [(.sl [(.int .i64), (.int .i64), (.int .i64), (.int .i64), (.int .i64), (.int .i64), (.int .i64), (.int .i64), (.int .i64), (.int .i64), (.int .i64), .bool, .bool]), (.sl [(.int .i64), (.int .i64), .bool]), (.int .i64), (.int .i64)] s] [.st [(.int .i64), (.int .i64), (.int .i64), (.int .i64), (.int .i64), (.int .i64), .bool]] Q := (pc_149 c s).mono (by rintro _ ⟨e, rfl⟩; exact ho e)
/- spec.l6Any -/
def phi_148 : Nat → List D → (List D → Prop) → Prop
  | 117, [c, n], K => ∀ (m : Int), (0 ≤ m ∧ m ≤ 16777215 ∧ (0 < n.toI → m < n.toI) ∧ (n.toI ≤ 0 → m = 0)) → K [.int m]
  | 133, [c], K => ∀ (m : Int), K [.int m]
  | 149, [c, s], K => ∀ (e : D), K [e]
  | 189, [c, l], K => ∀ (m : Int), (oneOf l m) → K [.int m]
  | _, _, _ => False
theorem pc_148 (c s : D) : PC Try.prog 148 [.cur c, .st [(.sl [(.int .i64), (.int .i64), (.int .i64), (.int .i64), (.int .i64), (.int .i64), (.int .i64), (.int .i64), (.int .i64), (.int .i64), (.int .i64), .bool, .bool]), (.sl [(.int .i64), (.int .i64), .bool]), (.int .i64), (.int .i64)] s] [.st [(.int .i64), (.int .i64), (.int .i64), (.int .i64), (.int .i64), (.int .i64), .bool]] fun o => ∃ (e : D), o = [e] := by
  refine PC.of_sigK mix sig_148 ⟨trivial, rfl, trivial⟩ rfl fun hok ci ch hci hcn hch => ?_
  have e_s : D.lst [s.fld 0, s.fld 1, s.fld 2, s.fld 3] = s := by simpa [List.range, List.range.loop] using okL_eta (hok _ (.head _))
  have k_s : okL [(.sl [(.int .i64), (.int .i64), (.int .i64), (.int .i64), (.int .i64), (.int .i64), (.int .i64), (.int .i64), (.int .i64), (.int .i64), (.int .i64), .bool, .bool]), (.sl [(.int .i64), (.int .i64), .bool]), (.int .i64), (.int .i64)] s := (hok _ (.head _))
  have e_s_0 : D.lst (s.fld 0).toL = s.fld 0 := sl_eta (okL_at k_s (i := 0) rfl)
  have l_s_0 := sl_len (okL_at k_s (i := 0) rfl)
  have k_s_0 := sl_all (okL_at k_s (i := 0) rfl)
  have E_s_0 : ∀ i, i < (s.fld 0).toL.length → D.lst [((s.fld 0).elem i).fld 0, ((s.fld 0).elem i).fld 1, ((s.fld 0).elem i).fld 2, ((s.fld 0).elem i).fld 3, ((s.fld 0).elem i).fld 4, ((s.fld 0).elem i).fld 5, ((s.fld 0).elem i).fld 6, ((s.fld 0).elem i).fld 7, ((s.fld 0).elem i).fld 8, ((s.fld 0).elem i).fld 9, ((s.fld 0).elem i).fld 10, ((s.fld 0).elem i).fld 11, ((s.fld 0).elem i).fld 12] = (s.fld 0).elem i := fun i hi => by simpa [List.range, List.range.loop] using okL_eta (k_s_0 _ (elem_mem hi))
  have e_s_1 : D.lst (s.fld 1).toL = s.fld 1 := sl_eta (okL_at k_s (i := 1) rfl)
  have l_s_1 := sl_len (okL_at k_s (i := 1) rfl)
  have k_s_1 := sl_all (okL_at k_s (i := 1) rfl)
  have E_s_1 : ∀ i, i < (s.fld 1).toL.length → D.lst [((s.fld 1).elem i).fld 0, ((s.fld 1).elem i).fld 1, ((s.fld 1).elem i).fld 2] = (s.fld 1).elem i := fun i hi => by simpa [List.range, List.range.loop] using okL_eta (k_s_1 _ (elem_mem hi))
  apply sayR_den (φ := (phi_148))
  simp [e_s_0, E_s_0, e_s_1, E_s_1, e_s, tree_148, T.sayR, inK_i64_iff, RS.oks, RS.ok, CK.okD, X.den, O1.den, O2.den, O3.den, callD, XArg.ev, XArg.dat, Callee'.num, backs, DArg.back, Conds.den, cloArgs, phi_148]
  (repeat' (first | (with_reducible apply And.intro) | intro _)) <;> first | (first | (with_reducible assumption) | (with_reducible exact trivial) | (first | ((with_reducible refine ⟨?_⟩); simp [e_s_0, E_s_0, e_s_1, E_s_1, e_s, tree_148, T.sayR, inK_i64_iff, RS.oks, RS.ok, CK.okD, X.den, O1.den, O2.den, O3.den, callD, XArg.ev, XArg.dat, Callee'.num, backs, DArg.back, Conds.den, cloArgs]; intro K hK; (try simp only [phi_148] at hK); intros; first | contradiction | ((with_reducible refine pd_117 _ _ _ ?ho); (case ho => exact hK)) | ((with_reducible refine pd_133 _ _ ?ho); (case ho => exact hK)) | ((with_reducible refine pd_149 _ _ _ ?ho); (case ho => exact hK)) | ((with_reducible refine pd_189 _ _ ?_ _ ?ho); (case ho => exact hK); all_goals (exact (by first | (with_reducible assumption) | omega | assumption | (simp; done) | (simp; omega) | (simp [*]; done) | exact smallE_of (n := 1048576) (by omega) (by omega) | (simp [*] at *; omega) | grind [szS]))) | (exact pd_117 _ _ _ hK) | (exact pd_133 _ _ hK) | (exact pd_149 _ _ _ hK) | (exact pd_189 _ _ (by first | (with_reducible assumption) | omega | assumption | (simp; done) | (simp; omega) | (simp [*]; done) | exact smallE_of (n := 1048576) (by omega) (by omega) | (simp [*] at *; omega) | grind [szS]) _ hK)) | ((with_reducible show CallIn _ _ _ _ _); first | (refine .inr ⟨_, rfl, fun K hK => hK⟩) | (refine .inr ⟨_, rfl, fun K hK => hK true⟩) | (refine .inr ⟨_, rfl, fun K hK => hK 0 (by simp)⟩))) | omega | (simp only [IntKind.wrap_i64, maxL] at *; omega) | assumption | rfl | contradiction | grind) | exact ⟨_, rfl⟩ | skip
theorem pd_148 (c s : D) (Q : List D → Prop) (ho : ∀ (e : D), Q [e]) : PC Try.prog 148 [.cur c, .st [(.sl [(.int .i64), (.int .i64), (.int .i64), (.int .i64), (.int .i64), (.int .i64), (.int .i64), (.int .i64), (.int .i64), (.int .i64), (.int .i64), .bool, .bool]), (.sl [(.int .i64), (.int .i64), .bool]), (.int .i64), (.int .i64)] s] [.st [(.int .i64), (.int .i64), (.int .i64), (.int .i64), (.int .i64), (.int .i64), .bool]] Q := (pc_148 c s).mono (by rintro _ ⟨e, rfl⟩; exact ho e)
/- spec.l1In -/
theorem pc_126 (a b c : D) : PC Try.prog 126 [.sc (.int .i64) a, .sc (.int .i64) b, .sc (.int .i64) c] [.sc .bool] fun o => o = [.bool (inR a.toI b.toI c.toI)] := by
  refine PC.of_sig mix sig_126 ⟨rfl, rfl, rfl, trivial⟩ rfl fun hok => ?_
  have e_a := int_eta (hok _ (.head _))
  have b_a := int_range (hok _ (.head _))
  have e_b := int_eta (hok _ (.tail _ (.head _)))
  have b_b := int_range (hok _ (.tail _ (.head _)))
  have e_c := int_eta (hok _ (.tail _ (.tail _ (.head _))))
  have b_c := int_range (hok _ (.tail _ (.tail _ (.head _))))
  apply says_den (φ := fun _ _ => [])
  simp [e_a, e_b, e_c, tree_126, T.says, X.den, O1.den, O2.den, O3.den, callD, XArg.ev, XArg.dat, Callee'.num, backs, DArg.back, Conds.den, cloArgs, inR]
theorem pd_126 (a b c : D) (Q : List D → Prop) (ho : Q [.bool (inR a.toI b.toI c.toI)]) : PC Try.prog 126 [.sc (.int .i64) a, .sc (.int .i64) b, .sc (.int .i64) c] [.sc .bool] Q := (pc_126 a b c).mono fun _ h => h ▸ ho
/- spec.ActFits -/
def phi_73 : Nat → List D → List D
  | 126, [a, b, c] => [.bool (inR a.toI b.toI c.toI)]
  | _, _ => []
theorem pc_73 (a n : D) : PC Try.prog 73 [.st [(.int .i64), (.int .i64), (.int .i64), (.int .i64), (.int .i64), .bool, (.sl [(.int .i64), (.int .i64), (.int .i64), (.int .i64), (.int .i64), (.int .i64), .bool])] a, .sc (.int .i64) n] [.sc .bool] fun o => o = [.bool (actFits a n.toI)] := by
  refine PC.of_sig mix sig_73 ⟨rfl, rfl, trivial⟩ rfl fun hok => ?_
  have e_a : D.lst [a.fld 0, a.fld 1, a.fld 2, a.fld 3, a.fld 4, a.fld 5, a.fld 6] = a := by simpa [List.range, List.range.loop] using okL_eta (hok _ (.head _))
  have k_a : okL [(.int .i64), (.int .i64), (.int .i64), (.int .i64), (.int .i64), .bool, (.sl [(.int .i64), (.int .i64), (.int .i64), (.int .i64), (.int .i64), (.int .i64), .bool])] a := (hok _ (.head _))
  have e_a_6 : D.lst (a.fld 6).toL = a.fld 6 := sl_eta (okL_at k_a (i := 6) rfl)
  have l_a_6 := sl_len (okL_at k_a (i := 6) rfl)
  have k_a_6 := sl_all (okL_at k_a (i := 6) rfl)
  have E_a_6 : ∀ i, i < (a.fld 6).toL.length → D.lst [((a.fld 6).elem i).fld 0, ((a.fld 6).elem i).fld 1, ((a.fld 6).elem i).fld 2, ((a.fld 6).elem i).fld 3, ((a.fld 6).elem i).fld 4, ((a.fld 6).elem i).fld 5, ((a.fld 6).elem i).fld 6] = (a.fld 6).elem i := fun i hi => by simpa [List.range, List.range.loop] using okL_eta (k_a_6 _ (elem_mem hi))
  have e_n := int_eta (hok _ (.tail _ (.head _)))
  have b_n := int_range (hok _ (.tail _ (.head _)))
  apply says_den (φ := (phi_73))
  simp [e_a_6, E_a_6, e_a, e_n, tree_73, T.says, X.den, O1.den, O2.den, O3.den, callD, XArg.ev, XArg.dat, Callee'.num, backs, DArg.back, Conds.den, cloArgs, phi_73, pd_126]
  (repeat' (first | (with_reducible apply And.intro) | intro _)) <;> grind [actFits]
theorem pd_73 (a n : D) (Q : List D → Prop) (ho : Q [.bool (actFits a n.toI)]) : PC Try.prog 73 [.st [(.int .i64), (.int .i64), (.int .i64), (.int .i64), (.int .i64), .bool, (.sl [(.int .i64), (.int .i64), (.int .i64), (.int .i64), (.int .i64), (.int .i64), .bool])] a, .sc (.int .i64) n] [.sc .bool] Q := (pc_73 a n).mono fun _ h => h ▸ ho
/- spec.l9Draw -/
def phi_196 : Nat → List D → (List D → Prop) → Prop
  | 73, [a, n], K => K [.bool (actFits a n.toI)]
  | 115, [c, n], K => ∀ (b : Bool), K [.bool b]
  | 117, [c, n], K => ∀ (m : Int), (0 ≤ m ∧ m ≤ 16777215 ∧ (0 < n.toI → m < n.toI) ∧ (n.toI ≤ 0 → m = 0)) → K [.int m]
  | 149, [c, s], K => ∀ (e : D), K [e]
  | 189, [c, l], K => ∀ (m : Int), (oneOf l m) → K [.int m]
  | 199, [c, s], K => ∀ (m : Int), K [.int m]
  | _, _, _ => False
theorem pc_196 (c s k : D) : PC Try.prog 196 [.cur c, .st [(.sl [(.int .i64), (.int .i64), (.int .i64), (.int .i64), (.int .i64), (.int .i64), (.int .i64), (.int .i64), (.int .i64), (.int .i64), (.int .i64), .bool, .bool]), (.sl [(.int .i64), (.int .i64), .bool]), (.int .i64), (.int .i64)] s, .sc (.int .i64) k] [.st [(.int .i64), (.int .i64), (.int .i64), (.int .i64), (.int .i64), .bool, (.sl [(.int .i64), (.int .i64), (.int .i64), (.int .i64), (.int .i64), (.int .i64), .bool])]] fun o => ∃ (a : D), ((((a.fld 6).toL.length : Int) ≤ 2)) ∧ o = [a] := by
  refine PC.of_sigK mix sig_196 ⟨trivial, rfl, rfl, trivial⟩ rfl fun hok ci ch hci hcn hch => ?_
  have e_s : D.lst [s.fld 0, s.fld 1, s.fld 2, s.fld 3] = s := by simpa [List.range, List.range.loop] using okL_eta (hok _ (.head _))
  have k_s : okL [(.sl [(.int .i64), (.int .i64), (.int .i64), (.int .i64), (.int .i64), (.int .i64), (.int .i64), (.int .i64), (.int .i64), (.int .i64), (.int .i64), .bool, .bool]), (.sl [(.int .i64), (.int .i64), .bool]), (.int .i64), (.int .i64)] s := (hok _ (.head _))
  have e_s_0 : D.lst (s.fld 0).toL = s.fld 0 := sl_eta (okL_at k_s (i := 0) rfl)
  have l_s_0 := sl_len (okL_at k_s (i := 0) rfl)
  have k_s_0 := sl_all (okL_at k_s (i := 0) rfl)
  have E_s_0 : ∀ i, i < (s.fld 0).toL.length → D.lst [((s.fld 0).elem i).fld 0, ((s.fld 0).elem i).fld 1, ((s.fld 0).elem i).fld 2, ((s.fld 0).elem i).fld 3, ((s.fld 0).elem i).fld 4, ((s.fld 0).elem i).fld 5, ((s.fld 0).elem i).fld 6, ((s.fld 0).elem i).fld 7, ((s.fld 0).elem i).fld 8, ((s.fld 0).elem i).fld 9, ((s.fld 0).elem i).fld 10, ((s.fld 0).elem i).fld 11, ((s.fld 0).elem i).fld 12] = (s.fld 0).elem i := fun i hi => by simpa [List.range, List.range.loop] using okL_eta (k_s_0 _ (elem_mem hi))
  have e_s_1 : D.lst (s.fld 1).toL = s.fld 1 := sl_eta (okL_at k_s (i := 1) rfl)
  have l_s_1 := sl_len (okL_at k_s (i := 1) rfl)
  have k_s_1 := sl_all (okL_at k_s (i := 1) rfl)
  have E_s_1 : ∀ i, i < (s.fld 1).toL.length → D.lst [((s.fld 1).elem i).fld 0, ((s.fld 1).elem i).fld 1, ((s.fld 1).elem i).fld 2] = (s.fld 1).elem i := fun i hi => by simpa [List.range, List.range.loop] using okL_eta (k_s_1 _ (elem_mem hi))
  have e_k := int_eta (hok _ (.tail _ (.head _)))
  have b_k := int_range (hok _ (.tail _ (.head _)))
  apply sayR_den (φ := (phi_196))
  simp [e_s_0, E_s_0, e_s_1, E_s_1, e_s, e_k, tree_196, T.sayR, inK_i64_iff, RS.oks, RS.ok, CK.okD, X.den, O1.den, O2.den, O3.den, callD, XArg.ev, XArg.dat, Callee'.num, backs, DArg.back, Conds.den, cloArgs, phi_196]
  refine ⟨by (first | ((with_reducible refine ⟨?_⟩); simp [e_s_0, E_s_0, e_s_1, E_s_1, e_s, e_k, tree_196, T.sayR, inK_i64_iff, RS.oks, RS.ok, CK.okD, X.den, O1.den, O2.den, O3.den, callD, XArg.ev, XArg.dat, Callee'.num, backs, DArg.back, Conds.den, cloArgs]; intro K hK; (try simp only [phi_196] at hK); intros; first | contradiction | ((with_reducible refine pd_73 _ _ _ ?ho); (case ho => exact hK)) | ((with_reducible refine pd_115 _ _ _ ?ho); (case ho => exact hK)) | ((with_reducible refine pd_117 _ _ _ ?ho); (case ho => exact hK)) | ((with_reducible refine pd_149 _ _ _ ?ho); (case ho => exact hK)) | ((with_reducible refine pd_189 _ _ ?_ _ ?ho); (case ho => exact hK); all_goals (exact (by first | (with_reducible assumption) | omega | assumption | (simp; done) | (simp; omega) | (simp [*]; done) | exact smallE_of (n := 1048576) (by omega) (by omega) | (simp [*] at *; omega) | grind [szS]))) | ((with_reducible refine pd_199 _ _ _ ?ho); (case ho => exact hK)) | (exact pd_73 _ _ _ hK) | (exact pd_115 _ _ _ hK) | (exact pd_117 _ _ _ hK) | (exact pd_149 _ _ _ hK) | (exact pd_189 _ _ (by first | (with_reducible assumption) | omega | assumption | (simp; done) | (simp; omega) | (simp [*]; done) | exact smallE_of (n := 1048576) (by omega) (by omega) | (simp [*] at *; omega) | grind [szS]) _ hK) | (exact pd_199 _ _ _ hK)) | ((with_reducible show CallIn _ _ _ _ _); first | (refine .inr ⟨_, rfl, fun K hK => hK⟩) | (refine .inr ⟨_, rfl, fun K hK => hK true⟩) | (refine .inr ⟨_, rfl, fun K hK => hK 0 (by simp)⟩))), ?_⟩
  intro m0
  intros
  obtain ⟨I, hI⟩ : ∃ I : List D → Prop, ∀ vs, I vs ↔ ∃ (i : Int) (q : Int), vs = [.int i, .int q] ∧ 0 ≤ i ∧ i ≤ 6 := ⟨_, fun _ => Iff.rfl⟩
  obtain ⟨μ, hμ⟩ : ∃ μ : List D → Nat, ∀ vs, μ vs = (6 - (vs.getD 0 default).toI).toNat := ⟨_, fun _ => rfl⟩
  refine den_loop I μ ((hI _).2 ⟨0, m0, by simp [X.den], by omega, by omega⟩) ?_
  intro vs hvl hv
  obtain ⟨i, q, rfl, hinv⟩ := (hI _).1 hv
  clear hv
  apply sayR_den (φ := (phi_196))
  have hz : i < 6 → IntKind.i64.wrap (i + 1) = i + 1 := by intro h; (first | omega | (simp only [IntKind.wrap_i64, maxL] at *; omega) | (simp [IntKind.wrap_i64, maxL] at *; omega))
  simp (config := { maxSteps := 2000000 }) [e_s_0, E_s_0, e_s_1, E_s_1, e_s, e_k, tree_196, T.sayR, inK_i64_iff, RS.oks, RS.ok, CK.okD, X.den, O1.den, O2.den, O3.den, callD, XArg.ev, XArg.dat, Callee'.num, backs, DArg.back, Conds.den, cloArgs, phi_196, hz]
  (repeat' (first | (with_reducible apply And.intro) | intro _)) <;> first | (first | ((with_reducible refine ⟨?_⟩); simp [e_s_0, E_s_0, e_s_1, E_s_1, e_s, e_k, tree_196, T.sayR, inK_i64_iff, RS.oks, RS.ok, CK.okD, X.den, O1.den, O2.den, O3.den, callD, XArg.ev, XArg.dat, Callee'.num, backs, DArg.back, Conds.den, cloArgs]; intro K hK; (try simp only [phi_196] at hK); intros; first | contradiction | ((with_reducible refine pd_73 _ _ _ ?ho); (case ho => exact hK)) | ((with_reducible refine pd_115 _ _ _ ?ho); (case ho => exact hK)) | ((with_reducible refine pd_117 _ _ _ ?ho); (case ho => exact hK)) | ((with_reducible refine pd_149 _ _ _ ?ho); (case ho => exact hK)) | ((with_reducible refine pd_189 _ _ ?_ _ ?ho); (case ho => exact hK); all_goals (exact (by first | (with_reducible assumption) | omega | assumption | (simp; done) | (simp; omega) | (simp [*]; done) | exact smallE_of (n := 1048576) (by omega) (by omega) | (simp [*] at *; omega) | grind [szS]))) | ((with_reducible refine pd_199 _ _ _ ?ho); (case ho => exact hK)) | (exact pd_73 _ _ _ hK) | (exact pd_115 _ _ _ hK) | (exact pd_117 _ _ _ hK) | (exact pd_149 _ _ _ hK) | (exact pd_189 _ _ (by first | (with_reducible assumption) | omega | assumption | (simp; done) | (simp; omega) | (simp [*]; done) | exact smallE_of (n := 1048576) (by omega) (by omega) | (simp [*] at *; omega) | grind [szS]) _ hK) | (exact pd_199 _ _ _ hK)) | ((with_reducible show CallIn _ _ _ _ _); first | (refine .inr ⟨_, rfl, fun K hK => hK⟩) | (refine .inr ⟨_, rfl, fun K hK => hK true⟩) | (refine .inr ⟨_, rfl, fun K hK => hK 0 (by simp)⟩))) | exact ⟨_, by simp, rfl⟩ | skip
  · rw [hz (by omega)]
    exact (hI _).2 ⟨i + 1, _, rfl, by omega, by omega⟩
  · rw [hz (by omega), hμ, hμ]
    simp
    omega
  obtain ⟨I, hI⟩ : ∃ I : List D → Prop, ∀ vs, I vs ↔ ∃ (j : Int) (ps : List D), vs = [.int j, .lst ps] ∧ 0 ≤ j ∧ j ≤ 2 ∧ (ps.length : Int) ≤ 2 - j := ⟨_, fun _ => Iff.rfl⟩
  obtain ⟨μ, hμ⟩ : ∃ μ : List D → Nat, ∀ vs, μ vs = ((vs.getD 0 default).toI).toNat := ⟨_, fun _ => rfl⟩
  refine den_loop I μ ((hI _).2 ⟨_, [], by simp [X.den, O1.den, O2.den]; exact rfl, by (first | omega | (simp only [IntKind.wrap_i64, maxL] at *; omega) | (simp [IntKind.wrap_i64, maxL] at *; omega)), by (first | omega | (simp only [IntKind.wrap_i64, maxL] at *; omega) | (simp [IntKind.wrap_i64, maxL] at *; omega)), by simp; (first | omega | (simp only [IntKind.wrap_i64, maxL] at *; omega) | (simp [IntKind.wrap_i64, maxL] at *; omega))⟩) ?_
  intro vs hvl hv
  obtain ⟨j, ps, rfl, hinv⟩ := (hI _).1 hv
  clear hv
  apply sayR_den (φ := (phi_196))
  have hy : 0 < j → IntKind.i64.wrap (j - 1) = j - 1 := by intro h; (first | omega | (simp only [IntKind.wrap_i64, maxL] at *; omega) | (simp [IntKind.wrap_i64, maxL] at *; omega))
  simp (config := { maxSteps := 2000000 }) [e_s_0, E_s_0, e_s_1, E_s_1, e_s, e_k, tree_196, T.sayR, inK_i64_iff, RS.oks, RS.ok, CK.okD, X.den, O1.den, O2.den, O3.den, callD, XArg.ev, XArg.dat, Callee'.num, backs, DArg.back, Conds.den, cloArgs, phi_196, hy]
  (repeat' (first | (with_reducible apply And.intro) | intro _)) <;> first | (first | ((with_reducible refine ⟨?_⟩); simp [e_s_0, E_s_0, e_s_1, E_s_1, e_s, e_k, tree_196, T.sayR, inK_i64_iff, RS.oks, RS.ok, CK.okD, X.den, O1.den, O2.den, O3.den, callD, XArg.ev, XArg.dat, Callee'.num, backs, DArg.back, Conds.den, cloArgs]; intro K hK; (try simp only [phi_196] at hK); intros; first | contradiction | ((with_reducible refine pd_73 _ _ _ ?ho); (case ho => exact hK)) | ((with_reducible refine pd_115 _ _ _ ?ho); (case ho => exact hK)) | ((with_reducible refine pd_117 _ _ _ ?ho); (case ho => exact hK)) | ((with_reducible refine pd_149 _ _ _ ?ho); (case ho => exact hK)) | ((with_reducible refine pd_189 _ _ ?_ _ ?ho); (case ho => exact hK); all_goals (exact (by first | (with_reducible assumption) | omega | assumption | (simp; done) | (simp; omega) | (simp [*]; done) | exact smallE_of (n := 1048576) (by omega) (by omega) | (simp [*] at *; omega) | grind [szS]))) | ((with_reducible refine pd_199 _ _ _ ?ho); (case ho => exact hK)) | (exact pd_73 _ _ _ hK) | (exact pd_115 _ _ _ hK) | (exact pd_117 _ _ _ hK) | (exact pd_149 _ _ _ hK) | (exact pd_189 _ _ (by first | (with_reducible assumption) | omega | assumption | (simp; done) | (simp; omega) | (simp [*]; done) | exact smallE_of (n := 1048576) (by omega) (by omega) | (simp [*] at *; omega) | grind [szS]) _ hK) | (exact pd_199 _ _ _ hK)) | ((with_reducible show CallIn _ _ _ _ _); first | (refine .inr ⟨_, rfl, fun K hK => hK⟩) | (refine .inr ⟨_, rfl, fun K hK => hK true⟩) | (refine .inr ⟨_, rfl, fun K hK => hK 0 (by simp)⟩))) | exact ⟨_, by simp, rfl⟩ | omega | ((with_reducible refine (hI _).2 ?_); rw [hy (by omega)]; exact ⟨j - 1, _, rfl, by omega, by omega, by simp; omega⟩) | (rw [hy (by omega), hμ, hμ]; simp; omega) | (refine ⟨_, ?_, rfl⟩; simp; omega)
theorem pd_196 (c s k : D) (Q : List D → Prop) (ho : ∀ (a : D), ((((a.fld 6).toL.length : Int) ≤ 2)) → Q [a]) : PC Try.prog 196 [.cur c, .st [(.sl [(.int .i64), (.int .i64), (.int .i64), (.int .i64), (.int .i64), (.int .i64), (.int .i64), (.int .i64), (.int .i64), (.int .i64), (.int .i64), .bool, .bool]), (.sl [(.int .i64), (.int .i64), .bool]), (.int .i64), (.int .i64)] s, .sc (.int .i64) k] [.st [(.int .i64), (.int .i64), (.int .i64), (.int .i64), (.int .i64), .bool, (.sl [(.int .i64), (.int .i64), (.int .i64), (.int .i64), (.int .i64), (.int .i64), .bool])]] Q := (pc_196 c s k).mono (by rintro _ ⟨a, hc, rfl⟩; exact ho a hc)
/- spec.l9Any -/
def phi_132 : Nat → List D → (List D → Prop) → Prop
  | 117, [c, n], K => ∀ (m : Int), (0 ≤ m ∧ m ≤ 16777215 ∧ (0 < n.toI → m < n.toI) ∧ (n.toI ≤ 0 → m = 0)) → K [.int m]
  | 133, [c], K => ∀ (m : Int), K [.int m]
  | 148, [c, s], K => ∀ (e : D), K [e]
  | 149, [c, s], K => ∀ (e : D), K [e]
  | 189, [c, l], K => ∀ (m : Int), (oneOf l m) → K [.int m]
  | 196, [c, s, k], K => ∀ (a : D), ((((a.fld 6).toL.length : Int) ≤ 2)) → K [a]
  | _, _, _ => False
theorem pc_132 (c s : D) : PC Try.prog 132 [.cur c, .st [(.sl [(.int .i64), (.int .i64), (.int .i64), (.int .i64), (.int .i64), (.int .i64), (.int .i64), (.int .i64), (.int .i64), (.int .i64), (.int .i64), .bool, .bool]), (.sl [(.int .i64), (.int .i64), .bool]), (.int .i64), (.int .i64)] s] [.st [(.int .i64), (.int .i64), (.int .i64), (.int .i64), (.int .i64), .bool, (.sl [(.int .i64), (.int .i64), (.int .i64), (.int .i64), (.int .i64), (.int .i64), .bool])]] fun o => ∃ (a : D), ((((a.fld 6).toL.length : Int) ≤ 5)) ∧ o = [a] := by
  refine PC.of_sigK mix sig_132 ⟨trivial, rfl, trivial⟩ rfl fun hok ci ch hci hcn hch => ?_
  have e_s : D.lst [s.fld 0, s.fld 1, s.fld 2, s.fld 3] = s := by simpa [List.range, List.range.loop] using okL_eta (hok _ (.head _))
  have k_s : okL [(.sl [(.int .i64), (.int .i64), (.int .i64), (.int .i64), (.int .i64), (.int .i64), (.int .i64), (.int .i64), (.int .i64), (.int .i64), (.int .i64), .bool, .bool]), (.sl [(.int .i64), (.int .i64), .bool]), (.int .i64), (.int .i64)] s := (hok _ (.head _))
  have e_s_0 : D.lst (s.fld 0).toL = s.fld 0 := sl_eta (okL_at k_s (i := 0) rfl)
  have l_s_0 := sl_len (okL_at k_s (i := 0) rfl)
  have k_s_0 := sl_all (okL_at k_s (i := 0) rfl)
  have E_s_0 : ∀ i, i < (s.fld 0).toL.length → D.lst [((s.fld 0).elem i).fld 0, ((s.fld 0).elem i).fld 1, ((s.fld 0).elem i).fld 2, ((s.fld 0).elem i).fld 3, ((s.fld 0).elem i).fld 4, ((s.fld 0).elem i).fld 5, ((s.fld 0).elem i).fld 6, ((s.fld 0).elem i).fld 7, ((s.fld 0).elem i).fld 8, ((s.fld 0).elem i).fld 9, ((s.fld 0).elem i).fld 10, ((s.fld 0).elem i).fld 11, ((s.fld 0).elem i).fld 12] = (s.fld 0).elem i := fun i hi => by simpa [List.range, List.range.loop] using okL_eta (k_s_0 _ (elem_mem hi))
  have e_s_1 : D.lst (s.fld 1).toL = s.fld 1 := sl_eta (okL_at k_s (i := 1) rfl)
  have l_s_1 := sl_len (okL_at k_s (i := 1) rfl)
  have k_s_1 := sl_all (okL_at k_s (i := 1) rfl)
  have E_s_1 : ∀ i, i < (s.fld 1).toL.length → D.lst [((s.fld 1).elem i).fld 0, ((s.fld 1).elem i).fld 1, ((s.fld 1).elem i).fld 2] = (s.fld 1).elem i := fun i hi => by simpa [List.range, List.range.loop] using okL_eta (k_s_1 _ (elem_mem hi))
  apply sayR_den (φ := (phi_132))
  simp (config := { maxSteps := 2000000 }) [e_s_0, E_s_0, e_s_1, E_s_1, e_s, tree_132, T.sayR, inK_i64_iff, RS.oks, RS.ok, CK.okD, X.den, O1.den, O2.den, O3.den, callD, XArg.ev, XArg.dat, Callee'.num, backs, DArg.back, Conds.den, cloArgs, phi_132]
  (repeat' (first | (with_reducible apply And.intro) | intro _)) <;> first | (first | ((with_reducible refine ⟨?_⟩); simp [e_s_0, E_s_0, e_s_1, E_s_1, e_s, tree_132, T.sayR, inK_i64_iff, RS.oks, RS.ok, CK.okD, X.den, O1.den, O2.den, O3.den, callD, XArg.ev, XArg.dat, Callee'.num, backs, DArg.back, Conds.den, cloArgs]; intro K hK; (try simp only [phi_132] at hK); intros; first | contradiction | ((with_reducible refine pd_117 _ _ _ ?ho); (case ho => exact hK)) | ((with_reducible refine pd_133 _ _ ?ho); (case ho => exact hK)) | ((with_reducible refine pd_148 _ _ _ ?ho); (case ho => exact hK)) | ((with_reducible refine pd_149 _ _ _ ?ho); (case ho => exact hK)) | ((with_reducible refine pd_189 _ _ ?_ _ ?ho); (case ho => exact hK); all_goals (exact (by first | (with_reducible assumption) | omega | assumption | (simp; done) | (simp; omega) | (simp [*]; done) | exact smallE_of (n := 1048576) (by omega) (by omega) | (simp [*] at *; omega) | grind [szS]))) | ((with_reducible refine pd_196 _ _ _ _ ?ho); (case ho => exact hK)) | (exact pd_117 _ _ _ hK) | (exact pd_133 _ _ hK) | (exact pd_148 _ _ _ hK) | (exact pd_149 _ _ _ hK) | (exact pd_189 _ _ (by first | (with_reducible assumption) | omega | assumption | (simp; done) | (simp; omega) | (simp [*]; done) | exact smallE_of (n := 1048576) (by omega) (by omega) | (simp [*] at *; omega) | grind [szS]) _ hK) | (exact pd_196 _ _ _ _ hK)) | ((with_reducible show CallIn _ _ _ _ _); first | (refine .inr ⟨_, rfl, fun K hK => hK⟩) | (refine .inr ⟨_, rfl, fun K hK => hK true⟩) | (refine .inr ⟨_, rfl, fun K hK => hK 0 (by simp)⟩))) | omega | (refine ⟨_, ?_, rfl⟩; simp; omega) | skip
theorem pd_132 (c s : D) (Q : List D → Prop) (ho : ∀ (a : D), ((((a.fld 6).toL.length : Int) ≤ 5)) → Q [a]) : PC Try.prog 132 [.cur c, .st [(.sl [(.int .i64), (.int .i64), (.int .i64), (.int .i64), (.int .i64), (.int .i64), (.int .i64), (.int .i64), (.int .i64), (.int .i64), (.int .i64), .bool, .bool]), (.sl [(.int .i64), (.int .i64), .bool]), (.int .i64), (.int .i64)] s] [.st [(.int .i64), (.int .i64), (.int .i64), (.int .i64), (.int .i64), .bool, (.sl [(.int .i64), (.int .i64), (.int .i64), (.int .i64), (.int .i64), (.int .i64), .bool])]] Q := (pc_132 c s).mono (by rintro _ ⟨a, hc, rfl⟩; exact ho a hc)
/- spec.DrawActOk -/
def phi_67 : Nat → List D → (List D → Prop) → Prop
  | 113, [a], K => K [a]
  | 119, [c], K => ∀ (s : D), (stateN 5 3 s) → K [s]
  | 132, [c, s], K => ∀ (a : D), ((((a.fld 6).toL.length : Int) ≤ 5)) → K [a]
  | _, _, _ => False
theorem pc_67 (code : D) : PC Try.prog 67 [.sc (.sl [(.int .u8)]) code] [.st [(.int .i64), (.int .i64), (.int .i64), (.int .i64), (.int .i64), .bool, (.sl [(.int .i64), (.int .i64), (.int .i64), (.int .i64), (.int .i64), (.int .i64), .bool])]] fun o => ∃ (a : D), ((((a.fld 6).toL.length : Int) ≤ 5)) ∧ o = [a] := by
  refine PC.of_sig mix sig_67 ⟨rfl, trivial⟩ rfl fun hok => ?_
  have e_code := sl_eta (hok _ (.head _))
  have l_code := sl_len (hok _ (.head _))
  have k_code := sl_all (hok _ (.head _))
  apply sayR_den (φ := (phi_67))
  simp (config := { maxSteps := 2000000 }) [e_code, tree_67, T.sayR, inK_i64_iff, RS.oks, RS.ok, okD_int, okD_bool, X.den, O1.den, O2.den, O3.den, callD, XArg.ev, XArg.dat, Callee'.num, backs, DArg.back, Conds.den, cloArgs, phi_67]
  (repeat' (first | (with_reducible apply And.intro) | intro _)) <;> first | (first | ((with_reducible refine ⟨?_⟩); simp [e_code, tree_67, T.sayR, inK_i64_iff, RS.oks, RS.ok, okD_int, okD_bool, X.den, O1.den, O2.den, O3.den, callD, XArg.ev, XArg.dat, Callee'.num, backs, DArg.back, Conds.den, cloArgs]; intro K hK; (try simp only [phi_67] at hK); intros; first | contradiction | ((with_reducible refine pd_113 _ _ ?ho); (case ho => exact hK)) | ((with_reducible refine pd_119 _ _ ?ho); (case ho => exact hK)) | ((with_reducible refine pd_132 _ _ _ ?ho); (case ho => exact hK)) | (exact pd_113 _ _ hK) | (exact pd_119 _ _ hK) | (exact pd_132 _ _ _ hK)) | ((with_reducible show CallIn _ _ _ _ _); first | (refine .inr ⟨_, rfl, fun K hK => hK⟩) | (refine .inr ⟨_, rfl, fun K hK => hK true⟩) | (refine .inr ⟨_, rfl, fun K hK => hK 0 (by simp)⟩))) | omega | assumption | (refine ⟨_, ?_, rfl⟩; assumption)
theorem pd_67 (code : D) (Q : List D → Prop) (ho : ∀ (a : D), ((((a.fld 6).toL.length : Int) ≤ 5)) → Q [a]) : PC Try.prog 67 [.sc (.sl [(.int .u8)]) code] [.st [(.int .i64), (.int .i64), (.int .i64), (.int .i64), (.int .i64), .bool, (.sl [(.int .i64), (.int .i64), (.int .i64), (.int .i64), (.int .i64), (.int .i64), .bool])]] Q := (pc_67 code).mono (by rintro _ ⟨a, hc, rfl⟩; exact ho a hc)
/- spec.DrawActFits -/
def phi_68 : Nat → List D → (List D → Prop) → Prop
  | 113, [a], K => K [a]
  | 117, [c, n], K => ∀ (m : Int), (0 ≤ m ∧ m ≤ 16777215 ∧ (0 < n.toI → m < n.toI) ∧ (n.toI ≤ 0 → m = 0)) → K [.int m]
  | 119, [c], K => ∀ (s : D), (stateN 5 3 s) → K [s]
  | 132, [c, s], K => ∀ (a : D), ((((a.fld 6).toL.length : Int) ≤ 5)) → K [a]
  | _, _, _ => False
theorem pc_68 (code : D) : PC Try.prog 68 [.sc (.sl [(.int .u8)]) code] [.st [(.int .i64), (.int .i64), (.int .i64), (.int .i64), (.int .i64), .bool, (.sl [(.int .i64), (.int .i64), (.int .i64), (.int .i64), (.int .i64), (.int .i64), .bool])], .sc (.int .i64)] fun o => ∃ (a : D) (k : Int), ((((a.fld 6).toL.length : Int) ≤ 5)) ∧ o = [a, .int k] := by
  refine PC.of_sig mix sig_68 ⟨rfl, trivial⟩ rfl fun hok => ?_
  have e_code := sl_eta (hok _ (.head _))
  have l_code := sl_len (hok _ (.head _))
  have k_code := sl_all (hok _ (.head _))
  apply sayR_den (φ := (phi_68))
  simp (config := { maxSteps := 2000000 }) [e_code, tree_68, T.sayR, inK_i64_iff, RS.oks, RS.ok, okD_int, okD_bool, X.den, O1.den, O2.den, O3.den, callD, XArg.ev, XArg.dat, Callee'.num, backs, DArg.back, Conds.den, cloArgs, phi_68]
  (repeat' (first | (with_reducible apply And.intro) | intro _)) <;> first | (first | ((with_reducible refine ⟨?_⟩); simp [e_code, tree_68, T.sayR, inK_i64_iff, RS.oks, RS.ok, okD_int, okD_bool, X.den, O1.den, O2.den, O3.den, callD, XArg.ev, XArg.dat, Callee'.num, backs, DArg.back, Conds.den, cloArgs]; intro K hK; (try simp only [phi_68] at hK); intros; first | contradiction | ((with_reducible refine pd_113 _ _ ?ho); (case ho => exact hK)) | ((with_reducible refine pd_117 _ _ _ ?ho); (case ho => exact hK)) | ((with_reducible refine pd_119 _ _ ?ho); (case ho => exact hK)) | ((with_reducible refine pd_132 _ _ _ ?ho); (case ho => exact hK)) | (exact pd_113 _ _ hK) | (exact pd_117 _ _ _ hK) | (exact pd_119 _ _ hK) | (exact pd_132 _ _ _ hK)) | ((with_reducible show CallIn _ _ _ _ _); first | (refine .inr ⟨_, rfl, fun K hK => hK⟩) | (refine .inr ⟨_, rfl, fun K hK => hK true⟩) | (refine .inr ⟨_, rfl, fun K hK => hK 0 (by simp)⟩))) | omega | assumption | (refine ⟨_, _, ?_, rfl⟩; assumption)
theorem pd_68 (code : D) (Q : List D → Prop) (ho : ∀ (a : D) (k : Int), ((((a.fld 6).toL.length : Int) ≤ 5)) → Q [a, .int k]) : PC Try.prog 68 [.sc (.sl [(.int .u8)]) code] [.st [(.int .i64), (.int .i64), (.int .i64), (.int .i64), (.int .i64), .bool, (.sl [(.int .i64), (.int .i64), (.int .i64), (.int .i64), (.int .i64), (.int .i64), .bool])], .sc (.int .i64)] Q := (pc_68 code).mono (by rintro _ ⟨a, k, hc, rfl⟩; exact ho a k hc)
/- spec.DrawParts -/
def phi_69 : Nat → List D → (List D → Prop) → Prop
  | 113, [a], K => K [a]
  | 119, [c], K => ∀ (s : D), (stateN 5 3 s) → K [s]
  | 132, [c, s], K => ∀ (a : D), ((((a.fld 6).toL.length : Int) ≤ 5)) → K [a]
  | 148, [c, s], K => ∀ (e : D), K [e]
  | _, _, _ => False
theorem pc_69 (code : D) : PC Try.prog 69 [.sc (.sl [(.int .u8)]) code] [.st [(.int .i64), (.int .i64), (.int .i64), (.int .i64), (.int .i64), .bool, (.sl [(.int .i64), (.int .i64), (.int .i64), (.int .i64), (.int .i64), (.int .i64), .bool])], .st [(.int .i64), (.int .i64), (.int .i64), (.int .i64), (.int .i64), (.int .i64), .bool]] fun o => ∃ (a : D) (e : D), ((((a.fld 6).toL.length : Int) ≤ 5)) ∧ o = [a, e] := by
  refine PC.of_sig mix sig_69 ⟨rfl, trivial⟩ rfl fun hok => ?_
  have e_code := sl_eta (hok _ (.head _))
  have l_code := sl_len (hok _ (.head _))
  have k_code := sl_all (hok _ (.head _))
  apply sayR_den (φ := (phi_69))
  simp (config := { maxSteps := 2000000 }) [e_code, tree_69, T.sayR, inK_i64_iff, RS.oks, RS.ok, okD_int, okD_bool, X.den, O1.den, O2.den, O3.den, callD, XArg.ev, XArg.dat, Callee'.num, backs, DArg.back, Conds.den, cloArgs, phi_69]
  (repeat' (first | (with_reducible apply And.intro) | intro _)) <;> first | (first | ((with_reducible refine ⟨?_⟩); simp [e_code, tree_69, T.sayR, inK_i64_iff, RS.oks, RS.ok, okD_int, okD_bool, X.den, O1.den, O2.den, O3.den, callD, XArg.ev, XArg.dat, Callee'.num, backs, DArg.back, Conds.den, cloArgs]; intro K hK; (try simp only [phi_69] at hK); intros; first | contradiction | ((with_reducible refine pd_113 _ _ ?ho); (case ho => exact hK)) | ((with_reducible refine pd_119 _ _ ?ho); (case ho => exact hK)) | ((with_reducible refine pd_132 _ _ _ ?ho); (case ho => exact hK)) | ((with_reducible refine pd_148 _ _ _ ?ho); (case ho => exact hK)) | (exact pd_113 _ _ hK) | (exact pd_119 _ _ hK) | (exact pd_132 _ _ _ hK) | (exact pd_148 _ _ _ hK)) | ((with_reducible show CallIn _ _ _ _ _); first | (refine .inr ⟨_, rfl, fun K hK => hK⟩) | (refine .inr ⟨_, rfl, fun K hK => hK true⟩) | (refine .inr ⟨_, rfl, fun K hK => hK 0 (by simp)⟩))) | omega | assumption | (refine ⟨_, _, ?_, rfl⟩; assumption)
theorem pd_69 (code : D) (Q : List D → Prop) (ho : ∀ (a : D) (e : D), ((((a.fld 6).toL.length : Int) ≤ 5)) → Q [a, e]) : PC Try.prog 69 [.sc (.sl [(.int .u8)]) code] [.st [(.int .i64), (.int .i64), (.int .i64), (.int .i64), (.int .i64), .bool, (.sl [(.int .i64), (.int .i64), (.int .i64), (.int .i64), (.int .i64), (.int .i64), .bool])], .st [(.int .i64), (.int .i64), (.int .i64), (.int .i64), (.int .i64), (.int .i64), .bool]] Q := (pc_69 code).mono (by rintro _ ⟨a, e, hc, rfl⟩; exact ho a e hc)
/- impl.Upto -/
theorem pc_44 (a b : D) : PC Try.prog 44 [.sc (.int .i64) a, .sc (.int .i64) b] [.sc (.int .i64)] fun o => o = [.int (upto a.toI b.toI)] := by
  refine PC.of_sig mix sig_44 ⟨rfl, rfl, trivial⟩ rfl fun hok => ?_
  have e_a := int_eta (hok _ (.head _))
  have b_a := int_range (hok _ (.head _))
  have e_b := int_eta (hok _ (.tail _ (.head _)))
  have b_b := int_range (hok _ (.tail _ (.head _)))
  apply says_den (φ := fun _ _ => [])
  simp [e_a, e_b, tree_44, T.says, X.den, O1.den, O2.den, O3.den, callD, XArg.ev, XArg.dat, Callee'.num, backs, DArg.back, Conds.den, cloArgs]
  grind [upto]
theorem pd_44 (a b : D) (Q : List D → Prop) (ho : Q [.int (upto a.toI b.toI)]) : PC Try.prog 44 [.sc (.int .i64) a, .sc (.int .i64) b] [.sc (.int .i64)] Q := (pc_44 a b).mono fun _ h => h ▸ ho
/- impl.Parts -/
def phi_70 : Nat → List D → List D
  | 44, [a, b] => [.int (upto a.toI b.toI)]
  | _, _ => []
theorem pc_70 (a v : D) (h : ((a.fld 6).toL.length : Int) ≤ 1048576) : PC Try.prog 70 [.st [(.int .i64), (.int .i64), (.int .i64), (.int .i64), (.int .i64), .bool, (.sl [(.int .i64), (.int .i64), (.int .i64), (.int .i64), (.int .i64), (.int .i64), .bool])] a, .st [(.int .i64), (.int .i64), (.int .i64), (.int .i64), (.int .i64), (.int .i64), .bool] v] [.sc (.sl [(.int .i64), (.int .i64), (.int .i64), (.int .i64), (.int .i64), (.int .i64), .bool])] fun o => o = [.lst (parts a v)] := by
  refine PC.of_sig mix sig_70 ⟨rfl, rfl, trivial⟩ rfl fun hok => ?_
  have e_a : D.lst [a.fld 0, a.fld 1, a.fld 2, a.fld 3, a.fld 4, a.fld 5, a.fld 6] = a := by simpa [List.range, List.range.loop] using okL_eta (hok _ (.head _))
  have k_a : okL [(.int .i64), (.int .i64), (.int .i64), (.int .i64), (.int .i64), .bool, (.sl [(.int .i64), (.int .i64), (.int .i64), (.int .i64), (.int .i64), (.int .i64), .bool])] a := (hok _ (.head _))
  have e_a_6 : D.lst (a.fld 6).toL = a.fld 6 := sl_eta (okL_at k_a (i := 6) rfl)
  have l_a_6 := sl_len (okL_at k_a (i := 6) rfl)
  have k_a_6 := sl_all (okL_at k_a (i := 6) rfl)
  have E_a_6 : ∀ i, i < (a.fld 6).toL.length → D.lst [((a.fld 6).elem i).fld 0, ((a.fld 6).elem i).fld 1, ((a.fld 6).elem i).fld 2, ((a.fld 6).elem i).fld 3, ((a.fld 6).elem i).fld 4, ((a.fld 6).elem i).fld 5, ((a.fld 6).elem i).fld 6] = (a.fld 6).elem i := fun i hi => by simpa [List.range, List.range.loop] using okL_eta (k_a_6 _ (elem_mem hi))
  have e_v : D.lst [v.fld 0, v.fld 1, v.fld 2, v.fld 3, v.fld 4, v.fld 5, v.fld 6] = v := by simpa [List.range, List.range.loop] using okL_eta (hok _ (.tail _ (.head _)))
  have k_v : okL [(.int .i64), (.int .i64), (.int .i64), (.int .i64), (.int .i64), (.int .i64), .bool] v := (hok _ (.tail _ (.head _)))
  apply says_den (φ := (phi_70))
  simp [e_a_6, E_a_6, e_a, e_v, tree_70, T.says, X.den, O1.den, O2.den, O3.den, callD, XArg.ev, XArg.dat, Callee'.num, backs, DArg.back, Conds.den, cloArgs, phi_70, pd_44]
  refine ⟨fun h9 => by simp [parts, h9], fun h9 _ => ?_⟩
  refine den_for (a.fld 6).toL.length 0 (fun i => [.int i, .lst (partsTo a v i)]) (fun _ => True) (by simp) (by simp [X.den, partsTo]) trivial fun i hi _ => ?_
  apply says_den (φ := (phi_70))
  by_cases hlt : i < (a.fld 6).toL.length
  · simp [e_a_6, E_a_6, e_a, e_v, tree_70, T.says, X.den, O1.den, O2.den, O3.den, callD, XArg.ev, XArg.dat, Callee'.num, backs, DArg.back, Conds.den, cloArgs, phi_70, pd_44, hlt]
    (repeat' (first | (with_reducible apply And.intro) | intro _)) <;> first | omega | (first | omega | (simp only [IntKind.wrap_i64, maxL] at *; omega) | (simp [IntKind.wrap_i64, maxL] at *; omega)) | (rw [partsTo_succ, partE, if_pos (by assumption)]) | (rw [partsTo_succ, partE, if_neg (by assumption)]) | (first | assumption | (exact pd_44 _ _ _ (by first | rfl | simp | (simp; omega))) | (first | omega | (simp only [IntKind.wrap_i64, maxL] at *; omega) | (simp [IntKind.wrap_i64, maxL] at *; omega)) | rfl | contradiction | grind) | skip
  · simp [e_a_6, E_a_6, e_a, e_v, tree_70, T.says, X.den, O1.den, O2.den, O3.den, callD, XArg.ev, XArg.dat, Callee'.num, backs, DArg.back, Conds.den, cloArgs, phi_70, pd_44, hlt]
    (repeat' (first | (with_reducible apply And.intro) | intro _)) <;> first | omega | (rw [parts, if_pos (by assumption), show i = (a.fld 6).toL.length by omega]) | (first | assumption | (exact pd_44 _ _ _ (by first | rfl | simp | (simp; omega))) | (first | omega | (simp only [IntKind.wrap_i64, maxL] at *; omega) | (simp [IntKind.wrap_i64, maxL] at *; omega)) | rfl | contradiction | grind) | skip
theorem pd_70 (a v : D) (h : ((a.fld 6).toL.length : Int) ≤ 1048576) (Q : List D → Prop) (ho : Q [.lst (parts a v)]) : PC Try.prog 70 [.st [(.int .i64), (.int .i64), (.int .i64), (.int .i64), (.int .i64), .bool, (.sl [(.int .i64), (.int .i64), (.int .i64), (.int .i64), (.int .i64), (.int .i64), .bool])] a, .st [(.int .i64), (.int .i64), (.int .i64), (.int .i64), (.int .i64), (.int .i64), .bool] v] [.sc (.sl [(.int .i64), (.int .i64), (.int .i64), (.int .i64), (.int .i64), (.int .i64), .bool])] Q := (pc_70 a v h).mono fun _ h => h ▸ ho
/- spec.l9Plain -/
theorem pc_161 (a : D) : PC Try.prog 161 [.st [(.int .i64), (.int .i64), (.int .i64), (.int .i64), (.int .i64), .bool, (.sl [(.int .i64), (.int .i64), (.int .i64), (.int .i64), (.int .i64), (.int .i64), .bool])] a] [.sc .bool] fun o => o = [.bool (plain a)] := by
  refine PC.of_sig mix sig_161 ⟨rfl, trivial⟩ rfl fun hok => ?_
  have e_a : D.lst [a.fld 0, a.fld 1, a.fld 2, a.fld 3, a.fld 4, a.fld 5, a.fld 6] = a := by simpa [List.range, List.range.loop] using okL_eta (hok _ (.head _))
  have k_a : okL [(.int .i64), (.int .i64), (.int .i64), (.int .i64), (.int .i64), .bool, (.sl [(.int .i64), (.int .i64), (.int .i64), (.int .i64), (.int .i64), (.int .i64), .bool])] a := (hok _ (.head _))
  have e_a_6 : D.lst (a.fld 6).toL = a.fld 6 := sl_eta (okL_at k_a (i := 6) rfl)
  have l_a_6 := sl_len (okL_at k_a (i := 6) rfl)
  have k_a_6 := sl_all (okL_at k_a (i := 6) rfl)
  have E_a_6 : ∀ i, i < (a.fld 6).toL.length → D.lst [((a.fld 6).elem i).fld 0, ((a.fld 6).elem i).fld 1, ((a.fld 6).elem i).fld 2, ((a.fld 6).elem i).fld 3, ((a.fld 6).elem i).fld 4, ((a.fld 6).elem i).fld 5, ((a.fld 6).elem i).fld 6] = (a.fld 6).elem i := fun i hi => by simpa [List.range, List.range.loop] using okL_eta (k_a_6 _ (elem_mem hi))
  apply says_den (φ := fun _ _ => [])
  simp [e_a_6, E_a_6, e_a, tree_161, T.says, X.den, O1.den, O2.den, O3.den, callD, XArg.ev, XArg.dat, Callee'.num, backs, DArg.back, Conds.den, cloArgs, plain]
theorem pd_161 (a : D) (Q : List D → Prop) (ho : Q [.bool (plain a)]) : PC Try.prog 161 [.st [(.int .i64), (.int .i64), (.int .i64), (.int .i64), (.int .i64), .bool, (.sl [(.int .i64), (.int .i64), (.int .i64), (.int .i64), (.int .i64), (.int .i64), .bool])] a] [.sc .bool] Q := (pc_161 a).mono fun _ h => h ▸ ho
/- spec.EventOk -/
def phi_59 : Nat → List D → List D
  | 126, [a, b, c] => [.bool (inR a.toI b.toI c.toI)]
  | _, _ => []
theorem pc_59 (e : D) : PC Try.prog 59 [.st [(.int .i64), (.int .i64), (.int .i64), (.int .i64), (.int .i64), (.int .i64), .bool] e] [.sc .bool] fun o => o = [.bool (eventOk e)] := by
  refine PC.of_sig mix sig_59 ⟨rfl, trivial⟩ rfl fun hok => ?_
  have e_e : D.lst [e.fld 0, e.fld 1, e.fld 2, e.fld 3, e.fld 4, e.fld 5, e.fld 6] = e := by simpa [List.range, List.range.loop] using okL_eta (hok _ (.head _))
  have k_e : okL [(.int .i64), (.int .i64), (.int .i64), (.int .i64), (.int .i64), (.int .i64), .bool] e := (hok _ (.head _))
  apply says_den (φ := (phi_59))
  simp [e_e, tree_59, T.says, X.den, O1.den, O2.den, O3.den, callD, XArg.ev, XArg.dat, Callee'.num, backs, DArg.back, Conds.den, cloArgs, phi_59, pd_126]
  (repeat' (first | (with_reducible apply And.intro) | intro _)) <;> grind [eventOk, onPiece, onPlayer]
theorem pd_59 (e : D) (Q : List D → Prop) (ho : Q [.bool (eventOk e)]) : PC Try.prog 59 [.st [(.int .i64), (.int .i64), (.int .i64), (.int .i64), (.int .i64), (.int .i64), .bool] e] [.sc .bool] Q := (pc_59 e).mono fun _ h => h ▸ ho
/- spec.l9Part -/
def phi_162 : Nat → List D → List D
  | 59, [e] => [.bool (eventOk e)]
  | _, _ => []
theorem pc_162 (e : D) : PC Try.prog 162 [.st [(.int .i64), (.int .i64), (.int .i64), (.int .i64), (.int .i64), (.int .i64), .bool] e] [.sc .bool] fun o => o = [.bool (partOk e)] := by
  refine PC.of_sig mix sig_162 ⟨rfl, trivial⟩ rfl fun hok => ?_
  have e_e : D.lst [e.fld 0, e.fld 1, e.fld 2, e.fld 3, e.fld 4, e.fld 5, e.fld 6] = e := by simpa [List.range, List.range.loop] using okL_eta (hok _ (.head _))
  have k_e : okL [(.int .i64), (.int .i64), (.int .i64), (.int .i64), (.int .i64), (.int .i64), .bool] e := (hok _ (.head _))
  apply says_den (φ := (phi_162))
  simp [e_e, tree_162, T.says, X.den, O1.den, O2.den, O3.den, callD, XArg.ev, XArg.dat, Callee'.num, backs, DArg.back, Conds.den, cloArgs, phi_162, pd_59, partOk, ev0]
  all_goals grind
theorem pd_162 (e : D) (Q : List D → Prop) (ho : Q [.bool (partOk e)]) : PC Try.prog 162 [.st [(.int .i64), (.int .i64), (.int .i64), (.int .i64), (.int .i64), (.int .i64), .bool] e] [.sc .bool] Q := (pc_162 e).mono fun _ h => h ▸ ho
/- spec.ActOk -/
def phi_71 : Nat → List D → List D
  | 126, [a, b, c] => [.bool (inR a.toI b.toI c.toI)]
  | 161, [a] => [.bool (plain a)]
  | 162, [e] => [.bool (partOk e)]
  | _, _ => []
theorem pc_71 (a : D) : PC Try.prog 71 [.st [(.int .i64), (.int .i64), (.int .i64), (.int .i64), (.int .i64), .bool, (.sl [(.int .i64), (.int .i64), (.int .i64), (.int .i64), (.int .i64), (.int .i64), .bool])] a] [.sc .bool] fun o => o = [.bool (actOk a)] := by
  refine PC.of_sig mix sig_71 ⟨rfl, trivial⟩ rfl fun hok => ?_
  have e_a : D.lst [a.fld 0, a.fld 1, a.fld 2, a.fld 3, a.fld 4, a.fld 5, a.fld 6] = a := by simpa [List.range, List.range.loop] using okL_eta (hok _ (.head _))
  have k_a : okL [(.int .i64), (.int .i64), (.int .i64), (.int .i64), (.int .i64), .bool, (.sl [(.int .i64), (.int .i64), (.int .i64), (.int .i64), (.int .i64), (.int .i64), .bool])] a := (hok _ (.head _))
  have e_a_6 : D.lst (a.fld 6).toL = a.fld 6 := sl_eta (okL_at k_a (i := 6) rfl)
  have l_a_6 := sl_len (okL_at k_a (i := 6) rfl)
  have k_a_6 := sl_all (okL_at k_a (i := 6) rfl)
  have E_a_6 : ∀ i, i < (a.fld 6).toL.length → D.lst [((a.fld 6).elem i).fld 0, ((a.fld 6).elem i).fld 1, ((a.fld 6).elem i).fld 2, ((a.fld 6).elem i).fld 3, ((a.fld 6).elem i).fld 4, ((a.fld 6).elem i).fld 5, ((a.fld 6).elem i).fld 6] = (a.fld 6).elem i := fun i hi => by simpa [List.range, List.range.loop] using okL_eta (k_a_6 _ (elem_mem hi))
  apply says_den (φ := (phi_71))
  simp [e_a_6, E_a_6, e_a, tree_71, T.says, X.den, O1.den, O2.den, O3.den, callD, XArg.ev, XArg.dat, Callee'.num, backs, DArg.back, Conds.den, cloArgs, phi_71, pd_126, pd_161, pd_162]
  (repeat' (first | (with_reducible apply And.intro) | intro _))
  all_goals first | (exfalso; omega) | (grind [actOk, plain]) | skip
  refine den_for (a.fld 6).toL.length 0 (fun i => [.int i]) (fun i => ∀ j, j < i → partOk ((a.fld 6).elem j) = true) (by simp) (by simp [X.den]) (by simp) fun i hi hR => ?_
  have hs : actOk a = ((a.fld 1).toI == 0 && (a.fld 2).toI == 0 && (a.fld 3).toI == -1 && (a.fld 4).toI == 0 && !(a.fld 5).toB && inR (a.fld 6).toL.length 1 3 && allR (fun i => partOk ((a.fld 6).elem i)) (a.fld 6).toL.length) := by
    simp [actOk, *]
  rw [hs]
  apply says_den (φ := (phi_71))
  by_cases hlt : i < (a.fld 6).toL.length
  · simp [e_a_6, E_a_6, e_a, tree_71, T.says, X.den, O1.den, O2.den, O3.den, callD, XArg.ev, XArg.dat, Callee'.num, backs, DArg.back, Conds.den, cloArgs, phi_71, pd_126, pd_161, pd_162, hlt]
    (repeat' (first | (with_reducible apply And.intro) | intro _))
    · rw [allR_false (p := fun i => partOk ((a.fld 6).elem i)) hlt ‹_›]
    · (first | omega | (simp only [IntKind.wrap_i64, maxL] at *; omega) | (simp [IntKind.wrap_i64, maxL] at *; omega))
    · grind
  · have ht := allR_true (p := fun i => partOk ((a.fld 6).elem i)) (n := (a.fld 6).toL.length) (fun j hj => hR j (by omega))
    simp [e_a_6, E_a_6, e_a, tree_71, T.says, X.den, O1.den, O2.den, O3.den, callD, XArg.ev, XArg.dat, Callee'.num, backs, DArg.back, Conds.den, cloArgs, phi_71, pd_126, pd_161, pd_162, hlt, ht]
    all_goals grind
theorem pd_71 (a : D) (Q : List D → Prop) (ho : Q [.bool (actOk a)]) : PC Try.prog 71 [.st [(.int .i64), (.int .i64), (.int .i64), (.int .i64), (.int .i64), .bool, (.sl [(.int .i64), (.int .i64), (.int .i64), (.int .i64), (.int .i64), (.int .i64), .bool])] a] [.sc .bool] Q := (pc_71 a).mono fun _ h => h ▸ ho
/- impl.isKind -/
def phi_122 : Nat → List D → List D
  | 123, [a, b, c] => [.bool (inR a.toI b.toI c.toI)]
  | _, _ => []
theorem pc_122 (a : D) : PC Try.prog 122 [.sc (.int .i64) a] [.sc .bool] fun o => o = [.bool (inR a.toI 1 6)] := by
  refine PC.of_sig mix sig_122 ⟨rfl, trivial⟩ rfl fun hok => ?_
  have e_a := int_eta (hok _ (.head _))
  have b_a := int_range (hok _ (.head _))
  apply says_den (φ := (phi_122))
  simp [e_a, tree_122, T.says, X.den, O1.den, O2.den, O3.den, callD, XArg.ev, XArg.dat, Callee'.num, backs, DArg.back, Conds.den, cloArgs, phi_122, pd_123]
theorem pd_122 (a : D) (Q : List D → Prop) (ho : Q [.bool (inR a.toI 1 6)]) : PC Try.prog 122 [.sc (.int .i64) a] [.sc .bool] Q := (pc_122 a).mono fun _ h => h ▸ ho
/- impl.ActFits -/
def phi_72 : Nat → List D → List D
  | 122, [a] => [.bool (inR a.toI 1 6)]
  | _, _ => []
theorem pc_72 (a n : D) : PC Try.prog 72 [.st [(.int .i64), (.int .i64), (.int .i64), (.int .i64), (.int .i64), .bool, (.sl [(.int .i64), (.int .i64), (.int .i64), (.int .i64), (.int .i64), (.int .i64), .bool])] a, .sc (.int .i64) n] [.sc .bool] fun o => o = [.bool (actFits a n.toI)] := by
  refine PC.of_sig mix sig_72 ⟨rfl, rfl, trivial⟩ rfl fun hok => ?_
  have e_a : D.lst [a.fld 0, a.fld 1, a.fld 2, a.fld 3, a.fld 4, a.fld 5, a.fld 6] = a := by simpa [List.range, List.range.loop] using okL_eta (hok _ (.head _))
  have k_a : okL [(.int .i64), (.int .i64), (.int .i64), (.int .i64), (.int .i64), .bool, (.sl [(.int .i64), (.int .i64), (.int .i64), (.int .i64), (.int .i64), (.int .i64), .bool])] a := (hok _ (.head _))
  have e_a_6 : D.lst (a.fld 6).toL = a.fld 6 := sl_eta (okL_at k_a (i := 6) rfl)
  have l_a_6 := sl_len (okL_at k_a (i := 6) rfl)
  have k_a_6 := sl_all (okL_at k_a (i := 6) rfl)
  have E_a_6 : ∀ i, i < (a.fld 6).toL.length → D.lst [((a.fld 6).elem i).fld 0, ((a.fld 6).elem i).fld 1, ((a.fld 6).elem i).fld 2, ((a.fld 6).elem i).fld 3, ((a.fld 6).elem i).fld 4, ((a.fld 6).elem i).fld 5, ((a.fld 6).elem i).fld 6] = (a.fld 6).elem i := fun i hi => by simpa [List.range, List.range.loop] using okL_eta (k_a_6 _ (elem_mem hi))
  have e_n := int_eta (hok _ (.tail _ (.head _)))
  have b_n := int_range (hok _ (.tail _ (.head _)))
  apply says_den (φ := (phi_72))
  simp [e_a_6, E_a_6, e_a, e_n, tree_72, T.says, X.den, O1.den, O2.den, O3.den, callD, XArg.ev, XArg.dat, Callee'.num, backs, DArg.back, Conds.den, cloArgs, phi_72, pd_122]
  (repeat' (first | (with_reducible apply And.intro) | intro _)) <;> grind [actFits]
theorem pd_72 (a n : D) (Q : List D → Prop) (ho : Q [.bool (actFits a n.toI)]) : PC Try.prog 72 [.st [(.int .i64), (.int .i64), (.int .i64), (.int .i64), (.int .i64), .bool, (.sl [(.int .i64), (.int .i64), (.int .i64), (.int .i64), (.int .i64), (.int .i64), .bool])] a, .sc (.int .i64) n] [.sc .bool] Q := (pc_72 a n).mono fun _ h => h ▸ ho
/- laws.sameEvents -/
theorem pc_74 (a b : D) : PC Try.prog 74 [.sc (.sl [(.int .i64), (.int .i64), (.int .i64), (.int .i64), (.int .i64), (.int .i64), .bool]) a, .sc (.sl [(.int .i64), (.int .i64), (.int .i64), (.int .i64), (.int .i64), (.int .i64), .bool]) b] [.sc .bool] fun o => o = [.bool (sameEvs a b)] := by
  refine PC.of_sig mix sig_74 ⟨rfl, rfl, trivial⟩ rfl fun hok => ?_
  have e_a := sl_eta (hok _ (.head _))
  have l_a := sl_len (hok _ (.head _))
  have k_a := sl_all (hok _ (.head _))
  have E_a : ∀ i, i < a.toL.length → D.lst [(a.elem i).fld 0, (a.elem i).fld 1, (a.elem i).fld 2, (a.elem i).fld 3, (a.elem i).fld 4, (a.elem i).fld 5, (a.elem i).fld 6] = a.elem i := fun i hi => by simpa [List.range, List.range.loop] using okL_eta (k_a _ (elem_mem hi))
  have e_b := sl_eta (hok _ (.tail _ (.head _)))
  have l_b := sl_len (hok _ (.tail _ (.head _)))
  have k_b := sl_all (hok _ (.tail _ (.head _)))
  have E_b : ∀ i, i < b.toL.length → D.lst [(b.elem i).fld 0, (b.elem i).fld 1, (b.elem i).fld 2, (b.elem i).fld 3, (b.elem i).fld 4, (b.elem i).fld 5, (b.elem i).fld 6] = b.elem i := fun i hi => by simpa [List.range, List.range.loop] using okL_eta (k_b _ (elem_mem hi))
  apply says_den (φ := fun _ _ => [])
  simp [e_a, e_b, E_a, E_b, tree_74, T.says, X.den, O1.den, O2.den, O3.den, callD, XArg.ev, XArg.dat, Callee'.num, backs, DArg.back, Conds.den, cloArgs]
  (repeat' (first | (with_reducible apply And.intro) | intro _))
  · grind [sameEvs]
  refine den_for a.toL.length 0 (fun i => [.int i]) (fun i => ∀ j, j < i → sameEv (a.elem j) (b.elem j) = true) (by simp) (by simp [X.den]) (by simp) fun i hi hR => ?_
  apply says_den (φ := fun _ _ => [])
  simp [e_a, e_b, E_a, E_b, tree_74, T.says, X.den, O1.den, O2.den, O3.den, callD, XArg.ev, XArg.dat, Callee'.num, backs, DArg.back, Conds.den, cloArgs]
  (repeat' (first | (with_reducible apply And.intro) | intro _))
  · omega
  · omega
  · have : sameEv (a.elem i) (b.elem i) = false := by grind [sameEv]
    simp [sameEvs, allR_false (p := fun i => sameEv (a.elem i) (b.elem i)) (i := i) ‹_› this]
  · omega
  · (first | omega | (simp only [IntKind.wrap_i64, maxL] at *; omega) | (simp [IntKind.wrap_i64, maxL] at *; omega))
  · rename_i j hj
    by_cases hji : j = i
    · subst hji; grind [sameEv]
    · exact hR j (by omega)
  · have := allR_true (p := fun i => sameEv (a.elem i) (b.elem i)) (n := a.toL.length) (fun j hj => hR j (by omega))
    simp only [sameEvs, this, Bool.and_true, decide_eq_true_eq]
    omega
theorem pd_74 (a b : D) (Q : List D → Prop) (ho : Q [.bool (sameEvs a b)]) : PC Try.prog 74 [.sc (.sl [(.int .i64), (.int .i64), (.int .i64), (.int .i64), (.int .i64), (.int .i64), .bool]) a, .sc (.sl [(.int .i64), (.int .i64), (.int .i64), (.int .i64), (.int .i64), (.int .i64), .bool]) b] [.sc .bool] Q := (pc_74 a b).mono fun _ h => h ▸ ho
/- spec.Upto -/
theorem pc_138 (a b : D) : PC Try.prog 138 [.sc (.int .i64) a, .sc (.int .i64) b] [.sc (.int .i64)] fun o => o = [.int (upto a.toI b.toI)] := by
  refine PC.of_sig mix sig_138 ⟨rfl, rfl, trivial⟩ rfl fun hok => ?_
  have e_a := int_eta (hok _ (.head _))
  have b_a := int_range (hok _ (.head _))
  have e_b := int_eta (hok _ (.tail _ (.head _)))
  have b_b := int_range (hok _ (.tail _ (.head _)))
  apply says_den (φ := fun _ _ => [])
  simp [e_a, e_b, tree_138, T.says, X.den, O1.den, O2.den, O3.den, callD, XArg.ev, XArg.dat, Callee'.num, backs, DArg.back, Conds.den, cloArgs]
  grind [upto]
theorem pd_138 (a b : D) (Q : List D → Prop) (ho : Q [.int (upto a.toI b.toI)]) : PC Try.prog 138 [.sc (.int .i64) a, .sc (.int .i64) b] [.sc (.int .i64)] Q := (pc_138 a b).mono fun _ h => h ▸ ho
/- spec.Parts -/
def phi_75 : Nat → List D → List D
  | 138, [a, b] => [.int (upto a.toI b.toI)]
  | _, _ => []
theorem pc_75 (a v : D) (h : ((a.fld 6).toL.length : Int) ≤ 1048576) : PC Try.prog 75 [.st [(.int .i64), (.int .i64), (.int .i64), (.int .i64), (.int .i64), .bool, (.sl [(.int .i64), (.int .i64), (.int .i64), (.int .i64), (.int .i64), (.int .i64), .bool])] a, .st [(.int .i64), (.int .i64), (.int .i64), (.int .i64), (.int .i64), (.int .i64), .bool] v] [.sc (.sl [(.int .i64), (.int .i64), (.int .i64), (.int .i64), (.int .i64), (.int .i64), .bool])] fun o => o = [.lst (parts a v)] := by
  refine PC.of_sig mix sig_75 ⟨rfl, rfl, trivial⟩ rfl fun hok => ?_
  have e_a : D.lst [a.fld 0, a.fld 1, a.fld 2, a.fld 3, a.fld 4, a.fld 5, a.fld 6] = a := by simpa [List.range, List.range.loop] using okL_eta (hok _ (.head _))
  have k_a : okL [(.int .i64), (.int .i64), (.int .i64), (.int .i64), (.int .i64), .bool, (.sl [(.int .i64), (.int .i64), (.int .i64), (.int .i64), (.int .i64), (.int .i64), .bool])] a := (hok _ (.head _))
  have e_a_6 : D.lst (a.fld 6).toL = a.fld 6 := sl_eta (okL_at k_a (i := 6) rfl)
  have l_a_6 := sl_len (okL_at k_a (i := 6) rfl)
  have k_a_6 := sl_all (okL_at k_a (i := 6) rfl)
  have E_a_6 : ∀ i, i < (a.fld 6).toL.length → D.lst [((a.fld 6).elem i).fld 0, ((a.fld 6).elem i).fld 1, ((a.fld 6).elem i).fld 2, ((a.fld 6).elem i).fld 3, ((a.fld 6).elem i).fld 4, ((a.fld 6).elem i).fld 5, ((a.fld 6).elem i).fld 6] = (a.fld 6).elem i := fun i hi => by simpa [List.range, List.range.loop] using okL_eta (k_a_6 _ (elem_mem hi))
  have e_v : D.lst [v.fld 0, v.fld 1, v.fld 2, v.fld 3, v.fld 4, v.fld 5, v.fld 6] = v := by simpa [List.range, List.range.loop] using okL_eta (hok _ (.tail _ (.head _)))
  have k_v : okL [(.int .i64), (.int .i64), (.int .i64), (.int .i64), (.int .i64), (.int .i64), .bool] v := (hok _ (.tail _ (.head _)))
  apply says_den (φ := (phi_75))
  simp [e_a_6, E_a_6, e_a, e_v, tree_75, T.says, X.den, O1.den, O2.den, O3.den, callD, XArg.ev, XArg.dat, Callee'.num, backs, DArg.back, Conds.den, cloArgs, phi_75, pd_138]
  refine den_for (a.fld 6).toL.length 0 (fun i => [.int i, .lst (partsTo a v i)]) (fun i => (a.fld 0).toI ≠ 9 → i = 0) (by simp) (by simp [X.den, partsTo]) (by simp) fun i hi hR => ?_
  apply says_den (φ := (phi_75))
  by_cases hlt : i < (a.fld 6).toL.length
  · by_cases h9 : (a.fld 0).toI = 9
    · simp [e_a_6, E_a_6, e_a, e_v, tree_75, T.says, X.den, O1.den, O2.den, O3.den, callD, XArg.ev, XArg.dat, Callee'.num, backs, DArg.back, Conds.den, cloArgs, phi_75, pd_138, hlt, h9]
      (repeat' (first | (with_reducible apply And.intro) | intro _)) <;> first | omega | (first | omega | (simp only [IntKind.wrap_i64, maxL] at *; omega) | (simp [IntKind.wrap_i64, maxL] at *; omega)) | (rw [partsTo_succ, partE, if_pos (by assumption)]) | (rw [partsTo_succ, partE, if_neg (by assumption)]) | (first | assumption | (exact pd_138 _ _ _ (by first | rfl | simp | (simp; omega))) | (first | omega | (simp only [IntKind.wrap_i64, maxL] at *; omega) | (simp [IntKind.wrap_i64, maxL] at *; omega)) | rfl | contradiction | grind) | skip
    · have := hR h9
      subst this
      simp [e_a_6, E_a_6, e_a, e_v, tree_75, T.says, X.den, O1.den, O2.den, O3.den, callD, XArg.ev, XArg.dat, Callee'.num, backs, DArg.back, Conds.den, cloArgs, phi_75, pd_138, hlt, h9, parts, partsTo]
  · by_cases h9 : (a.fld 0).toI = 9
    · simp [e_a_6, E_a_6, e_a, e_v, tree_75, T.says, X.den, O1.den, O2.den, O3.den, callD, XArg.ev, XArg.dat, Callee'.num, backs, DArg.back, Conds.den, cloArgs, phi_75, pd_138, hlt, h9]
      (repeat' (first | (with_reducible apply And.intro) | intro _)) <;> first | omega | (rw [parts, if_pos (by assumption), show i = (a.fld 6).toL.length by omega]) | (first | assumption | (exact pd_138 _ _ _ (by first | rfl | simp | (simp; omega))) | (first | omega | (simp only [IntKind.wrap_i64, maxL] at *; omega) | (simp [IntKind.wrap_i64, maxL] at *; omega)) | rfl | contradiction | grind) | skip
    · have := hR h9
      subst this
      simp [e_a_6, E_a_6, e_a, e_v, tree_75, T.says, X.den, O1.den, O2.den, O3.den, callD, XArg.ev, XArg.dat, Callee'.num, backs, DArg.back, Conds.den, cloArgs, phi_75, pd_138, hlt, h9, parts, partsTo]
theorem pd_75 (a v : D) (h : ((a.fld 6).toL.length : Int) ≤ 1048576) (Q : List D → Prop) (ho : Q [.lst (parts a v)]) : PC Try.prog 75 [.st [(.int .i64), (.int .i64), (.int .i64), (.int .i64), (.int .i64), .bool, (.sl [(.int .i64), (.int .i64), (.int .i64), (.int .i64), (.int .i64), (.int .i64), .bool])] a, .st [(.int .i64), (.int .i64), (.int .i64), (.int .i64), (.int .i64), (.int .i64), .bool] v] [.sc (.sl [(.int .i64), (.int .i64), (.int .i64), (.int .i64), (.int .i64), (.int .i64), .bool])] Q := (pc_75 a v h).mono fun _ h => h ▸ ho
/- impl.NumText -/
def phi_159 : Nat → List D → List D
  | 159, [a] => [txt (numL a.toI)]
  | _, _ => []
theorem pcn_159 : ∀ (k : Nat) (a : D), 2 * a.toI.natAbs + (if a.toI < 0 then 1 else 0) < k → PC Try.prog 159 [.sc (.int .i64) a] [.sc .str] fun o => o = [txt (numL a.toI)]
  | 0, a, h => absurd h (Nat.not_lt_zero _)
  | k + 1, a, hk => by
    have ih := pcn_159 k
    refine PC.of_sig mix sig_159 ⟨rfl, trivial⟩ rfl fun hok => ?_
    have e_a := int_eta (hok _ (.head _))
    have b_a := int_range (hok _ (.head _))
    have hm := tmod10 a.toI
    have hd := tdiv10 a.toI
    apply says_den (φ := phi_159)
    by_cases hneg : a.toI < 0
    · rw [if_pos hneg] at hm hd hk
      by_cases hs : -10 < a.toI
      · have w0 : IntKind.i64.wrap (-a.toI) = -a.toI := by rw [IntKind.wrap_i64]; omega
        have hl := numL_small (n := -a.toI) (by omega)
        have hms : 2 * (-a.toI).natAbs + (if -a.toI < 0 then 1 else 0) < k := by split <;> omega
        have he : numL a.toI = 45 :: numL (-a.toI) := by
          simp only [numL]
          rw [if_pos hneg, if_neg (by omega), Int.natAbs_neg]
        simp [e_a, tree_159, T.says, X.den, O1.den, O2.den, callD, XArg.ev, XArg.dat, Callee'.num, backs, DArg.back, Conds.den, phi_159, hneg, hs, w0, txt, he]
        (repeat' (first | (with_reducible apply And.intro) | intro _)) <;> first | (exact ih (.int (-a.toI)) hms) | omega | rfl | skip
      · obtain ⟨q, hq, hq9⟩ : ∃ q : Nat, q = a.toI.natAbs % 10 ∧ q < 10 := ⟨_, rfl, by omega⟩
        have w1 : IntKind.i64.wrap (a.toI.tdiv 10) = a.toI.tdiv 10 := by rw [IntKind.wrap_i64]; omega
        have w2 : IntKind.i64.wrap (-a.toI.tmod 10) = (q : Int) := by rw [IntKind.wrap_i64]; omega
        have hl := numL_small (n := a.toI.tdiv 10) (by omega)
        have hl2 := numL_small (n := (q : Int)) (by omega)
        have hms : 2 * (a.toI.tdiv 10).natAbs + (if a.toI.tdiv 10 < 0 then 1 else 0) < k := by split <;> omega
        have hms2 : 2 * (q : Int).natAbs + (if (q : Int) < 0 then 1 else 0) < k := by split <;> omega
        have he : numL a.toI = numL (a.toI.tdiv 10) ++ numL (q : Int) := by
          have e1 : numL (a.toI.tdiv 10) = 45 :: natText (a.toI.natAbs / 10) := by
            simp only [numL]
            rw [if_pos (by omega), hd, Int.natAbs_neg, Int.natAbs_natCast]
          have e2 : numL (q : Int) = [UInt8.ofNat (48 + a.toI.natAbs % 10)] := by
            simp only [numL]
            rw [if_neg (by omega), Int.natAbs_natCast, natText_lt (by omega), hq]
          rw [e1, e2]
          simp only [numL]
          rw [if_pos hneg, natText_ge (by omega)]
          rfl
        simp [e_a, tree_159, T.says, X.den, O1.den, O2.den, callD, XArg.ev, XArg.dat, Callee'.num, backs, DArg.back, Conds.den, phi_159, hneg, hs, w1, w2, txt, he]
        (repeat' (first | (with_reducible apply And.intro) | intro _)) <;> first | (exact ih (.int (a.toI.tdiv 10)) hms) | (exact ih (.int (q : Int)) hms2) | omega | rfl | skip
    · rw [if_neg hneg] at hm hd hk
      by_cases hs : a.toI < 10
      · have w0 : IntKind.i64.wrap (48 + a.toI) = 48 + a.toI := by rw [IntKind.wrap_i64]; omega
        have w1 : IntKind.i32.wrap (48 + a.toI) = 48 + ((a.toI.natAbs : Nat) : Int) := by rw [IntKind.wrap_i32]; omega
        have hc := digit_chr (d := a.toI.natAbs) (by omega)
        have he : numL a.toI = [UInt8.ofNat (48 + a.toI.natAbs)] := by
          simp only [numL]
          rw [if_neg hneg, natText_lt (by omega)]
        simp [e_a, tree_159, T.says, X.den, O1.den, O2.den, callD, XArg.ev, XArg.dat, Callee'.num, backs, DArg.back, Conds.den, phi_159, hneg, hs, w0, w1, txt, he, hc]
      · obtain ⟨q, hq, hq9⟩ : ∃ q : Nat, q = a.toI.natAbs % 10 ∧ q < 10 := ⟨_, rfl, by omega⟩
        have w1 : IntKind.i64.wrap (a.toI.tdiv 10) = a.toI.tdiv 10 := by rw [IntKind.wrap_i64]; omega
        have w2 : IntKind.i64.wrap (48 + a.toI.tmod 10) = 48 + (q : Int) := by rw [IntKind.wrap_i64]; omega
        have w3 : IntKind.i32.wrap (48 + (q : Int)) = 48 + (q : Int) := by rw [IntKind.wrap_i32]; omega
        have hc := digit_chr hq9
        have hl := numL_small (n := a.toI.tdiv 10) (by omega)
        have hms : 2 * (a.toI.tdiv 10).natAbs + (if a.toI.tdiv 10 < 0 then 1 else 0) < k := by split <;> omega
        have he : numL a.toI = numL (a.toI.tdiv 10) ++ [UInt8.ofNat (48 + q)] := by
          simp only [numL]
          rw [if_neg hneg, if_neg (by omega), hd, Int.natAbs_natCast, natText_ge (by omega), hq]
        simp [e_a, tree_159, T.says, X.den, O1.den, O2.den, callD, XArg.ev, XArg.dat, Callee'.num, backs, DArg.back, Conds.den, phi_159, hneg, hs, w1, w2, w3, txt, he, hc]
        (repeat' (first | (with_reducible apply And.intro) | intro _)) <;> first | (exact ih (.int (a.toI.tdiv 10)) hms) | omega | rfl | skip
theorem pc_159 (a : D) : PC Try.prog 159 [.sc (.int .i64) a] [.sc .str] fun o => o = [txt (numL a.toI)] := pcn_159 _ a (Nat.lt_succ_self _)
theorem pd_159 (a : D) (Q : List D → Prop) (ho : Q [txt (numL a.toI)]) : PC Try.prog 159 [.sc (.int .i64) a] [.sc .str] Q := (pc_159 a).mono fun _ h => h ▸ ho
/- impl.ActText -/
def phi_76 : Nat → List D → List D
  | 43, [a] => [.bool (actOk a)]
  | 159, [a] => [txt (numL a.toI)]
  | _, _ => []
theorem pc_76 (a : D) : PC Try.prog 76 [.st [(.int .i64), (.int .i64), (.int .i64), (.int .i64), (.int .i64), .bool, (.sl [(.int .i64), (.int .i64), (.int .i64), (.int .i64), (.int .i64), (.int .i64), .bool])] a] [.sc .str] fun o => o = [txt (actText a)] := by
  refine PC.of_sig mix sig_76 ⟨rfl, trivial⟩ rfl fun hok => ?_
  have e_a : D.lst [a.fld 0, a.fld 1, a.fld 2, a.fld 3, a.fld 4, a.fld 5, a.fld 6] = a := by simpa [List.range, List.range.loop] using okL_eta (hok _ (.head _))
  have k_a : okL [(.int .i64), (.int .i64), (.int .i64), (.int .i64), (.int .i64), .bool, (.sl [(.int .i64), (.int .i64), (.int .i64), (.int .i64), (.int .i64), (.int .i64), .bool])] a := (hok _ (.head _))
  have e_a_6 : D.lst (a.fld 6).toL = a.fld 6 := sl_eta (okL_at k_a (i := 6) rfl)
  have l_a_6 := sl_len (okL_at k_a (i := 6) rfl)
  have k_a_6 := sl_all (okL_at k_a (i := 6) rfl)
  have E_a_6 : ∀ i, i < (a.fld 6).toL.length → D.lst [((a.fld 6).elem i).fld 0, ((a.fld 6).elem i).fld 1, ((a.fld 6).elem i).fld 2, ((a.fld 6).elem i).fld 3, ((a.fld 6).elem i).fld 4, ((a.fld 6).elem i).fld 5, ((a.fld 6).elem i).fld 6] = (a.fld 6).elem i := fun i hi => by simpa [List.range, List.range.loop] using okL_eta (k_a_6 _ (elem_mem hi))
  apply says_den (φ := (phi_76))
  have hn1 := numL_small (n := (a.fld 1).toI) (int_range (okL_at k_a (i := 1) rfl))
  have hn2 := numL_small (n := (a.fld 2).toI) (int_range (okL_at k_a (i := 2) rfl))
  have hn3 := numL_small (n := (a.fld 3).toI) (int_range (okL_at k_a (i := 3) rfl))
  have hn4 := numL_small (n := (a.fld 4).toI) (int_range (okL_at k_a (i := 4) rfl))
  have hn6 := numL_small (n := ((a.fld 6).toL.length : Int)) (by simp only [maxL] at l_a_6; omega)
  simp [e_a_6, E_a_6, e_a, tree_76, T.says, X.den, O1.den, O2.den, O3.den, callD, XArg.ev, XArg.dat, Callee'.num, backs, DArg.back, Conds.den, cloArgs, phi_76, pd_43, pd_159, actText, txt]
  all_goals ((repeat' (first | (with_reducible apply And.intro) | intro _)) <;> first | omega | (first | assumption | (exact pd_43 _ _ (by first | rfl | simp | (simp; omega))) | (exact pd_159 _ _ (by first | rfl | simp | (simp; omega))) | (first | omega | (simp only [IntKind.wrap_i64, maxL] at *; omega) | (simp [IntKind.wrap_i64, maxL] at *; omega)) | rfl | contradiction | grind) | skip)
theorem pd_76 (a : D) (Q : List D → Prop) (ho : Q [txt (actText a)]) : PC Try.prog 76 [.st [(.int .i64), (.int .i64), (.int .i64), (.int .i64), (.int .i64), .bool, (.sl [(.int .i64), (.int .i64), (.int .i64), (.int .i64), (.int .i64), (.int .i64), .bool])] a] [.sc .str] Q := (pc_76 a).mono fun _ h => h ▸ ho
/- spec.NumText -/
theorem pc_163 (a : D) : PC Try.prog 163 [.sc (.int .i64) a] [.sc .str] fun o => o = [txt (numL a.toI)] := by
  refine PC.of_sig mix sig_163 ⟨rfl, trivial⟩ rfl fun hok => ?_
  have e_a := int_eta (hok _ (.head _))
  have b_a := int_range (hok _ (.head _))
  apply says_den (φ := fun _ _ => [])
  by_cases h0 : a.toI = 0
  · have he : numL 0 = [48] := by simp [numL, natText_lt]
    simp [e_a, tree_163, T.says, X.den, O1.den, O2.den, O3.den, callD, XArg.ev, XArg.dat, Callee'.num, backs, DArg.back, Conds.den, cloArgs, h0, txt, he]
  have hlen := natText_small (n := a.toI.natAbs) (by omega)
  simp [e_a, tree_163, T.says, X.den, O1.den, O2.den, O3.den, callD, XArg.ev, XArg.dat, Callee'.num, backs, DArg.back, Conds.den, cloArgs, h0]
  refine den_loop (fun vs => ∃ (l : List UInt8) (x : Int), vs = [txt l, .int x] ∧ (x ≠ 0 → natText x.natAbs ++ l = natText a.toI.natAbs) ∧ (x = 0 → l = natText a.toI.natAbs) ∧ (a.toI < 0 → x ≤ 0) ∧ (0 ≤ a.toI → 0 ≤ x) ∧ -9223372036854775808 ≤ x ∧ x ≤ 9223372036854775807) (fun vs => ((vs.getD 1 default).toI).natAbs) ?_ ?_
  · refine ⟨[], a.toI, ?_, by simp, fun h => absurd h h0, by omega, by omega, b_a⟩
    simp [X.den, e_a, txt]
  · rintro vs hvl ⟨l, x, rfl, hx1, hx2, hx3, hx4, hx5⟩
    have hm := tmod10 x
    have hd := tdiv10 x
    apply says_den (φ := fun _ _ => [])
    by_cases hx : x = 0
    · have hl := hx2 hx
      subst hx
      have hl' : l.length ≤ 20 := by rw [hl]; exact hlen
      by_cases hneg : a.toI < 0
      · have he : numL a.toI = 45 :: l := by simp only [numL]; rw [if_pos hneg, hl]
        simp [e_a, tree_163, T.says, X.den, O1.den, O2.den, O3.den, callD, XArg.ev, XArg.dat, Callee'.num, backs, DArg.back, Conds.den, cloArgs, hneg, txt, he]
        omega
      · have he : numL a.toI = l := by simp only [numL]; rw [if_neg hneg, hl]
        simp [e_a, tree_163, T.says, X.den, O1.den, O2.den, O3.den, callD, XArg.ev, XArg.dat, Callee'.num, backs, DArg.back, Conds.den, cloArgs, hneg, txt, he]
    · have hl := hx1 hx
      have hl' : l.length ≤ 20 := by
        have := congrArg List.length hl
        simp at this
        omega
      have w1 : IntKind.i64.wrap (x.tdiv 10) = x.tdiv 10 := by rw [IntKind.wrap_i64]; split at hd <;> omega
      have hdg := digit_u8 (d := x.natAbs % 10) (by omega)
      have hna : (x.tdiv 10).natAbs = x.natAbs / 10 := by split at hd <;> omega
      have hstep : ∃ (l' : List UInt8) (y : Int), [txt (UInt8.ofNat (48 + x.natAbs % 10) :: l), D.int (x.tdiv 10)] = [txt l', .int y] ∧ (y ≠ 0 → natText y.natAbs ++ l' = natText a.toI.natAbs) ∧ (y = 0 → l' = natText a.toI.natAbs) ∧ (a.toI < 0 → y ≤ 0) ∧ (0 ≤ a.toI → 0 ≤ y) ∧ -9223372036854775808 ≤ y ∧ y ≤ 9223372036854775807 := by
        refine ⟨_, _, rfl, fun hy => ?_, fun hy => ?_, fun h => ?_, fun h => ?_, ?_⟩
        · rw [hna, ← hl, natText_ge (n := x.natAbs) (by omega)]; simp
        · rw [← hl, natText_lt (n := x.natAbs) (by omega), Nat.mod_eq_of_lt (by omega)]; rfl
        · have := hx3 h; split at hd <;> omega
        · have := hx4 h; split at hd <;> omega
        · split at hd <;> omega
      have hlt : (x.tdiv 10).natAbs < x.natAbs := by omega
      by_cases hneg : x.tmod 10 < 0
      · have w2 : IntKind.i64.wrap (-x.tmod 10) = ((x.natAbs % 10 : Nat) : Int) := by rw [IntKind.wrap_i64]; split at hm <;> omega
        have w3 : IntKind.i64.wrap (48 + ((x.natAbs % 10 : Nat) : Int)) = 48 + ((x.natAbs % 10 : Nat) : Int) := by rw [IntKind.wrap_i64]; omega
        generalize hq : ((x.natAbs % 10 : Nat) : Int) = q at w2 w3 hdg
        simp [e_a, tree_163, T.says, X.den, O1.den, O2.den, O3.den, callD, XArg.ev, XArg.dat, Callee'.num, backs, DArg.back, Conds.den, cloArgs, hx, hneg, w1, w2, w3, hdg, txt]
        refine ⟨by omega, ?_, by simpa using hlt⟩
        simpa [txt] using hstep
      · have w2 : IntKind.i64.wrap (48 + x.tmod 10) = 48 + ((x.natAbs % 10 : Nat) : Int) := by rw [IntKind.wrap_i64]; split at hm <;> omega
        generalize hq : ((x.natAbs % 10 : Nat) : Int) = q at w2 hdg
        simp [e_a, tree_163, T.says, X.den, O1.den, O2.den, O3.den, callD, XArg.ev, XArg.dat, Callee'.num, backs, DArg.back, Conds.den, cloArgs, hx, hneg, w1, w2, hdg, txt]
        refine ⟨by omega, ?_, by simpa using hlt⟩
        simpa [txt] using hstep
theorem pd_163 (a : D) (Q : List D → Prop) (ho : Q [txt (numL a.toI)]) : PC Try.prog 163 [.sc (.int .i64) a] [.sc .str] Q := (pc_163 a).mono fun _ h => h ▸ ho
/- spec.ActText -/
def phi_77 : Nat → List D → List D
  | 71, [a] => [.bool (actOk a)]
  | 163, [a] => [txt (numL a.toI)]
  | _, _ => []
theorem pc_77 (a : D) : PC Try.prog 77 [.st [(.int .i64), (.int .i64), (.int .i64), (.int .i64), (.int .i64), .bool, (.sl [(.int .i64), (.int .i64), (.int .i64), (.int .i64), (.int .i64), (.int .i64), .bool])] a] [.sc .str] fun o => o = [txt (actText a)] := by
  refine PC.of_sig mix sig_77 ⟨rfl, trivial⟩ rfl fun hok => ?_
  have e_a : D.lst [a.fld 0, a.fld 1, a.fld 2, a.fld 3, a.fld 4, a.fld 5, a.fld 6] = a := by simpa [List.range, List.range.loop] using okL_eta (hok _ (.head _))
  have k_a : okL [(.int .i64), (.int .i64), (.int .i64), (.int .i64), (.int .i64), .bool, (.sl [(.int .i64), (.int .i64), (.int .i64), (.int .i64), (.int .i64), (.int .i64), .bool])] a := (hok _ (.head _))
  have e_a_6 : D.lst (a.fld 6).toL = a.fld 6 := sl_eta (okL_at k_a (i := 6) rfl)
  have l_a_6 := sl_len (okL_at k_a (i := 6) rfl)
  have k_a_6 := sl_all (okL_at k_a (i := 6) rfl)
  have E_a_6 : ∀ i, i < (a.fld 6).toL.length → D.lst [((a.fld 6).elem i).fld 0, ((a.fld 6).elem i).fld 1, ((a.fld 6).elem i).fld 2, ((a.fld 6).elem i).fld 3, ((a.fld 6).elem i).fld 4, ((a.fld 6).elem i).fld 5, ((a.fld 6).elem i).fld 6] = (a.fld 6).elem i := fun i hi => by simpa [List.range, List.range.loop] using okL_eta (k_a_6 _ (elem_mem hi))
  apply says_den (φ := (phi_77))
  have hn1 := numL_small (n := (a.fld 1).toI) (int_range (okL_at k_a (i := 1) rfl))
  have hn2 := numL_small (n := (a.fld 2).toI) (int_range (okL_at k_a (i := 2) rfl))
  have hn3 := numL_small (n := (a.fld 3).toI) (int_range (okL_at k_a (i := 3) rfl))
  have hn4 := numL_small (n := (a.fld 4).toI) (int_range (okL_at k_a (i := 4) rfl))
  have hn6 := numL_small (n := ((a.fld 6).toL.length : Int)) (by simp only [maxL] at l_a_6; omega)
  simp [e_a_6, E_a_6, e_a, tree_77, T.says, X.den, O1.den, O2.den, O3.den, callD, XArg.ev, XArg.dat, Callee'.num, backs, DArg.back, Conds.den, cloArgs, phi_77, pd_71, pd_163, actText, txt]
  all_goals ((repeat' (first | (with_reducible apply And.intro) | intro _)) <;> first | omega | (first | assumption | (exact pd_71 _ _ (by first | rfl | simp | (simp; omega))) | (exact pd_163 _ _ (by first | rfl | simp | (simp; omega))) | (first | omega | (simp only [IntKind.wrap_i64, maxL] at *; omega) | (simp [IntKind.wrap_i64, maxL] at *; omega)) | rfl | contradiction | grind) | skip)
theorem pd_77 (a : D) (Q : List D → Prop) (ho : Q [txt (actText a)]) : PC Try.prog 77 [.st [(.int .i64), (.int .i64), (.int .i64), (.int .i64), (.int .i64), .bool, (.sl [(.int .i64), (.int .i64), (.int .i64), (.int .i64), (.int .i64), (.int .i64), .bool])] a] [.sc .str] Q := (pc_77 a).mono fun _ h => h ▸ ho
end Go.Proofs.Ytammagpahfmenaa
