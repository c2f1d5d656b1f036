/- The contracts of the functions that this claim reaches: what each hands back, for all data. -/
import Derived.Test.YtbfhdfpbijpbbaaT
import Derived.Test.YtbfhdfpbijpbbaaS
import Derived.Shelf.Strings.OnBuilder
namespace Go.Proofs.Ytbfhdfpbijpbbaa
open Go.Proofs.Ytbfhdfpbijpbbaa.Eng
set_option maxRecDepth 100000
set_option maxHeartbeats 2000000
set_option linter.unusedSimpArgs false
set_option linter.unusedVariables false
/- laws.toEvent -/
theorem pc_21 (d : D) : PC Try.prog 21 [.st [(.int .i64), (.int .i64), (.int .i64), (.int .i64), (.int .i64), (.int .i64), .bool] d] [.st [(.int .i64), (.int .i64), (.int .i64), (.int .i64), (.int .i64), (.int .i64), .bool]] fun o => o = [d] := by
  refine PC.of_sig mix sig_21 ⟨rfl, trivial⟩ rfl fun hok => ?_
  have e_d : D.lst [d.fld 0, d.fld 1, d.fld 2, d.fld 3, d.fld 4, d.fld 5, d.fld 6] = d := by simpa [List.range, List.range.loop] using okL_eta (hok _ (.head _))
  have k_d : okL [(.int .i64), (.int .i64), (.int .i64), (.int .i64), (.int .i64), (.int .i64), .bool] d := (hok _ (.head _))
  apply says_den (φ := fun _ _ => [])
  simp [e_d, tree_21, T.says, X.den, O1.den, O2.den, O3.den, callD, XArg.ev, XArg.dat, Callee'.num, backs, DArg.back, Conds.den, cloArgs]
theorem pd_21 (d : D) (Q : List D → Prop) (ho : Q [d]) : PC Try.prog 21 [.st [(.int .i64), (.int .i64), (.int .i64), (.int .i64), (.int .i64), (.int .i64), .bool] d] [.st [(.int .i64), (.int .i64), (.int .i64), (.int .i64), (.int .i64), (.int .i64), .bool]] Q := (pc_21 d).mono fun _ h => h ▸ ho
/- spec.l1In -/
theorem pc_64 (a b c : D) : PC Try.prog 64 [.sc (.int .i64) a, .sc (.int .i64) b, .sc (.int .i64) c] [.sc .bool] fun o => o = [.bool (inR a.toI b.toI c.toI)] := by
  refine PC.of_sig mix sig_64 ⟨rfl, rfl, rfl, trivial⟩ rfl fun hok => ?_
  have e_a := int_eta (hok _ (.head _))
  have b_a := int_range (hok _ (.head _))
  have e_b := int_eta (hok _ (.tail _ (.head _)))
  have b_b := int_range (hok _ (.tail _ (.head _)))
  have e_c := int_eta (hok _ (.tail _ (.tail _ (.head _))))
  have b_c := int_range (hok _ (.tail _ (.tail _ (.head _))))
  apply says_den (φ := fun _ _ => [])
  simp [e_a, e_b, e_c, tree_64, T.says, X.den, O1.den, O2.den, O3.den, callD, XArg.ev, XArg.dat, Callee'.num, backs, DArg.back, Conds.den, cloArgs, inR]
theorem pd_64 (a b c : D) (Q : List D → Prop) (ho : Q [.bool (inR a.toI b.toI c.toI)]) : PC Try.prog 64 [.sc (.int .i64) a, .sc (.int .i64) b, .sc (.int .i64) c] [.sc .bool] Q := (pc_64 a b c).mono fun _ h => h ▸ ho
/- spec.EventOk -/
def phi_71 : Nat → List D → List D
  | 64, [a, b, c] => [.bool (inR a.toI b.toI c.toI)]
  | _, _ => []
theorem pc_71 (e : D) : PC Try.prog 71 [.st [(.int .i64), (.int .i64), (.int .i64), (.int .i64), (.int .i64), (.int .i64), .bool] e] [.sc .bool] fun o => o = [.bool (eventOk e)] := by
  refine PC.of_sig mix sig_71 ⟨rfl, trivial⟩ rfl fun hok => ?_
  have e_e : D.lst [e.fld 0, e.fld 1, e.fld 2, e.fld 3, e.fld 4, e.fld 5, e.fld 6] = e := by simpa [List.range, List.range.loop] using okL_eta (hok _ (.head _))
  have k_e : okL [(.int .i64), (.int .i64), (.int .i64), (.int .i64), (.int .i64), (.int .i64), .bool] e := (hok _ (.head _))
  apply says_den (φ := (phi_71))
  simp [e_e, tree_71, T.says, X.den, O1.den, O2.den, O3.den, callD, XArg.ev, XArg.dat, Callee'.num, backs, DArg.back, Conds.den, cloArgs, phi_71, pd_64]
  (repeat' (first | (with_reducible apply And.intro) | intro _)) <;> grind [eventOk, onPiece, onPlayer]
theorem pd_71 (e : D) (Q : List D → Prop) (ho : Q [.bool (eventOk e)]) : PC Try.prog 71 [.st [(.int .i64), (.int .i64), (.int .i64), (.int .i64), (.int .i64), (.int .i64), .bool] e] [.sc .bool] Q := (pc_71 e).mono fun _ h => h ▸ ho
/- spec.NumText -/
theorem pc_74 (a : D) : PC Try.prog 74 [.sc (.int .i64) a] [.sc .str] fun o => o = [txt (numL a.toI)] := by
  refine PC.of_sig mix sig_74 ⟨rfl, trivial⟩ rfl fun hok => ?_
  have e_a := int_eta (hok _ (.head _))
  have b_a := int_range (hok _ (.head _))
  apply says_den (φ := fun _ _ => [])
  by_cases h0 : a.toI = 0
  · have he : numL 0 = [48] := by simp [numL, natText_lt]
    simp [e_a, tree_74, T.says, X.den, O1.den, O2.den, O3.den, callD, XArg.ev, XArg.dat, Callee'.num, backs, DArg.back, Conds.den, cloArgs, h0, txt, he]
  have hlen := natText_small (n := a.toI.natAbs) (by omega)
  simp [e_a, tree_74, T.says, X.den, O1.den, O2.den, O3.den, callD, XArg.ev, XArg.dat, Callee'.num, backs, DArg.back, Conds.den, cloArgs, h0]
  refine den_loop (fun vs => ∃ (l : List UInt8) (x : Int), vs = [txt l, .int x] ∧ (x ≠ 0 → natText x.natAbs ++ l = natText a.toI.natAbs) ∧ (x = 0 → l = natText a.toI.natAbs) ∧ (a.toI < 0 → x ≤ 0) ∧ (0 ≤ a.toI → 0 ≤ x) ∧ -9223372036854775808 ≤ x ∧ x ≤ 9223372036854775807) (fun vs => ((vs.getD 1 default).toI).natAbs) ?_ ?_
  · refine ⟨[], a.toI, ?_, by simp, fun h => absurd h h0, by omega, by omega, b_a⟩
    simp [X.den, e_a, txt]
  · rintro vs hvl ⟨l, x, rfl, hx1, hx2, hx3, hx4, hx5⟩
    have hm := tmod10 x
    have hd := tdiv10 x
    apply says_den (φ := fun _ _ => [])
    by_cases hx : x = 0
    · have hl := hx2 hx
      subst hx
      have hl' : l.length ≤ 20 := by rw [hl]; exact hlen
      by_cases hneg : a.toI < 0
      · have he : numL a.toI = 45 :: l := by simp only [numL]; rw [if_pos hneg, hl]
        simp [e_a, tree_74, T.says, X.den, O1.den, O2.den, O3.den, callD, XArg.ev, XArg.dat, Callee'.num, backs, DArg.back, Conds.den, cloArgs, hneg, txt, he]
        omega
      · have he : numL a.toI = l := by simp only [numL]; rw [if_neg hneg, hl]
        simp [e_a, tree_74, T.says, X.den, O1.den, O2.den, O3.den, callD, XArg.ev, XArg.dat, Callee'.num, backs, DArg.back, Conds.den, cloArgs, hneg, txt, he]
    · have hl := hx1 hx
      have hl' : l.length ≤ 20 := by
        have := congrArg List.length hl
        simp at this
        omega
      have w1 : IntKind.i64.wrap (x.tdiv 10) = x.tdiv 10 := by rw [IntKind.wrap_i64]; split at hd <;> omega
      have hdg := digit_u8 (d := x.natAbs % 10) (by omega)
      have hna : (x.tdiv 10).natAbs = x.natAbs / 10 := by split at hd <;> omega
      have hstep : ∃ (l' : List UInt8) (y : Int), [txt (UInt8.ofNat (48 + x.natAbs % 10) :: l), D.int (x.tdiv 10)] = [txt l', .int y] ∧ (y ≠ 0 → natText y.natAbs ++ l' = natText a.toI.natAbs) ∧ (y = 0 → l' = natText a.toI.natAbs) ∧ (a.toI < 0 → y ≤ 0) ∧ (0 ≤ a.toI → 0 ≤ y) ∧ -9223372036854775808 ≤ y ∧ y ≤ 9223372036854775807 := by
        refine ⟨_, _, rfl, fun hy => ?_, fun hy => ?_, fun h => ?_, fun h => ?_, ?_⟩
        · rw [hna, ← hl, natText_ge (n := x.natAbs) (by omega)]; simp
        · rw [← hl, natText_lt (n := x.natAbs) (by omega), Nat.mod_eq_of_lt (by omega)]; rfl
        · have := hx3 h; split at hd <;> omega
        · have := hx4 h; split at hd <;> omega
        · split at hd <;> omega
      have hlt : (x.tdiv 10).natAbs < x.natAbs := by omega
      by_cases hneg : x.tmod 10 < 0
      · have w2 : IntKind.i64.wrap (-x.tmod 10) = ((x.natAbs % 10 : Nat) : Int) := by rw [IntKind.wrap_i64]; split at hm <;> omega
        have w3 : IntKind.i64.wrap (48 + ((x.natAbs % 10 : Nat) : Int)) = 48 + ((x.natAbs % 10 : Nat) : Int) := by rw [IntKind.wrap_i64]; omega
        generalize hq : ((x.natAbs % 10 : Nat) : Int) = q at w2 w3 hdg
        simp [e_a, tree_74, T.says, X.den, O1.den, O2.den, O3.den, callD, XArg.ev, XArg.dat, Callee'.num, backs, DArg.back, Conds.den, cloArgs, hx, hneg, w1, w2, w3, hdg, txt]
        refine ⟨by omega, ?_, by simpa using hlt⟩
        simpa [txt] using hstep
      · have w2 : IntKind.i64.wrap (48 + x.tmod 10) = 48 + ((x.natAbs % 10 : Nat) : Int) := by rw [IntKind.wrap_i64]; split at hm <;> omega
        generalize hq : ((x.natAbs % 10 : Nat) : Int) = q at w2 hdg
        simp [e_a, tree_74, T.says, X.den, O1.den, O2.den, O3.den, callD, XArg.ev, XArg.dat, Callee'.num, backs, DArg.back, Conds.den, cloArgs, hx, hneg, w1, w2, hdg, txt]
        refine ⟨by omega, ?_, by simpa using hlt⟩
        simpa [txt] using hstep
theorem pd_74 (a : D) (Q : List D → Prop) (ho : Q [txt (numL a.toI)]) : PC Try.prog 74 [.sc (.int .i64) a] [.sc .str] Q := (pc_74 a).mono fun _ h => h ▸ ho
/- spec.EventText -/
def phi_36 : Nat → List D → List D
  | 71, [e] => [.bool (eventOk e)]
  | 74, [a] => [txt (numL a.toI)]
  | _, _ => []
theorem pc_36 (e : D) : PC Try.prog 36 [.st [(.int .i64), (.int .i64), (.int .i64), (.int .i64), (.int .i64), (.int .i64), .bool] e] [.sc .str] fun o => o = [txt (eventText e)] := by
  refine PC.of_sig mix sig_36 ⟨rfl, trivial⟩ rfl fun hok => ?_
  have e_e : D.lst [e.fld 0, e.fld 1, e.fld 2, e.fld 3, e.fld 4, e.fld 5, e.fld 6] = e := by simpa [List.range, List.range.loop] using okL_eta (hok _ (.head _))
  have k_e : okL [(.int .i64), (.int .i64), (.int .i64), (.int .i64), (.int .i64), (.int .i64), .bool] e := (hok _ (.head _))
  apply says_den (φ := (phi_36))
  have hn1 := numL_small (n := (e.fld 1).toI) (int_range (okL_at k_e (i := 1) rfl))
  have hn2 := numL_small (n := (e.fld 2).toI) (int_range (okL_at k_e (i := 2) rfl))
  have hn3 := numL_small (n := (e.fld 3).toI) (int_range (okL_at k_e (i := 3) rfl))
  have hn4 := numL_small (n := (e.fld 4).toI) (int_range (okL_at k_e (i := 4) rfl))
  have hn5 := numL_small (n := (e.fld 5).toI) (int_range (okL_at k_e (i := 5) rfl))
  simp [e_e, tree_36, T.says, X.den, O1.den, O2.den, O3.den, callD, XArg.ev, XArg.dat, Callee'.num, backs, DArg.back, Conds.den, cloArgs, phi_36, pd_71, pd_74, eventText, txt]
  all_goals ((repeat' (first | (with_reducible apply And.intro) | intro _)) <;> first | omega | (first | assumption | (exact pd_71 _ _ (by first | rfl | simp | (simp; omega))) | (exact pd_74 _ _ (by first | rfl | simp | (simp; omega))) | (first | omega | (simp only [IntKind.wrap_i64, maxL] at *; omega) | (simp [IntKind.wrap_i64, maxL] at *; omega)) | rfl | contradiction | grind) | skip)
theorem pd_36 (e : D) (Q : List D → Prop) (ho : Q [txt (eventText e)]) : PC Try.prog 36 [.st [(.int .i64), (.int .i64), (.int .i64), (.int .i64), (.int .i64), (.int .i64), .bool] e] [.sc .str] Q := (pc_36 e).mono fun _ h => h ▸ ho
/- impl.from -/
theorem pc_81 (a b c : D) : PC Try.prog 81 [.sc (.int .i64) a, .sc (.int .i64) b, .sc (.int .i64) c] [.sc .bool] fun o => o = [.bool (inR a.toI b.toI c.toI)] := by
  refine PC.of_sig mix sig_81 ⟨rfl, rfl, rfl, trivial⟩ rfl fun hok => ?_
  have e_a := int_eta (hok _ (.head _))
  have b_a := int_range (hok _ (.head _))
  have e_b := int_eta (hok _ (.tail _ (.head _)))
  have b_b := int_range (hok _ (.tail _ (.head _)))
  have e_c := int_eta (hok _ (.tail _ (.tail _ (.head _))))
  have b_c := int_range (hok _ (.tail _ (.tail _ (.head _))))
  apply says_den (φ := fun _ _ => [])
  simp [e_a, e_b, e_c, tree_81, T.says, X.den, O1.den, O2.den, O3.den, callD, XArg.ev, XArg.dat, Callee'.num, backs, DArg.back, Conds.den, cloArgs, inR]
theorem pd_81 (a b c : D) (Q : List D → Prop) (ho : Q [.bool (inR a.toI b.toI c.toI)]) : PC Try.prog 81 [.sc (.int .i64) a, .sc (.int .i64) b, .sc (.int .i64) c] [.sc .bool] Q := (pc_81 a b c).mono fun _ h => h ▸ ho
/- impl.isId -/
def phi_82 : Nat → List D → List D
  | 81, [a, b, c] => [.bool (inR a.toI b.toI c.toI)]
  | _, _ => []
theorem pc_82 (a : D) : PC Try.prog 82 [.sc (.int .i64) a] [.sc .bool] fun o => o = [.bool (inR a.toI 1 99)] := by
  refine PC.of_sig mix sig_82 ⟨rfl, trivial⟩ rfl fun hok => ?_
  have e_a := int_eta (hok _ (.head _))
  have b_a := int_range (hok _ (.head _))
  apply says_den (φ := (phi_82))
  simp [e_a, tree_82, T.says, X.den, O1.den, O2.den, O3.den, callD, XArg.ev, XArg.dat, Callee'.num, backs, DArg.back, Conds.den, cloArgs, phi_82, pd_81]
theorem pd_82 (a : D) (Q : List D → Prop) (ho : Q [.bool (inR a.toI 1 99)]) : PC Try.prog 82 [.sc (.int .i64) a] [.sc .bool] Q := (pc_82 a).mono fun _ h => h ▸ ho
/- impl.isZone -/
def phi_84 : Nat → List D → List D
  | 81, [a, b, c] => [.bool (inR a.toI b.toI c.toI)]
  | _, _ => []
theorem pc_84 (a : D) : PC Try.prog 84 [.sc (.int .i64) a] [.sc .bool] fun o => o = [.bool (inR a.toI 1 4)] := by
  refine PC.of_sig mix sig_84 ⟨rfl, trivial⟩ rfl fun hok => ?_
  have e_a := int_eta (hok _ (.head _))
  have b_a := int_range (hok _ (.head _))
  apply says_den (φ := (phi_84))
  simp [e_a, tree_84, T.says, X.den, O1.den, O2.den, O3.den, callD, XArg.ev, XArg.dat, Callee'.num, backs, DArg.back, Conds.den, cloArgs, phi_84, pd_81]
theorem pd_84 (a : D) (Q : List D → Prop) (ho : Q [.bool (inR a.toI 1 4)]) : PC Try.prog 84 [.sc (.int .i64) a] [.sc .bool] Q := (pc_84 a).mono fun _ h => h ▸ ho
/- impl.isAmount -/
def phi_102 : Nat → List D → List D
  | 81, [a, b, c] => [.bool (inR a.toI b.toI c.toI)]
  | _, _ => []
theorem pc_102 (a : D) : PC Try.prog 102 [.sc (.int .i64) a] [.sc .bool] fun o => o = [.bool (inR a.toI 0 2147483647)] := by
  refine PC.of_sig mix sig_102 ⟨rfl, trivial⟩ rfl fun hok => ?_
  have e_a := int_eta (hok _ (.head _))
  have b_a := int_range (hok _ (.head _))
  apply says_den (φ := (phi_102))
  simp [e_a, tree_102, T.says, X.den, O1.den, O2.den, O3.den, callD, XArg.ev, XArg.dat, Callee'.num, backs, DArg.back, Conds.den, cloArgs, phi_102, pd_81]
theorem pd_102 (a : D) (Q : List D → Prop) (ho : Q [.bool (inR a.toI 0 2147483647)]) : PC Try.prog 102 [.sc (.int .i64) a] [.sc .bool] Q := (pc_102 a).mono fun _ h => h ▸ ho
/- impl.onPiece -/
def phi_103 : Nat → List D → List D
  | 82, [a] => [.bool (inR a.toI 1 99)]
  | _, _ => []
theorem pc_103 (e : D) : PC Try.prog 103 [.st [(.int .i64), (.int .i64), (.int .i64), (.int .i64), (.int .i64), (.int .i64), .bool] e] [.sc .bool] fun o => o = [.bool (onPiece e)] := by
  refine PC.of_sig mix sig_103 ⟨rfl, trivial⟩ rfl fun hok => ?_
  have e_e : D.lst [e.fld 0, e.fld 1, e.fld 2, e.fld 3, e.fld 4, e.fld 5, e.fld 6] = e := by simpa [List.range, List.range.loop] using okL_eta (hok _ (.head _))
  have k_e : okL [(.int .i64), (.int .i64), (.int .i64), (.int .i64), (.int .i64), (.int .i64), .bool] e := (hok _ (.head _))
  apply says_den (φ := (phi_103))
  simp [e_e, tree_103, T.says, X.den, O1.den, O2.den, O3.den, callD, XArg.ev, XArg.dat, Callee'.num, backs, DArg.back, Conds.den, cloArgs, phi_103, pd_82, onPiece]
theorem pd_103 (e : D) (Q : List D → Prop) (ho : Q [.bool (onPiece e)]) : PC Try.prog 103 [.st [(.int .i64), (.int .i64), (.int .i64), (.int .i64), (.int .i64), (.int .i64), .bool] e] [.sc .bool] Q := (pc_103 e).mono fun _ h => h ▸ ho
/- impl.isPlayer -/
def phi_83 : Nat → List D → List D
  | 81, [a, b, c] => [.bool (inR a.toI b.toI c.toI)]
  | _, _ => []
theorem pc_83 (a : D) : PC Try.prog 83 [.sc (.int .i64) a] [.sc .bool] fun o => o = [.bool (inR a.toI 0 2)] := by
  refine PC.of_sig mix sig_83 ⟨rfl, trivial⟩ rfl fun hok => ?_
  have e_a := int_eta (hok _ (.head _))
  have b_a := int_range (hok _ (.head _))
  apply says_den (φ := (phi_83))
  simp [e_a, tree_83, T.says, X.den, O1.den, O2.den, O3.den, callD, XArg.ev, XArg.dat, Callee'.num, backs, DArg.back, Conds.den, cloArgs, phi_83, pd_81]
theorem pd_83 (a : D) (Q : List D → Prop) (ho : Q [.bool (inR a.toI 0 2)]) : PC Try.prog 83 [.sc (.int .i64) a] [.sc .bool] Q := (pc_83 a).mono fun _ h => h ▸ ho
/- impl.onPlayer -/
def phi_104 : Nat → List D → List D
  | 83, [a] => [.bool (inR a.toI 0 2)]
  | _, _ => []
theorem pc_104 (e : D) : PC Try.prog 104 [.st [(.int .i64), (.int .i64), (.int .i64), (.int .i64), (.int .i64), (.int .i64), .bool] e] [.sc .bool] fun o => o = [.bool (onPlayer e)] := by
  refine PC.of_sig mix sig_104 ⟨rfl, trivial⟩ rfl fun hok => ?_
  have e_e : D.lst [e.fld 0, e.fld 1, e.fld 2, e.fld 3, e.fld 4, e.fld 5, e.fld 6] = e := by simpa [List.range, List.range.loop] using okL_eta (hok _ (.head _))
  have k_e : okL [(.int .i64), (.int .i64), (.int .i64), (.int .i64), (.int .i64), (.int .i64), .bool] e := (hok _ (.head _))
  apply says_den (φ := (phi_104))
  simp [e_e, tree_104, T.says, X.den, O1.den, O2.den, O3.den, callD, XArg.ev, XArg.dat, Callee'.num, backs, DArg.back, Conds.den, cloArgs, phi_104, pd_83, onPlayer]
theorem pd_104 (e : D) (Q : List D → Prop) (ho : Q [.bool (onPlayer e)]) : PC Try.prog 104 [.st [(.int .i64), (.int .i64), (.int .i64), (.int .i64), (.int .i64), (.int .i64), .bool] e] [.sc .bool] Q := (pc_104 e).mono fun _ h => h ▸ ho
/- impl.EventOk -/
def phi_73 : Nat → List D → List D
  | 82, [a] => [.bool (inR a.toI 1 99)]
  | 84, [a] => [.bool (inR a.toI 1 4)]
  | 102, [a] => [.bool (inR a.toI 0 2147483647)]
  | 103, [e] => [.bool (onPiece e)]
  | 104, [e] => [.bool (onPlayer e)]
  | _, _ => []
theorem pc_73 (e : D) : PC Try.prog 73 [.st [(.int .i64), (.int .i64), (.int .i64), (.int .i64), (.int .i64), (.int .i64), .bool] e] [.sc .bool] fun o => o = [.bool (eventOk e)] := by
  refine PC.of_sig mix sig_73 ⟨rfl, trivial⟩ rfl fun hok => ?_
  have e_e : D.lst [e.fld 0, e.fld 1, e.fld 2, e.fld 3, e.fld 4, e.fld 5, e.fld 6] = e := by simpa [List.range, List.range.loop] using okL_eta (hok _ (.head _))
  have k_e : okL [(.int .i64), (.int .i64), (.int .i64), (.int .i64), (.int .i64), (.int .i64), .bool] e := (hok _ (.head _))
  apply says_den (φ := (phi_73))
  simp [e_e, tree_73, T.says, X.den, O1.den, O2.den, O3.den, callD, XArg.ev, XArg.dat, Callee'.num, backs, DArg.back, Conds.den, cloArgs, phi_73, pd_82, pd_84, pd_102, pd_103, pd_104]
  (repeat' (first | (with_reducible apply And.intro) | intro _)) <;> grind [eventOk, inR]
theorem pd_73 (e : D) (Q : List D → Prop) (ho : Q [.bool (eventOk e)]) : PC Try.prog 73 [.st [(.int .i64), (.int .i64), (.int .i64), (.int .i64), (.int .i64), (.int .i64), .bool] e] [.sc .bool] Q := (pc_73 e).mono fun _ h => h ▸ ho
/- impl.NumText -/
def phi_75 : Nat → List D → List D
  | 75, [a] => [txt (numL a.toI)]
  | _, _ => []
theorem pcn_75 : ∀ (k : Nat) (a : D), 2 * a.toI.natAbs + (if a.toI < 0 then 1 else 0) < k → PC Try.prog 75 [.sc (.int .i64) a] [.sc .str] fun o => o = [txt (numL a.toI)]
  | 0, a, h => absurd h (Nat.not_lt_zero _)
  | k + 1, a, hk => by
    have ih := pcn_75 k
    refine PC.of_sig mix sig_75 ⟨rfl, trivial⟩ rfl fun hok => ?_
    have e_a := int_eta (hok _ (.head _))
    have b_a := int_range (hok _ (.head _))
    have hm := tmod10 a.toI
    have hd := tdiv10 a.toI
    apply says_den (φ := phi_75)
    by_cases hneg : a.toI < 0
    · rw [if_pos hneg] at hm hd hk
      by_cases hs : -10 < a.toI
      · have w0 : IntKind.i64.wrap (-a.toI) = -a.toI := by rw [IntKind.wrap_i64]; omega
        have hl := numL_small (n := -a.toI) (by omega)
        have hms : 2 * (-a.toI).natAbs + (if -a.toI < 0 then 1 else 0) < k := by split <;> omega
        have he : numL a.toI = 45 :: numL (-a.toI) := by
          simp only [numL]
          rw [if_pos hneg, if_neg (by omega), Int.natAbs_neg]
        simp [e_a, tree_75, T.says, X.den, O1.den, O2.den, callD, XArg.ev, XArg.dat, Callee'.num, backs, DArg.back, Conds.den, phi_75, hneg, hs, w0, txt, he]
        (repeat' (first | (with_reducible apply And.intro) | intro _)) <;> first | (exact ih (.int (-a.toI)) hms) | omega | rfl | skip
      · obtain ⟨q, hq, hq9⟩ : ∃ q : Nat, q = a.toI.natAbs % 10 ∧ q < 10 := ⟨_, rfl, by omega⟩
        have w1 : IntKind.i64.wrap (a.toI.tdiv 10) = a.toI.tdiv 10 := by rw [IntKind.wrap_i64]; omega
        have w2 : IntKind.i64.wrap (-a.toI.tmod 10) = (q : Int) := by rw [IntKind.wrap_i64]; omega
        have hl := numL_small (n := a.toI.tdiv 10) (by omega)
        have hl2 := numL_small (n := (q : Int)) (by omega)
        have hms : 2 * (a.toI.tdiv 10).natAbs + (if a.toI.tdiv 10 < 0 then 1 else 0) < k := by split <;> omega
        have hms2 : 2 * (q : Int).natAbs + (if (q : Int) < 0 then 1 else 0) < k := by split <;> omega
        have he : numL a.toI = numL (a.toI.tdiv 10) ++ numL (q : Int) := by
          have e1 : numL (a.toI.tdiv 10) = 45 :: natText (a.toI.natAbs / 10) := by
            simp only [numL]
            rw [if_pos (by omega), hd, Int.natAbs_neg, Int.natAbs_natCast]
          have e2 : numL (q : Int) = [UInt8.ofNat (48 + a.toI.natAbs % 10)] := by
            simp only [numL]
            rw [if_neg (by omega), Int.natAbs_natCast, natText_lt (by omega), hq]
          rw [e1, e2]
          simp only [numL]
          rw [if_pos hneg, natText_ge (by omega)]
          rfl
        simp [e_a, tree_75, T.says, X.den, O1.den, O2.den, callD, XArg.ev, XArg.dat, Callee'.num, backs, DArg.back, Conds.den, phi_75, hneg, hs, w1, w2, txt, he]
        (repeat' (first | (with_reducible apply And.intro) | intro _)) <;> first | (exact ih (.int (a.toI.tdiv 10)) hms) | (exact ih (.int (q : Int)) hms2) | omega | rfl | skip
    · rw [if_neg hneg] at hm hd hk
      by_cases hs : a.toI < 10
      · have w0 : IntKind.i64.wrap (48 + a.toI) = 48 + a.toI := by rw [IntKind.wrap_i64]; omega
        have w1 : IntKind.i32.wrap (48 + a.toI) = 48 + ((a.toI.natAbs : Nat) : Int) := by rw [IntKind.wrap_i32]; omega
        have hc := digit_chr (d := a.toI.natAbs) (by omega)
        have he : numL a.toI = [UInt8.ofNat (48 + a.toI.natAbs)] := by
          simp only [numL]
          rw [if_neg hneg, natText_lt (by omega)]
        simp [e_a, tree_75, T.says, X.den, O1.den, O2.den, callD, XArg.ev, XArg.dat, Callee'.num, backs, DArg.back, Conds.den, phi_75, hneg, hs, w0, w1, txt, he, hc]
      · obtain ⟨q, hq, hq9⟩ : ∃ q : Nat, q = a.toI.natAbs % 10 ∧ q < 10 := ⟨_, rfl, by omega⟩
        have w1 : IntKind.i64.wrap (a.toI.tdiv 10) = a.toI.tdiv 10 := by rw [IntKind.wrap_i64]; omega
        have w2 : IntKind.i64.wrap (48 + a.toI.tmod 10) = 48 + (q : Int) := by rw [IntKind.wrap_i64]; omega
        have w3 : IntKind.i32.wrap (48 + (q : Int)) = 48 + (q : Int) := by rw [IntKind.wrap_i32]; omega
        have hc := digit_chr hq9
        have hl := numL_small (n := a.toI.tdiv 10) (by omega)
        have hms : 2 * (a.toI.tdiv 10).natAbs + (if a.toI.tdiv 10 < 0 then 1 else 0) < k := by split <;> omega
        have he : numL a.toI = numL (a.toI.tdiv 10) ++ [UInt8.ofNat (48 + q)] := by
          simp only [numL]
          rw [if_neg hneg, if_neg (by omega), hd, Int.natAbs_natCast, natText_ge (by omega), hq]
        simp [e_a, tree_75, T.says, X.den, O1.den, O2.den, callD, XArg.ev, XArg.dat, Callee'.num, backs, DArg.back, Conds.den, phi_75, hneg, hs, w1, w2, w3, txt, he, hc]
        (repeat' (first | (with_reducible apply And.intro) | intro _)) <;> first | (exact ih (.int (a.toI.tdiv 10)) hms) | omega | rfl | skip
theorem pc_75 (a : D) : PC Try.prog 75 [.sc (.int .i64) a] [.sc .str] fun o => o = [txt (numL a.toI)] := pcn_75 _ a (Nat.lt_succ_self _)
theorem pd_75 (a : D) (Q : List D → Prop) (ho : Q [txt (numL a.toI)]) : PC Try.prog 75 [.sc (.int .i64) a] [.sc .str] Q := (pc_75 a).mono fun _ h => h ▸ ho
/- strings.Join -/
open Go.Shelf in
def lays156_ren : Go.Shelf.Ren := ⟨fun | 156 => 76 | 165 => 105 | 166 => 106 | 169 => 107 | 240 => 110 | 241 => 111 | 276 => 112 | 277 => 113 | n => n, fun | 31 => 102 | 9 => 9 | 3 => 3 | 4 => 4 | 0 => 0 | 20 => 20 | 72 => 123 | 76 => 127 | 70 => 121 | 37 => 120 | 75 => 126 | 127 => 131 | 164 => 132 | 5 => 5 | 80 => 129 | n => n, fun | n => n⟩
open Go.Shelf in
theorem lays156 : Go.Proofs.Lays.n156 Try.prog lays156_ren := {
  mixed := by kernel_rfl
  f156 := Try.func76.trans (congrArg some (by kernel_rfl))
  f165 := Try.func105.trans (congrArg some (by kernel_rfl))
  f166 := Try.func106.trans (congrArg some (by kernel_rfl))
  f169 := Try.func107.trans (congrArg some (by kernel_rfl))
  f240 := Try.func110.trans (congrArg some (by kernel_rfl))
  f241 := Try.func111.trans (congrArg some (by kernel_rfl))
  f276 := Try.func112.trans (congrArg some (by kernel_rfl))
  f277 := Try.func113.trans (congrArg some (by kernel_rfl))
  t0 := Try.underlying0
  a0 := Try.isAgg0
  z0 := Try.sizeOf0
  v0 := Try.zeroValue0
  t3 := Try.underlying3
  a3 := Try.isAgg3
  z3 := Try.sizeOf3
  v3 := Try.zeroValue3
  t4 := Try.underlying4
  a4 := Try.isAgg4
  z4 := Try.sizeOf4
  v4 := Try.zeroValue4
  t9 := Try.underlying9
  a9 := Try.isAgg9
  z9 := Try.sizeOf9
  v9 := Try.zeroValue9
  t20 := Try.underlying20
  a20 := Try.isAgg20
  z20 := Try.sizeOf20
  v20 := Try.zeroValue20
  t31 := Try.underlying102
  a31 := Try.isAgg102
  z31 := Try.sizeOf102
  v31 := Try.zeroValue102
  t37 := Try.underlying120
  a37 := Try.isAgg120
  z37 := Try.sizeOf120
  v37 := Try.zeroValue120
  t70 := Try.underlying121
  a70 := Try.isAgg121
  z70 := Try.sizeOf121
  v70 := Try.zeroValue121
  t72 := Try.underlying123
  a72 := Try.isAgg123
  z72 := Try.sizeOf123
  v72 := Try.zeroValue123
  t75 := Try.underlying126
  a75 := Try.isAgg126
  z75 := Try.sizeOf126
  v75 := Try.zeroValue126
  t76 := Try.underlying127
  a76 := Try.isAgg127
  z76 := Try.sizeOf127
  v76 := Try.zeroValue127
  t127 := Try.underlying131
  a127 := Try.isAgg131
  z127 := Try.sizeOf131
  v127 := Try.zeroValue131
  t164 := Try.underlying132
  a164 := Try.isAgg132
  z164 := Try.sizeOf132
  v164 := Try.zeroValue132 }
open Go.Shelf in
theorem builderExtra : Builder.Extra Try.prog lays156_ren := {
  sizeBuilder := by kernel_rfl
  liesBuilder := by kernel_rfl
  t5 := Try.underlying5
  a5 := Try.isAgg5
  z5 := Try.sizeOf5
  v5 := Try.zeroValue5
  infoByte := by kernel_rfl
  cellsByte := by kernel_rfl
  sizeByte := by kernel_rfl
  neB5 := by decide }
theorem join_post {w w' : World} {F : List Nat} {G : Nat → Prop} {d s : D} {v1 v2 v : Value} {l : List UInt8} (hl : l.length ≤ 140737488355328) (he : v = .string ⟨⟨l⟩⟩) (hb : Go.RowKit.Below w.heap.size w w') :
    Post w F G [.sc (.sl [.str]) d, .sc .str s] [v1, v2] [.sc .str] (fun o => o = [txt l]) w' v := by
  subst he
  exact ⟨[.string ⟨⟨l⟩⟩], [txt l], [], [], [], rfl, .cons (.sc (.flat (.str (by simp [maxS]; omega)))) .nil, .skip trivial (.skip trivial .nil), rfl, by simp, by simp, ⟨hb.os, hb.tape, hb.output, hb.size, fun b hb' => hb.block b hb'.1⟩⟩
theorem pc_76 (d s : D) (h : (Lib.join (d.toL.map fun e => (e.fld 0).toS.data.toList) s.toS.data.toList).length ≤ 140737488355328) : PC Try.prog 76 [.sc (.sl [.str]) d, .sc .str s] [.sc .str] fun o => o = [txt (Lib.join (d.toL.map fun e => (e.fld 0).toS.data.toList) s.toS.data.toList)] := by
  refine ⟨⟨Try.f76, Try.func76, by kernel_rfl, by kernel_rfl⟩, fun w vs F G hF hG ha => ?_⟩
  cases ha with
  | cons h1 h2 =>
    cases h2 with
    | cons h2 h3 =>
      cases h3
      cases h1 with
      | sc h1 =>
        cases h2 with
        | sc h2 =>
          cases h2 with
          | flat h2 =>
            cases h2 with
            | str hs =>
              rename_i sep
              cases h1 with
              | flat h1 => cases h1
              | nil a cap =>
                refine (Any.strings_Join_none lays156 builderExtra a cap sep w).mono ?_
                rintro e w' ⟨rfl, rfl⟩
                exact ⟨_, rfl, join_post (l := []) (by simp) rfl (Go.RowKit.Below.refl _ _)⟩
              | sl b off cap xs u hb hcap hmax hsh hc hsn =>
                have hu : ∀ j, j < xs.length → u j 0 = .string ((xs.getD j default).fld 0).toS := fun j hj => by
                  have h0 := hsn j 0 hj (by simp)
                  generalize u j 0 = z at h0 ⊢
                  generalize (xs.getD j default).fld 0 = y at h0 ⊢
                  cases h0 with
                  | flat h => cases h; rfl
                have hbw : b < w.heap.size := by
                  simp only [argS, CK.glob, CK.beqs, CK.beq] at hb
                  exact hb.1
                have e1 : (D.lst xs).toL.map (fun e => (e.fld 0).toS.data.toList) = (xs.map fun e => (e.fld 0).toS).map (·.data.toList) := by simp
                rw [e1] at h ⊢
                have := Any.strings_Join lays156 builderExtra b off cap (xs.map fun e => (e.fld 0).toS) sep w (fun j x hj => by
                  rw [List.getElem?_map] at hj
                  obtain ⟨e, he, rfl⟩ := Option.map_eq_some_iff.1 hj
                  have hlt := (List.getElem?_eq_some_iff.1 he).1
                  have h0 := hc j 0 hlt (by simp)
                  rw [hu j hlt] at h0
                  have hge : xs.getD j default = e := by rw [List.getD_eq_getElem?_getD, he]; rfl
                  rw [hge] at h0
                  simpa using h0) hbw (by simp [maxL] at hmax ⊢; omega) (by simpa using hcap) h
                rw [List.length_map] at this
                refine this.mono ?_
                rintro e w' ⟨rfl, hb'⟩
                exact ⟨_, rfl, join_post h rfl hb'⟩
theorem pd_76 (d s : D) (h : (Lib.join (d.toL.map fun e => (e.fld 0).toS.data.toList) s.toS.data.toList).length ≤ 140737488355328) (Q : List D → Prop) (ho : Q [txt (Lib.join (d.toL.map fun e => (e.fld 0).toS.data.toList) s.toS.data.toList)]) : PC Try.prog 76 [.sc (.sl [.str]) d, .sc .str s] [.sc .str] Q := (pc_76 d s h).mono fun _ h => h ▸ ho
/- impl.EventText -/
def phi_37 : Nat → List D → List D
  | 73, [e] => [.bool (eventOk e)]
  | 75, [a] => [txt (numL a.toI)]
  | 76, [d, s] => [txt (Lib.join (d.toL.map fun e => (e.fld 0).toS.data.toList) s.toS.data.toList)]
  | _, _ => []
theorem pc_37 (e : D) : PC Try.prog 37 [.st [(.int .i64), (.int .i64), (.int .i64), (.int .i64), (.int .i64), (.int .i64), .bool] e] [.sc .str] fun o => o = [txt (eventText e)] := by
  refine PC.of_sig mix sig_37 ⟨rfl, trivial⟩ rfl fun hok => ?_
  have e_e : D.lst [e.fld 0, e.fld 1, e.fld 2, e.fld 3, e.fld 4, e.fld 5, e.fld 6] = e := by simpa [List.range, List.range.loop] using okL_eta (hok _ (.head _))
  have k_e : okL [(.int .i64), (.int .i64), (.int .i64), (.int .i64), (.int .i64), (.int .i64), .bool] e := (hok _ (.head _))
  apply says_den (φ := (phi_37))
  have hn1 := numL_small (n := (e.fld 1).toI) (int_range (okL_at k_e (i := 1) rfl))
  have hn2 := numL_small (n := (e.fld 2).toI) (int_range (okL_at k_e (i := 2) rfl))
  have hn3 := numL_small (n := (e.fld 3).toI) (int_range (okL_at k_e (i := 3) rfl))
  have hn4 := numL_small (n := (e.fld 4).toI) (int_range (okL_at k_e (i := 4) rfl))
  have hn5 := numL_small (n := (e.fld 5).toI) (int_range (okL_at k_e (i := 5) rfl))
  simp [e_e, tree_37, T.says, X.den, O1.den, O2.den, O3.den, callD, XArg.ev, XArg.dat, Callee'.num, backs, DArg.back, Conds.den, cloArgs, phi_37, pd_73, pd_75, pd_76, eventText, txt]
  all_goals ((repeat' (first | (with_reducible apply And.intro) | intro _)) <;> first | omega | (refine (pc_76 _ _ (by simp [Lib.join, List.intercalate]; omega)).mono ?_; simp [Lib.join, List.intercalate, txt]; done) | (simp [Lib.join, List.intercalate]; omega) | (simp [Lib.join, List.intercalate, *]; done) | (first | assumption | (exact pd_73 _ _ (by first | rfl | simp | (simp; omega))) | (exact pd_75 _ _ (by first | rfl | simp | (simp; omega))) | (exact pd_76 _ _ (by first | assumption | omega | (simp; done) | (simp; omega) | (simp [*]; done) | exact smallE_of (n := 1048576) (by omega) (by omega) | (simp [*] at *; omega) | grind [szS]) _ (by first | rfl | simp | (simp; omega))) | (first | omega | (simp only [IntKind.wrap_i64, maxL] at *; omega) | (simp [IntKind.wrap_i64, maxL] at *; omega)) | rfl | contradiction | grind) | skip)
theorem pd_37 (e : D) (Q : List D → Prop) (ho : Q [txt (eventText e)]) : PC Try.prog 37 [.st [(.int .i64), (.int .i64), (.int .i64), (.int .i64), (.int .i64), (.int .i64), .bool] e] [.sc .str] Q := (pc_37 e).mono fun _ h => h ▸ ho
end Go.Proofs.Ytbfhdfpbijpbbaa
