/- For every input the law FnPicks returns true, and each argument reads as it read before. No condition. -/
import Derived.Test.YtammagpahfmenaaC
import Derived.ProofKit
import Derived.SizedLaws
namespace Go.Proofs.Ytammagpahfmenaa
open Go.Proofs.Ytammagpahfmenaa.Eng
set_option maxRecDepth 100000
set_option maxHeartbeats 2000000
set_option linter.unusedSimpArgs false
set_option linter.unusedVariables false
def phi_3 : Nat → List D → (List D → Prop) → Prop
  | 14, [code], K => K [.bool (decide ((1048576 : Int) < code.toL.length))]
  | 15, [code], K => ∀ (l : D) (n : Int), (((l.toL.length : Int) ≤ 8 ∧ n ≤ 4)) → K [l, .int n]
  | 16, [d, n], K => K [.int (pickN d n.toI), .lst (pickL d n.toI)]
  | 17, [d, n], K => K [.int (pickN d n.toI), .lst (pickL d n.toI)]
  | 18, [code], K => ∀ (l : D) (n : Int), (((l.toL.length : Int) ≤ 7)) → K [l, .int n]
  | 19, [d, n], K => K [.lst (d.toL.take n.toI.toNat)]
  | 20, [a, b], K => K [.bool (sameInts a b)]
  | 21, [d, n], K => K [.lst (d.toL.take n.toI.toNat)]
  | 22, [a, b], K => K [.bool (decide (b.toL.length ≤ a.toL.length) && sameInts (.lst (a.toL.drop (a.toL.length - b.toL.length))) b)]
  | _, _, _ => False
theorem pc_3 (code : D) : PC Try.prog 3 [.sc (.sl [(.int .u8)]) code] [.sc .bool] fun o => o = [.bool true] := by
  refine PC.of_sig mix sig_3 ⟨rfl, trivial⟩ rfl fun hok => ?_
  have e_code := sl_eta (hok _ (.head _))
  have l_code := sl_len (hok _ (.head _))
  have k_code := sl_all (hok _ (.head _))
  apply sayR_den (φ := (phi_3))
  simp (config := { maxSteps := 2000000 }) [e_code, tree_3, T.sayR, inK_i64_iff, RS.oks, RS.ok, okD_int, okD_bool, X.den, O1.den, O2.den, O3.den, callD, XArg.ev, XArg.dat, Callee'.num, backs, DArg.back, Conds.den, cloArgs, phi_3]
  (repeat' (first | (with_reducible apply And.intro) | intro _)) <;> first | (first | ((with_reducible refine ⟨?_⟩); simp [e_code, tree_3, T.sayR, inK_i64_iff, RS.oks, RS.ok, okD_int, okD_bool, X.den, O1.den, O2.den, O3.den, callD, XArg.ev, XArg.dat, Callee'.num, backs, DArg.back, Conds.den, cloArgs]; intro K hK; (try simp only [phi_3] at hK); intros; first | contradiction | ((with_reducible refine pd_14 _ _ ?ho); (case ho => exact hK)) | ((with_reducible refine pd_15 _ _ ?ho); (case ho => exact hK)) | ((with_reducible refine pd_16 _ _ ?_ _ ?ho); (case ho => exact hK); all_goals (exact (by first | (with_reducible assumption) | omega | assumption | (simp; done) | (simp; omega) | (simp [*]; done) | exact smallE_of (n := 1048576) (by omega) (by omega) | (simp [*] at *; omega) | grind [szS]))) | ((with_reducible refine pd_17 _ _ ?_ _ ?ho); (case ho => exact hK); all_goals (exact (by first | (with_reducible assumption) | omega | assumption | (simp; done) | (simp; omega) | (simp [*]; done) | exact smallE_of (n := 1048576) (by omega) (by omega) | (simp [*] at *; omega) | grind [szS]))) | ((with_reducible refine pd_18 _ _ ?ho); (case ho => exact hK)) | ((with_reducible refine pd_19 _ _ ?_ _ ?ho); (case ho => exact hK); all_goals (exact (by first | (with_reducible assumption) | omega | assumption | (simp; done) | (simp; omega) | (simp [*]; done) | exact smallE_of (n := 1048576) (by omega) (by omega) | (simp [*] at *; omega) | grind [szS]))) | ((with_reducible refine pd_20 _ _ _ ?ho); (case ho => exact hK)) | ((with_reducible refine pd_21 _ _ ?_ _ ?ho); (case ho => exact hK); all_goals (exact (by first | (with_reducible assumption) | omega | assumption | (simp; done) | (simp; omega) | (simp [*]; done) | exact smallE_of (n := 1048576) (by omega) (by omega) | (simp [*] at *; omega) | grind [szS]))) | ((with_reducible refine pd_22 _ _ _ ?ho); (case ho => exact hK)) | (exact pd_14 _ _ hK) | (exact pd_15 _ _ hK) | (exact pd_16 _ _ (by first | (with_reducible assumption) | omega | assumption | (simp; done) | (simp; omega) | (simp [*]; done) | exact smallE_of (n := 1048576) (by omega) (by omega) | (simp [*] at *; omega) | grind [szS]) _ hK) | (exact pd_17 _ _ (by first | (with_reducible assumption) | omega | assumption | (simp; done) | (simp; omega) | (simp [*]; done) | exact smallE_of (n := 1048576) (by omega) (by omega) | (simp [*] at *; omega) | grind [szS]) _ hK) | (exact pd_18 _ _ hK) | (exact pd_19 _ _ (by first | (with_reducible assumption) | omega | assumption | (simp; done) | (simp; omega) | (simp [*]; done) | exact smallE_of (n := 1048576) (by omega) (by omega) | (simp [*] at *; omega) | grind [szS]) _ hK) | (exact pd_20 _ _ _ hK) | (exact pd_21 _ _ (by first | (with_reducible assumption) | omega | assumption | (simp; done) | (simp; omega) | (simp [*]; done) | exact smallE_of (n := 1048576) (by omega) (by omega) | (simp [*] at *; omega) | grind [szS]) _ hK) | (exact pd_22 _ _ _ hK)) | ((with_reducible show CallIn _ _ _ _ _); first | (refine .inr ⟨_, rfl, fun K hK => hK⟩) | (refine .inr ⟨_, rfl, fun K hK => hK true⟩) | (refine .inr ⟨_, rfl, fun K hK => hK 0 (by simp)⟩))) | omega | exact sameInts_refl _ | exact sameInts_min _ _ | exact ends_pick2 _ _ | exact pickL_le _ _ | exact pick_zero (by assumption) | exact pick_all (by assumption) | exact some_pos (by assumption) | exact (pick_range (by omega) (by assumption) (by assumption)).1 | exact (pick_range (by omega) (by assumption) (by assumption)).2 | exact pick_more (by omega) (by assumption) (by assumption) (by assumption) (by assumption) | exact pick_less (by assumption) (by assumption) (by assumption)
end Go.Proofs.Ytammagpahfmenaa
namespace Go.Proofs.Ytammagpahfmenaa.fnPicks
open Go.Proofs.Ytammagpahfmenaa Go.Proofs.Ytammagpahfmenaa.Eng
set_option maxRecDepth 100000
set_option maxHeartbeats 2000000
set_option linter.unusedSimpArgs false
set_option linter.unusedVariables false
theorem own : ownKnob Try.prog.godebug = none := by kernel_rfl
theorem laid : laidOutB Try.prog = true := by kernel_rfl
theorem pars : parKs Try.prog md 3 0 Try.f3.params.toList = some [.sc (.sl [(.int .u8)])] := by kernel_rfl
theorem reads : Try.f3.params.toList.all (fun t => laysPar Try.prog t && Try.prog.readableRec t && decide (t < Try.prog.types.size)) = true := by kernel_rfl
theorem isBool : Try.prog.underlying 4 = some .bool := by kernel_rfl
theorem lifted (os : Os) (started : os.Started) (H : Type) (enc : TypeId × Value → H) :
    ReturnsInHanded {} Try.checked os 3 .any (Rows.fnPicksSpec.pre6 enc Try.prog Try.f3 Rows.fnPicksRow.domain false) (Rows.fnPicksSpec.post enc Try.prog Try.f3 false true false false) := by
  refine returnsInHanded_of_change_sized (C := Try.checked) own started (by kernel_rfl) Try.func3
    (ChangeSpec.witness6 (enc := enc) (C := Try.checked) false ⟨#[], #[.slice none 0 0], []⟩ 8 (by kernel_rfl) (by kernel_rfl) (by kernel_rfl) (by kernel_rfl)) ?_
  intro W base args ds gs before hval hW _ hsz _
  exact law_contract (P := Try.prog) (md := md) laid pars (fun j => rfl) (fun j => rfl) reads rfl isBool rfl (fun ds h => by match ds, h with | [_], _ => rfl)
    (fun xs h => by match xs, h with | [.sc _ code], ⟨rfl, _⟩ => exact pc_3 code) hval hW hsz
/-- The statement. -/
theorem proved : Rows.FnPicksSaid :=
  OpenClaim.holds_of_wide 3 Try.f3 rfl rfl rfl rfl rfl rfl rfl ⟨rfl, rfl, rfl, rfl, rfl⟩ rfl rfl rfl rfl rfl (by kernel_rfl) Try.func3 (by kernel_rfl)
    (of_decide_eq_true (by kernel_rfl)) (by unfold Func.isWrapper; first | (rw [if_pos (by decide +kernel)]; kernel_rfl) | (rw [if_neg (by decide +kernel)]; exact ⟨rfl, rfl⟩))
    (fun os started H enc _ => lifted os started H enc)
end Go.Proofs.Ytammagpahfmenaa.fnPicks
