/- For every input the law FnAmounts returns true, and each argument reads as it read before. No condition. -/
import Derived.Test.YtammagpahfmenaaC
import Derived.ProofKit
import Derived.SizedLaws
namespace Go.Proofs.Ytammagpahfmenaa
open Go.Proofs.Ytammagpahfmenaa.Eng
set_option maxRecDepth 100000
set_option maxHeartbeats 2000000
set_option linter.unusedSimpArgs false
set_option linter.unusedVariables false
def phi_6 : Nat → List D → (List D → Prop) → Prop
  | 14, [code], K => K [.bool (decide ((1048576 : Int) < code.toL.length))]
  | 40, [code], K => ∀ (a : D) (n : Int), ((((a.fld 6).toL.length : Int) ≤ 5)) → K [a, .int n]
  | 41, [a, n], K => K [.int (amount a n.toI)]
  | 42, [a, n], K => K [.int (amount a n.toI)]
  | 43, [a], K => K [.bool (actOk a)]
  | 44, [a, b], K => K [.int (upto a.toI b.toI)]
  | _, _, _ => False
theorem pc_6 (code : D) : PC Try.prog 6 [.sc (.sl [(.int .u8)]) code] [.sc .bool] fun o => o = [.bool true] := by
  refine PC.of_sig mix sig_6 ⟨rfl, trivial⟩ rfl fun hok => ?_
  have e_code := sl_eta (hok _ (.head _))
  have l_code := sl_len (hok _ (.head _))
  have k_code := sl_all (hok _ (.head _))
  apply sayR_den (φ := (phi_6))
  simp (config := { maxSteps := 2000000 }) [e_code, tree_6, T.sayR, inK_i64_iff, RS.oks, RS.ok, okD_int, okD_bool, X.den, O1.den, O2.den, O3.den, callD, XArg.ev, XArg.dat, Callee'.num, backs, DArg.back, Conds.den, cloArgs, phi_6]
  (repeat' (first | (with_reducible apply And.intro) | intro _)) <;> first | (first | ((with_reducible refine ⟨?_⟩); simp [e_code, tree_6, T.sayR, inK_i64_iff, RS.oks, RS.ok, okD_int, okD_bool, X.den, O1.den, O2.den, O3.den, callD, XArg.ev, XArg.dat, Callee'.num, backs, DArg.back, Conds.den, cloArgs]; intro K hK; intros; first | contradiction | (exact pd_14 _ _ hK) | (exact pd_40 _ _ hK) | (exact pd_41 _ _ _ hK) | (exact pd_42 _ _ _ hK) | (exact pd_43 _ _ hK) | (exact pd_44 _ _ _ hK)) | ((with_reducible show CallIn _ _ _ _ _); first | (refine .inr ⟨_, rfl, fun K hK => hK⟩) | (refine .inr ⟨_, rfl, fun K hK => hK true⟩) | (refine .inr ⟨_, rfl, fun K hK => hK 0 (by simp)⟩))) | exact amount_up _ | exact amount_th _ rfl rfl | rfl | exact (amount_range _ (by assumption)).1 | exact (amount_range _ (by assumption)).2
end Go.Proofs.Ytammagpahfmenaa
namespace Go.Proofs.Ytammagpahfmenaa.fnAmounts
open Go.Proofs.Ytammagpahfmenaa Go.Proofs.Ytammagpahfmenaa.Eng
set_option maxRecDepth 100000
set_option maxHeartbeats 2000000
set_option linter.unusedSimpArgs false
set_option linter.unusedVariables false
theorem own : ownKnob Try.prog.godebug = none := by kernel_rfl
theorem laid : laidOutB Try.prog = true := by kernel_rfl
theorem pars : parKs Try.prog md 6 0 Try.f6.params.toList = some [.sc (.sl [(.int .u8)])] := by kernel_rfl
theorem reads : Try.f6.params.toList.all (fun t => laysPar Try.prog t && Try.prog.readableRec t && decide (t < Try.prog.types.size)) = true := by kernel_rfl
theorem isBool : Try.prog.underlying 4 = some .bool := by kernel_rfl
theorem lifted (os : Os) (started : os.Started) (H : Type) (enc : TypeId × Value → H) :
    ReturnsInHanded {} Try.checked os 6 .any (Rows.fnAmountsSpec.pre6 enc Try.prog Try.f6 Rows.fnAmountsRow.domain false) (Rows.fnAmountsSpec.post enc Try.prog Try.f6 false true false false) := by
  refine returnsInHanded_of_change_sized (C := Try.checked) own started (by kernel_rfl) Try.func6
    (ChangeSpec.witness6 (enc := enc) (C := Try.checked) false ⟨#[], #[.slice none 0 0], []⟩ 8 (by kernel_rfl) (by kernel_rfl) (by kernel_rfl) (by kernel_rfl)) ?_
  intro W base args ds gs before hval hW _ hsz _
  exact law_contract (P := Try.prog) (md := md) laid pars (fun j => rfl) (fun j => rfl) reads rfl isBool rfl (fun ds h => by match ds, h with | [_], _ => rfl)
    (fun xs h => by match xs, h with | [.sc _ code], ⟨rfl, _⟩ => exact pc_6 code) hval hW hsz
/-- The statement. -/
theorem proved : Rows.FnAmountsSaid :=
  OpenClaim.holds_of_wide 6 Try.f6 rfl rfl rfl rfl rfl rfl rfl ⟨rfl, rfl, rfl, rfl, rfl⟩ rfl rfl rfl rfl rfl (by kernel_rfl) Try.func6 (by kernel_rfl)
    (of_decide_eq_true (by kernel_rfl)) (by unfold Func.isWrapper; first | (rw [if_pos (by decide +kernel)]; kernel_rfl) | (rw [if_neg (by decide +kernel)]; exact ⟨rfl, rfl⟩))
    (fun os started H enc _ => lifted os started H enc)
end Go.Proofs.Ytammagpahfmenaa.fnAmounts
