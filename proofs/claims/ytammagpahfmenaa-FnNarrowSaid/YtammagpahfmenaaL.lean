/- For every input the law FnNarrow returns true, and each argument reads as it read before. No condition. -/
import Derived.Test.YtammagpahfmenaaC
import Derived.ProofKit
import Derived.SizedLaws
namespace Go.Proofs.Ytammagpahfmenaa
open Go.Proofs.Ytammagpahfmenaa.Eng
set_option maxRecDepth 100000
set_option maxHeartbeats 2000000
set_option linter.unusedSimpArgs false
set_option linter.unusedVariables false
def phi_4 : Nat → List D → (List D → Prop) → Prop
  | 14, [code], K => K [.bool (decide ((1048576 : Int) < code.toL.length))]
  | 23, [code], K => ∀ (p : D) (q : D), K [p, q]
  | 24, [a, b], K => K [.bool (narrower a b)]
  | 25, [a, b], K => K [.bool (narrower a b)]
  | 26, [d], K => K [.bool (patOk d)]
  | 27, [d], K => K [.bool (patOk d)]
  | _, _, _ => False
theorem pc_4 (code : D) : PC Try.prog 4 [.sc (.sl [(.int .u8)]) code] [.sc .bool] fun o => o = [.bool true] := by
  refine PC.of_sig mix sig_4 ⟨rfl, trivial⟩ rfl fun hok => ?_
  have e_code := sl_eta (hok _ (.head _))
  have l_code := sl_len (hok _ (.head _))
  have k_code := sl_all (hok _ (.head _))
  apply sayR_den (φ := (phi_4))
  simp (config := { maxSteps := 2000000 }) [e_code, tree_4, T.sayR, inK_i64_iff, RS.oks, RS.ok, okD_int, okD_bool, X.den, O1.den, O2.den, O3.den, callD, XArg.ev, XArg.dat, Callee'.num, backs, DArg.back, Conds.den, cloArgs, phi_4]
  refine ⟨by (first | ((with_reducible refine ⟨?_⟩); simp [e_code, tree_4, T.sayR, inK_i64_iff, RS.oks, RS.ok, okD_int, okD_bool, X.den, O1.den, O2.den, O3.den, callD, XArg.ev, XArg.dat, Callee'.num, backs, DArg.back, Conds.den, cloArgs]; intro K hK; (try simp only [phi_4] at hK); intros; first | contradiction | ((with_reducible refine pd_14 _ _ ?ho); (case ho => exact hK)) | ((with_reducible refine pd_23 _ _ ?ho); (case ho => exact hK)) | ((with_reducible refine pd_24 _ _ _ ?ho); (case ho => exact hK)) | ((with_reducible refine pd_25 _ _ _ ?ho); (case ho => exact hK)) | ((with_reducible refine pd_26 _ _ ?ho); (case ho => exact hK)) | ((with_reducible refine pd_27 _ _ ?ho); (case ho => exact hK)) | (exact pd_14 _ _ hK) | (exact pd_23 _ _ hK) | (exact pd_24 _ _ _ hK) | (exact pd_25 _ _ _ hK) | (exact pd_26 _ _ hK) | (exact pd_27 _ _ hK)) | ((with_reducible show CallIn _ _ _ _ _); first | (refine .inr ⟨_, rfl, fun K hK => hK⟩) | (refine .inr ⟨_, rfl, fun K hK => hK true⟩) | (refine .inr ⟨_, rfl, fun K hK => hK 0 (by simp)⟩))), ?_⟩
  intro _
  refine ⟨by (first | ((with_reducible refine ⟨?_⟩); simp [e_code, tree_4, T.sayR, inK_i64_iff, RS.oks, RS.ok, okD_int, okD_bool, X.den, O1.den, O2.den, O3.den, callD, XArg.ev, XArg.dat, Callee'.num, backs, DArg.back, Conds.den, cloArgs]; intro K hK; (try simp only [phi_4] at hK); intros; first | contradiction | ((with_reducible refine pd_14 _ _ ?ho); (case ho => exact hK)) | ((with_reducible refine pd_23 _ _ ?ho); (case ho => exact hK)) | ((with_reducible refine pd_24 _ _ _ ?ho); (case ho => exact hK)) | ((with_reducible refine pd_25 _ _ _ ?ho); (case ho => exact hK)) | ((with_reducible refine pd_26 _ _ ?ho); (case ho => exact hK)) | ((with_reducible refine pd_27 _ _ ?ho); (case ho => exact hK)) | (exact pd_14 _ _ hK) | (exact pd_23 _ _ hK) | (exact pd_24 _ _ _ hK) | (exact pd_25 _ _ _ hK) | (exact pd_26 _ _ hK) | (exact pd_27 _ _ hK)) | ((with_reducible show CallIn _ _ _ _ _); first | (refine .inr ⟨_, rfl, fun K hK => hK⟩) | (refine .inr ⟨_, rfl, fun K hK => hK true⟩) | (refine .inr ⟨_, rfl, fun K hK => hK 0 (by simp)⟩))), fun p q hp hq => ?_⟩
  have ep : D.lst [p.fld 0, p.fld 1, p.fld 2, p.fld 3, p.fld 4, p.fld 5, p.fld 6] = p := by simpa [List.range, List.range.loop] using okL_eta hp
  have eq : D.lst [q.fld 0, q.fld 1, q.fld 2, q.fld 3, q.fld 4, q.fld 5, q.fld 6] = q := by simpa [List.range, List.range.loop] using okL_eta hq
  simp only [ep, eq]
  (repeat' (first | (with_reducible apply And.intro) | intro _)) <;> first | (first | ((with_reducible refine ⟨?_⟩); simp [e_code, tree_4, T.sayR, inK_i64_iff, RS.oks, RS.ok, okD_int, okD_bool, X.den, O1.den, O2.den, O3.den, callD, XArg.ev, XArg.dat, Callee'.num, backs, DArg.back, Conds.den, cloArgs]; intro K hK; (try simp only [phi_4] at hK); intros; first | contradiction | ((with_reducible refine pd_14 _ _ ?ho); (case ho => exact hK)) | ((with_reducible refine pd_23 _ _ ?ho); (case ho => exact hK)) | ((with_reducible refine pd_24 _ _ _ ?ho); (case ho => exact hK)) | ((with_reducible refine pd_25 _ _ _ ?ho); (case ho => exact hK)) | ((with_reducible refine pd_26 _ _ ?ho); (case ho => exact hK)) | ((with_reducible refine pd_27 _ _ ?ho); (case ho => exact hK)) | (exact pd_14 _ _ hK) | (exact pd_23 _ _ hK) | (exact pd_24 _ _ _ hK) | (exact pd_25 _ _ _ hK) | (exact pd_26 _ _ hK) | (exact pd_27 _ _ hK)) | ((with_reducible show CallIn _ _ _ _ _); first | (refine .inr ⟨_, rfl, fun K hK => hK⟩) | (refine .inr ⟨_, rfl, fun K hK => hK true⟩) | (refine .inr ⟨_, rfl, fun K hK => hK 0 (by simp)⟩))) | (exact narrower_self _) | (exact narrower_wide' _ _) | (exact narrower_anti' _ _)
end Go.Proofs.Ytammagpahfmenaa
namespace Go.Proofs.Ytammagpahfmenaa.fnNarrow
open Go.Proofs.Ytammagpahfmenaa Go.Proofs.Ytammagpahfmenaa.Eng
set_option maxRecDepth 100000
set_option maxHeartbeats 2000000
set_option linter.unusedSimpArgs false
set_option linter.unusedVariables false
theorem own : ownKnob Try.prog.godebug = none := by kernel_rfl
theorem laid : laidOutB Try.prog = true := by kernel_rfl
theorem pars : parKs Try.prog md 4 0 Try.f4.params.toList = some [.sc (.sl [(.int .u8)])] := by kernel_rfl
theorem reads : Try.f4.params.toList.all (fun t => laysPar Try.prog t && Try.prog.readableRec t && decide (t < Try.prog.types.size)) = true := by kernel_rfl
theorem isBool : Try.prog.underlying 4 = some .bool := by kernel_rfl
theorem lifted (os : Os) (started : os.Started) (H : Type) (enc : TypeId × Value → H) :
    ReturnsInHanded {} Try.checked os 4 .any (Rows.fnNarrowSpec.pre6 enc Try.prog Try.f4 Rows.fnNarrowRow.domain false) (Rows.fnNarrowSpec.post enc Try.prog Try.f4 false true false false) := by
  refine returnsInHanded_of_change_sized (C := Try.checked) own started (by kernel_rfl) Try.func4
    (ChangeSpec.witness6 (enc := enc) (C := Try.checked) false ⟨#[], #[.slice none 0 0], []⟩ 8 (by kernel_rfl) (by kernel_rfl) (by kernel_rfl) (by kernel_rfl)) ?_
  intro W base args ds gs before hval hW _ hsz _
  exact law_contract (P := Try.prog) (md := md) laid pars (fun j => rfl) (fun j => rfl) reads rfl isBool rfl (fun ds h => by match ds, h with | [_], _ => rfl)
    (fun xs h => by match xs, h with | [.sc _ code], ⟨rfl, _⟩ => exact pc_4 code) hval hW hsz
/-- The statement. -/
theorem proved : Rows.FnNarrowSaid :=
  OpenClaim.holds_of_wide 4 Try.f4 rfl rfl rfl rfl rfl rfl rfl ⟨rfl, rfl, rfl, rfl, rfl⟩ rfl rfl rfl rfl rfl (by kernel_rfl) Try.func4 (by kernel_rfl)
    (of_decide_eq_true (by kernel_rfl)) (by unfold Func.isWrapper; first | (rw [if_pos (by decide +kernel)]; kernel_rfl) | (rw [if_neg (by decide +kernel)]; exact ⟨rfl, rfl⟩))
    (fun os started H enc _ => lifted os started H enc)
end Go.Proofs.Ytammagpahfmenaa.fnNarrow
