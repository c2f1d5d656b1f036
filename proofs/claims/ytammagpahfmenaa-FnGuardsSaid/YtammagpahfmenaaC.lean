/- The contracts of the functions that this claim reaches: what each hands back, for all data. -/
import Derived.Test.YtammagpahfmenaaT
import Derived.Test.YtammagpahfmenaaS
namespace Go.Proofs.Ytammagpahfmenaa
open Go.Proofs.Ytammagpahfmenaa.Eng
set_option maxRecDepth 100000
set_option maxHeartbeats 2000000
set_option linter.unusedSimpArgs false
set_option linter.unusedVariables false
/- laws.big -/
theorem pc_14 (code : D) : PC Try.prog 14 [.sc (.sl [(.int .u8)]) code] [.sc .bool] fun o => o = [.bool (decide ((1048576 : Int) < code.toL.length))] := by
  refine PC.of_sig mix sig_14 ⟨rfl, trivial⟩ rfl fun hok => ?_
  have e_code := sl_eta (hok _ (.head _))
  have l_code := sl_len (hok _ (.head _))
  have k_code := sl_all (hok _ (.head _))
  apply says_den (φ := fun _ _ => [])
  simp [e_code, tree_14, T.says, X.den, O1.den, O2.den, O3.den, callD, XArg.ev, XArg.dat, Callee'.num, backs, DArg.back, Conds.den, cloArgs]
theorem pd_14 (code : D) (Q : List D → Prop) (ho : Q [.bool (decide ((1048576 : Int) < code.toL.length))]) : PC Try.prog 14 [.sc (.sl [(.int .u8)]) code] [.sc .bool] Q := (pc_14 code).mono fun _ h => h ▸ ho
/- spec.l1New -/
theorem pc_113 (a : D) : PC Try.prog 113 [.sc (.sl [(.int .u8)]) a] [.cur] fun o => o = [a] := by
  refine PC.of_sig mix sig_113 ⟨rfl, trivial⟩ rfl fun hok => ?_
  have e_a := sl_eta (hok _ (.head _))
  have l_a := sl_len (hok _ (.head _))
  have k_a := sl_all (hok _ (.head _))
  apply says_den (φ := fun _ _ => [])
  simp [e_a, tree_113, T.says, X.den, O1.den, O2.den, O3.den, callD, XArg.ev, XArg.dat, Callee'.num, backs, DArg.back, Conds.den, cloArgs]
  refine fun _ => ?_
  refine den_loop (fun vs => ∃ (h : Int) (i : Nat), vs = [.int h, .int i] ∧ i ≤ a.toL.length) (fun vs => a.toL.length - ((vs.getD 1 default).toI).toNat) ⟨IntKind.i64.wrap (139871 + (a.toL.length : Int)), 0, by simp [X.den, O1.den, O2.den], by omega⟩ ?_
  rintro vs hvl ⟨h, i, rfl, hi⟩
  apply says_den (φ := fun _ _ => [])
  by_cases hlt : i < a.toL.length
  · have hz : IntKind.i64.wrap ((i : Int) + 1) = ((i + 1 : Nat) : Int) := by (first | omega | (simp only [IntKind.wrap_i64, maxL] at *; omega) | (simp [IntKind.wrap_i64, maxL] at *; omega))
    simp [e_a, tree_113, T.says, X.den, O1.den, O2.den, O3.den, callD, XArg.ev, XArg.dat, Callee'.num, backs, DArg.back, Conds.den, cloArgs, hlt, hz]
    (repeat' (first | (with_reducible apply And.intro) | intro _)) <;> first | exact ⟨_, i + 1, ⟨rfl, by omega⟩, by omega⟩ | exact ⟨i + 1, rfl, by omega⟩ | (rw [hz]; omega) | omega | skip
  · simp [e_a, tree_113, T.says, X.den, O1.den, O2.den, O3.den, callD, XArg.ev, XArg.dat, Callee'.num, backs, DArg.back, Conds.den, cloArgs, hlt]
theorem pd_113 (a : D) (Q : List D → Prop) (ho : Q [a]) : PC Try.prog 113 [.sc (.sl [(.int .u8)]) a] [.cur] Q := (pc_113 a).mono fun _ h => h ▸ ho
/- spec.l1Byte -/
def phi_190 : Nat → List D → (List D → Prop) → Prop
  | _, _, _ => False
theorem pc_190 (c : D) : PC Try.prog 190 [.cur c] [.sc (.int .i64)] fun o => ∃ (m : Int), (0 ≤ m ∧ m ≤ 255) ∧ o = [.int m] := by
  refine PC.of_sigK mix sig_190 ⟨trivial, trivial⟩ rfl fun hok ci ch hci hcn hch => ?_
  have hci := inK_i64 hci
  have hw : ci < c.toL.length → c.toL.length ≤ maxL → IntKind.i64.wrap (ci + 1) = ci + 1 := fun h h2 => by rw [IntKind.wrap_i64]; simp only [maxL] at h2; omega
  apply sayR_den (φ := (phi_190))
  simp [tree_190, T.sayR, inK_i64_iff, RS.oks, RS.ok, CK.okD, X.den, O1.den, O2.den, O3.den, callD, XArg.ev, XArg.dat, Callee'.num, backs, DArg.back, Conds.den, cloArgs]
  (repeat' (first | (with_reducible apply And.intro) | intro _)) <;> first | exact (bits2_and255 _).1 | exact (bits2_and255 _).2 | omega | (rw [hw (by assumption) (by assumption)]; omega) | skip
theorem pd_190 (c : D) (Q : List D → Prop) (ho : ∀ (m : Int), (0 ≤ m ∧ m ≤ 255) → Q [.int m]) : PC Try.prog 190 [.cur c] [.sc (.int .i64)] Q := (pc_190 c).mono (by rintro _ ⟨m, hc, rfl⟩; exact ho m hc)
/- spec.l1Below -/
def phi_117 : Nat → List D → (List D → Prop) → Prop
  | 190, [c], K => ∀ (m : Int), (0 ≤ m ∧ m ≤ 255) → K [.int m]
  | _, _, _ => False
theorem pc_117 (c n : D) : PC Try.prog 117 [.cur c, .sc (.int .i64) n] [.sc (.int .i64)] fun o => ∃ (m : Int), (0 ≤ m ∧ m ≤ 16777215 ∧ (0 < n.toI → m < n.toI) ∧ (n.toI ≤ 0 → m = 0)) ∧ o = [.int m] := by
  refine PC.of_sigK mix sig_117 ⟨trivial, rfl, trivial⟩ rfl fun hok ci ch hci hcn hch => ?_
  have e_n := int_eta (hok _ (.head _))
  have b_n := int_range (hok _ (.head _))
  apply sayR_den (φ := (phi_117))
  simp [e_n, tree_117, T.sayR, inK_i64_iff, RS.oks, RS.ok, CK.okD, X.den, O1.den, O2.den, O3.den, callD, XArg.ev, XArg.dat, Callee'.num, backs, DArg.back, Conds.den, cloArgs, phi_117]
  (repeat' (first | (with_reducible apply And.intro) | intro _)) <;> (try rw [mix3 (by assumption) (by assumption) (by assumption) (by assumption) (by assumption) (by assumption)]) <;> first | omega | assumption | (exact (tmod_lt (by omega) (by omega)).1) | (exact (tmod_lt (by omega) (by omega)).2) | (exact Int.le_trans (tmod_le (by omega) _) (by omega)) | (first | (with_reducible assumption) | (with_reducible exact trivial) | (first | ((with_reducible refine ⟨?_⟩); simp [e_n, tree_117, T.sayR, inK_i64_iff, RS.oks, RS.ok, CK.okD, X.den, O1.den, O2.den, O3.den, callD, XArg.ev, XArg.dat, Callee'.num, backs, DArg.back, Conds.den, cloArgs]; intro K hK; (try simp only [phi_117] at hK); intros; first | contradiction | ((with_reducible refine pd_190 _ _ ?ho); (case ho => exact hK)) | (exact pd_190 _ _ hK)) | ((with_reducible show CallIn _ _ _ _ _); first | (refine .inr ⟨_, rfl, fun K hK => hK⟩) | (refine .inr ⟨_, rfl, fun K hK => hK true⟩) | (refine .inr ⟨_, rfl, fun K hK => hK 0 (by simp)⟩))) | omega | (simp only [IntKind.wrap_i64, maxL] at *; omega) | assumption | rfl | contradiction | grind) | skip
theorem pd_117 (c n : D) (Q : List D → Prop) (ho : ∀ (m : Int), (0 ≤ m ∧ m ≤ 16777215 ∧ (0 < n.toI → m < n.toI) ∧ (n.toI ≤ 0 → m = 0)) → Q [.int m]) : PC Try.prog 117 [.cur c, .sc (.int .i64) n] [.sc (.int .i64)] Q := (pc_117 c n).mono (by rintro _ ⟨m, hc, rfl⟩; exact ho m hc)
/- spec.l1Int -/
def phi_189 : Nat → List D → (List D → Prop) → Prop
  | 117, [c, n], K => ∀ (m : Int), (0 ≤ m ∧ m ≤ 16777215 ∧ (0 < n.toI → m < n.toI) ∧ (n.toI ≤ 0 → m = 0)) → K [.int m]
  | _, _, _ => False
theorem pc_189 (c l : D) (h : l.toL ≠ []) : PC Try.prog 189 [.cur c, .sc (.sl [(.int .i64)]) l] [.sc (.int .i64)] fun o => ∃ (m : Int), (oneOf l m) ∧ o = [.int m] := by
  refine PC.of_sigK mix sig_189 ⟨trivial, rfl, trivial⟩ rfl fun hok ci ch hci hcn hch => ?_
  have e_l := sl_eta (hok _ (.head _))
  have l_l := sl_len (hok _ (.head _))
  have k_l := sl_all (hok _ (.head _))
  apply sayR_den (φ := (phi_189))
  have hp : 0 < l.toL.length := List.length_pos_iff.mpr h
  have hin : ∀ i : Nat, i < l.toL.length → ∃ m : Int, oneOf l m ∧ (l.elem i).fld 0 = .int m := fun i hi => ⟨_, List.mem_map.2 ⟨_, elem_mem hi, rfl⟩, (int_eta (okL_at (k_l _ (elem_mem hi)) (i := 0) rfl)).symm⟩
  simp [e_l, tree_189, T.sayR, inK_i64_iff, RS.oks, RS.ok, CK.okD, X.den, O1.den, O2.den, O3.den, callD, XArg.ev, XArg.dat, Callee'.num, backs, DArg.back, Conds.den, cloArgs, phi_189, hp]
  (repeat' (first | (with_reducible apply And.intro) | intro _)) <;> first | omega | (simpa using hin _ (by omega)) | (first | (with_reducible assumption) | (with_reducible exact trivial) | (first | ((with_reducible refine ⟨?_⟩); simp [e_l, tree_189, T.sayR, inK_i64_iff, RS.oks, RS.ok, CK.okD, X.den, O1.den, O2.den, O3.den, callD, XArg.ev, XArg.dat, Callee'.num, backs, DArg.back, Conds.den, cloArgs]; intro K hK; (try simp only [phi_189] at hK); intros; first | contradiction | ((with_reducible refine pd_117 _ _ _ ?ho); (case ho => exact hK)) | (exact pd_117 _ _ _ hK)) | ((with_reducible show CallIn _ _ _ _ _); first | (refine .inr ⟨_, rfl, fun K hK => hK⟩) | (refine .inr ⟨_, rfl, fun K hK => hK true⟩) | (refine .inr ⟨_, rfl, fun K hK => hK 0 (by simp)⟩))) | omega | (simp only [IntKind.wrap_i64, maxL] at *; omega) | assumption | rfl | contradiction | grind) | skip
theorem pd_189 (c l : D) (h : l.toL ≠ []) (Q : List D → Prop) (ho : ∀ (m : Int), (oneOf l m) → Q [.int m]) : PC Try.prog 189 [.cur c, .sc (.sl [(.int .i64)]) l] [.sc (.int .i64)] Q := (pc_189 c l h).mono (by rintro _ ⟨m, hc, rfl⟩; exact ho m hc)
/- spec.StateNew -/
def phi_191 : Nat → List D → (List D → Prop) → Prop
  | _, _, _ => False
theorem pc_191 (n : D) : PC Try.prog 191 [.sc (.int .i64) n] [.st [(.sl [(.int .i64), (.int .i64), (.int .i64), (.int .i64), (.int .i64), (.int .i64), (.int .i64), (.int .i64), (.int .i64), (.int .i64), (.int .i64), .bool, .bool]), (.sl [(.int .i64), (.int .i64), .bool]), (.int .i64), (.int .i64)]] fun o => ∃ (s : D), ((s.fld 0).toL = [] ∧ 2 ≤ (s.fld 1).toL.length ∧ (s.fld 1).toL.length ≤ 3) ∧ o = [s] := by
  refine PC.of_sig mix sig_191 ⟨rfl, trivial⟩ rfl fun hok => ?_
  have e_n := int_eta (hok _ (.head _))
  have b_n := int_range (hok _ (.head _))
  apply sayR_den (φ := (phi_191))
  simp [e_n, tree_191, T.sayR, inK_i64_iff, RS.oks, RS.ok, CK.okD, X.den, O1.den, O2.den, O3.den, callD, XArg.ev, XArg.dat, Callee'.num, backs, DArg.back, Conds.den, cloArgs]
  all_goals ((repeat' (first | (with_reducible apply And.intro) | intro _)) <;> first | exact ⟨_, by simp, rfl⟩ | (refine ⟨D.lst _, ?_, rfl⟩; simp) | (first | (with_reducible assumption) | (with_reducible exact trivial) | (first | ((with_reducible refine ⟨?_⟩); simp [e_n, tree_191, T.sayR, inK_i64_iff, RS.oks, RS.ok, CK.okD, X.den, O1.den, O2.den, O3.den, callD, XArg.ev, XArg.dat, Callee'.num, backs, DArg.back, Conds.den, cloArgs]; intro K hK; intros; first | contradiction) | ((with_reducible show CallIn _ _ _ _ _); first | (refine .inr ⟨_, rfl, fun K hK => hK⟩) | (refine .inr ⟨_, rfl, fun K hK => hK true⟩) | (refine .inr ⟨_, rfl, fun K hK => hK 0 (by simp)⟩))) | omega | (simp only [IntKind.wrap_i64, maxL] at *; omega) | assumption | rfl | contradiction | grind) | skip)
theorem pd_191 (n : D) (Q : List D → Prop) (ho : ∀ (s : D), ((s.fld 0).toL = [] ∧ 2 ≤ (s.fld 1).toL.length ∧ (s.fld 1).toL.length ≤ 3) → Q [s]) : PC Try.prog 191 [.sc (.int .i64) n] [.st [(.sl [(.int .i64), (.int .i64), (.int .i64), (.int .i64), (.int .i64), (.int .i64), (.int .i64), (.int .i64), (.int .i64), (.int .i64), (.int .i64), .bool, .bool]), (.sl [(.int .i64), (.int .i64), .bool]), (.int .i64), (.int .i64)]] Q := (pc_191 n).mono (by rintro _ ⟨s, hc, rfl⟩; exact ho s hc)
/- spec.l1Once -/
def phi_115 : Nat → List D → (List D → Prop) → Prop
  | 117, [c, n], K => ∀ (m : Int), (0 ≤ m ∧ m ≤ 16777215 ∧ (0 < n.toI → m < n.toI) ∧ (n.toI ≤ 0 → m = 0)) → K [.int m]
  | _, _, _ => False
theorem pc_115 (c n : D) : PC Try.prog 115 [.cur c, .sc (.int .i64) n] [.sc .bool] fun o => ∃ (b : Bool), o = [.bool b] := by
  refine PC.of_sigK mix sig_115 ⟨trivial, rfl, trivial⟩ rfl fun hok ci ch hci hcn hch => ?_
  have e_n := int_eta (hok _ (.head _))
  have b_n := int_range (hok _ (.head _))
  apply sayR_den (φ := (phi_115))
  simp [e_n, tree_115, T.sayR, inK_i64_iff, RS.oks, RS.ok, CK.okD, X.den, O1.den, O2.den, O3.den, callD, XArg.ev, XArg.dat, Callee'.num, backs, DArg.back, Conds.den, cloArgs, phi_115]
  all_goals ((repeat' (first | (with_reducible apply And.intro) | intro _)) <;> (first | (with_reducible assumption) | (with_reducible exact trivial) | (first | ((with_reducible refine ⟨?_⟩); simp [e_n, tree_115, T.sayR, inK_i64_iff, RS.oks, RS.ok, CK.okD, X.den, O1.den, O2.den, O3.den, callD, XArg.ev, XArg.dat, Callee'.num, backs, DArg.back, Conds.den, cloArgs]; intro K hK; (try simp only [phi_115] at hK); intros; first | contradiction | ((with_reducible refine pd_117 _ _ _ ?ho); (case ho => exact hK)) | (exact pd_117 _ _ _ hK)) | ((with_reducible show CallIn _ _ _ _ _); first | (refine .inr ⟨_, rfl, fun K hK => hK⟩) | (refine .inr ⟨_, rfl, fun K hK => hK true⟩) | (refine .inr ⟨_, rfl, fun K hK => hK 0 (by simp)⟩))) | omega | (simp only [IntKind.wrap_i64, maxL] at *; omega) | assumption | rfl | contradiction | grind))
theorem pd_115 (c n : D) (Q : List D → Prop) (ho : ∀ (b : Bool), Q [.bool b]) : PC Try.prog 115 [.cur c, .sc (.int .i64) n] [.sc .bool] Q := (pc_115 c n).mono (by rintro _ ⟨b, rfl⟩; exact ho b)
/- spec.l4Draw -/
def phi_192 : Nat → List D → (List D → Prop) → Prop
  | 115, [c, n], K => ∀ (b : Bool), K [.bool b]
  | 117, [c, n], K => ∀ (m : Int), (0 ≤ m ∧ m ≤ 16777215 ∧ (0 < n.toI → m < n.toI) ∧ (n.toI ≤ 0 → m = 0)) → K [.int m]
  | 189, [c, l], K => ∀ (m : Int), (oneOf l m) → K [.int m]
  | _, _, _ => False
theorem pc_192 (c n : D) : PC Try.prog 192 [.cur c, .sc (.int .i64) n] [.st [(.int .i64), (.int .i64), (.int .i64), (.int .i64), (.int .i64), (.int .i64), (.int .i64), (.int .i64), (.int .i64), (.int .i64), (.int .i64), .bool, .bool]] fun o => ∃ (p : D), (-1 ≤ (p.fld 2).toI) ∧ o = [p] := by
  refine PC.of_sigK mix sig_192 ⟨trivial, rfl, trivial⟩ rfl fun hok ci ch hci hcn hch => ?_
  have e_n := int_eta (hok _ (.head _))
  have b_n := int_range (hok _ (.head _))
  apply sayR_den (φ := (phi_192))
  simp [e_n, tree_192, T.sayR, inK_i64_iff, RS.oks, RS.ok, CK.okD, X.den, O1.den, O2.den, O3.den, callD, XArg.ev, XArg.dat, Callee'.num, backs, DArg.back, Conds.den, cloArgs, phi_192]
  (repeat' (first | (with_reducible apply And.intro) | intro _)) <;> first | (first | (with_reducible assumption) | (with_reducible exact trivial) | (first | ((with_reducible refine ⟨?_⟩); simp [e_n, tree_192, T.sayR, inK_i64_iff, RS.oks, RS.ok, CK.okD, X.den, O1.den, O2.den, O3.den, callD, XArg.ev, XArg.dat, Callee'.num, backs, DArg.back, Conds.den, cloArgs]; intro K hK; (try simp only [phi_192] at hK); intros; first | contradiction | ((with_reducible refine pd_115 _ _ _ ?ho); (case ho => exact hK)) | ((with_reducible refine pd_117 _ _ _ ?ho); (case ho => exact hK)) | ((with_reducible refine pd_189 _ _ ?_ _ ?ho); (case ho => exact hK); all_goals (exact (by first | (with_reducible assumption) | omega | assumption | (simp; done) | (simp; omega) | (simp [*]; done) | exact smallE_of (n := 1048576) (by omega) (by omega) | (simp [*] at *; omega) | grind [szS]))) | (exact pd_115 _ _ _ hK) | (exact pd_117 _ _ _ hK) | (exact pd_189 _ _ (by first | (with_reducible assumption) | omega | assumption | (simp; done) | (simp; omega) | (simp [*]; done) | exact smallE_of (n := 1048576) (by omega) (by omega) | (simp [*] at *; omega) | grind [szS]) _ hK)) | ((with_reducible show CallIn _ _ _ _ _); first | (refine .inr ⟨_, rfl, fun K hK => hK⟩) | (refine .inr ⟨_, rfl, fun K hK => hK true⟩) | (refine .inr ⟨_, rfl, fun K hK => hK 0 (by simp)⟩))) | omega | (simp only [IntKind.wrap_i64, maxL] at *; omega) | assumption | rfl | contradiction | grind) | skip
  obtain ⟨I, hI⟩ : ∃ I : List D → Prop, ∀ vs, I vs ↔ ∃ (i : Nat) (t : Int), vs = [.int i, .int t] ∧ i ≤ 6 := ⟨_, fun _ => Iff.rfl⟩
  obtain ⟨μ, hμ⟩ : ∃ μ : List D → Nat, ∀ vs, μ vs = 6 - ((vs.getD 0 default).toI).toNat := ⟨_, fun _ => rfl⟩
  refine den_loop I μ ((hI _).2 ⟨0, 0, by simp [X.den], by omega⟩) ?_
  intro vs hvl hv
  obtain ⟨i, t, rfl, hinv⟩ := (hI _).1 hv
  clear hv
  apply sayR_den (φ := (phi_192))
  by_cases hlt : i < 6
  · have hz : IntKind.i64.wrap ((i : Int) + 1) = ((i + 1 : Nat) : Int) := by (first | omega | (simp only [IntKind.wrap_i64, maxL] at *; omega) | (simp [IntKind.wrap_i64, maxL] at *; omega))
    have hlt2 : (i : Int) < 6 := by omega
    simp [e_n, tree_192, T.sayR, inK_i64_iff, RS.oks, RS.ok, CK.okD, X.den, O1.den, O2.den, O3.den, callD, XArg.ev, XArg.dat, Callee'.num, backs, DArg.back, Conds.den, cloArgs, phi_192, hlt, hlt2, hz]
    (repeat' (first | (with_reducible apply And.intro) | intro _)) <;> first | (exact (hI _).2 ⟨i + 1, _, rfl, by omega⟩) | (rw [hμ, hμ]; simp; omega) | (first | (with_reducible assumption) | (with_reducible exact trivial) | (first | ((with_reducible refine ⟨?_⟩); simp [e_n, tree_192, T.sayR, inK_i64_iff, RS.oks, RS.ok, CK.okD, X.den, O1.den, O2.den, O3.den, callD, XArg.ev, XArg.dat, Callee'.num, backs, DArg.back, Conds.den, cloArgs]; intro K hK; (try simp only [phi_192] at hK); intros; first | contradiction | ((with_reducible refine pd_115 _ _ _ ?ho); (case ho => exact hK)) | ((with_reducible refine pd_117 _ _ _ ?ho); (case ho => exact hK)) | ((with_reducible refine pd_189 _ _ ?_ _ ?ho); (case ho => exact hK); all_goals (exact (by first | (with_reducible assumption) | omega | assumption | (simp; done) | (simp; omega) | (simp [*]; done) | exact smallE_of (n := 1048576) (by omega) (by omega) | (simp [*] at *; omega) | grind [szS]))) | (exact pd_115 _ _ _ hK) | (exact pd_117 _ _ _ hK) | (exact pd_189 _ _ (by first | (with_reducible assumption) | omega | assumption | (simp; done) | (simp; omega) | (simp [*]; done) | exact smallE_of (n := 1048576) (by omega) (by omega) | (simp [*] at *; omega) | grind [szS]) _ hK)) | ((with_reducible show CallIn _ _ _ _ _); first | (refine .inr ⟨_, rfl, fun K hK => hK⟩) | (refine .inr ⟨_, rfl, fun K hK => hK true⟩) | (refine .inr ⟨_, rfl, fun K hK => hK 0 (by simp)⟩))) | omega | (simp only [IntKind.wrap_i64, maxL] at *; omega) | assumption | rfl | contradiction | grind) | skip
  · have : i = 6 := by omega
    subst this
    simp [e_n, tree_192, T.sayR, inK_i64_iff, RS.oks, RS.ok, CK.okD, X.den, O1.den, O2.den, O3.den, callD, XArg.ev, XArg.dat, Callee'.num, backs, DArg.back, Conds.den, cloArgs, phi_192]
    (repeat' (first | (with_reducible apply And.intro) | intro _)) <;> first | (first | (with_reducible assumption) | (with_reducible exact trivial) | (first | ((with_reducible refine ⟨?_⟩); simp [e_n, tree_192, T.sayR, inK_i64_iff, RS.oks, RS.ok, CK.okD, X.den, O1.den, O2.den, O3.den, callD, XArg.ev, XArg.dat, Callee'.num, backs, DArg.back, Conds.den, cloArgs]; intro K hK; (try simp only [phi_192] at hK); intros; first | contradiction | ((with_reducible refine pd_115 _ _ _ ?ho); (case ho => exact hK)) | ((with_reducible refine pd_117 _ _ _ ?ho); (case ho => exact hK)) | ((with_reducible refine pd_189 _ _ ?_ _ ?ho); (case ho => exact hK); all_goals (exact (by first | (with_reducible assumption) | omega | assumption | (simp; done) | (simp; omega) | (simp [*]; done) | exact smallE_of (n := 1048576) (by omega) (by omega) | (simp [*] at *; omega) | grind [szS]))) | (exact pd_115 _ _ _ hK) | (exact pd_117 _ _ _ hK) | (exact pd_189 _ _ (by first | (with_reducible assumption) | omega | assumption | (simp; done) | (simp; omega) | (simp [*]; done) | exact smallE_of (n := 1048576) (by omega) (by omega) | (simp [*] at *; omega) | grind [szS]) _ hK)) | ((with_reducible show CallIn _ _ _ _ _); first | (refine .inr ⟨_, rfl, fun K hK => hK⟩) | (refine .inr ⟨_, rfl, fun K hK => hK true⟩) | (refine .inr ⟨_, rfl, fun K hK => hK 0 (by simp)⟩))) | omega | (simp only [IntKind.wrap_i64, maxL] at *; omega) | assumption | rfl | contradiction | grind) | (refine ⟨_, ?_, rfl⟩; simp; (first | omega | (simp only [IntKind.wrap_i64, maxL] at *; omega) | (simp [IntKind.wrap_i64, maxL] at *; omega))) | skip
theorem pd_192 (c n : D) (Q : List D → Prop) (ho : ∀ (p : D), (-1 ≤ (p.fld 2).toI) → Q [p]) : PC Try.prog 192 [.cur c, .sc (.int .i64) n] [.st [(.int .i64), (.int .i64), (.int .i64), (.int .i64), (.int .i64), (.int .i64), (.int .i64), (.int .i64), (.int .i64), (.int .i64), (.int .i64), .bool, .bool]] Q := (pc_192 c n).mono (by rintro _ ⟨p, hc, rfl⟩; exact ho p hc)
/- spec.l5Draw -/
def phi_119 : Nat → List D → (List D → Prop) → Prop
  | 117, [c, n], K => ∀ (m : Int), (0 ≤ m ∧ m ≤ 16777215 ∧ (0 < n.toI → m < n.toI) ∧ (n.toI ≤ 0 → m = 0)) → K [.int m]
  | 189, [c, l], K => ∀ (m : Int), (oneOf l m) → K [.int m]
  | 191, [n], K => ∀ (s : D), ((s.fld 0).toL = [] ∧ 2 ≤ (s.fld 1).toL.length ∧ (s.fld 1).toL.length ≤ 3) → K [s]
  | 192, [c, n], K => ∀ (p : D), (-1 ≤ (p.fld 2).toI) → K [p]
  | _, _, _ => False
theorem pc_119 (c : D) : PC Try.prog 119 [.cur c] [.st [(.sl [(.int .i64), (.int .i64), (.int .i64), (.int .i64), (.int .i64), (.int .i64), (.int .i64), (.int .i64), (.int .i64), (.int .i64), (.int .i64), .bool, .bool]), (.sl [(.int .i64), (.int .i64), .bool]), (.int .i64), (.int .i64)]] fun o => ∃ (s : D), (stateN 5 3 s) ∧ o = [s] := by
  refine PC.of_sigK mix sig_119 ⟨trivial, trivial⟩ rfl fun hok ci ch hci hcn hch => ?_
  apply sayR_den (φ := (phi_119))
  simp [tree_119, T.sayR, inK_i64_iff, RS.oks, RS.ok, CK.okD, X.den, O1.den, O2.den, O3.den, callD, XArg.ev, XArg.dat, Callee'.num, backs, DArg.back, Conds.den, cloArgs, phi_119]
  (repeat' (first | (with_reducible apply And.intro) | intro _)) <;> first | (first | (with_reducible assumption) | (with_reducible exact trivial) | (first | ((with_reducible refine ⟨?_⟩); simp [tree_119, T.sayR, inK_i64_iff, RS.oks, RS.ok, CK.okD, X.den, O1.den, O2.den, O3.den, callD, XArg.ev, XArg.dat, Callee'.num, backs, DArg.back, Conds.den, cloArgs]; intro K hK; (try simp only [phi_119] at hK); intros; first | contradiction | ((with_reducible refine pd_117 _ _ _ ?ho); (case ho => exact hK)) | ((with_reducible refine pd_189 _ _ ?_ _ ?ho); (case ho => exact hK); all_goals (exact (by first | (with_reducible assumption) | omega | assumption | (simp; done) | (simp; omega) | (simp [*]; done) | exact smallE_of (n := 1048576) (by omega) (by omega) | (simp [*] at *; omega) | grind [szS]))) | ((with_reducible refine pd_191 _ _ ?ho); (case ho => exact hK)) | ((with_reducible refine pd_192 _ _ _ ?ho); (case ho => exact hK)) | (exact pd_117 _ _ _ hK) | (exact pd_189 _ _ (by first | (with_reducible assumption) | omega | assumption | (simp; done) | (simp; omega) | (simp [*]; done) | exact smallE_of (n := 1048576) (by omega) (by omega) | (simp [*] at *; omega) | grind [szS]) _ hK) | (exact pd_191 _ _ hK) | (exact pd_192 _ _ _ hK)) | ((with_reducible show CallIn _ _ _ _ _); first | (refine .inr ⟨_, rfl, fun K hK => hK⟩) | (refine .inr ⟨_, rfl, fun K hK => hK true⟩) | (refine .inr ⟨_, rfl, fun K hK => hK 0 (by simp)⟩))) | omega | (simp only [IntKind.wrap_i64, maxL] at *; omega) | assumption | rfl | contradiction | grind) | skip
  rename_i s0 hs0 hs1 hs2 hk m1 _ _ _ _ _ m2 _ _ _ _ _
  have e1 := sl_eta (okL_at hk (i := 1) rfl)
  have e0 : s0.fld 0 = .lst [] := by rw [← sl_eta (okL_at hk (i := 0) rfl), hs0]
  obtain ⟨I, hI⟩ : ∃ I : List D → Prop, ∀ vs, I vs ↔ ∃ (i : Nat) (l : List D), vs = [.int i, .lst l] ∧ i ≤ 2 ∧ 2 ≤ l.length ∧ l.length ≤ 3 := ⟨_, fun _ => Iff.rfl⟩
  obtain ⟨μ, hμ⟩ : ∃ μ : List D → Nat, ∀ vs, μ vs = 2 - ((vs.getD 0 default).toI).toNat := ⟨_, fun _ => rfl⟩
  refine den_loop I μ ((hI _).2 ⟨0, (s0.fld 1).toL, by simp [X.den, O1.den, e1], by omega, hs1, hs2⟩) ?_
  intro vs hvl hv
  obtain ⟨i, l, rfl, hinv⟩ := (hI _).1 hv
  clear hv
  apply sayR_den (φ := (phi_119))
  by_cases hlt : i < 2
  · have hz : IntKind.i64.wrap ((i : Int) + 1) = ((i + 1 : Nat) : Int) := by (first | omega | (simp only [IntKind.wrap_i64, maxL] at *; omega) | (simp [IntKind.wrap_i64, maxL] at *; omega))
    have hlt2 : (i : Int) < 2 := by omega
    have hl2 : i < l.length := by omega
    simp [tree_119, T.sayR, inK_i64_iff, RS.oks, RS.ok, CK.okD, X.den, O1.den, O2.den, O3.den, callD, XArg.ev, XArg.dat, Callee'.num, backs, DArg.back, Conds.den, cloArgs, phi_119, hlt, hlt2, hz, hl2]
    (repeat' (first | (with_reducible apply And.intro) | intro _)) <;> first | (exact (hI _).2 ⟨i + 1, _, rfl, by omega, by simp; omega, by simp; omega⟩) | (rw [hμ, hμ]; simp; omega) | (first | (with_reducible assumption) | (with_reducible exact trivial) | (first | ((with_reducible refine ⟨?_⟩); simp [tree_119, T.sayR, inK_i64_iff, RS.oks, RS.ok, CK.okD, X.den, O1.den, O2.den, O3.den, callD, XArg.ev, XArg.dat, Callee'.num, backs, DArg.back, Conds.den, cloArgs]; intro K hK; (try simp only [phi_119] at hK); intros; first | contradiction | ((with_reducible refine pd_117 _ _ _ ?ho); (case ho => exact hK)) | ((with_reducible refine pd_189 _ _ ?_ _ ?ho); (case ho => exact hK); all_goals (exact (by first | (with_reducible assumption) | omega | assumption | (simp; done) | (simp; omega) | (simp [*]; done) | exact smallE_of (n := 1048576) (by omega) (by omega) | (simp [*] at *; omega) | grind [szS]))) | ((with_reducible refine pd_191 _ _ ?ho); (case ho => exact hK)) | ((with_reducible refine pd_192 _ _ _ ?ho); (case ho => exact hK)) | (exact pd_117 _ _ _ hK) | (exact pd_189 _ _ (by first | (with_reducible assumption) | omega | assumption | (simp; done) | (simp; omega) | (simp [*]; done) | exact smallE_of (n := 1048576) (by omega) (by omega) | (simp [*] at *; omega) | grind [szS]) _ hK) | (exact pd_191 _ _ hK) | (exact pd_192 _ _ _ hK)) | ((with_reducible show CallIn _ _ _ _ _); first | (refine .inr ⟨_, rfl, fun K hK => hK⟩) | (refine .inr ⟨_, rfl, fun K hK => hK true⟩) | (refine .inr ⟨_, rfl, fun K hK => hK 0 (by simp)⟩))) | omega | (simp only [IntKind.wrap_i64, maxL] at *; omega) | assumption | rfl | contradiction | grind) | skip
  · have : i = 2 := by omega
    subst this
    simp [tree_119, T.sayR, inK_i64_iff, RS.oks, RS.ok, CK.okD, X.den, O1.den, O2.den, O3.den, callD, XArg.ev, XArg.dat, Callee'.num, backs, DArg.back, Conds.den, cloArgs, phi_119]
    (repeat' (first | (with_reducible apply And.intro) | intro _)) <;> first | (first | (with_reducible assumption) | (with_reducible exact trivial) | (first | ((with_reducible refine ⟨?_⟩); simp [tree_119, T.sayR, inK_i64_iff, RS.oks, RS.ok, CK.okD, X.den, O1.den, O2.den, O3.den, callD, XArg.ev, XArg.dat, Callee'.num, backs, DArg.back, Conds.den, cloArgs]; intro K hK; (try simp only [phi_119] at hK); intros; first | contradiction | ((with_reducible refine pd_117 _ _ _ ?ho); (case ho => exact hK)) | ((with_reducible refine pd_189 _ _ ?_ _ ?ho); (case ho => exact hK); all_goals (exact (by first | (with_reducible assumption) | omega | assumption | (simp; done) | (simp; omega) | (simp [*]; done) | exact smallE_of (n := 1048576) (by omega) (by omega) | (simp [*] at *; omega) | grind [szS]))) | ((with_reducible refine pd_191 _ _ ?ho); (case ho => exact hK)) | ((with_reducible refine pd_192 _ _ _ ?ho); (case ho => exact hK)) | (exact pd_117 _ _ _ hK) | (exact pd_189 _ _ (by first | (with_reducible assumption) | omega | assumption | (simp; done) | (simp; omega) | (simp [*]; done) | exact smallE_of (n := 1048576) (by omega) (by omega) | (simp [*] at *; omega) | grind [szS]) _ hK) | (exact pd_191 _ _ hK) | (exact pd_192 _ _ _ hK)) | ((with_reducible show CallIn _ _ _ _ _); first | (refine .inr ⟨_, rfl, fun K hK => hK⟩) | (refine .inr ⟨_, rfl, fun K hK => hK true⟩) | (refine .inr ⟨_, rfl, fun K hK => hK 0 (by simp)⟩))) | omega | (simp only [IntKind.wrap_i64, maxL] at *; omega) | assumption | rfl | contradiction | grind) | skip
    rename_i m3 h30 _ h34 _ _
    obtain ⟨k, hk3⟩ : ∃ k : Nat, m3 = k := ⟨m3.toNat, by omega⟩
    subst hk3
    have hw : IntKind.i64.wrap (1 + (k : Int)) = ((k + 1 : Nat) : Int) := by (first | omega | (simp only [IntKind.wrap_i64, maxL] at *; omega) | (simp [IntKind.wrap_i64, maxL] at *; omega))
    obtain ⟨I, hI⟩ : ∃ I : List D → Prop, ∀ vs, I vs ↔ ∃ (q : Int) (j : Nat) (ps : List D), vs = [.int q, .int j, .lst ps] ∧ ps.length + j = k + 1 ∧ ∀ x ∈ ps, -1 ≤ (x.fld 2).toI := ⟨_, fun _ => Iff.rfl⟩
    obtain ⟨μ, hμ⟩ : ∃ μ : List D → Nat, ∀ vs, μ vs = ((vs.getD 1 default).toI).toNat := ⟨_, fun _ => rfl⟩
    refine den_loop I μ ((hI _).2 ⟨0, k + 1, [], by simp [X.den, O1.den, O2.den, e0, hw], by simp, by simp⟩) ?_
    intro vs hvl hv
    obtain ⟨q, j, ps, rfl, hinv⟩ := (hI _).1 hv
    clear hv
    apply sayR_den (φ := (phi_119))
    cases j with
    | succ j =>
      have hz : IntKind.i64.wrap (j : Int) = j := by (first | omega | (simp only [IntKind.wrap_i64, maxL] at *; omega) | (simp [IntKind.wrap_i64, maxL] at *; omega))
      have hp : (0 : Int) < (j : Int) + 1 := by omega
      simp [tree_119, T.sayR, inK_i64_iff, RS.oks, RS.ok, CK.okD, X.den, O1.den, O2.den, O3.den, callD, XArg.ev, XArg.dat, Callee'.num, backs, DArg.back, Conds.den, cloArgs, phi_119, hz, hp]
      (repeat' (first | (with_reducible apply And.intro) | intro _)) <;> first | ((with_reducible refine (hI _).2 ?_); refine ⟨_, j, _, rfl, (by simp only [List.length_append, List.length_singleton]; omega), sides_app hinv.2 ?_⟩; first | (rename_i h _; exact h) | (rename_i h _ _; exact h)) | (rw [hμ, hμ]; simp <;> omega) | (first | (with_reducible assumption) | (with_reducible exact trivial) | (first | ((with_reducible refine ⟨?_⟩); simp [tree_119, T.sayR, inK_i64_iff, RS.oks, RS.ok, CK.okD, X.den, O1.den, O2.den, O3.den, callD, XArg.ev, XArg.dat, Callee'.num, backs, DArg.back, Conds.den, cloArgs]; intro K hK; (try simp only [phi_119] at hK); intros; first | contradiction | ((with_reducible refine pd_117 _ _ _ ?ho); (case ho => exact hK)) | ((with_reducible refine pd_189 _ _ ?_ _ ?ho); (case ho => exact hK); all_goals (exact (by first | (with_reducible assumption) | omega | assumption | (simp; done) | (simp; omega) | (simp [*]; done) | exact smallE_of (n := 1048576) (by omega) (by omega) | (simp [*] at *; omega) | grind [szS]))) | ((with_reducible refine pd_191 _ _ ?ho); (case ho => exact hK)) | ((with_reducible refine pd_192 _ _ _ ?ho); (case ho => exact hK)) | (exact pd_117 _ _ _ hK) | (exact pd_189 _ _ (by first | (with_reducible assumption) | omega | assumption | (simp; done) | (simp; omega) | (simp [*]; done) | exact smallE_of (n := 1048576) (by omega) (by omega) | (simp [*] at *; omega) | grind [szS]) _ hK) | (exact pd_191 _ _ hK) | (exact pd_192 _ _ _ hK)) | ((with_reducible show CallIn _ _ _ _ _); first | (refine .inr ⟨_, rfl, fun K hK => hK⟩) | (refine .inr ⟨_, rfl, fun K hK => hK true⟩) | (refine .inr ⟨_, rfl, fun K hK => hK 0 (by simp)⟩))) | omega | (simp only [IntKind.wrap_i64, maxL] at *; omega) | assumption | rfl | contradiction | grind) | skip
    | zero =>
      simp [tree_119, T.sayR, inK_i64_iff, RS.oks, RS.ok, CK.okD, X.den, O1.den, O2.den, O3.den, callD, XArg.ev, XArg.dat, Callee'.num, backs, DArg.back, Conds.den, cloArgs, phi_119]
      exact stateN_mk (by omega) (by omega) (by omega) (by omega) hinv.2
theorem pd_119 (c : D) (Q : List D → Prop) (ho : ∀ (s : D), (stateN 5 3 s) → Q [s]) : PC Try.prog 119 [.cur c] [.st [(.sl [(.int .i64), (.int .i64), (.int .i64), (.int .i64), (.int .i64), (.int .i64), (.int .i64), (.int .i64), (.int .i64), (.int .i64), (.int .i64), .bool, .bool]), (.sl [(.int .i64), (.int .i64), .bool]), (.int .i64), (.int .i64)]] Q := (pc_119 c).mono (by rintro _ ⟨s, hc, rfl⟩; exact ho s hc)
/- spec.l1Odd -/
def phi_116 : Nat → List D → (List D → Prop) → Prop
  | 189, [c, l], K => ∀ (m : Int), (oneOf l m) → K [.int m]
  | _, _, _ => False
theorem pc_116 (c : D) : PC Try.prog 116 [.cur c] [.sc (.int .i64)] fun o => ∃ (m : Int), o = [.int m] := by
  refine PC.of_sigK mix sig_116 ⟨trivial, trivial⟩ rfl fun hok ci ch hci hcn hch => ?_
  apply sayR_den (φ := (phi_116))
  simp [tree_116, T.sayR, inK_i64_iff, RS.oks, RS.ok, CK.okD, X.den, O1.den, O2.den, O3.den, callD, XArg.ev, XArg.dat, Callee'.num, backs, DArg.back, Conds.den, cloArgs, phi_116]
  all_goals ((repeat' (first | (with_reducible apply And.intro) | intro _)) <;> (first | (with_reducible assumption) | (with_reducible exact trivial) | (first | ((with_reducible refine ⟨?_⟩); simp [tree_116, T.sayR, inK_i64_iff, RS.oks, RS.ok, CK.okD, X.den, O1.den, O2.den, O3.den, callD, XArg.ev, XArg.dat, Callee'.num, backs, DArg.back, Conds.den, cloArgs]; intro K hK; (try simp only [phi_116] at hK); intros; first | contradiction | ((with_reducible refine pd_189 _ _ ?_ _ ?ho); (case ho => exact hK); all_goals (exact (by first | (with_reducible assumption) | omega | assumption | (simp; done) | (simp; omega) | (simp [*]; done) | exact smallE_of (n := 1048576) (by omega) (by omega) | (simp [*] at *; omega) | grind [szS]))) | (exact pd_189 _ _ (by first | (with_reducible assumption) | omega | assumption | (simp; done) | (simp; omega) | (simp [*]; done) | exact smallE_of (n := 1048576) (by omega) (by omega) | (simp [*] at *; omega) | grind [szS]) _ hK)) | ((with_reducible show CallIn _ _ _ _ _); first | (refine .inr ⟨_, rfl, fun K hK => hK⟩) | (refine .inr ⟨_, rfl, fun K hK => hK true⟩) | (refine .inr ⟨_, rfl, fun K hK => hK 0 (by simp)⟩))) | omega | (simp only [IntKind.wrap_i64, maxL] at *; omega) | assumption | rfl | contradiction | grind))
theorem pd_116 (c : D) (Q : List D → Prop) (ho : ∀ (m : Int), Q [.int m]) : PC Try.prog 116 [.cur c] [.sc (.int .i64)] Q := (pc_116 c).mono (by rintro _ ⟨m, rfl⟩; exact ho m)
/- spec.l1Raw -/
def phi_133 : Nat → List D → (List D → Prop) → Prop
  | 115, [c, n], K => ∀ (b : Bool), K [.bool b]
  | 116, [c], K => ∀ (m : Int), K [.int m]
  | 189, [c, l], K => ∀ (m : Int), (oneOf l m) → K [.int m]
  | _, _, _ => False
theorem pc_133 (c : D) : PC Try.prog 133 [.cur c] [.sc (.int .i64)] fun o => ∃ (m : Int), o = [.int m] := by
  refine PC.of_sigK mix sig_133 ⟨trivial, trivial⟩ rfl fun hok ci ch hci hcn hch => ?_
  apply sayR_den (φ := (phi_133))
  simp [tree_133, T.sayR, inK_i64_iff, RS.oks, RS.ok, CK.okD, X.den, O1.den, O2.den, O3.den, callD, XArg.ev, XArg.dat, Callee'.num, backs, DArg.back, Conds.den, cloArgs, phi_133]
  all_goals ((repeat' (first | (with_reducible apply And.intro) | intro _)) <;> (first | (with_reducible assumption) | (with_reducible exact trivial) | (first | ((with_reducible refine ⟨?_⟩); simp [tree_133, T.sayR, inK_i64_iff, RS.oks, RS.ok, CK.okD, X.den, O1.den, O2.den, O3.den, callD, XArg.ev, XArg.dat, Callee'.num, backs, DArg.back, Conds.den, cloArgs]; intro K hK; (try simp only [phi_133] at hK); intros; first | contradiction | ((with_reducible refine pd_115 _ _ _ ?ho); (case ho => exact hK)) | ((with_reducible refine pd_116 _ _ ?ho); (case ho => exact hK)) | ((with_reducible refine pd_189 _ _ ?_ _ ?ho); (case ho => exact hK); all_goals (exact (by first | (with_reducible assumption) | omega | assumption | (simp; done) | (simp; omega) | (simp [*]; done) | exact smallE_of (n := 1048576) (by omega) (by omega) | (simp [*] at *; omega) | grind [szS]))) | (exact pd_115 _ _ _ hK) | (exact pd_116 _ _ hK) | (exact pd_189 _ _ (by first | (with_reducible assumption) | omega | assumption | (simp; done) | (simp; omega) | (simp [*]; done) | exact smallE_of (n := 1048576) (by omega) (by omega) | (simp [*] at *; omega) | grind [szS]) _ hK)) | ((with_reducible show CallIn _ _ _ _ _); first | (refine .inr ⟨_, rfl, fun K hK => hK⟩) | (refine .inr ⟨_, rfl, fun K hK => hK true⟩) | (refine .inr ⟨_, rfl, fun K hK => hK 0 (by simp)⟩))) | omega | (simp only [IntKind.wrap_i64, maxL] at *; omega) | assumption | rfl | contradiction | grind))
theorem pd_133 (c : D) (Q : List D → Prop) (ho : ∀ (m : Int), Q [.int m]) : PC Try.prog 133 [.cur c] [.sc (.int .i64)] Q := (pc_133 c).mono (by rintro _ ⟨m, rfl⟩; exact ho m)
/- spec.l4Any -/
def phi_194 : Nat → List D → (List D → Prop) → Prop
  | 117, [c, n], K => ∀ (m : Int), (0 ≤ m ∧ m ≤ 16777215 ∧ (0 < n.toI → m < n.toI) ∧ (n.toI ≤ 0 → m = 0)) → K [.int m]
  | 133, [c], K => ∀ (m : Int), K [.int m]
  | 189, [c, l], K => ∀ (m : Int), (oneOf l m) → K [.int m]
  | 192, [c, n], K => ∀ (p : D), (-1 ≤ (p.fld 2).toI) → K [p]
  | _, _, _ => False
theorem pc_194 (c : D) : PC Try.prog 194 [.cur c] [.st [(.int .i64), (.int .i64), (.int .i64), (.int .i64), (.int .i64), (.int .i64), (.int .i64), (.int .i64), (.int .i64), (.int .i64), (.int .i64), .bool, .bool]] fun o => ∃ (p : D), (-1 ≤ (p.fld 2).toI) ∧ o = [p] := by
  refine PC.of_sigK mix sig_194 ⟨trivial, trivial⟩ rfl fun hok ci ch hci hcn hch => ?_
  apply sayR_den (φ := (phi_194))
  simp [tree_194, T.sayR, inK_i64_iff, RS.oks, RS.ok, CK.okD, X.den, O1.den, O2.den, O3.den, callD, XArg.ev, XArg.dat, Callee'.num, backs, DArg.back, Conds.den, cloArgs, phi_194]
  (repeat' (first | (with_reducible apply And.intro) | intro _)) <;> first | (first | (with_reducible assumption) | (with_reducible exact trivial) | (first | ((with_reducible refine ⟨?_⟩); simp [tree_194, T.sayR, inK_i64_iff, RS.oks, RS.ok, CK.okD, X.den, O1.den, O2.den, O3.den, callD, XArg.ev, XArg.dat, Callee'.num, backs, DArg.back, Conds.den, cloArgs]; intro K hK; (try simp only [phi_194] at hK); intros; first | contradiction | ((with_reducible refine pd_117 _ _ _ ?ho); (case ho => exact hK)) | ((with_reducible refine pd_133 _ _ ?ho); (case ho => exact hK)) | ((with_reducible refine pd_189 _ _ ?_ _ ?ho); (case ho => exact hK); all_goals (exact (by first | (with_reducible assumption) | omega | assumption | (simp; done) | (simp; omega) | (simp [*]; done) | exact smallE_of (n := 1048576) (by omega) (by omega) | (simp [*] at *; omega) | grind [szS]))) | ((with_reducible refine pd_192 _ _ _ ?ho); (case ho => exact hK)) | (exact pd_117 _ _ _ hK) | (exact pd_133 _ _ hK) | (exact pd_189 _ _ (by first | (with_reducible assumption) | omega | assumption | (simp; done) | (simp; omega) | (simp [*]; done) | exact smallE_of (n := 1048576) (by omega) (by omega) | (simp [*] at *; omega) | grind [szS]) _ hK) | (exact pd_192 _ _ _ hK)) | ((with_reducible show CallIn _ _ _ _ _); first | (refine .inr ⟨_, rfl, fun K hK => hK⟩) | (refine .inr ⟨_, rfl, fun K hK => hK true⟩) | (refine .inr ⟨_, rfl, fun K hK => hK 0 (by simp)⟩))) | omega | (simp only [IntKind.wrap_i64, maxL] at *; omega) | assumption | rfl | contradiction | grind) | (refine ⟨_, ?_, rfl⟩; simp; omega) | (refine ⟨_, ?_, rfl⟩; simp [oneOf] at *; omega) | (simp [oneOf] at *; omega) | omega | skip
theorem pd_194 (c : D) (Q : List D → Prop) (ho : ∀ (p : D), (-1 ≤ (p.fld 2).toI) → Q [p]) : PC Try.prog 194 [.cur c] [.st [(.int .i64), (.int .i64), (.int .i64), (.int .i64), (.int .i64), (.int .i64), (.int .i64), (.int .i64), (.int .i64), (.int .i64), (.int .i64), .bool, .bool]] Q := (pc_194 c).mono (by rintro _ ⟨p, hc, rfl⟩; exact ho p hc)
/- spec.l5Any -/
def phi_127 : Nat → List D → (List D → Prop) → Prop
  | 117, [c, n], K => ∀ (m : Int), (0 ≤ m ∧ m ≤ 16777215 ∧ (0 < n.toI → m < n.toI) ∧ (n.toI ≤ 0 → m = 0)) → K [.int m]
  | 119, [c], K => ∀ (s : D), (stateN 5 3 s) → K [s]
  | 133, [c], K => ∀ (m : Int), K [.int m]
  | 189, [c, l], K => ∀ (m : Int), (oneOf l m) → K [.int m]
  | 192, [c, n], K => ∀ (p : D), (-1 ≤ (p.fld 2).toI) → K [p]
  | 194, [c], K => ∀ (p : D), (-1 ≤ (p.fld 2).toI) → K [p]
  | _, _, _ => False
theorem pc_127 (c : D) : PC Try.prog 127 [.cur c] [.st [(.sl [(.int .i64), (.int .i64), (.int .i64), (.int .i64), (.int .i64), (.int .i64), (.int .i64), (.int .i64), (.int .i64), (.int .i64), (.int .i64), .bool, .bool]), (.sl [(.int .i64), (.int .i64), .bool]), (.int .i64), (.int .i64)]] fun o => ∃ (s : D), (stateB s) ∧ o = [s] := by
  refine PC.of_sigK mix sig_127 ⟨trivial, trivial⟩ rfl fun hok ci ch hci hcn hch => ?_
  apply sayR_den (φ := (phi_127))
  simp [tree_127, T.sayR, inK_i64_iff, RS.oks, RS.ok, CK.okD, X.den, O1.den, O2.den, O3.den, callD, XArg.ev, XArg.dat, Callee'.num, backs, DArg.back, Conds.den, cloArgs, phi_127]
  refine ⟨by (first | ((with_reducible refine ⟨?_⟩); simp [tree_127, T.sayR, inK_i64_iff, RS.oks, RS.ok, CK.okD, X.den, O1.den, O2.den, O3.den, callD, XArg.ev, XArg.dat, Callee'.num, backs, DArg.back, Conds.den, cloArgs]; intro K hK; (try simp only [phi_127] at hK); intros; first | contradiction | ((with_reducible refine pd_117 _ _ _ ?ho); (case ho => exact hK)) | ((with_reducible refine pd_119 _ _ ?ho); (case ho => exact hK)) | ((with_reducible refine pd_133 _ _ ?ho); (case ho => exact hK)) | ((with_reducible refine pd_189 _ _ ?_ _ ?ho); (case ho => exact hK); all_goals (exact (by first | (with_reducible assumption) | omega | assumption | (simp; done) | (simp; omega) | (simp [*]; done) | exact smallE_of (n := 1048576) (by omega) (by omega) | (simp [*] at *; omega) | grind [szS]))) | ((with_reducible refine pd_192 _ _ _ ?ho); (case ho => exact hK)) | ((with_reducible refine pd_194 _ _ ?ho); (case ho => exact hK)) | (exact pd_117 _ _ _ hK) | (exact pd_119 _ _ hK) | (exact pd_133 _ _ hK) | (exact pd_189 _ _ (by first | (with_reducible assumption) | omega | assumption | (simp; done) | (simp; omega) | (simp [*]; done) | exact smallE_of (n := 1048576) (by omega) (by omega) | (simp [*] at *; omega) | grind [szS]) _ hK) | (exact pd_192 _ _ _ hK) | (exact pd_194 _ _ hK)) | ((with_reducible show CallIn _ _ _ _ _); first | (refine .inr ⟨_, rfl, fun K hK => hK⟩) | (refine .inr ⟨_, rfl, fun K hK => hK true⟩) | (refine .inr ⟨_, rfl, fun K hK => hK 0 (by simp)⟩))), fun s hs hk => ?_⟩
  obtain ⟨h1, h2, h3, h4, h5⟩ := id hs
  (repeat' (first | (with_reducible apply And.intro) | intro _)) <;> first | (first | ((with_reducible refine ⟨?_⟩); simp [tree_127, T.sayR, inK_i64_iff, RS.oks, RS.ok, CK.okD, X.den, O1.den, O2.den, O3.den, callD, XArg.ev, XArg.dat, Callee'.num, backs, DArg.back, Conds.den, cloArgs]; intro K hK; (try simp only [phi_127] at hK); intros; first | contradiction | ((with_reducible refine pd_117 _ _ _ ?ho); (case ho => exact hK)) | ((with_reducible refine pd_119 _ _ ?ho); (case ho => exact hK)) | ((with_reducible refine pd_133 _ _ ?ho); (case ho => exact hK)) | ((with_reducible refine pd_189 _ _ ?_ _ ?ho); (case ho => exact hK); all_goals (exact (by first | (with_reducible assumption) | omega | assumption | (simp; done) | (simp; omega) | (simp [*]; done) | exact smallE_of (n := 1048576) (by omega) (by omega) | (simp [*] at *; omega) | grind [szS]))) | ((with_reducible refine pd_192 _ _ _ ?ho); (case ho => exact hK)) | ((with_reducible refine pd_194 _ _ ?ho); (case ho => exact hK)) | (exact pd_117 _ _ _ hK) | (exact pd_119 _ _ hK) | (exact pd_133 _ _ hK) | (exact pd_189 _ _ (by first | (with_reducible assumption) | omega | assumption | (simp; done) | (simp; omega) | (simp [*]; done) | exact smallE_of (n := 1048576) (by omega) (by omega) | (simp [*] at *; omega) | grind [szS]) _ hK) | (exact pd_192 _ _ _ hK) | (exact pd_194 _ _ hK)) | ((with_reducible show CallIn _ _ _ _ _); first | (refine .inr ⟨_, rfl, fun K hK => hK⟩) | (refine .inr ⟨_, rfl, fun K hK => hK true⟩) | (refine .inr ⟨_, rfl, fun K hK => hK 0 (by simp)⟩))) | omega | (exact stateB_eta hs (by decide) (by decide)) | (refine stateB_1 hs (by decide) ?_ ?_ <;> simp <;> omega) | skip
  · refine stateB_0 hs (by decide) (by simp) (by simp; omega) (sides_app h5 ?_)
    rename_i h _
    exact h
  · refine stateB_0 hs (by decide) (by simp; omega) (by simp; omega) (sides_set h5 ?_)
    rename_i h _
    exact h
  have e0 : s.fld 0 = .lst (s.fld 0).toL := (sl_eta (okL_at hk (i := 0) rfl)).symm
  obtain ⟨I, hI⟩ : ∃ I : List D → Prop, ∀ vs, I vs ↔ ∃ (j : Int) (ps : List D), vs = [.int j, .lst ps] ∧ 40 ≤ j ∧ j ≤ 46 ∧ 1 ≤ ps.length ∧ (ps.length : Int) ≤ j - 35 ∧ ∀ x ∈ ps, -1 ≤ (x.fld 2).toI := ⟨_, fun _ => Iff.rfl⟩
  obtain ⟨μ, hμ⟩ : ∃ μ : List D → Nat, ∀ vs, μ vs = (46 - (vs.getD 0 default).toI).toNat := ⟨_, fun _ => rfl⟩
  refine den_loop I μ ((hI _).2 ⟨40, (s.fld 0).toL, by simp [X.den, O1.den, ← e0], by omega, by omega, by omega, by omega, h5⟩) ?_
  intro vs hvl hv
  obtain ⟨j, ps, rfl, hinv⟩ := (hI _).1 hv
  clear hv
  apply sayR_den (φ := (phi_127))
  by_cases hlt : j < 46
  · have hz : IntKind.i64.wrap (j + 1) = j + 1 := by (first | omega | (simp only [IntKind.wrap_i64, maxL] at *; omega) | (simp [IntKind.wrap_i64, maxL] at *; omega))
    simp [tree_127, T.sayR, inK_i64_iff, RS.oks, RS.ok, CK.okD, X.den, O1.den, O2.den, O3.den, callD, XArg.ev, XArg.dat, Callee'.num, backs, DArg.back, Conds.den, cloArgs, phi_127, hlt, hz]
    (repeat' (first | (with_reducible apply And.intro) | intro _)) <;> first | (first | ((with_reducible refine ⟨?_⟩); simp [tree_127, T.sayR, inK_i64_iff, RS.oks, RS.ok, CK.okD, X.den, O1.den, O2.den, O3.den, callD, XArg.ev, XArg.dat, Callee'.num, backs, DArg.back, Conds.den, cloArgs]; intro K hK; (try simp only [phi_127] at hK); intros; first | contradiction | ((with_reducible refine pd_117 _ _ _ ?ho); (case ho => exact hK)) | ((with_reducible refine pd_119 _ _ ?ho); (case ho => exact hK)) | ((with_reducible refine pd_133 _ _ ?ho); (case ho => exact hK)) | ((with_reducible refine pd_189 _ _ ?_ _ ?ho); (case ho => exact hK); all_goals (exact (by first | (with_reducible assumption) | omega | assumption | (simp; done) | (simp; omega) | (simp [*]; done) | exact smallE_of (n := 1048576) (by omega) (by omega) | (simp [*] at *; omega) | grind [szS]))) | ((with_reducible refine pd_192 _ _ _ ?ho); (case ho => exact hK)) | ((with_reducible refine pd_194 _ _ ?ho); (case ho => exact hK)) | (exact pd_117 _ _ _ hK) | (exact pd_119 _ _ hK) | (exact pd_133 _ _ hK) | (exact pd_189 _ _ (by first | (with_reducible assumption) | omega | assumption | (simp; done) | (simp; omega) | (simp [*]; done) | exact smallE_of (n := 1048576) (by omega) (by omega) | (simp [*] at *; omega) | grind [szS]) _ hK) | (exact pd_192 _ _ _ hK) | (exact pd_194 _ _ hK)) | ((with_reducible show CallIn _ _ _ _ _); first | (refine .inr ⟨_, rfl, fun K hK => hK⟩) | (refine .inr ⟨_, rfl, fun K hK => hK true⟩) | (refine .inr ⟨_, rfl, fun K hK => hK 0 (by simp)⟩))) | omega | ((with_reducible refine (hI _).2 ?_); refine ⟨_, _, rfl, by omega, by omega, by simp, by simp; omega, sides_app hinv.2.2.2.2 ?_⟩; first | (rename_i h _; exact h) | (rename_i h _ _; exact h)) | (rw [hμ, hμ]; simp <;> omega) | skip
  · simp [tree_127, T.sayR, inK_i64_iff, RS.oks, RS.ok, CK.okD, X.den, O1.den, O2.den, O3.den, callD, XArg.ev, XArg.dat, Callee'.num, backs, DArg.back, Conds.den, cloArgs, phi_127, hlt]
    exact stateB_0 hs (by decide) (by simp; omega) (by simp; omega) hinv.2.2.2.2
theorem pd_127 (c : D) (Q : List D → Prop) (ho : ∀ (s : D), (stateB s) → Q [s]) : PC Try.prog 127 [.cur c] [.st [(.sl [(.int .i64), (.int .i64), (.int .i64), (.int .i64), (.int .i64), (.int .i64), (.int .i64), (.int .i64), (.int .i64), (.int .i64), (.int .i64), .bool, .bool]), (.sl [(.int .i64), (.int .i64), .bool]), (.int .i64), (.int .i64)]] Q := (pc_127 c).mono (by rintro _ ⟨s, hc, rfl⟩; exact ho s hc)
/- spec.l8Draw -/
def phi_195 : Nat → List D → (List D → Prop) → Prop
  | 115, [c, n], K => ∀ (b : Bool), K [.bool b]
  | 117, [c, n], K => ∀ (m : Int), (0 ≤ m ∧ m ≤ 16777215 ∧ (0 < n.toI → m < n.toI) ∧ (n.toI ≤ 0 → m = 0)) → K [.int m]
  | 189, [c, l], K => ∀ (m : Int), (oneOf l m) → K [.int m]
  | _, _, _ => False
theorem pc_195 (c : D) : PC Try.prog 195 [.cur c] [.st [(.int .i64), (.int .i64)]] fun o => ∃ (g : D), o = [g] := by
  refine PC.of_sigK mix sig_195 ⟨trivial, trivial⟩ rfl fun hok ci ch hci hcn hch => ?_
  apply sayR_den (φ := (phi_195))
  simp [tree_195, T.sayR, inK_i64_iff, RS.oks, RS.ok, CK.okD, X.den, O1.den, O2.den, O3.den, callD, XArg.ev, XArg.dat, Callee'.num, backs, DArg.back, Conds.den, cloArgs, phi_195]
  (repeat' (first | (with_reducible apply And.intro) | intro _)) <;> first | (first | ((with_reducible refine ⟨?_⟩); simp [tree_195, T.sayR, inK_i64_iff, RS.oks, RS.ok, CK.okD, X.den, O1.den, O2.den, O3.den, callD, XArg.ev, XArg.dat, Callee'.num, backs, DArg.back, Conds.den, cloArgs]; intro K hK; (try simp only [phi_195] at hK); intros; first | contradiction | ((with_reducible refine pd_115 _ _ _ ?ho); (case ho => exact hK)) | ((with_reducible refine pd_117 _ _ _ ?ho); (case ho => exact hK)) | ((with_reducible refine pd_189 _ _ ?_ _ ?ho); (case ho => exact hK); all_goals (exact (by first | (with_reducible assumption) | omega | assumption | (simp; done) | (simp; omega) | (simp [*]; done) | exact smallE_of (n := 1048576) (by omega) (by omega) | (simp [*] at *; omega) | grind [szS]))) | (exact pd_115 _ _ _ hK) | (exact pd_117 _ _ _ hK) | (exact pd_189 _ _ (by first | (with_reducible assumption) | omega | assumption | (simp; done) | (simp; omega) | (simp [*]; done) | exact smallE_of (n := 1048576) (by omega) (by omega) | (simp [*] at *; omega) | grind [szS]) _ hK)) | ((with_reducible show CallIn _ _ _ _ _); first | (refine .inr ⟨_, rfl, fun K hK => hK⟩) | (refine .inr ⟨_, rfl, fun K hK => hK true⟩) | (refine .inr ⟨_, rfl, fun K hK => hK 0 (by simp)⟩))) | exact ⟨_, rfl⟩ | (first | (with_reducible assumption) | (with_reducible exact trivial) | (first | ((with_reducible refine ⟨?_⟩); simp [tree_195, T.sayR, inK_i64_iff, RS.oks, RS.ok, CK.okD, X.den, O1.den, O2.den, O3.den, callD, XArg.ev, XArg.dat, Callee'.num, backs, DArg.back, Conds.den, cloArgs]; intro K hK; (try simp only [phi_195] at hK); intros; first | contradiction | ((with_reducible refine pd_115 _ _ _ ?ho); (case ho => exact hK)) | ((with_reducible refine pd_117 _ _ _ ?ho); (case ho => exact hK)) | ((with_reducible refine pd_189 _ _ ?_ _ ?ho); (case ho => exact hK); all_goals (exact (by first | (with_reducible assumption) | omega | assumption | (simp; done) | (simp; omega) | (simp [*]; done) | exact smallE_of (n := 1048576) (by omega) (by omega) | (simp [*] at *; omega) | grind [szS]))) | (exact pd_115 _ _ _ hK) | (exact pd_117 _ _ _ hK) | (exact pd_189 _ _ (by first | (with_reducible assumption) | omega | assumption | (simp; done) | (simp; omega) | (simp [*]; done) | exact smallE_of (n := 1048576) (by omega) (by omega) | (simp [*] at *; omega) | grind [szS]) _ hK)) | ((with_reducible show CallIn _ _ _ _ _); first | (refine .inr ⟨_, rfl, fun K hK => hK⟩) | (refine .inr ⟨_, rfl, fun K hK => hK true⟩) | (refine .inr ⟨_, rfl, fun K hK => hK 0 (by simp)⟩))) | omega | (simp only [IntKind.wrap_i64, maxL] at *; omega) | assumption | rfl | contradiction | grind) | skip
theorem pd_195 (c : D) (Q : List D → Prop) (ho : ∀ (g : D), Q [g]) : PC Try.prog 195 [.cur c] [.st [(.int .i64), (.int .i64)]] Q := (pc_195 c).mono (by rintro _ ⟨g, rfl⟩; exact ho g)
/- spec.l8Any -/
def phi_128 : Nat → List D → (List D → Prop) → Prop
  | 117, [c, n], K => ∀ (m : Int), (0 ≤ m ∧ m ≤ 16777215 ∧ (0 < n.toI → m < n.toI) ∧ (n.toI ≤ 0 → m = 0)) → K [.int m]
  | 133, [c], K => ∀ (m : Int), K [.int m]
  | 189, [c, l], K => ∀ (m : Int), (oneOf l m) → K [.int m]
  | 195, [c], K => ∀ (g : D), K [g]
  | _, _, _ => False
theorem pc_128 (c : D) : PC Try.prog 128 [.cur c] [.st [(.int .i64), (.int .i64)]] fun o => ∃ (g : D), o = [g] := by
  refine PC.of_sigK mix sig_128 ⟨trivial, trivial⟩ rfl fun hok ci ch hci hcn hch => ?_
  apply sayR_den (φ := (phi_128))
  simp [tree_128, T.sayR, inK_i64_iff, RS.oks, RS.ok, CK.okD, X.den, O1.den, O2.den, O3.den, callD, XArg.ev, XArg.dat, Callee'.num, backs, DArg.back, Conds.den, cloArgs, phi_128]
  (repeat' (first | (with_reducible apply And.intro) | intro _)) <;> first | (first | ((with_reducible refine ⟨?_⟩); simp [tree_128, T.sayR, inK_i64_iff, RS.oks, RS.ok, CK.okD, X.den, O1.den, O2.den, O3.den, callD, XArg.ev, XArg.dat, Callee'.num, backs, DArg.back, Conds.den, cloArgs]; intro K hK; (try simp only [phi_128] at hK); intros; first | contradiction | ((with_reducible refine pd_117 _ _ _ ?ho); (case ho => exact hK)) | ((with_reducible refine pd_133 _ _ ?ho); (case ho => exact hK)) | ((with_reducible refine pd_189 _ _ ?_ _ ?ho); (case ho => exact hK); all_goals (exact (by first | (with_reducible assumption) | omega | assumption | (simp; done) | (simp; omega) | (simp [*]; done) | exact smallE_of (n := 1048576) (by omega) (by omega) | (simp [*] at *; omega) | grind [szS]))) | ((with_reducible refine pd_195 _ _ ?ho); (case ho => exact hK)) | (exact pd_117 _ _ _ hK) | (exact pd_133 _ _ hK) | (exact pd_189 _ _ (by first | (with_reducible assumption) | omega | assumption | (simp; done) | (simp; omega) | (simp [*]; done) | exact smallE_of (n := 1048576) (by omega) (by omega) | (simp [*] at *; omega) | grind [szS]) _ hK) | (exact pd_195 _ _ hK)) | ((with_reducible show CallIn _ _ _ _ _); first | (refine .inr ⟨_, rfl, fun K hK => hK⟩) | (refine .inr ⟨_, rfl, fun K hK => hK true⟩) | (refine .inr ⟨_, rfl, fun K hK => hK 0 (by simp)⟩))) | exact ⟨_, rfl⟩ | (first | (with_reducible assumption) | (with_reducible exact trivial) | (first | ((with_reducible refine ⟨?_⟩); simp [tree_128, T.sayR, inK_i64_iff, RS.oks, RS.ok, CK.okD, X.den, O1.den, O2.den, O3.den, callD, XArg.ev, XArg.dat, Callee'.num, backs, DArg.back, Conds.den, cloArgs]; intro K hK; (try simp only [phi_128] at hK); intros; first | contradiction | ((with_reducible refine pd_117 _ _ _ ?ho); (case ho => exact hK)) | ((with_reducible refine pd_133 _ _ ?ho); (case ho => exact hK)) | ((with_reducible refine pd_189 _ _ ?_ _ ?ho); (case ho => exact hK); all_goals (exact (by first | (with_reducible assumption) | omega | assumption | (simp; done) | (simp; omega) | (simp [*]; done) | exact smallE_of (n := 1048576) (by omega) (by omega) | (simp [*] at *; omega) | grind [szS]))) | ((with_reducible refine pd_195 _ _ ?ho); (case ho => exact hK)) | (exact pd_117 _ _ _ hK) | (exact pd_133 _ _ hK) | (exact pd_189 _ _ (by first | (with_reducible assumption) | omega | assumption | (simp; done) | (simp; omega) | (simp [*]; done) | exact smallE_of (n := 1048576) (by omega) (by omega) | (simp [*] at *; omega) | grind [szS]) _ hK) | (exact pd_195 _ _ hK)) | ((with_reducible show CallIn _ _ _ _ _); first | (refine .inr ⟨_, rfl, fun K hK => hK⟩) | (refine .inr ⟨_, rfl, fun K hK => hK true⟩) | (refine .inr ⟨_, rfl, fun K hK => hK 0 (by simp)⟩))) | omega | (simp only [IntKind.wrap_i64, maxL] at *; omega) | assumption | rfl | contradiction | grind) | skip
theorem pd_128 (c : D) (Q : List D → Prop) (ho : ∀ (g : D), Q [g]) : PC Try.prog 128 [.cur c] [.st [(.int .i64), (.int .i64)]] Q := (pc_128 c).mono (by rintro _ ⟨g, rfl⟩; exact ho g)
/- spec.DrawHolds -/
def phi_28 : Nat → List D → (List D → Prop) → Prop
  | 113, [a], K => K [a]
  | 117, [c, n], K => ∀ (m : Int), (0 ≤ m ∧ m ≤ 16777215 ∧ (0 < n.toI → m < n.toI) ∧ (n.toI ≤ 0 → m = 0)) → K [.int m]
  | 127, [c], K => ∀ (s : D), (stateB s) → K [s]
  | 128, [c], K => ∀ (g : D), K [g]
  | _, _, _ => False
theorem pc_28 (code : D) : PC Try.prog 28 [.sc (.sl [(.int .u8)]) code] [.st [(.sl [(.int .i64), (.int .i64), (.int .i64), (.int .i64), (.int .i64), (.int .i64), (.int .i64), (.int .i64), (.int .i64), (.int .i64), (.int .i64), .bool, .bool]), (.sl [(.int .i64), (.int .i64), .bool]), (.int .i64), (.int .i64)], .sc (.int .i64), .st [(.int .i64), (.int .i64)]] fun o => ∃ (s : D) (g : D) (k : Int), (stateB s) ∧ o = [s, .int k, g] := by
  refine PC.of_sig mix sig_28 ⟨rfl, trivial⟩ rfl fun hok => ?_
  have e_code := sl_eta (hok _ (.head _))
  have l_code := sl_len (hok _ (.head _))
  have k_code := sl_all (hok _ (.head _))
  apply sayR_den (φ := (phi_28))
  simp (config := { maxSteps := 2000000 }) [e_code, tree_28, T.sayR, inK_i64_iff, RS.oks, RS.ok, okD_int, okD_bool, X.den, O1.den, O2.den, O3.den, callD, XArg.ev, XArg.dat, Callee'.num, backs, DArg.back, Conds.den, cloArgs, phi_28]
  (repeat' (first | (with_reducible apply And.intro) | intro _)) <;> first | (first | ((with_reducible refine ⟨?_⟩); simp [e_code, tree_28, T.sayR, inK_i64_iff, RS.oks, RS.ok, okD_int, okD_bool, X.den, O1.den, O2.den, O3.den, callD, XArg.ev, XArg.dat, Callee'.num, backs, DArg.back, Conds.den, cloArgs]; intro K hK; (try simp only [phi_28] at hK); intros; first | contradiction | ((with_reducible refine pd_113 _ _ ?ho); (case ho => exact hK)) | ((with_reducible refine pd_117 _ _ _ ?ho); (case ho => exact hK)) | ((with_reducible refine pd_127 _ _ ?ho); (case ho => exact hK)) | ((with_reducible refine pd_128 _ _ ?ho); (case ho => exact hK)) | (exact pd_113 _ _ hK) | (exact pd_117 _ _ _ hK) | (exact pd_127 _ _ hK) | (exact pd_128 _ _ hK)) | ((with_reducible show CallIn _ _ _ _ _); first | (refine .inr ⟨_, rfl, fun K hK => hK⟩) | (refine .inr ⟨_, rfl, fun K hK => hK true⟩) | (refine .inr ⟨_, rfl, fun K hK => hK 0 (by simp)⟩))) | omega | assumption | (exact stateB_eta (by assumption) (by decide) (by decide))
theorem pd_28 (code : D) (Q : List D → Prop) (ho : ∀ (s : D) (g : D) (k : Int), (stateB s) → Q [s, .int k, g]) : PC Try.prog 28 [.sc (.sl [(.int .u8)]) code] [.st [(.sl [(.int .i64), (.int .i64), (.int .i64), (.int .i64), (.int .i64), (.int .i64), (.int .i64), (.int .i64), (.int .i64), (.int .i64), (.int .i64), .bool, .bool]), (.sl [(.int .i64), (.int .i64), .bool]), (.int .i64), (.int .i64)], .sc (.int .i64), .st [(.int .i64), (.int .i64)]] Q := (pc_28 code).mono (by rintro _ ⟨s, g, k, hc, rfl⟩; exact ho s g k hc)
/- spec.DrawStronger -/
def phi_29 : Nat → List D → (List D → Prop) → Prop
  | 113, [a], K => K [a]
  | 115, [c, n], K => ∀ (b : Bool), K [.bool b]
  | 128, [c], K => ∀ (g : D), K [g]
  | _, _, _ => False
theorem pc_29 (code : D) : PC Try.prog 29 [.sc (.sl [(.int .u8)]) code] [.st [(.int .i64), (.int .i64)], .st [(.int .i64), (.int .i64)]] fun o => ∃ (g : D) (h : D), o = [g, h] := by
  refine PC.of_sig mix sig_29 ⟨rfl, trivial⟩ rfl fun hok => ?_
  have e_code := sl_eta (hok _ (.head _))
  have l_code := sl_len (hok _ (.head _))
  have k_code := sl_all (hok _ (.head _))
  apply sayR_den (φ := (phi_29))
  simp (config := { maxSteps := 2000000 }) [e_code, tree_29, T.sayR, inK_i64_iff, RS.oks, RS.ok, okD_int, okD_bool, X.den, O1.den, O2.den, O3.den, callD, XArg.ev, XArg.dat, Callee'.num, backs, DArg.back, Conds.den, cloArgs, phi_29]
  (repeat' (first | (with_reducible apply And.intro) | intro _)) <;> first | (first | ((with_reducible refine ⟨?_⟩); simp [e_code, tree_29, T.sayR, inK_i64_iff, RS.oks, RS.ok, okD_int, okD_bool, X.den, O1.den, O2.den, O3.den, callD, XArg.ev, XArg.dat, Callee'.num, backs, DArg.back, Conds.den, cloArgs]; intro K hK; (try simp only [phi_29] at hK); intros; first | contradiction | ((with_reducible refine pd_113 _ _ ?ho); (case ho => exact hK)) | ((with_reducible refine pd_115 _ _ _ ?ho); (case ho => exact hK)) | ((with_reducible refine pd_128 _ _ ?ho); (case ho => exact hK)) | (exact pd_113 _ _ hK) | (exact pd_115 _ _ _ hK) | (exact pd_128 _ _ hK)) | ((with_reducible show CallIn _ _ _ _ _); first | (refine .inr ⟨_, rfl, fun K hK => hK⟩) | (refine .inr ⟨_, rfl, fun K hK => hK true⟩) | (refine .inr ⟨_, rfl, fun K hK => hK 0 (by simp)⟩))) | omega | (exact ⟨_, _, rfl⟩)
theorem pd_29 (code : D) (Q : List D → Prop) (ho : ∀ (g : D) (h : D), Q [g, h]) : PC Try.prog 29 [.sc (.sl [(.int .u8)]) code] [.st [(.int .i64), (.int .i64)], .st [(.int .i64), (.int .i64)]] Q := (pc_29 code).mono (by rintro _ ⟨g, h, rfl⟩; exact ho g h)
/- spec.DrawBentOf -/
def phi_30 : Nat → List D → (List D → Prop) → Prop
  | 113, [a], K => K [a]
  | 117, [c, n], K => ∀ (m : Int), (0 ≤ m ∧ m ≤ 16777215 ∧ (0 < n.toI → m < n.toI) ∧ (n.toI ≤ 0 → m = 0)) → K [.int m]
  | 127, [c], K => ∀ (s : D), (stateB s) → K [s]
  | _, _, _ => False
theorem pc_30 (code : D) : PC Try.prog 30 [.sc (.sl [(.int .u8)]) code] [.st [(.sl [(.int .i64), (.int .i64), (.int .i64), (.int .i64), (.int .i64), (.int .i64), (.int .i64), (.int .i64), (.int .i64), (.int .i64), (.int .i64), .bool, .bool]), (.sl [(.int .i64), (.int .i64), .bool]), (.int .i64), (.int .i64)], .sc (.int .i64)] fun o => ∃ (s : D) (k : Int), (stateB s ∧ 0 ≤ k ∧ k ≤ 2) ∧ o = [s, .int k] := by
  refine PC.of_sig mix sig_30 ⟨rfl, trivial⟩ rfl fun hok => ?_
  have e_code := sl_eta (hok _ (.head _))
  have l_code := sl_len (hok _ (.head _))
  have k_code := sl_all (hok _ (.head _))
  apply sayR_den (φ := (phi_30))
  simp (config := { maxSteps := 2000000 }) [e_code, tree_30, T.sayR, inK_i64_iff, RS.oks, RS.ok, okD_int, okD_bool, X.den, O1.den, O2.den, O3.den, callD, XArg.ev, XArg.dat, Callee'.num, backs, DArg.back, Conds.den, cloArgs, phi_30]
  (repeat' (first | (with_reducible apply And.intro) | intro _)) <;> first | (first | ((with_reducible refine ⟨?_⟩); simp [e_code, tree_30, T.sayR, inK_i64_iff, RS.oks, RS.ok, okD_int, okD_bool, X.den, O1.den, O2.den, O3.den, callD, XArg.ev, XArg.dat, Callee'.num, backs, DArg.back, Conds.den, cloArgs]; intro K hK; (try simp only [phi_30] at hK); intros; first | contradiction | ((with_reducible refine pd_113 _ _ ?ho); (case ho => exact hK)) | ((with_reducible refine pd_117 _ _ _ ?ho); (case ho => exact hK)) | ((with_reducible refine pd_127 _ _ ?ho); (case ho => exact hK)) | (exact pd_113 _ _ hK) | (exact pd_117 _ _ _ hK) | (exact pd_127 _ _ hK)) | ((with_reducible show CallIn _ _ _ _ _); first | (refine .inr ⟨_, rfl, fun K hK => hK⟩) | (refine .inr ⟨_, rfl, fun K hK => hK true⟩) | (refine .inr ⟨_, rfl, fun K hK => hK 0 (by simp)⟩))) | omega | assumption | (exact stateB_eta (by assumption) (by decide) (by decide))
theorem pd_30 (code : D) (Q : List D → Prop) (ho : ∀ (s : D) (k : Int), (stateB s ∧ 0 ≤ k ∧ k ≤ 2) → Q [s, .int k]) : PC Try.prog 30 [.sc (.sl [(.int .u8)]) code] [.st [(.sl [(.int .i64), (.int .i64), (.int .i64), (.int .i64), (.int .i64), (.int .i64), (.int .i64), (.int .i64), (.int .i64), (.int .i64), (.int .i64), .bool, .bool]), (.sl [(.int .i64), (.int .i64), .bool]), (.int .i64), (.int .i64)], .sc (.int .i64)] Q := (pc_30 code).mono (by rintro _ ⟨s, k, hc, rfl⟩; exact ho s k hc)
/- impl.from -/
theorem pc_123 (a b c : D) : PC Try.prog 123 [.sc (.int .i64) a, .sc (.int .i64) b, .sc (.int .i64) c] [.sc .bool] fun o => o = [.bool (inR a.toI b.toI c.toI)] := by
  refine PC.of_sig mix sig_123 ⟨rfl, rfl, rfl, trivial⟩ rfl fun hok => ?_
  have e_a := int_eta (hok _ (.head _))
  have b_a := int_range (hok _ (.head _))
  have e_b := int_eta (hok _ (.tail _ (.head _)))
  have b_b := int_range (hok _ (.tail _ (.head _)))
  have e_c := int_eta (hok _ (.tail _ (.tail _ (.head _))))
  have b_c := int_range (hok _ (.tail _ (.tail _ (.head _))))
  apply says_den (φ := fun _ _ => [])
  simp [e_a, e_b, e_c, tree_123, T.says, X.den, O1.den, O2.den, O3.den, callD, XArg.ev, XArg.dat, Callee'.num, backs, DArg.back, Conds.den, cloArgs, inR]
theorem pd_123 (a b c : D) (Q : List D → Prop) (ho : Q [.bool (inR a.toI b.toI c.toI)]) : PC Try.prog 123 [.sc (.int .i64) a, .sc (.int .i64) b, .sc (.int .i64) c] [.sc .bool] Q := (pc_123 a b c).mono fun _ h => h ▸ ho
/- impl.Bound -/
theorem pc_131 (a : D) : PC Try.prog 131 [.sc (.int .i64) a] [.sc (.int .i64)] fun o => o = [.int (bound a.toI)] := by
  refine PC.of_sig mix sig_131 ⟨rfl, trivial⟩ rfl fun hok => ?_
  have e_a := int_eta (hok _ (.head _))
  have b_a := int_range (hok _ (.head _))
  apply says_den (φ := fun _ _ => [])
  simp [e_a, tree_131, T.says, X.den, O1.den, O2.den, O3.den, callD, XArg.ev, XArg.dat, Callee'.num, backs, DArg.back, Conds.den, cloArgs]
  (repeat' (first | (with_reducible apply And.intro) | intro _)) <;> grind [bound]
theorem pd_131 (a : D) (Q : List D → Prop) (ho : Q [.int (bound a.toI)]) : PC Try.prog 131 [.sc (.int .i64) a] [.sc (.int .i64)] Q := (pc_131 a).mono fun _ h => h ▸ ho
/- impl.GuardOk -/
def phi_34 : Nat → List D → List D
  | 123, [a, b, c] => [.bool (inR a.toI b.toI c.toI)]
  | 131, [a] => [.int (bound a.toI)]
  | _, _ => []
theorem pc_34 (d : D) : PC Try.prog 34 [.st [(.int .i64), (.int .i64)] d] [.sc .bool] fun o => o = [.bool (guardOk d)] := by
  refine PC.of_sig mix sig_34 ⟨rfl, trivial⟩ rfl fun hok => ?_
  have e_d : D.lst [d.fld 0, d.fld 1] = d := by simpa [List.range, List.range.loop] using okL_eta (hok _ (.head _))
  have k_d : okL [(.int .i64), (.int .i64)] d := (hok _ (.head _))
  apply says_den (φ := (phi_34))
  simp [e_d, tree_34, T.says, X.den, O1.den, O2.den, O3.den, callD, XArg.ev, XArg.dat, Callee'.num, backs, DArg.back, Conds.den, cloArgs, phi_34, pd_123, pd_131]
  (repeat' (first | (with_reducible apply And.intro) | intro _)) <;> grind [guardOk, inR, bound]
theorem pd_34 (d : D) (Q : List D → Prop) (ho : Q [.bool (guardOk d)]) : PC Try.prog 34 [.st [(.int .i64), (.int .i64)] d] [.sc .bool] Q := (pc_34 d).mono fun _ h => h ▸ ho
/- impl.Stronger -/
def phi_31 : Nat → List D → List D
  | 34, [d] => [.bool (guardOk d)]
  | _, _ => []
theorem pc_31 (a b : D) : PC Try.prog 31 [.st [(.int .i64), (.int .i64)] a, .st [(.int .i64), (.int .i64)] b] [.sc .bool] fun o => o = [.bool (stronger a b)] := by
  refine PC.of_sig mix sig_31 ⟨rfl, rfl, trivial⟩ rfl fun hok => ?_
  have e_a : D.lst [a.fld 0, a.fld 1] = a := by simpa [List.range, List.range.loop] using okL_eta (hok _ (.head _))
  have k_a : okL [(.int .i64), (.int .i64)] a := (hok _ (.head _))
  have e_b : D.lst [b.fld 0, b.fld 1] = b := by simpa [List.range, List.range.loop] using okL_eta (hok _ (.tail _ (.head _)))
  have k_b : okL [(.int .i64), (.int .i64)] b := (hok _ (.tail _ (.head _)))
  apply says_den (φ := (phi_31))
  simp [e_a, e_b, tree_31, T.says, X.den, O1.den, O2.den, O3.den, callD, XArg.ev, XArg.dat, Callee'.num, backs, DArg.back, Conds.den, cloArgs, phi_31, pd_34]
  (repeat' (first | (with_reducible apply And.intro) | intro _)) <;> grind [stronger]
theorem pd_31 (a b : D) (Q : List D → Prop) (ho : Q [.bool (stronger a b)]) : PC Try.prog 31 [.st [(.int .i64), (.int .i64)] a, .st [(.int .i64), (.int .i64)] b] [.sc .bool] Q := (pc_31 a b).mono fun _ h => h ▸ ho
/- impl.BentOf -/
theorem pc_37 (s n : D) : PC Try.prog 37 [.st [(.sl [(.int .i64), (.int .i64), (.int .i64), (.int .i64), (.int .i64), (.int .i64), (.int .i64), (.int .i64), (.int .i64), (.int .i64), (.int .i64), .bool, .bool]), (.sl [(.int .i64), (.int .i64), .bool]), (.int .i64), (.int .i64)] s, .sc (.int .i64) n] [.sc (.int .i64)] fun o => o = [.int (bentOf s n.toI)] := by
  refine PC.of_sig mix sig_37 ⟨rfl, rfl, trivial⟩ rfl fun hok => ?_
  have e_s : D.lst [s.fld 0, s.fld 1, s.fld 2, s.fld 3] = s := by simpa [List.range, List.range.loop] using okL_eta (hok _ (.head _))
  have k_s : okL [(.sl [(.int .i64), (.int .i64), (.int .i64), (.int .i64), (.int .i64), (.int .i64), (.int .i64), (.int .i64), (.int .i64), (.int .i64), (.int .i64), .bool, .bool]), (.sl [(.int .i64), (.int .i64), .bool]), (.int .i64), (.int .i64)] s := (hok _ (.head _))
  have e_s_0 : D.lst (s.fld 0).toL = s.fld 0 := sl_eta (okL_at k_s (i := 0) rfl)
  have l_s_0 := sl_len (okL_at k_s (i := 0) rfl)
  have k_s_0 := sl_all (okL_at k_s (i := 0) rfl)
  have E_s_0 : ∀ i, i < (s.fld 0).toL.length → D.lst [((s.fld 0).elem i).fld 0, ((s.fld 0).elem i).fld 1, ((s.fld 0).elem i).fld 2, ((s.fld 0).elem i).fld 3, ((s.fld 0).elem i).fld 4, ((s.fld 0).elem i).fld 5, ((s.fld 0).elem i).fld 6, ((s.fld 0).elem i).fld 7, ((s.fld 0).elem i).fld 8, ((s.fld 0).elem i).fld 9, ((s.fld 0).elem i).fld 10, ((s.fld 0).elem i).fld 11, ((s.fld 0).elem i).fld 12] = (s.fld 0).elem i := fun i hi => by simpa [List.range, List.range.loop] using okL_eta (k_s_0 _ (elem_mem hi))
  have e_s_1 : D.lst (s.fld 1).toL = s.fld 1 := sl_eta (okL_at k_s (i := 1) rfl)
  have l_s_1 := sl_len (okL_at k_s (i := 1) rfl)
  have k_s_1 := sl_all (okL_at k_s (i := 1) rfl)
  have E_s_1 : ∀ i, i < (s.fld 1).toL.length → D.lst [((s.fld 1).elem i).fld 0, ((s.fld 1).elem i).fld 1, ((s.fld 1).elem i).fld 2] = (s.fld 1).elem i := fun i hi => by simpa [List.range, List.range.loop] using okL_eta (k_s_1 _ (elem_mem hi))
  have e_n := int_eta (hok _ (.tail _ (.head _)))
  have b_n := int_range (hok _ (.tail _ (.head _)))
  apply says_den (φ := fun _ _ => [])
  simp [e_s_0, E_s_0, e_s_1, E_s_1, e_s, e_n, tree_37, T.says, X.den, O1.den, O2.den, O3.den, callD, XArg.ev, XArg.dat, Callee'.num, backs, DArg.back, Conds.den, cloArgs]
  refine fun _ => ?_
  refine den_for (s.fld 0).toL.length 1 (fun i => [.int (countR (bentP s n.toI) i), .int i]) (fun _ => True) (by simp) (by simp [X.den]) trivial fun i hi _ => ?_
  have hc := countR_le (bentP s n.toI) i
  apply says_den (φ := fun _ _ => [])
  by_cases hlt : i < (s.fld 0).toL.length
  · simp [e_s_0, E_s_0, e_s_1, E_s_1, e_s, e_n, tree_37, T.says, X.den, O1.den, O2.den, O3.den, callD, XArg.ev, XArg.dat, Callee'.num, backs, DArg.back, Conds.den, cloArgs, hlt]
    (repeat' (first | (with_reducible apply And.intro) | intro _)) <;> first | omega | (first | omega | (simp only [IntKind.wrap_i64, maxL] at *; omega) | (simp [IntKind.wrap_i64, maxL] at *; omega)) | (rw [countR_succ, if_pos (by grind [bentP])]; (first | omega | (simp only [IntKind.wrap_i64, maxL] at *; omega) | (simp [IntKind.wrap_i64, maxL] at *; omega))) | (rw [countR_succ, if_neg (by grind [bentP])]; simp)
  · simp [e_s_0, E_s_0, e_s_1, E_s_1, e_s, e_n, tree_37, T.says, X.den, O1.den, O2.den, O3.den, callD, XArg.ev, XArg.dat, Callee'.num, backs, DArg.back, Conds.den, cloArgs, hlt]
    (repeat' (first | (with_reducible apply And.intro) | intro _)) <;> first | omega | (rw [show i = (s.fld 0).toL.length by omega]; rfl)
theorem pd_37 (s n : D) (Q : List D → Prop) (ho : Q [.int (bentOf s n.toI)]) : PC Try.prog 37 [.st [(.sl [(.int .i64), (.int .i64), (.int .i64), (.int .i64), (.int .i64), (.int .i64), (.int .i64), (.int .i64), (.int .i64), (.int .i64), (.int .i64), .bool, .bool]), (.sl [(.int .i64), (.int .i64), .bool]), (.int .i64), (.int .i64)] s, .sc (.int .i64) n] [.sc (.int .i64)] Q := (pc_37 s n).mono fun _ h => h ▸ ho
/- impl.OnField -/
theorem pc_39 (s n : D) (h : ((s.fld 0).toL.length : Int) ≤ 1048576) : PC Try.prog 39 [.st [(.sl [(.int .i64), (.int .i64), (.int .i64), (.int .i64), (.int .i64), (.int .i64), (.int .i64), (.int .i64), (.int .i64), (.int .i64), (.int .i64), .bool, .bool]), (.sl [(.int .i64), (.int .i64), .bool]), (.int .i64), (.int .i64)] s, .sc (.int .i64) n] [.sc (.sl [(.int .i64)])] fun o => o = [.lst (onField s n.toI (s.fld 0).toL.length)] := by
  refine PC.of_sig mix sig_39 ⟨rfl, rfl, trivial⟩ rfl fun hok => ?_
  have e_s : D.lst [s.fld 0, s.fld 1, s.fld 2, s.fld 3] = s := by simpa [List.range, List.range.loop] using okL_eta (hok _ (.head _))
  have k_s : okL [(.sl [(.int .i64), (.int .i64), (.int .i64), (.int .i64), (.int .i64), (.int .i64), (.int .i64), (.int .i64), (.int .i64), (.int .i64), (.int .i64), .bool, .bool]), (.sl [(.int .i64), (.int .i64), .bool]), (.int .i64), (.int .i64)] s := (hok _ (.head _))
  have e_s_0 : D.lst (s.fld 0).toL = s.fld 0 := sl_eta (okL_at k_s (i := 0) rfl)
  have l_s_0 := sl_len (okL_at k_s (i := 0) rfl)
  have k_s_0 := sl_all (okL_at k_s (i := 0) rfl)
  have E_s_0 : ∀ i, i < (s.fld 0).toL.length → D.lst [((s.fld 0).elem i).fld 0, ((s.fld 0).elem i).fld 1, ((s.fld 0).elem i).fld 2, ((s.fld 0).elem i).fld 3, ((s.fld 0).elem i).fld 4, ((s.fld 0).elem i).fld 5, ((s.fld 0).elem i).fld 6, ((s.fld 0).elem i).fld 7, ((s.fld 0).elem i).fld 8, ((s.fld 0).elem i).fld 9, ((s.fld 0).elem i).fld 10, ((s.fld 0).elem i).fld 11, ((s.fld 0).elem i).fld 12] = (s.fld 0).elem i := fun i hi => by simpa [List.range, List.range.loop] using okL_eta (k_s_0 _ (elem_mem hi))
  have e_s_1 : D.lst (s.fld 1).toL = s.fld 1 := sl_eta (okL_at k_s (i := 1) rfl)
  have l_s_1 := sl_len (okL_at k_s (i := 1) rfl)
  have k_s_1 := sl_all (okL_at k_s (i := 1) rfl)
  have E_s_1 : ∀ i, i < (s.fld 1).toL.length → D.lst [((s.fld 1).elem i).fld 0, ((s.fld 1).elem i).fld 1, ((s.fld 1).elem i).fld 2] = (s.fld 1).elem i := fun i hi => by simpa [List.range, List.range.loop] using okL_eta (k_s_1 _ (elem_mem hi))
  have e_n := int_eta (hok _ (.tail _ (.head _)))
  have b_n := int_range (hok _ (.tail _ (.head _)))
  apply says_den (φ := fun _ _ => [])
  simp [e_s_0, E_s_0, e_s_1, E_s_1, e_s, e_n, tree_39, T.says, X.den, O1.den, O2.den, O3.den, callD, XArg.ev, XArg.dat, Callee'.num, backs, DArg.back, Conds.den, cloArgs] at h ⊢
  refine fun _ => ?_
  refine den_for (s.fld 0).toL.length 0 (fun i => [.int i, .lst (onField s n.toI i)]) (fun _ => True) (by simp) (by simp [X.den, onField]) trivial fun i hi _ => ?_
  have hc := countR_le (onFieldP s n.toI) i
  rw [← onField_length] at hc
  apply says_den (φ := fun _ _ => [])
  by_cases hlt : i < (s.fld 0).toL.length
  · simp [e_s_0, E_s_0, e_s_1, E_s_1, e_s, e_n, tree_39, T.says, X.den, O1.den, O2.den, O3.den, callD, XArg.ev, XArg.dat, Callee'.num, backs, DArg.back, Conds.den, cloArgs, hlt]
    (repeat' (first | (with_reducible apply And.intro) | intro _)) <;> first | omega | (first | omega | (simp only [IntKind.wrap_i64, maxL] at *; omega) | (simp [IntKind.wrap_i64, maxL] at *; omega)) | (rw [onField_succ, if_pos (by grind [onFieldP])]; done) | (rw [onField_succ, if_neg (by grind [onFieldP])]; simp)
  · simp [e_s_0, E_s_0, e_s_1, E_s_1, e_s, e_n, tree_39, T.says, X.den, O1.den, O2.den, O3.den, callD, XArg.ev, XArg.dat, Callee'.num, backs, DArg.back, Conds.den, cloArgs, hlt]
    (repeat' (first | (with_reducible apply And.intro) | intro _)) <;> first | omega | (rw [show i = (s.fld 0).toL.length by omega])
theorem pd_39 (s n : D) (h : ((s.fld 0).toL.length : Int) ≤ 1048576) (Q : List D → Prop) (ho : Q [.lst (onField s n.toI (s.fld 0).toL.length)]) : PC Try.prog 39 [.st [(.sl [(.int .i64), (.int .i64), (.int .i64), (.int .i64), (.int .i64), (.int .i64), (.int .i64), (.int .i64), (.int .i64), (.int .i64), (.int .i64), .bool, .bool]), (.sl [(.int .i64), (.int .i64), .bool]), (.int .i64), (.int .i64)] s, .sc (.int .i64) n] [.sc (.sl [(.int .i64)])] Q := (pc_39 s n h).mono fun _ h => h ▸ ho
/- impl.isSide -/
def phi_129 : Nat → List D → List D
  | 123, [a, b, c] => [.bool (inR a.toI b.toI c.toI)]
  | _, _ => []
theorem pc_129 (s n : D) : PC Try.prog 129 [.st [(.sl [(.int .i64), (.int .i64), (.int .i64), (.int .i64), (.int .i64), (.int .i64), (.int .i64), (.int .i64), (.int .i64), (.int .i64), (.int .i64), .bool, .bool]), (.sl [(.int .i64), (.int .i64), .bool]), (.int .i64), (.int .i64)] s, .sc (.int .i64) n] [.sc .bool] fun o => o = [.bool (inR n.toI 0 ((s.fld 1).toL.length - 1))] := by
  refine PC.of_sig mix sig_129 ⟨rfl, rfl, trivial⟩ rfl fun hok => ?_
  have e_s : D.lst [s.fld 0, s.fld 1, s.fld 2, s.fld 3] = s := by simpa [List.range, List.range.loop] using okL_eta (hok _ (.head _))
  have k_s : okL [(.sl [(.int .i64), (.int .i64), (.int .i64), (.int .i64), (.int .i64), (.int .i64), (.int .i64), (.int .i64), (.int .i64), (.int .i64), (.int .i64), .bool, .bool]), (.sl [(.int .i64), (.int .i64), .bool]), (.int .i64), (.int .i64)] s := (hok _ (.head _))
  have e_s_0 : D.lst (s.fld 0).toL = s.fld 0 := sl_eta (okL_at k_s (i := 0) rfl)
  have l_s_0 := sl_len (okL_at k_s (i := 0) rfl)
  have k_s_0 := sl_all (okL_at k_s (i := 0) rfl)
  have E_s_0 : ∀ i, i < (s.fld 0).toL.length → D.lst [((s.fld 0).elem i).fld 0, ((s.fld 0).elem i).fld 1, ((s.fld 0).elem i).fld 2, ((s.fld 0).elem i).fld 3, ((s.fld 0).elem i).fld 4, ((s.fld 0).elem i).fld 5, ((s.fld 0).elem i).fld 6, ((s.fld 0).elem i).fld 7, ((s.fld 0).elem i).fld 8, ((s.fld 0).elem i).fld 9, ((s.fld 0).elem i).fld 10, ((s.fld 0).elem i).fld 11, ((s.fld 0).elem i).fld 12] = (s.fld 0).elem i := fun i hi => by simpa [List.range, List.range.loop] using okL_eta (k_s_0 _ (elem_mem hi))
  have e_s_1 : D.lst (s.fld 1).toL = s.fld 1 := sl_eta (okL_at k_s (i := 1) rfl)
  have l_s_1 := sl_len (okL_at k_s (i := 1) rfl)
  have k_s_1 := sl_all (okL_at k_s (i := 1) rfl)
  have E_s_1 : ∀ i, i < (s.fld 1).toL.length → D.lst [((s.fld 1).elem i).fld 0, ((s.fld 1).elem i).fld 1, ((s.fld 1).elem i).fld 2] = (s.fld 1).elem i := fun i hi => by simpa [List.range, List.range.loop] using okL_eta (k_s_1 _ (elem_mem hi))
  have e_n := int_eta (hok _ (.tail _ (.head _)))
  have b_n := int_range (hok _ (.tail _ (.head _)))
  apply says_den (φ := (phi_129))
  have hw : IntKind.i64.wrap (((s.fld 1).toL.length : Int) - 1) = (s.fld 1).toL.length - 1 := by (first | omega | (simp only [IntKind.wrap_i64, maxL] at *; omega) | (simp [IntKind.wrap_i64, maxL] at *; omega))
  simp [e_s_0, E_s_0, e_s_1, E_s_1, e_s, e_n, tree_129, T.says, X.den, O1.den, O2.den, O3.den, callD, XArg.ev, XArg.dat, Callee'.num, backs, DArg.back, Conds.den, cloArgs, phi_129, pd_123, hw]
theorem pd_129 (s n : D) (Q : List D → Prop) (ho : Q [.bool (inR n.toI 0 ((s.fld 1).toL.length - 1))]) : PC Try.prog 129 [.st [(.sl [(.int .i64), (.int .i64), (.int .i64), (.int .i64), (.int .i64), (.int .i64), (.int .i64), (.int .i64), (.int .i64), (.int .i64), (.int .i64), .bool, .bool]), (.sl [(.int .i64), (.int .i64), .bool]), (.int .i64), (.int .i64)] s, .sc (.int .i64) n] [.sc .bool] Q := (pc_129 s n).mono fun _ h => h ▸ ho
/- impl.Holds -/
def phi_32 : Nat → List D → List D
  | 34, [d] => [.bool (guardOk d)]
  | 37, [s, n] => [.int (bentOf s n.toI)]
  | 39, [s, n] => [.lst (onField s n.toI (s.fld 0).toL.length)]
  | 129, [s, n] => [.bool (inR n.toI 0 ((s.fld 1).toL.length - 1))]
  | _, _ => []
theorem pc_32 (s n g : D) (h : ((s.fld 0).toL.length : Int) ≤ 1048576) : PC Try.prog 32 [.st [(.sl [(.int .i64), (.int .i64), (.int .i64), (.int .i64), (.int .i64), (.int .i64), (.int .i64), (.int .i64), (.int .i64), (.int .i64), (.int .i64), .bool, .bool]), (.sl [(.int .i64), (.int .i64), .bool]), (.int .i64), (.int .i64)] s, .sc (.int .i64) n, .st [(.int .i64), (.int .i64)] g] [.sc .bool] fun o => o = [.bool (holds s n.toI g)] := by
  refine PC.of_sig mix sig_32 ⟨rfl, rfl, rfl, trivial⟩ rfl fun hok => ?_
  have e_s : D.lst [s.fld 0, s.fld 1, s.fld 2, s.fld 3] = s := by simpa [List.range, List.range.loop] using okL_eta (hok _ (.head _))
  have k_s : okL [(.sl [(.int .i64), (.int .i64), (.int .i64), (.int .i64), (.int .i64), (.int .i64), (.int .i64), (.int .i64), (.int .i64), (.int .i64), (.int .i64), .bool, .bool]), (.sl [(.int .i64), (.int .i64), .bool]), (.int .i64), (.int .i64)] s := (hok _ (.head _))
  have e_s_0 : D.lst (s.fld 0).toL = s.fld 0 := sl_eta (okL_at k_s (i := 0) rfl)
  have l_s_0 := sl_len (okL_at k_s (i := 0) rfl)
  have k_s_0 := sl_all (okL_at k_s (i := 0) rfl)
  have E_s_0 : ∀ i, i < (s.fld 0).toL.length → D.lst [((s.fld 0).elem i).fld 0, ((s.fld 0).elem i).fld 1, ((s.fld 0).elem i).fld 2, ((s.fld 0).elem i).fld 3, ((s.fld 0).elem i).fld 4, ((s.fld 0).elem i).fld 5, ((s.fld 0).elem i).fld 6, ((s.fld 0).elem i).fld 7, ((s.fld 0).elem i).fld 8, ((s.fld 0).elem i).fld 9, ((s.fld 0).elem i).fld 10, ((s.fld 0).elem i).fld 11, ((s.fld 0).elem i).fld 12] = (s.fld 0).elem i := fun i hi => by simpa [List.range, List.range.loop] using okL_eta (k_s_0 _ (elem_mem hi))
  have e_s_1 : D.lst (s.fld 1).toL = s.fld 1 := sl_eta (okL_at k_s (i := 1) rfl)
  have l_s_1 := sl_len (okL_at k_s (i := 1) rfl)
  have k_s_1 := sl_all (okL_at k_s (i := 1) rfl)
  have E_s_1 : ∀ i, i < (s.fld 1).toL.length → D.lst [((s.fld 1).elem i).fld 0, ((s.fld 1).elem i).fld 1, ((s.fld 1).elem i).fld 2] = (s.fld 1).elem i := fun i hi => by simpa [List.range, List.range.loop] using okL_eta (k_s_1 _ (elem_mem hi))
  have e_n := int_eta (hok _ (.tail _ (.head _)))
  have b_n := int_range (hok _ (.tail _ (.head _)))
  have e_g : D.lst [g.fld 0, g.fld 1] = g := by simpa [List.range, List.range.loop] using okL_eta (hok _ (.tail _ (.tail _ (.head _))))
  have k_g : okL [(.int .i64), (.int .i64)] g := (hok _ (.tail _ (.tail _ (.head _))))
  have hw : IntKind.i64.wrap (((s.fld 1).toL.length : Int) - 1) = (s.fld 1).toL.length - 1 := by (first | omega | (simp only [IntKind.wrap_i64, maxL] at *; omega) | (simp [IntKind.wrap_i64, maxL] at *; omega))
  apply says_den (φ := (phi_32))
  simp [e_s_0, E_s_0, e_s_1, E_s_1, e_s, e_n, e_g, tree_32, T.says, X.den, O1.den, O2.den, O3.den, callD, XArg.ev, XArg.dat, Callee'.num, backs, DArg.back, Conds.den, cloArgs, phi_32, pd_34, pd_37, pd_39, pd_129, hw, holds]
  have hin : inR n.toI 0 (((s.fld 1).toL.length : Int) - 1) = true → 0 ≤ n.toI ∧ n.toI < (s.fld 1).toL.length := by simp only [inR, Bool.and_eq_true, decide_eq_true_eq]; omega
  (repeat' (first | (with_reducible apply And.intro) | intro _)) <;> first | (have := hin ‹_›; omega) | (first | assumption | (exact pd_34 _ _ (by first | rfl | simp | (simp; omega))) | (exact pd_37 _ _ _ (by first | rfl | simp | (simp; omega))) | (exact pd_39 _ _ (by first | (with_reducible assumption) | omega | assumption | (simp; done) | (simp; omega) | (simp [*]; done) | exact smallE_of (n := 1048576) (by omega) (by omega) | (simp [*] at *; omega) | grind [szS]) _ (by first | rfl | simp | (simp; omega))) | (exact pd_129 _ _ _ (by first | rfl | simp | (simp; omega))) | (first | omega | (simp only [IntKind.wrap_i64, maxL] at *; omega) | (simp [IntKind.wrap_i64, maxL] at *; omega)) | rfl | contradiction | grind) | skip
  all_goals
    have h1 := hin ‹_›
    have h2 := onField_many (s := s) h1.1 (s.fld 0).toL.length
    rw [h2]
    simp [*, many]
    try exact decide_eq_decide.mpr Iff.rfl
theorem pd_32 (s n g : D) (h : ((s.fld 0).toL.length : Int) ≤ 1048576) (Q : List D → Prop) (ho : Q [.bool (holds s n.toI g)]) : PC Try.prog 32 [.st [(.sl [(.int .i64), (.int .i64), (.int .i64), (.int .i64), (.int .i64), (.int .i64), (.int .i64), (.int .i64), (.int .i64), (.int .i64), (.int .i64), .bool, .bool]), (.sl [(.int .i64), (.int .i64), .bool]), (.int .i64), (.int .i64)] s, .sc (.int .i64) n, .st [(.int .i64), (.int .i64)] g] [.sc .bool] Q := (pc_32 s n g h).mono fun _ h => h ▸ ho
/- spec.l1In -/
theorem pc_126 (a b c : D) : PC Try.prog 126 [.sc (.int .i64) a, .sc (.int .i64) b, .sc (.int .i64) c] [.sc .bool] fun o => o = [.bool (inR a.toI b.toI c.toI)] := by
  refine PC.of_sig mix sig_126 ⟨rfl, rfl, rfl, trivial⟩ rfl fun hok => ?_
  have e_a := int_eta (hok _ (.head _))
  have b_a := int_range (hok _ (.head _))
  have e_b := int_eta (hok _ (.tail _ (.head _)))
  have b_b := int_range (hok _ (.tail _ (.head _)))
  have e_c := int_eta (hok _ (.tail _ (.tail _ (.head _))))
  have b_c := int_range (hok _ (.tail _ (.tail _ (.head _))))
  apply says_den (φ := fun _ _ => [])
  simp [e_a, e_b, e_c, tree_126, T.says, X.den, O1.den, O2.den, O3.den, callD, XArg.ev, XArg.dat, Callee'.num, backs, DArg.back, Conds.den, cloArgs, inR]
theorem pd_126 (a b c : D) (Q : List D → Prop) (ho : Q [.bool (inR a.toI b.toI c.toI)]) : PC Try.prog 126 [.sc (.int .i64) a, .sc (.int .i64) b, .sc (.int .i64) c] [.sc .bool] Q := (pc_126 a b c).mono fun _ h => h ▸ ho
/- spec.GuardOk -/
def phi_35 : Nat → List D → List D
  | 126, [a, b, c] => [.bool (inR a.toI b.toI c.toI)]
  | _, _ => []
theorem pc_35 (d : D) : PC Try.prog 35 [.st [(.int .i64), (.int .i64)] d] [.sc .bool] fun o => o = [.bool (guardOk d)] := by
  refine PC.of_sig mix sig_35 ⟨rfl, trivial⟩ rfl fun hok => ?_
  have e_d : D.lst [d.fld 0, d.fld 1] = d := by simpa [List.range, List.range.loop] using okL_eta (hok _ (.head _))
  have k_d : okL [(.int .i64), (.int .i64)] d := (hok _ (.head _))
  apply says_den (φ := (phi_35))
  simp [e_d, tree_35, T.says, X.den, O1.den, O2.den, O3.den, callD, XArg.ev, XArg.dat, Callee'.num, backs, DArg.back, Conds.den, cloArgs, phi_35, pd_126]
  (repeat' (first | (with_reducible apply And.intro) | intro _)) <;> grind [guardOk]
theorem pd_35 (d : D) (Q : List D → Prop) (ho : Q [.bool (guardOk d)]) : PC Try.prog 35 [.st [(.int .i64), (.int .i64)] d] [.sc .bool] Q := (pc_35 d).mono fun _ h => h ▸ ho
/- spec.BentOf -/
theorem pc_38 (s n : D) : PC Try.prog 38 [.st [(.sl [(.int .i64), (.int .i64), (.int .i64), (.int .i64), (.int .i64), (.int .i64), (.int .i64), (.int .i64), (.int .i64), (.int .i64), (.int .i64), .bool, .bool]), (.sl [(.int .i64), (.int .i64), .bool]), (.int .i64), (.int .i64)] s, .sc (.int .i64) n] [.sc (.int .i64)] fun o => o = [.int (bentOf s n.toI)] := by
  refine PC.of_sig mix sig_38 ⟨rfl, rfl, trivial⟩ rfl fun hok => ?_
  have e_s : D.lst [s.fld 0, s.fld 1, s.fld 2, s.fld 3] = s := by simpa [List.range, List.range.loop] using okL_eta (hok _ (.head _))
  have k_s : okL [(.sl [(.int .i64), (.int .i64), (.int .i64), (.int .i64), (.int .i64), (.int .i64), (.int .i64), (.int .i64), (.int .i64), (.int .i64), (.int .i64), .bool, .bool]), (.sl [(.int .i64), (.int .i64), .bool]), (.int .i64), (.int .i64)] s := (hok _ (.head _))
  have e_s_0 : D.lst (s.fld 0).toL = s.fld 0 := sl_eta (okL_at k_s (i := 0) rfl)
  have l_s_0 := sl_len (okL_at k_s (i := 0) rfl)
  have k_s_0 := sl_all (okL_at k_s (i := 0) rfl)
  have E_s_0 : ∀ i, i < (s.fld 0).toL.length → D.lst [((s.fld 0).elem i).fld 0, ((s.fld 0).elem i).fld 1, ((s.fld 0).elem i).fld 2, ((s.fld 0).elem i).fld 3, ((s.fld 0).elem i).fld 4, ((s.fld 0).elem i).fld 5, ((s.fld 0).elem i).fld 6, ((s.fld 0).elem i).fld 7, ((s.fld 0).elem i).fld 8, ((s.fld 0).elem i).fld 9, ((s.fld 0).elem i).fld 10, ((s.fld 0).elem i).fld 11, ((s.fld 0).elem i).fld 12] = (s.fld 0).elem i := fun i hi => by simpa [List.range, List.range.loop] using okL_eta (k_s_0 _ (elem_mem hi))
  have e_s_1 : D.lst (s.fld 1).toL = s.fld 1 := sl_eta (okL_at k_s (i := 1) rfl)
  have l_s_1 := sl_len (okL_at k_s (i := 1) rfl)
  have k_s_1 := sl_all (okL_at k_s (i := 1) rfl)
  have E_s_1 : ∀ i, i < (s.fld 1).toL.length → D.lst [((s.fld 1).elem i).fld 0, ((s.fld 1).elem i).fld 1, ((s.fld 1).elem i).fld 2] = (s.fld 1).elem i := fun i hi => by simpa [List.range, List.range.loop] using okL_eta (k_s_1 _ (elem_mem hi))
  have e_n := int_eta (hok _ (.tail _ (.head _)))
  have b_n := int_range (hok _ (.tail _ (.head _)))
  apply says_den (φ := fun _ _ => [])
  simp [e_s_0, E_s_0, e_s_1, E_s_1, e_s, e_n, tree_38, T.says, X.den, O1.den, O2.den, O3.den, callD, XArg.ev, XArg.dat, Callee'.num, backs, DArg.back, Conds.den, cloArgs]
  refine den_for (s.fld 0).toL.length 1 (fun i => [.int (countR (bentP s n.toI) i), .int i]) (fun _ => True) (by simp) (by simp [X.den]) trivial fun i hi _ => ?_
  have hc := countR_le (bentP s n.toI) i
  apply says_den (φ := fun _ _ => [])
  by_cases hlt : i < (s.fld 0).toL.length
  · simp [e_s_0, E_s_0, e_s_1, E_s_1, e_s, e_n, tree_38, T.says, X.den, O1.den, O2.den, O3.den, callD, XArg.ev, XArg.dat, Callee'.num, backs, DArg.back, Conds.den, cloArgs, hlt]
    (repeat' (first | (with_reducible apply And.intro) | intro _)) <;> first | omega | (first | omega | (simp only [IntKind.wrap_i64, maxL] at *; omega) | (simp [IntKind.wrap_i64, maxL] at *; omega)) | (rw [countR_succ, if_pos (by grind [bentP])]; (first | omega | (simp only [IntKind.wrap_i64, maxL] at *; omega) | (simp [IntKind.wrap_i64, maxL] at *; omega))) | (rw [countR_succ, if_neg (by grind [bentP])]; simp)
  · simp [e_s_0, E_s_0, e_s_1, E_s_1, e_s, e_n, tree_38, T.says, X.den, O1.den, O2.den, O3.den, callD, XArg.ev, XArg.dat, Callee'.num, backs, DArg.back, Conds.den, cloArgs, hlt]
    (repeat' (first | (with_reducible apply And.intro) | intro _)) <;> first | omega | (rw [show i = (s.fld 0).toL.length by omega]; rfl)
theorem pd_38 (s n : D) (Q : List D → Prop) (ho : Q [.int (bentOf s n.toI)]) : PC Try.prog 38 [.st [(.sl [(.int .i64), (.int .i64), (.int .i64), (.int .i64), (.int .i64), (.int .i64), (.int .i64), (.int .i64), (.int .i64), (.int .i64), (.int .i64), .bool, .bool]), (.sl [(.int .i64), (.int .i64), .bool]), (.int .i64), (.int .i64)] s, .sc (.int .i64) n] [.sc (.int .i64)] Q := (pc_38 s n).mono fun _ h => h ▸ ho
/- spec.l8Many -/
theorem pc_130 (s n : D) : PC Try.prog 130 [.st [(.sl [(.int .i64), (.int .i64), (.int .i64), (.int .i64), (.int .i64), (.int .i64), (.int .i64), (.int .i64), (.int .i64), (.int .i64), (.int .i64), .bool, .bool]), (.sl [(.int .i64), (.int .i64), .bool]), (.int .i64), (.int .i64)] s, .sc (.int .i64) n] [.sc (.int .i64)] fun o => o = [.int (many s n.toI)] := by
  refine PC.of_sig mix sig_130 ⟨rfl, rfl, trivial⟩ rfl fun hok => ?_
  have e_s : D.lst [s.fld 0, s.fld 1, s.fld 2, s.fld 3] = s := by simpa [List.range, List.range.loop] using okL_eta (hok _ (.head _))
  have k_s : okL [(.sl [(.int .i64), (.int .i64), (.int .i64), (.int .i64), (.int .i64), (.int .i64), (.int .i64), (.int .i64), (.int .i64), (.int .i64), (.int .i64), .bool, .bool]), (.sl [(.int .i64), (.int .i64), .bool]), (.int .i64), (.int .i64)] s := (hok _ (.head _))
  have e_s_0 : D.lst (s.fld 0).toL = s.fld 0 := sl_eta (okL_at k_s (i := 0) rfl)
  have l_s_0 := sl_len (okL_at k_s (i := 0) rfl)
  have k_s_0 := sl_all (okL_at k_s (i := 0) rfl)
  have E_s_0 : ∀ i, i < (s.fld 0).toL.length → D.lst [((s.fld 0).elem i).fld 0, ((s.fld 0).elem i).fld 1, ((s.fld 0).elem i).fld 2, ((s.fld 0).elem i).fld 3, ((s.fld 0).elem i).fld 4, ((s.fld 0).elem i).fld 5, ((s.fld 0).elem i).fld 6, ((s.fld 0).elem i).fld 7, ((s.fld 0).elem i).fld 8, ((s.fld 0).elem i).fld 9, ((s.fld 0).elem i).fld 10, ((s.fld 0).elem i).fld 11, ((s.fld 0).elem i).fld 12] = (s.fld 0).elem i := fun i hi => by simpa [List.range, List.range.loop] using okL_eta (k_s_0 _ (elem_mem hi))
  have e_s_1 : D.lst (s.fld 1).toL = s.fld 1 := sl_eta (okL_at k_s (i := 1) rfl)
  have l_s_1 := sl_len (okL_at k_s (i := 1) rfl)
  have k_s_1 := sl_all (okL_at k_s (i := 1) rfl)
  have E_s_1 : ∀ i, i < (s.fld 1).toL.length → D.lst [((s.fld 1).elem i).fld 0, ((s.fld 1).elem i).fld 1, ((s.fld 1).elem i).fld 2] = (s.fld 1).elem i := fun i hi => by simpa [List.range, List.range.loop] using okL_eta (k_s_1 _ (elem_mem hi))
  have e_n := int_eta (hok _ (.tail _ (.head _)))
  have b_n := int_range (hok _ (.tail _ (.head _)))
  apply says_den (φ := fun _ _ => [])
  simp [e_s_0, E_s_0, e_s_1, E_s_1, e_s, e_n, tree_130, T.says, X.den, O1.den, O2.den, O3.den, callD, XArg.ev, XArg.dat, Callee'.num, backs, DArg.back, Conds.den, cloArgs]
  refine den_for (s.fld 0).toL.length 1 (fun i => [.int (countR (manyP s n.toI) i), .int i]) (fun _ => True) (by simp) (by simp [X.den]) trivial fun i hi _ => ?_
  have hc := countR_le (manyP s n.toI) i
  apply says_den (φ := fun _ _ => [])
  by_cases hlt : i < (s.fld 0).toL.length
  · simp [e_s_0, E_s_0, e_s_1, E_s_1, e_s, e_n, tree_130, T.says, X.den, O1.den, O2.den, O3.den, callD, XArg.ev, XArg.dat, Callee'.num, backs, DArg.back, Conds.den, cloArgs, hlt]
    (repeat' (first | (with_reducible apply And.intro) | intro _)) <;> first | omega | (first | omega | (simp only [IntKind.wrap_i64, maxL] at *; omega) | (simp [IntKind.wrap_i64, maxL] at *; omega)) | (rw [countR_succ, if_pos (by grind [manyP])]; (first | omega | (simp only [IntKind.wrap_i64, maxL] at *; omega) | (simp [IntKind.wrap_i64, maxL] at *; omega))) | (rw [countR_succ, if_neg (by grind [manyP])]; simp)
  · simp [e_s_0, E_s_0, e_s_1, E_s_1, e_s, e_n, tree_130, T.says, X.den, O1.den, O2.den, O3.den, callD, XArg.ev, XArg.dat, Callee'.num, backs, DArg.back, Conds.den, cloArgs, hlt]
    (repeat' (first | (with_reducible apply And.intro) | intro _)) <;> first | omega | (rw [show i = (s.fld 0).toL.length by omega]; rfl)
theorem pd_130 (s n : D) (Q : List D → Prop) (ho : Q [.int (many s n.toI)]) : PC Try.prog 130 [.st [(.sl [(.int .i64), (.int .i64), (.int .i64), (.int .i64), (.int .i64), (.int .i64), (.int .i64), (.int .i64), (.int .i64), (.int .i64), (.int .i64), .bool, .bool]), (.sl [(.int .i64), (.int .i64), .bool]), (.int .i64), (.int .i64)] s, .sc (.int .i64) n] [.sc (.int .i64)] Q := (pc_130 s n).mono fun _ h => h ▸ ho
/- spec.Holds -/
def phi_33 : Nat → List D → List D
  | 35, [d] => [.bool (guardOk d)]
  | 38, [s, n] => [.int (bentOf s n.toI)]
  | 126, [a, b, c] => [.bool (inR a.toI b.toI c.toI)]
  | 130, [s, n] => [.int (many s n.toI)]
  | _, _ => []
theorem pc_33 (s n g : D) : PC Try.prog 33 [.st [(.sl [(.int .i64), (.int .i64), (.int .i64), (.int .i64), (.int .i64), (.int .i64), (.int .i64), (.int .i64), (.int .i64), (.int .i64), (.int .i64), .bool, .bool]), (.sl [(.int .i64), (.int .i64), .bool]), (.int .i64), (.int .i64)] s, .sc (.int .i64) n, .st [(.int .i64), (.int .i64)] g] [.sc .bool] fun o => o = [.bool (holds s n.toI g)] := by
  refine PC.of_sig mix sig_33 ⟨rfl, rfl, rfl, trivial⟩ rfl fun hok => ?_
  have e_s : D.lst [s.fld 0, s.fld 1, s.fld 2, s.fld 3] = s := by simpa [List.range, List.range.loop] using okL_eta (hok _ (.head _))
  have k_s : okL [(.sl [(.int .i64), (.int .i64), (.int .i64), (.int .i64), (.int .i64), (.int .i64), (.int .i64), (.int .i64), (.int .i64), (.int .i64), (.int .i64), .bool, .bool]), (.sl [(.int .i64), (.int .i64), .bool]), (.int .i64), (.int .i64)] s := (hok _ (.head _))
  have e_s_0 : D.lst (s.fld 0).toL = s.fld 0 := sl_eta (okL_at k_s (i := 0) rfl)
  have l_s_0 := sl_len (okL_at k_s (i := 0) rfl)
  have k_s_0 := sl_all (okL_at k_s (i := 0) rfl)
  have E_s_0 : ∀ i, i < (s.fld 0).toL.length → D.lst [((s.fld 0).elem i).fld 0, ((s.fld 0).elem i).fld 1, ((s.fld 0).elem i).fld 2, ((s.fld 0).elem i).fld 3, ((s.fld 0).elem i).fld 4, ((s.fld 0).elem i).fld 5, ((s.fld 0).elem i).fld 6, ((s.fld 0).elem i).fld 7, ((s.fld 0).elem i).fld 8, ((s.fld 0).elem i).fld 9, ((s.fld 0).elem i).fld 10, ((s.fld 0).elem i).fld 11, ((s.fld 0).elem i).fld 12] = (s.fld 0).elem i := fun i hi => by simpa [List.range, List.range.loop] using okL_eta (k_s_0 _ (elem_mem hi))
  have e_s_1 : D.lst (s.fld 1).toL = s.fld 1 := sl_eta (okL_at k_s (i := 1) rfl)
  have l_s_1 := sl_len (okL_at k_s (i := 1) rfl)
  have k_s_1 := sl_all (okL_at k_s (i := 1) rfl)
  have E_s_1 : ∀ i, i < (s.fld 1).toL.length → D.lst [((s.fld 1).elem i).fld 0, ((s.fld 1).elem i).fld 1, ((s.fld 1).elem i).fld 2] = (s.fld 1).elem i := fun i hi => by simpa [List.range, List.range.loop] using okL_eta (k_s_1 _ (elem_mem hi))
  have e_n := int_eta (hok _ (.tail _ (.head _)))
  have b_n := int_range (hok _ (.tail _ (.head _)))
  have e_g : D.lst [g.fld 0, g.fld 1] = g := by simpa [List.range, List.range.loop] using okL_eta (hok _ (.tail _ (.tail _ (.head _))))
  have k_g : okL [(.int .i64), (.int .i64)] g := (hok _ (.tail _ (.tail _ (.head _))))
  have hw : IntKind.i64.wrap (((s.fld 1).toL.length : Int) - 1) = (s.fld 1).toL.length - 1 := by (first | omega | (simp only [IntKind.wrap_i64, maxL] at *; omega) | (simp [IntKind.wrap_i64, maxL] at *; omega))
  apply says_den (φ := (phi_33))
  simp [e_s_0, E_s_0, e_s_1, E_s_1, e_s, e_n, e_g, tree_33, T.says, X.den, O1.den, O2.den, O3.den, callD, XArg.ev, XArg.dat, Callee'.num, backs, DArg.back, Conds.den, cloArgs, phi_33, pd_35, pd_38, pd_126, pd_130, hw, holds]
  have hin : inR n.toI 0 (((s.fld 1).toL.length : Int) - 1) = true → 0 ≤ n.toI ∧ n.toI < (s.fld 1).toL.length := by simp only [inR, Bool.and_eq_true, decide_eq_true_eq]; omega
  (repeat' (first | (with_reducible apply And.intro) | intro _)) <;> first | (have := hin ‹_›; omega) | (first | assumption | (exact pd_35 _ _ (by first | rfl | simp | (simp; omega))) | (exact pd_38 _ _ _ (by first | rfl | simp | (simp; omega))) | (exact pd_126 _ _ _ _ (by first | rfl | simp | (simp; omega))) | (exact pd_130 _ _ _ (by first | rfl | simp | (simp; omega))) | (first | omega | (simp only [IntKind.wrap_i64, maxL] at *; omega) | (simp [IntKind.wrap_i64, maxL] at *; omega)) | rfl | contradiction | grind) | skip
  all_goals
    have h1 := hin ‹_›
    have h2 := onField_many (s := s) h1.1 (s.fld 0).toL.length
    rw [h2]
    simp [*, many]
    try exact decide_eq_decide.mpr Iff.rfl
theorem pd_33 (s n g : D) (Q : List D → Prop) (ho : Q [.bool (holds s n.toI g)]) : PC Try.prog 33 [.st [(.sl [(.int .i64), (.int .i64), (.int .i64), (.int .i64), (.int .i64), (.int .i64), (.int .i64), (.int .i64), (.int .i64), (.int .i64), (.int .i64), .bool, .bool]), (.sl [(.int .i64), (.int .i64), .bool]), (.int .i64), (.int .i64)] s, .sc (.int .i64) n, .st [(.int .i64), (.int .i64)] g] [.sc .bool] Q := (pc_33 s n g).mono fun _ h => h ▸ ho
/- spec.Stronger -/
def phi_36 : Nat → List D → List D
  | 35, [d] => [.bool (guardOk d)]
  | _, _ => []
theorem pc_36 (a b : D) : PC Try.prog 36 [.st [(.int .i64), (.int .i64)] a, .st [(.int .i64), (.int .i64)] b] [.sc .bool] fun o => o = [.bool (stronger a b)] := by
  refine PC.of_sig mix sig_36 ⟨rfl, rfl, trivial⟩ rfl fun hok => ?_
  have e_a : D.lst [a.fld 0, a.fld 1] = a := by simpa [List.range, List.range.loop] using okL_eta (hok _ (.head _))
  have k_a : okL [(.int .i64), (.int .i64)] a := (hok _ (.head _))
  have e_b : D.lst [b.fld 0, b.fld 1] = b := by simpa [List.range, List.range.loop] using okL_eta (hok _ (.tail _ (.head _)))
  have k_b : okL [(.int .i64), (.int .i64)] b := (hok _ (.tail _ (.head _)))
  apply says_den (φ := (phi_36))
  simp [e_a, e_b, tree_36, T.says, X.den, O1.den, O2.den, O3.den, callD, XArg.ev, XArg.dat, Callee'.num, backs, DArg.back, Conds.den, cloArgs, phi_36, pd_35]
  (repeat' (first | (with_reducible apply And.intro) | intro _)) <;> grind [stronger]
theorem pd_36 (a b : D) (Q : List D → Prop) (ho : Q [.bool (stronger a b)]) : PC Try.prog 36 [.st [(.int .i64), (.int .i64)] a, .st [(.int .i64), (.int .i64)] b] [.sc .bool] Q := (pc_36 a b).mono fun _ h => h ▸ ho
end Go.Proofs.Ytammagpahfmenaa
