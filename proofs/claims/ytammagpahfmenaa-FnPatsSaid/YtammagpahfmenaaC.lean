/- The contracts of the functions that this claim reaches: what each hands back, for all data. -/
import Derived.Test.YtammagpahfmenaaT
import Derived.Test.YtammagpahfmenaaS
namespace Go.Proofs.Ytammagpahfmenaa
open Go.Proofs.Ytammagpahfmenaa.Eng
set_option maxRecDepth 100000
set_option maxHeartbeats 2000000
set_option linter.unusedSimpArgs false
set_option linter.unusedVariables false
/- laws.big -/
theorem pc_14 (code : D) : PC Try.prog 14 [.sc (.sl [(.int .u8)]) code] [.sc .bool] fun o => o = [.bool (decide ((1048576 : Int) < code.toL.length))] := by
  refine PC.of_sig mix sig_14 ⟨rfl, trivial⟩ rfl fun hok => ?_
  have e_code := sl_eta (hok _ (.head _))
  have l_code := sl_len (hok _ (.head _))
  have k_code := sl_all (hok _ (.head _))
  apply says_den (φ := fun _ _ => [])
  simp [e_code, tree_14, T.says, X.den, O1.den, O2.den, O3.den, callD, XArg.ev, XArg.dat, Callee'.num, backs, DArg.back, Conds.den, cloArgs]
theorem pd_14 (code : D) (Q : List D → Prop) (ho : Q [.bool (decide ((1048576 : Int) < code.toL.length))]) : PC Try.prog 14 [.sc (.sl [(.int .u8)]) code] [.sc .bool] Q := (pc_14 code).mono fun _ h => h ▸ ho
/- spec.l1New -/
theorem pc_113 (a : D) : PC Try.prog 113 [.sc (.sl [(.int .u8)]) a] [.cur] fun o => o = [a] := by
  refine PC.of_sig mix sig_113 ⟨rfl, trivial⟩ rfl fun hok => ?_
  have e_a := sl_eta (hok _ (.head _))
  have l_a := sl_len (hok _ (.head _))
  have k_a := sl_all (hok _ (.head _))
  apply says_den (φ := fun _ _ => [])
  simp [e_a, tree_113, T.says, X.den, O1.den, O2.den, O3.den, callD, XArg.ev, XArg.dat, Callee'.num, backs, DArg.back, Conds.den, cloArgs]
  refine fun _ => ?_
  refine den_loop (fun vs => ∃ (h : Int) (i : Nat), vs = [.int h, .int i] ∧ i ≤ a.toL.length) (fun vs => a.toL.length - ((vs.getD 1 default).toI).toNat) ⟨IntKind.i64.wrap (139871 + (a.toL.length : Int)), 0, by simp [X.den, O1.den, O2.den], by omega⟩ ?_
  rintro vs hvl ⟨h, i, rfl, hi⟩
  apply says_den (φ := fun _ _ => [])
  by_cases hlt : i < a.toL.length
  · have hz : IntKind.i64.wrap ((i : Int) + 1) = ((i + 1 : Nat) : Int) := by (first | omega | (simp only [IntKind.wrap_i64, maxL] at *; omega) | (simp [IntKind.wrap_i64, maxL] at *; omega))
    simp [e_a, tree_113, T.says, X.den, O1.den, O2.den, O3.den, callD, XArg.ev, XArg.dat, Callee'.num, backs, DArg.back, Conds.den, cloArgs, hlt, hz]
    (repeat' (first | (with_reducible apply And.intro) | intro _)) <;> first | exact ⟨_, i + 1, ⟨rfl, by omega⟩, by omega⟩ | exact ⟨i + 1, rfl, by omega⟩ | (rw [hz]; omega) | omega | skip
  · simp [e_a, tree_113, T.says, X.den, O1.den, O2.den, O3.den, callD, XArg.ev, XArg.dat, Callee'.num, backs, DArg.back, Conds.den, cloArgs, hlt]
theorem pd_113 (a : D) (Q : List D → Prop) (ho : Q [a]) : PC Try.prog 113 [.sc (.sl [(.int .u8)]) a] [.cur] Q := (pc_113 a).mono fun _ h => h ▸ ho
/- spec.l1Byte -/
def phi_190 : Nat → List D → (List D → Prop) → Prop
  | _, _, _ => False
theorem pc_190 (c : D) : PC Try.prog 190 [.cur c] [.sc (.int .i64)] fun o => ∃ (m : Int), (0 ≤ m ∧ m ≤ 255) ∧ o = [.int m] := by
  refine PC.of_sigK mix sig_190 ⟨trivial, trivial⟩ rfl fun hok ci ch hci hcn hch => ?_
  have hci := inK_i64 hci
  have hw : ci < c.toL.length → c.toL.length ≤ maxL → IntKind.i64.wrap (ci + 1) = ci + 1 := fun h h2 => by rw [IntKind.wrap_i64]; simp only [maxL] at h2; omega
  apply sayR_den (φ := (phi_190))
  simp [tree_190, T.sayR, inK_i64_iff, RS.oks, RS.ok, CK.okD, X.den, O1.den, O2.den, O3.den, callD, XArg.ev, XArg.dat, Callee'.num, backs, DArg.back, Conds.den, cloArgs]
  (repeat' (first | (with_reducible apply And.intro) | intro _)) <;> first | exact (bits2_and255 _).1 | exact (bits2_and255 _).2 | omega | (rw [hw (by assumption) (by assumption)]; omega) | skip
theorem pd_190 (c : D) (Q : List D → Prop) (ho : ∀ (m : Int), (0 ≤ m ∧ m ≤ 255) → Q [.int m]) : PC Try.prog 190 [.cur c] [.sc (.int .i64)] Q := (pc_190 c).mono (by rintro _ ⟨m, hc, rfl⟩; exact ho m hc)
/- spec.l1Below -/
def phi_117 : Nat → List D → (List D → Prop) → Prop
  | 190, [c], K => ∀ (m : Int), (0 ≤ m ∧ m ≤ 255) → K [.int m]
  | _, _, _ => False
theorem pc_117 (c n : D) : PC Try.prog 117 [.cur c, .sc (.int .i64) n] [.sc (.int .i64)] fun o => ∃ (m : Int), (0 ≤ m ∧ m ≤ 16777215 ∧ (0 < n.toI → m < n.toI) ∧ (n.toI ≤ 0 → m = 0)) ∧ o = [.int m] := by
  refine PC.of_sigK mix sig_117 ⟨trivial, rfl, trivial⟩ rfl fun hok ci ch hci hcn hch => ?_
  have e_n := int_eta (hok _ (.head _))
  have b_n := int_range (hok _ (.head _))
  apply sayR_den (φ := (phi_117))
  simp [e_n, tree_117, T.sayR, inK_i64_iff, RS.oks, RS.ok, CK.okD, X.den, O1.den, O2.den, O3.den, callD, XArg.ev, XArg.dat, Callee'.num, backs, DArg.back, Conds.den, cloArgs, phi_117]
  (repeat' (first | (with_reducible apply And.intro) | intro _)) <;> (try rw [mix3 (by assumption) (by assumption) (by assumption) (by assumption) (by assumption) (by assumption)]) <;> first | omega | assumption | (exact (tmod_lt (by omega) (by omega)).1) | (exact (tmod_lt (by omega) (by omega)).2) | (exact Int.le_trans (tmod_le (by omega) _) (by omega)) | (first | (with_reducible assumption) | (with_reducible exact trivial) | (first | ((with_reducible refine ⟨?_⟩); simp [e_n, tree_117, T.sayR, inK_i64_iff, RS.oks, RS.ok, CK.okD, X.den, O1.den, O2.den, O3.den, callD, XArg.ev, XArg.dat, Callee'.num, backs, DArg.back, Conds.den, cloArgs]; intro K hK; (try simp only [phi_117] at hK); intros; first | contradiction | ((with_reducible refine pd_190 _ _ ?ho); (case ho => exact hK)) | (exact pd_190 _ _ hK)) | ((with_reducible show CallIn _ _ _ _ _); first | (refine .inr ⟨_, rfl, fun K hK => hK⟩) | (refine .inr ⟨_, rfl, fun K hK => hK true⟩) | (refine .inr ⟨_, rfl, fun K hK => hK 0 (by simp)⟩))) | omega | (simp only [IntKind.wrap_i64, maxL] at *; omega) | assumption | rfl | contradiction | grind) | skip
theorem pd_117 (c n : D) (Q : List D → Prop) (ho : ∀ (m : Int), (0 ≤ m ∧ m ≤ 16777215 ∧ (0 < n.toI → m < n.toI) ∧ (n.toI ≤ 0 → m = 0)) → Q [.int m]) : PC Try.prog 117 [.cur c, .sc (.int .i64) n] [.sc (.int .i64)] Q := (pc_117 c n).mono (by rintro _ ⟨m, hc, rfl⟩; exact ho m hc)
/- spec.l1Once -/
def phi_115 : Nat → List D → (List D → Prop) → Prop
  | 117, [c, n], K => ∀ (m : Int), (0 ≤ m ∧ m ≤ 16777215 ∧ (0 < n.toI → m < n.toI) ∧ (n.toI ≤ 0 → m = 0)) → K [.int m]
  | _, _, _ => False
theorem pc_115 (c n : D) : PC Try.prog 115 [.cur c, .sc (.int .i64) n] [.sc .bool] fun o => ∃ (b : Bool), o = [.bool b] := by
  refine PC.of_sigK mix sig_115 ⟨trivial, rfl, trivial⟩ rfl fun hok ci ch hci hcn hch => ?_
  have e_n := int_eta (hok _ (.head _))
  have b_n := int_range (hok _ (.head _))
  apply sayR_den (φ := (phi_115))
  simp [e_n, tree_115, T.sayR, inK_i64_iff, RS.oks, RS.ok, CK.okD, X.den, O1.den, O2.den, O3.den, callD, XArg.ev, XArg.dat, Callee'.num, backs, DArg.back, Conds.den, cloArgs, phi_115]
  all_goals ((repeat' (first | (with_reducible apply And.intro) | intro _)) <;> (first | (with_reducible assumption) | (with_reducible exact trivial) | (first | ((with_reducible refine ⟨?_⟩); simp [e_n, tree_115, T.sayR, inK_i64_iff, RS.oks, RS.ok, CK.okD, X.den, O1.den, O2.den, O3.den, callD, XArg.ev, XArg.dat, Callee'.num, backs, DArg.back, Conds.den, cloArgs]; intro K hK; (try simp only [phi_115] at hK); intros; first | contradiction | ((with_reducible refine pd_117 _ _ _ ?ho); (case ho => exact hK)) | (exact pd_117 _ _ _ hK)) | ((with_reducible show CallIn _ _ _ _ _); first | (refine .inr ⟨_, rfl, fun K hK => hK⟩) | (refine .inr ⟨_, rfl, fun K hK => hK true⟩) | (refine .inr ⟨_, rfl, fun K hK => hK 0 (by simp)⟩))) | omega | (simp only [IntKind.wrap_i64, maxL] at *; omega) | assumption | rfl | contradiction | grind))
theorem pd_115 (c n : D) (Q : List D → Prop) (ho : ∀ (b : Bool), Q [.bool b]) : PC Try.prog 115 [.cur c, .sc (.int .i64) n] [.sc .bool] Q := (pc_115 c n).mono (by rintro _ ⟨b, rfl⟩; exact ho b)
/- spec.l1Int -/
def phi_189 : Nat → List D → (List D → Prop) → Prop
  | 117, [c, n], K => ∀ (m : Int), (0 ≤ m ∧ m ≤ 16777215 ∧ (0 < n.toI → m < n.toI) ∧ (n.toI ≤ 0 → m = 0)) → K [.int m]
  | _, _, _ => False
theorem pc_189 (c l : D) (h : l.toL ≠ []) : PC Try.prog 189 [.cur c, .sc (.sl [(.int .i64)]) l] [.sc (.int .i64)] fun o => ∃ (m : Int), (oneOf l m) ∧ o = [.int m] := by
  refine PC.of_sigK mix sig_189 ⟨trivial, rfl, trivial⟩ rfl fun hok ci ch hci hcn hch => ?_
  have e_l := sl_eta (hok _ (.head _))
  have l_l := sl_len (hok _ (.head _))
  have k_l := sl_all (hok _ (.head _))
  apply sayR_den (φ := (phi_189))
  have hp : 0 < l.toL.length := List.length_pos_iff.mpr h
  have hin : ∀ i : Nat, i < l.toL.length → ∃ m : Int, oneOf l m ∧ (l.elem i).fld 0 = .int m := fun i hi => ⟨_, List.mem_map.2 ⟨_, elem_mem hi, rfl⟩, (int_eta (okL_at (k_l _ (elem_mem hi)) (i := 0) rfl)).symm⟩
  simp [e_l, tree_189, T.sayR, inK_i64_iff, RS.oks, RS.ok, CK.okD, X.den, O1.den, O2.den, O3.den, callD, XArg.ev, XArg.dat, Callee'.num, backs, DArg.back, Conds.den, cloArgs, phi_189, hp]
  (repeat' (first | (with_reducible apply And.intro) | intro _)) <;> first | omega | (simpa using hin _ (by omega)) | (first | (with_reducible assumption) | (with_reducible exact trivial) | (first | ((with_reducible refine ⟨?_⟩); simp [e_l, tree_189, T.sayR, inK_i64_iff, RS.oks, RS.ok, CK.okD, X.den, O1.den, O2.den, O3.den, callD, XArg.ev, XArg.dat, Callee'.num, backs, DArg.back, Conds.den, cloArgs]; intro K hK; (try simp only [phi_189] at hK); intros; first | contradiction | ((with_reducible refine pd_117 _ _ _ ?ho); (case ho => exact hK)) | (exact pd_117 _ _ _ hK)) | ((with_reducible show CallIn _ _ _ _ _); first | (refine .inr ⟨_, rfl, fun K hK => hK⟩) | (refine .inr ⟨_, rfl, fun K hK => hK true⟩) | (refine .inr ⟨_, rfl, fun K hK => hK 0 (by simp)⟩))) | omega | (simp only [IntKind.wrap_i64, maxL] at *; omega) | assumption | rfl | contradiction | grind) | skip
theorem pd_189 (c l : D) (h : l.toL ≠ []) (Q : List D → Prop) (ho : ∀ (m : Int), (oneOf l m) → Q [.int m]) : PC Try.prog 189 [.cur c, .sc (.sl [(.int .i64)]) l] [.sc (.int .i64)] Q := (pc_189 c l h).mono (by rintro _ ⟨m, hc, rfl⟩; exact ho m hc)
/- spec.StateNew -/
def phi_191 : Nat → List D → (List D → Prop) → Prop
  | _, _, _ => False
theorem pc_191 (n : D) : PC Try.prog 191 [.sc (.int .i64) n] [.st [(.sl [(.int .i64), (.int .i64), (.int .i64), (.int .i64), (.int .i64), (.int .i64), (.int .i64), (.int .i64), (.int .i64), (.int .i64), (.int .i64), .bool, .bool]), (.sl [(.int .i64), (.int .i64), .bool]), (.int .i64), (.int .i64)]] fun o => ∃ (s : D), ((s.fld 0).toL = [] ∧ 2 ≤ (s.fld 1).toL.length ∧ (s.fld 1).toL.length ≤ 3) ∧ o = [s] := by
  refine PC.of_sig mix sig_191 ⟨rfl, trivial⟩ rfl fun hok => ?_
  have e_n := int_eta (hok _ (.head _))
  have b_n := int_range (hok _ (.head _))
  apply sayR_den (φ := (phi_191))
  simp [e_n, tree_191, T.sayR, inK_i64_iff, RS.oks, RS.ok, CK.okD, X.den, O1.den, O2.den, O3.den, callD, XArg.ev, XArg.dat, Callee'.num, backs, DArg.back, Conds.den, cloArgs]
  all_goals ((repeat' (first | (with_reducible apply And.intro) | intro _)) <;> first | exact ⟨_, by simp, rfl⟩ | (refine ⟨D.lst _, ?_, rfl⟩; simp) | (first | (with_reducible assumption) | (with_reducible exact trivial) | (first | ((with_reducible refine ⟨?_⟩); simp [e_n, tree_191, T.sayR, inK_i64_iff, RS.oks, RS.ok, CK.okD, X.den, O1.den, O2.den, O3.den, callD, XArg.ev, XArg.dat, Callee'.num, backs, DArg.back, Conds.den, cloArgs]; intro K hK; intros; first | contradiction) | ((with_reducible show CallIn _ _ _ _ _); first | (refine .inr ⟨_, rfl, fun K hK => hK⟩) | (refine .inr ⟨_, rfl, fun K hK => hK true⟩) | (refine .inr ⟨_, rfl, fun K hK => hK 0 (by simp)⟩))) | omega | (simp only [IntKind.wrap_i64, maxL] at *; omega) | assumption | rfl | contradiction | grind) | skip)
theorem pd_191 (n : D) (Q : List D → Prop) (ho : ∀ (s : D), ((s.fld 0).toL = [] ∧ 2 ≤ (s.fld 1).toL.length ∧ (s.fld 1).toL.length ≤ 3) → Q [s]) : PC Try.prog 191 [.sc (.int .i64) n] [.st [(.sl [(.int .i64), (.int .i64), (.int .i64), (.int .i64), (.int .i64), (.int .i64), (.int .i64), (.int .i64), (.int .i64), (.int .i64), (.int .i64), .bool, .bool]), (.sl [(.int .i64), (.int .i64), .bool]), (.int .i64), (.int .i64)]] Q := (pc_191 n).mono (by rintro _ ⟨s, hc, rfl⟩; exact ho s hc)
/- spec.l4Draw -/
def phi_192 : Nat → List D → (List D → Prop) → Prop
  | 115, [c, n], K => ∀ (b : Bool), K [.bool b]
  | 117, [c, n], K => ∀ (m : Int), (0 ≤ m ∧ m ≤ 16777215 ∧ (0 < n.toI → m < n.toI) ∧ (n.toI ≤ 0 → m = 0)) → K [.int m]
  | 189, [c, l], K => ∀ (m : Int), (oneOf l m) → K [.int m]
  | _, _, _ => False
theorem pc_192 (c n : D) : PC Try.prog 192 [.cur c, .sc (.int .i64) n] [.st [(.int .i64), (.int .i64), (.int .i64), (.int .i64), (.int .i64), (.int .i64), (.int .i64), (.int .i64), (.int .i64), (.int .i64), (.int .i64), .bool, .bool]] fun o => ∃ (p : D), (-1 ≤ (p.fld 2).toI) ∧ o = [p] := by
  refine PC.of_sigK mix sig_192 ⟨trivial, rfl, trivial⟩ rfl fun hok ci ch hci hcn hch => ?_
  have e_n := int_eta (hok _ (.head _))
  have b_n := int_range (hok _ (.head _))
  apply sayR_den (φ := (phi_192))
  simp [e_n, tree_192, T.sayR, inK_i64_iff, RS.oks, RS.ok, CK.okD, X.den, O1.den, O2.den, O3.den, callD, XArg.ev, XArg.dat, Callee'.num, backs, DArg.back, Conds.den, cloArgs, phi_192]
  (repeat' (first | (with_reducible apply And.intro) | intro _)) <;> first | (first | (with_reducible assumption) | (with_reducible exact trivial) | (first | ((with_reducible refine ⟨?_⟩); simp [e_n, tree_192, T.sayR, inK_i64_iff, RS.oks, RS.ok, CK.okD, X.den, O1.den, O2.den, O3.den, callD, XArg.ev, XArg.dat, Callee'.num, backs, DArg.back, Conds.den, cloArgs]; intro K hK; (try simp only [phi_192] at hK); intros; first | contradiction | ((with_reducible refine pd_115 _ _ _ ?ho); (case ho => exact hK)) | ((with_reducible refine pd_117 _ _ _ ?ho); (case ho => exact hK)) | ((with_reducible refine pd_189 _ _ ?_ _ ?ho); (case ho => exact hK); all_goals (exact (by first | (with_reducible assumption) | omega | assumption | (simp; done) | (simp; omega) | (simp [*]; done) | exact smallE_of (n := 1048576) (by omega) (by omega) | (simp [*] at *; omega) | grind [szS]))) | (exact pd_115 _ _ _ hK) | (exact pd_117 _ _ _ hK) | (exact pd_189 _ _ (by first | (with_reducible assumption) | omega | assumption | (simp; done) | (simp; omega) | (simp [*]; done) | exact smallE_of (n := 1048576) (by omega) (by omega) | (simp [*] at *; omega) | grind [szS]) _ hK)) | ((with_reducible show CallIn _ _ _ _ _); first | (refine .inr ⟨_, rfl, fun K hK => hK⟩) | (refine .inr ⟨_, rfl, fun K hK => hK true⟩) | (refine .inr ⟨_, rfl, fun K hK => hK 0 (by simp)⟩))) | omega | (simp only [IntKind.wrap_i64, maxL] at *; omega) | assumption | rfl | contradiction | grind) | skip
  obtain ⟨I, hI⟩ : ∃ I : List D → Prop, ∀ vs, I vs ↔ ∃ (i : Nat) (t : Int), vs = [.int i, .int t] ∧ i ≤ 6 := ⟨_, fun _ => Iff.rfl⟩
  obtain ⟨μ, hμ⟩ : ∃ μ : List D → Nat, ∀ vs, μ vs = 6 - ((vs.getD 0 default).toI).toNat := ⟨_, fun _ => rfl⟩
  refine den_loop I μ ((hI _).2 ⟨0, 0, by simp [X.den], by omega⟩) ?_
  intro vs hvl hv
  obtain ⟨i, t, rfl, hinv⟩ := (hI _).1 hv
  clear hv
  apply sayR_den (φ := (phi_192))
  by_cases hlt : i < 6
  · have hz : IntKind.i64.wrap ((i : Int) + 1) = ((i + 1 : Nat) : Int) := by (first | omega | (simp only [IntKind.wrap_i64, maxL] at *; omega) | (simp [IntKind.wrap_i64, maxL] at *; omega))
    have hlt2 : (i : Int) < 6 := by omega
    simp [e_n, tree_192, T.sayR, inK_i64_iff, RS.oks, RS.ok, CK.okD, X.den, O1.den, O2.den, O3.den, callD, XArg.ev, XArg.dat, Callee'.num, backs, DArg.back, Conds.den, cloArgs, phi_192, hlt, hlt2, hz]
    (repeat' (first | (with_reducible apply And.intro) | intro _)) <;> first | (exact (hI _).2 ⟨i + 1, _, rfl, by omega⟩) | (rw [hμ, hμ]; simp; omega) | (first | (with_reducible assumption) | (with_reducible exact trivial) | (first | ((with_reducible refine ⟨?_⟩); simp [e_n, tree_192, T.sayR, inK_i64_iff, RS.oks, RS.ok, CK.okD, X.den, O1.den, O2.den, O3.den, callD, XArg.ev, XArg.dat, Callee'.num, backs, DArg.back, Conds.den, cloArgs]; intro K hK; (try simp only [phi_192] at hK); intros; first | contradiction | ((with_reducible refine pd_115 _ _ _ ?ho); (case ho => exact hK)) | ((with_reducible refine pd_117 _ _ _ ?ho); (case ho => exact hK)) | ((with_reducible refine pd_189 _ _ ?_ _ ?ho); (case ho => exact hK); all_goals (exact (by first | (with_reducible assumption) | omega | assumption | (simp; done) | (simp; omega) | (simp [*]; done) | exact smallE_of (n := 1048576) (by omega) (by omega) | (simp [*] at *; omega) | grind [szS]))) | (exact pd_115 _ _ _ hK) | (exact pd_117 _ _ _ hK) | (exact pd_189 _ _ (by first | (with_reducible assumption) | omega | assumption | (simp; done) | (simp; omega) | (simp [*]; done) | exact smallE_of (n := 1048576) (by omega) (by omega) | (simp [*] at *; omega) | grind [szS]) _ hK)) | ((with_reducible show CallIn _ _ _ _ _); first | (refine .inr ⟨_, rfl, fun K hK => hK⟩) | (refine .inr ⟨_, rfl, fun K hK => hK true⟩) | (refine .inr ⟨_, rfl, fun K hK => hK 0 (by simp)⟩))) | omega | (simp only [IntKind.wrap_i64, maxL] at *; omega) | assumption | rfl | contradiction | grind) | skip
  · have : i = 6 := by omega
    subst this
    simp [e_n, tree_192, T.sayR, inK_i64_iff, RS.oks, RS.ok, CK.okD, X.den, O1.den, O2.den, O3.den, callD, XArg.ev, XArg.dat, Callee'.num, backs, DArg.back, Conds.den, cloArgs, phi_192]
    (repeat' (first | (with_reducible apply And.intro) | intro _)) <;> first | (first | (with_reducible assumption) | (with_reducible exact trivial) | (first | ((with_reducible refine ⟨?_⟩); simp [e_n, tree_192, T.sayR, inK_i64_iff, RS.oks, RS.ok, CK.okD, X.den, O1.den, O2.den, O3.den, callD, XArg.ev, XArg.dat, Callee'.num, backs, DArg.back, Conds.den, cloArgs]; intro K hK; (try simp only [phi_192] at hK); intros; first | contradiction | ((with_reducible refine pd_115 _ _ _ ?ho); (case ho => exact hK)) | ((with_reducible refine pd_117 _ _ _ ?ho); (case ho => exact hK)) | ((with_reducible refine pd_189 _ _ ?_ _ ?ho); (case ho => exact hK); all_goals (exact (by first | (with_reducible assumption) | omega | assumption | (simp; done) | (simp; omega) | (simp [*]; done) | exact smallE_of (n := 1048576) (by omega) (by omega) | (simp [*] at *; omega) | grind [szS]))) | (exact pd_115 _ _ _ hK) | (exact pd_117 _ _ _ hK) | (exact pd_189 _ _ (by first | (with_reducible assumption) | omega | assumption | (simp; done) | (simp; omega) | (simp [*]; done) | exact smallE_of (n := 1048576) (by omega) (by omega) | (simp [*] at *; omega) | grind [szS]) _ hK)) | ((with_reducible show CallIn _ _ _ _ _); first | (refine .inr ⟨_, rfl, fun K hK => hK⟩) | (refine .inr ⟨_, rfl, fun K hK => hK true⟩) | (refine .inr ⟨_, rfl, fun K hK => hK 0 (by simp)⟩))) | omega | (simp only [IntKind.wrap_i64, maxL] at *; omega) | assumption | rfl | contradiction | grind) | (refine ⟨_, ?_, rfl⟩; simp; (first | omega | (simp only [IntKind.wrap_i64, maxL] at *; omega) | (simp [IntKind.wrap_i64, maxL] at *; omega))) | skip
theorem pd_192 (c n : D) (Q : List D → Prop) (ho : ∀ (p : D), (-1 ≤ (p.fld 2).toI) → Q [p]) : PC Try.prog 192 [.cur c, .sc (.int .i64) n] [.st [(.int .i64), (.int .i64), (.int .i64), (.int .i64), (.int .i64), (.int .i64), (.int .i64), (.int .i64), (.int .i64), (.int .i64), (.int .i64), .bool, .bool]] Q := (pc_192 c n).mono (by rintro _ ⟨p, hc, rfl⟩; exact ho p hc)
/- spec.l5Draw -/
def phi_119 : Nat → List D → (List D → Prop) → Prop
  | 117, [c, n], K => ∀ (m : Int), (0 ≤ m ∧ m ≤ 16777215 ∧ (0 < n.toI → m < n.toI) ∧ (n.toI ≤ 0 → m = 0)) → K [.int m]
  | 189, [c, l], K => ∀ (m : Int), (oneOf l m) → K [.int m]
  | 191, [n], K => ∀ (s : D), ((s.fld 0).toL = [] ∧ 2 ≤ (s.fld 1).toL.length ∧ (s.fld 1).toL.length ≤ 3) → K [s]
  | 192, [c, n], K => ∀ (p : D), (-1 ≤ (p.fld 2).toI) → K [p]
  | _, _, _ => False
theorem pc_119 (c : D) : PC Try.prog 119 [.cur c] [.st [(.sl [(.int .i64), (.int .i64), (.int .i64), (.int .i64), (.int .i64), (.int .i64), (.int .i64), (.int .i64), (.int .i64), (.int .i64), (.int .i64), .bool, .bool]), (.sl [(.int .i64), (.int .i64), .bool]), (.int .i64), (.int .i64)]] fun o => ∃ (s : D), (stateN 5 3 s) ∧ o = [s] := by
  refine PC.of_sigK mix sig_119 ⟨trivial, trivial⟩ rfl fun hok ci ch hci hcn hch => ?_
  apply sayR_den (φ := (phi_119))
  simp [tree_119, T.sayR, inK_i64_iff, RS.oks, RS.ok, CK.okD, X.den, O1.den, O2.den, O3.den, callD, XArg.ev, XArg.dat, Callee'.num, backs, DArg.back, Conds.den, cloArgs, phi_119]
  (repeat' (first | (with_reducible apply And.intro) | intro _)) <;> first | (first | (with_reducible assumption) | (with_reducible exact trivial) | (first | ((with_reducible refine ⟨?_⟩); simp [tree_119, T.sayR, inK_i64_iff, RS.oks, RS.ok, CK.okD, X.den, O1.den, O2.den, O3.den, callD, XArg.ev, XArg.dat, Callee'.num, backs, DArg.back, Conds.den, cloArgs]; intro K hK; (try simp only [phi_119] at hK); intros; first | contradiction | ((with_reducible refine pd_117 _ _ _ ?ho); (case ho => exact hK)) | ((with_reducible refine pd_189 _ _ ?_ _ ?ho); (case ho => exact hK); all_goals (exact (by first | (with_reducible assumption) | omega | assumption | (simp; done) | (simp; omega) | (simp [*]; done) | exact smallE_of (n := 1048576) (by omega) (by omega) | (simp [*] at *; omega) | grind [szS]))) | ((with_reducible refine pd_191 _ _ ?ho); (case ho => exact hK)) | ((with_reducible refine pd_192 _ _ _ ?ho); (case ho => exact hK)) | (exact pd_117 _ _ _ hK) | (exact pd_189 _ _ (by first | (with_reducible assumption) | omega | assumption | (simp; done) | (simp; omega) | (simp [*]; done) | exact smallE_of (n := 1048576) (by omega) (by omega) | (simp [*] at *; omega) | grind [szS]) _ hK) | (exact pd_191 _ _ hK) | (exact pd_192 _ _ _ hK)) | ((with_reducible show CallIn _ _ _ _ _); first | (refine .inr ⟨_, rfl, fun K hK => hK⟩) | (refine .inr ⟨_, rfl, fun K hK => hK true⟩) | (refine .inr ⟨_, rfl, fun K hK => hK 0 (by simp)⟩))) | omega | (simp only [IntKind.wrap_i64, maxL] at *; omega) | assumption | rfl | contradiction | grind) | skip
  rename_i s0 hs0 hs1 hs2 hk m1 _ _ _ _ _ m2 _ _ _ _ _
  have e1 := sl_eta (okL_at hk (i := 1) rfl)
  have e0 : s0.fld 0 = .lst [] := by rw [← sl_eta (okL_at hk (i := 0) rfl), hs0]
  obtain ⟨I, hI⟩ : ∃ I : List D → Prop, ∀ vs, I vs ↔ ∃ (i : Nat) (l : List D), vs = [.int i, .lst l] ∧ i ≤ 2 ∧ 2 ≤ l.length ∧ l.length ≤ 3 := ⟨_, fun _ => Iff.rfl⟩
  obtain ⟨μ, hμ⟩ : ∃ μ : List D → Nat, ∀ vs, μ vs = 2 - ((vs.getD 0 default).toI).toNat := ⟨_, fun _ => rfl⟩
  refine den_loop I μ ((hI _).2 ⟨0, (s0.fld 1).toL, by simp [X.den, O1.den, e1], by omega, hs1, hs2⟩) ?_
  intro vs hvl hv
  obtain ⟨i, l, rfl, hinv⟩ := (hI _).1 hv
  clear hv
  apply sayR_den (φ := (phi_119))
  by_cases hlt : i < 2
  · have hz : IntKind.i64.wrap ((i : Int) + 1) = ((i + 1 : Nat) : Int) := by (first | omega | (simp only [IntKind.wrap_i64, maxL] at *; omega) | (simp [IntKind.wrap_i64, maxL] at *; omega))
    have hlt2 : (i : Int) < 2 := by omega
    have hl2 : i < l.length := by omega
    simp [tree_119, T.sayR, inK_i64_iff, RS.oks, RS.ok, CK.okD, X.den, O1.den, O2.den, O3.den, callD, XArg.ev, XArg.dat, Callee'.num, backs, DArg.back, Conds.den, cloArgs, phi_119, hlt, hlt2, hz, hl2]
    (repeat' (first | (with_reducible apply And.intro) | intro _)) <;> first | (exact (hI _).2 ⟨i + 1, _, rfl, by omega, by simp; omega, by simp; omega⟩) | (rw [hμ, hμ]; simp; omega) | (first | (with_reducible assumption) | (with_reducible exact trivial) | (first | ((with_reducible refine ⟨?_⟩); simp [tree_119, T.sayR, inK_i64_iff, RS.oks, RS.ok, CK.okD, X.den, O1.den, O2.den, O3.den, callD, XArg.ev, XArg.dat, Callee'.num, backs, DArg.back, Conds.den, cloArgs]; intro K hK; (try simp only [phi_119] at hK); intros; first | contradiction | ((with_reducible refine pd_117 _ _ _ ?ho); (case ho => exact hK)) | ((with_reducible refine pd_189 _ _ ?_ _ ?ho); (case ho => exact hK); all_goals (exact (by first | (with_reducible assumption) | omega | assumption | (simp; done) | (simp; omega) | (simp [*]; done) | exact smallE_of (n := 1048576) (by omega) (by omega) | (simp [*] at *; omega) | grind [szS]))) | ((with_reducible refine pd_191 _ _ ?ho); (case ho => exact hK)) | ((with_reducible refine pd_192 _ _ _ ?ho); (case ho => exact hK)) | (exact pd_117 _ _ _ hK) | (exact pd_189 _ _ (by first | (with_reducible assumption) | omega | assumption | (simp; done) | (simp; omega) | (simp [*]; done) | exact smallE_of (n := 1048576) (by omega) (by omega) | (simp [*] at *; omega) | grind [szS]) _ hK) | (exact pd_191 _ _ hK) | (exact pd_192 _ _ _ hK)) | ((with_reducible show CallIn _ _ _ _ _); first | (refine .inr ⟨_, rfl, fun K hK => hK⟩) | (refine .inr ⟨_, rfl, fun K hK => hK true⟩) | (refine .inr ⟨_, rfl, fun K hK => hK 0 (by simp)⟩))) | omega | (simp only [IntKind.wrap_i64, maxL] at *; omega) | assumption | rfl | contradiction | grind) | skip
  · have : i = 2 := by omega
    subst this
    simp [tree_119, T.sayR, inK_i64_iff, RS.oks, RS.ok, CK.okD, X.den, O1.den, O2.den, O3.den, callD, XArg.ev, XArg.dat, Callee'.num, backs, DArg.back, Conds.den, cloArgs, phi_119]
    (repeat' (first | (with_reducible apply And.intro) | intro _)) <;> first | (first | (with_reducible assumption) | (with_reducible exact trivial) | (first | ((with_reducible refine ⟨?_⟩); simp [tree_119, T.sayR, inK_i64_iff, RS.oks, RS.ok, CK.okD, X.den, O1.den, O2.den, O3.den, callD, XArg.ev, XArg.dat, Callee'.num, backs, DArg.back, Conds.den, cloArgs]; intro K hK; (try simp only [phi_119] at hK); intros; first | contradiction | ((with_reducible refine pd_117 _ _ _ ?ho); (case ho => exact hK)) | ((with_reducible refine pd_189 _ _ ?_ _ ?ho); (case ho => exact hK); all_goals (exact (by first | (with_reducible assumption) | omega | assumption | (simp; done) | (simp; omega) | (simp [*]; done) | exact smallE_of (n := 1048576) (by omega) (by omega) | (simp [*] at *; omega) | grind [szS]))) | ((with_reducible refine pd_191 _ _ ?ho); (case ho => exact hK)) | ((with_reducible refine pd_192 _ _ _ ?ho); (case ho => exact hK)) | (exact pd_117 _ _ _ hK) | (exact pd_189 _ _ (by first | (with_reducible assumption) | omega | assumption | (simp; done) | (simp; omega) | (simp [*]; done) | exact smallE_of (n := 1048576) (by omega) (by omega) | (simp [*] at *; omega) | grind [szS]) _ hK) | (exact pd_191 _ _ hK) | (exact pd_192 _ _ _ hK)) | ((with_reducible show CallIn _ _ _ _ _); first | (refine .inr ⟨_, rfl, fun K hK => hK⟩) | (refine .inr ⟨_, rfl, fun K hK => hK true⟩) | (refine .inr ⟨_, rfl, fun K hK => hK 0 (by simp)⟩))) | omega | (simp only [IntKind.wrap_i64, maxL] at *; omega) | assumption | rfl | contradiction | grind) | skip
    rename_i m3 h30 _ h34 _ _
    obtain ⟨k, hk3⟩ : ∃ k : Nat, m3 = k := ⟨m3.toNat, by omega⟩
    subst hk3
    have hw : IntKind.i64.wrap (1 + (k : Int)) = ((k + 1 : Nat) : Int) := by (first | omega | (simp only [IntKind.wrap_i64, maxL] at *; omega) | (simp [IntKind.wrap_i64, maxL] at *; omega))
    obtain ⟨I, hI⟩ : ∃ I : List D → Prop, ∀ vs, I vs ↔ ∃ (q : Int) (j : Nat) (ps : List D), vs = [.int q, .int j, .lst ps] ∧ ps.length + j = k + 1 ∧ ∀ x ∈ ps, -1 ≤ (x.fld 2).toI := ⟨_, fun _ => Iff.rfl⟩
    obtain ⟨μ, hμ⟩ : ∃ μ : List D → Nat, ∀ vs, μ vs = ((vs.getD 1 default).toI).toNat := ⟨_, fun _ => rfl⟩
    refine den_loop I μ ((hI _).2 ⟨0, k + 1, [], by simp [X.den, O1.den, O2.den, e0, hw], by simp, by simp⟩) ?_
    intro vs hvl hv
    obtain ⟨q, j, ps, rfl, hinv⟩ := (hI _).1 hv
    clear hv
    apply sayR_den (φ := (phi_119))
    cases j with
    | succ j =>
      have hz : IntKind.i64.wrap (j : Int) = j := by (first | omega | (simp only [IntKind.wrap_i64, maxL] at *; omega) | (simp [IntKind.wrap_i64, maxL] at *; omega))
      have hp : (0 : Int) < (j : Int) + 1 := by omega
      simp [tree_119, T.sayR, inK_i64_iff, RS.oks, RS.ok, CK.okD, X.den, O1.den, O2.den, O3.den, callD, XArg.ev, XArg.dat, Callee'.num, backs, DArg.back, Conds.den, cloArgs, phi_119, hz, hp]
      (repeat' (first | (with_reducible apply And.intro) | intro _)) <;> first | ((with_reducible refine (hI _).2 ?_); refine ⟨_, j, _, rfl, (by simp only [List.length_append, List.length_singleton]; omega), sides_app hinv.2 ?_⟩; first | (rename_i h _; exact h) | (rename_i h _ _; exact h)) | (rw [hμ, hμ]; simp <;> omega) | (first | (with_reducible assumption) | (with_reducible exact trivial) | (first | ((with_reducible refine ⟨?_⟩); simp [tree_119, T.sayR, inK_i64_iff, RS.oks, RS.ok, CK.okD, X.den, O1.den, O2.den, O3.den, callD, XArg.ev, XArg.dat, Callee'.num, backs, DArg.back, Conds.den, cloArgs]; intro K hK; (try simp only [phi_119] at hK); intros; first | contradiction | ((with_reducible refine pd_117 _ _ _ ?ho); (case ho => exact hK)) | ((with_reducible refine pd_189 _ _ ?_ _ ?ho); (case ho => exact hK); all_goals (exact (by first | (with_reducible assumption) | omega | assumption | (simp; done) | (simp; omega) | (simp [*]; done) | exact smallE_of (n := 1048576) (by omega) (by omega) | (simp [*] at *; omega) | grind [szS]))) | ((with_reducible refine pd_191 _ _ ?ho); (case ho => exact hK)) | ((with_reducible refine pd_192 _ _ _ ?ho); (case ho => exact hK)) | (exact pd_117 _ _ _ hK) | (exact pd_189 _ _ (by first | (with_reducible assumption) | omega | assumption | (simp; done) | (simp; omega) | (simp [*]; done) | exact smallE_of (n := 1048576) (by omega) (by omega) | (simp [*] at *; omega) | grind [szS]) _ hK) | (exact pd_191 _ _ hK) | (exact pd_192 _ _ _ hK)) | ((with_reducible show CallIn _ _ _ _ _); first | (refine .inr ⟨_, rfl, fun K hK => hK⟩) | (refine .inr ⟨_, rfl, fun K hK => hK true⟩) | (refine .inr ⟨_, rfl, fun K hK => hK 0 (by simp)⟩))) | omega | (simp only [IntKind.wrap_i64, maxL] at *; omega) | assumption | rfl | contradiction | grind) | skip
    | zero =>
      simp [tree_119, T.sayR, inK_i64_iff, RS.oks, RS.ok, CK.okD, X.den, O1.den, O2.den, O3.den, callD, XArg.ev, XArg.dat, Callee'.num, backs, DArg.back, Conds.den, cloArgs, phi_119]
      exact stateN_mk (by omega) (by omega) (by omega) (by omega) hinv.2
theorem pd_119 (c : D) (Q : List D → Prop) (ho : ∀ (s : D), (stateN 5 3 s) → Q [s]) : PC Try.prog 119 [.cur c] [.st [(.sl [(.int .i64), (.int .i64), (.int .i64), (.int .i64), (.int .i64), (.int .i64), (.int .i64), (.int .i64), (.int .i64), (.int .i64), (.int .i64), .bool, .bool]), (.sl [(.int .i64), (.int .i64), .bool]), (.int .i64), (.int .i64)]] Q := (pc_119 c).mono (by rintro _ ⟨s, hc, rfl⟩; exact ho s hc)
/- spec.l1Odd -/
def phi_116 : Nat → List D → (List D → Prop) → Prop
  | 189, [c, l], K => ∀ (m : Int), (oneOf l m) → K [.int m]
  | _, _, _ => False
theorem pc_116 (c : D) : PC Try.prog 116 [.cur c] [.sc (.int .i64)] fun o => ∃ (m : Int), o = [.int m] := by
  refine PC.of_sigK mix sig_116 ⟨trivial, trivial⟩ rfl fun hok ci ch hci hcn hch => ?_
  apply sayR_den (φ := (phi_116))
  simp [tree_116, T.sayR, inK_i64_iff, RS.oks, RS.ok, CK.okD, X.den, O1.den, O2.den, O3.den, callD, XArg.ev, XArg.dat, Callee'.num, backs, DArg.back, Conds.den, cloArgs, phi_116]
  all_goals ((repeat' (first | (with_reducible apply And.intro) | intro _)) <;> (first | (with_reducible assumption) | (with_reducible exact trivial) | (first | ((with_reducible refine ⟨?_⟩); simp [tree_116, T.sayR, inK_i64_iff, RS.oks, RS.ok, CK.okD, X.den, O1.den, O2.den, O3.den, callD, XArg.ev, XArg.dat, Callee'.num, backs, DArg.back, Conds.den, cloArgs]; intro K hK; (try simp only [phi_116] at hK); intros; first | contradiction | ((with_reducible refine pd_189 _ _ ?_ _ ?ho); (case ho => exact hK); all_goals (exact (by first | (with_reducible assumption) | omega | assumption | (simp; done) | (simp; omega) | (simp [*]; done) | exact smallE_of (n := 1048576) (by omega) (by omega) | (simp [*] at *; omega) | grind [szS]))) | (exact pd_189 _ _ (by first | (with_reducible assumption) | omega | assumption | (simp; done) | (simp; omega) | (simp [*]; done) | exact smallE_of (n := 1048576) (by omega) (by omega) | (simp [*] at *; omega) | grind [szS]) _ hK)) | ((with_reducible show CallIn _ _ _ _ _); first | (refine .inr ⟨_, rfl, fun K hK => hK⟩) | (refine .inr ⟨_, rfl, fun K hK => hK true⟩) | (refine .inr ⟨_, rfl, fun K hK => hK 0 (by simp)⟩))) | omega | (simp only [IntKind.wrap_i64, maxL] at *; omega) | assumption | rfl | contradiction | grind))
theorem pd_116 (c : D) (Q : List D → Prop) (ho : ∀ (m : Int), Q [.int m]) : PC Try.prog 116 [.cur c] [.sc (.int .i64)] Q := (pc_116 c).mono (by rintro _ ⟨m, rfl⟩; exact ho m)
/- spec.l1Raw -/
def phi_133 : Nat → List D → (List D → Prop) → Prop
  | 115, [c, n], K => ∀ (b : Bool), K [.bool b]
  | 116, [c], K => ∀ (m : Int), K [.int m]
  | 189, [c, l], K => ∀ (m : Int), (oneOf l m) → K [.int m]
  | _, _, _ => False
theorem pc_133 (c : D) : PC Try.prog 133 [.cur c] [.sc (.int .i64)] fun o => ∃ (m : Int), o = [.int m] := by
  refine PC.of_sigK mix sig_133 ⟨trivial, trivial⟩ rfl fun hok ci ch hci hcn hch => ?_
  apply sayR_den (φ := (phi_133))
  simp [tree_133, T.sayR, inK_i64_iff, RS.oks, RS.ok, CK.okD, X.den, O1.den, O2.den, O3.den, callD, XArg.ev, XArg.dat, Callee'.num, backs, DArg.back, Conds.den, cloArgs, phi_133]
  all_goals ((repeat' (first | (with_reducible apply And.intro) | intro _)) <;> (first | (with_reducible assumption) | (with_reducible exact trivial) | (first | ((with_reducible refine ⟨?_⟩); simp [tree_133, T.sayR, inK_i64_iff, RS.oks, RS.ok, CK.okD, X.den, O1.den, O2.den, O3.den, callD, XArg.ev, XArg.dat, Callee'.num, backs, DArg.back, Conds.den, cloArgs]; intro K hK; (try simp only [phi_133] at hK); intros; first | contradiction | ((with_reducible refine pd_115 _ _ _ ?ho); (case ho => exact hK)) | ((with_reducible refine pd_116 _ _ ?ho); (case ho => exact hK)) | ((with_reducible refine pd_189 _ _ ?_ _ ?ho); (case ho => exact hK); all_goals (exact (by first | (with_reducible assumption) | omega | assumption | (simp; done) | (simp; omega) | (simp [*]; done) | exact smallE_of (n := 1048576) (by omega) (by omega) | (simp [*] at *; omega) | grind [szS]))) | (exact pd_115 _ _ _ hK) | (exact pd_116 _ _ hK) | (exact pd_189 _ _ (by first | (with_reducible assumption) | omega | assumption | (simp; done) | (simp; omega) | (simp [*]; done) | exact smallE_of (n := 1048576) (by omega) (by omega) | (simp [*] at *; omega) | grind [szS]) _ hK)) | ((with_reducible show CallIn _ _ _ _ _); first | (refine .inr ⟨_, rfl, fun K hK => hK⟩) | (refine .inr ⟨_, rfl, fun K hK => hK true⟩) | (refine .inr ⟨_, rfl, fun K hK => hK 0 (by simp)⟩))) | omega | (simp only [IntKind.wrap_i64, maxL] at *; omega) | assumption | rfl | contradiction | grind))
theorem pd_133 (c : D) (Q : List D → Prop) (ho : ∀ (m : Int), Q [.int m]) : PC Try.prog 133 [.cur c] [.sc (.int .i64)] Q := (pc_133 c).mono (by rintro _ ⟨m, rfl⟩; exact ho m)
/- spec.l6Id -/
def phi_199 : Nat → List D → (List D → Prop) → Prop
  | 115, [c, n], K => ∀ (b : Bool), K [.bool b]
  | 117, [c, n], K => ∀ (m : Int), (0 ≤ m ∧ m ≤ 16777215 ∧ (0 < n.toI → m < n.toI) ∧ (n.toI ≤ 0 → m = 0)) → K [.int m]
  | _, _, _ => False
theorem pc_199 (c s : D) : PC Try.prog 199 [.cur c, .st [(.sl [(.int .i64), (.int .i64), (.int .i64), (.int .i64), (.int .i64), (.int .i64), (.int .i64), (.int .i64), (.int .i64), (.int .i64), (.int .i64), .bool, .bool]), (.sl [(.int .i64), (.int .i64), .bool]), (.int .i64), (.int .i64)] s] [.sc (.int .i64)] fun o => ∃ (m : Int), o = [.int m] := by
  refine PC.of_sigK mix sig_199 ⟨trivial, rfl, trivial⟩ rfl fun hok ci ch hci hcn hch => ?_
  have e_s : D.lst [s.fld 0, s.fld 1, s.fld 2, s.fld 3] = s := by simpa [List.range, List.range.loop] using okL_eta (hok _ (.head _))
  have k_s : okL [(.sl [(.int .i64), (.int .i64), (.int .i64), (.int .i64), (.int .i64), (.int .i64), (.int .i64), (.int .i64), (.int .i64), (.int .i64), (.int .i64), .bool, .bool]), (.sl [(.int .i64), (.int .i64), .bool]), (.int .i64), (.int .i64)] s := (hok _ (.head _))
  have e_s_0 : D.lst (s.fld 0).toL = s.fld 0 := sl_eta (okL_at k_s (i := 0) rfl)
  have l_s_0 := sl_len (okL_at k_s (i := 0) rfl)
  have k_s_0 := sl_all (okL_at k_s (i := 0) rfl)
  have E_s_0 : ∀ i, i < (s.fld 0).toL.length → D.lst [((s.fld 0).elem i).fld 0, ((s.fld 0).elem i).fld 1, ((s.fld 0).elem i).fld 2, ((s.fld 0).elem i).fld 3, ((s.fld 0).elem i).fld 4, ((s.fld 0).elem i).fld 5, ((s.fld 0).elem i).fld 6, ((s.fld 0).elem i).fld 7, ((s.fld 0).elem i).fld 8, ((s.fld 0).elem i).fld 9, ((s.fld 0).elem i).fld 10, ((s.fld 0).elem i).fld 11, ((s.fld 0).elem i).fld 12] = (s.fld 0).elem i := fun i hi => by simpa [List.range, List.range.loop] using okL_eta (k_s_0 _ (elem_mem hi))
  have e_s_1 : D.lst (s.fld 1).toL = s.fld 1 := sl_eta (okL_at k_s (i := 1) rfl)
  have l_s_1 := sl_len (okL_at k_s (i := 1) rfl)
  have k_s_1 := sl_all (okL_at k_s (i := 1) rfl)
  have E_s_1 : ∀ i, i < (s.fld 1).toL.length → D.lst [((s.fld 1).elem i).fld 0, ((s.fld 1).elem i).fld 1, ((s.fld 1).elem i).fld 2] = (s.fld 1).elem i := fun i hi => by simpa [List.range, List.range.loop] using okL_eta (k_s_1 _ (elem_mem hi))
  apply sayR_den (φ := (phi_199))
  have hin : ∀ i : Nat, i < (s.fld 0).toL.length → ∃ m : Int, ((s.fld 0).elem i).fld 0 = .int m := fun i hi => ⟨_, (int_eta (okL_at (k_s_0 _ (elem_mem hi)) (i := 0) rfl)).symm⟩
  by_cases hp : 0 < (s.fld 0).toL.length
  · simp [e_s_0, E_s_0, e_s_1, E_s_1, e_s, tree_199, T.sayR, inK_i64_iff, RS.oks, RS.ok, CK.okD, X.den, O1.den, O2.den, O3.den, callD, XArg.ev, XArg.dat, Callee'.num, backs, DArg.back, Conds.den, cloArgs, phi_199, hp]
    (repeat' (first | (with_reducible apply And.intro) | intro _)) <;> first | omega | (exact hin _ (by omega)) | (first | (with_reducible assumption) | (with_reducible exact trivial) | (first | ((with_reducible refine ⟨?_⟩); simp [e_s_0, E_s_0, e_s_1, E_s_1, e_s, tree_199, T.sayR, inK_i64_iff, RS.oks, RS.ok, CK.okD, X.den, O1.den, O2.den, O3.den, callD, XArg.ev, XArg.dat, Callee'.num, backs, DArg.back, Conds.den, cloArgs]; intro K hK; (try simp only [phi_199] at hK); intros; first | contradiction | ((with_reducible refine pd_115 _ _ _ ?ho); (case ho => exact hK)) | ((with_reducible refine pd_117 _ _ _ ?ho); (case ho => exact hK)) | (exact pd_115 _ _ _ hK) | (exact pd_117 _ _ _ hK)) | ((with_reducible show CallIn _ _ _ _ _); first | (refine .inr ⟨_, rfl, fun K hK => hK⟩) | (refine .inr ⟨_, rfl, fun K hK => hK true⟩) | (refine .inr ⟨_, rfl, fun K hK => hK 0 (by simp)⟩))) | omega | (simp only [IntKind.wrap_i64, maxL] at *; omega) | assumption | rfl | contradiction | grind) | skip
  · have he : (s.fld 0).toL = [] := by cases h : (s.fld 0).toL <;> simp_all
    simp [e_s_0, E_s_0, e_s_1, E_s_1, e_s, tree_199, T.sayR, inK_i64_iff, RS.oks, RS.ok, CK.okD, X.den, O1.den, O2.den, O3.den, callD, XArg.ev, XArg.dat, Callee'.num, backs, DArg.back, Conds.den, cloArgs, phi_199, he]
    (repeat' (first | (with_reducible apply And.intro) | intro _)) <;> first | omega | (first | (with_reducible assumption) | (with_reducible exact trivial) | (first | ((with_reducible refine ⟨?_⟩); simp [e_s_0, E_s_0, e_s_1, E_s_1, e_s, tree_199, T.sayR, inK_i64_iff, RS.oks, RS.ok, CK.okD, X.den, O1.den, O2.den, O3.den, callD, XArg.ev, XArg.dat, Callee'.num, backs, DArg.back, Conds.den, cloArgs]; intro K hK; (try simp only [phi_199] at hK); intros; first | contradiction | ((with_reducible refine pd_115 _ _ _ ?ho); (case ho => exact hK)) | ((with_reducible refine pd_117 _ _ _ ?ho); (case ho => exact hK)) | (exact pd_115 _ _ _ hK) | (exact pd_117 _ _ _ hK)) | ((with_reducible show CallIn _ _ _ _ _); first | (refine .inr ⟨_, rfl, fun K hK => hK⟩) | (refine .inr ⟨_, rfl, fun K hK => hK true⟩) | (refine .inr ⟨_, rfl, fun K hK => hK 0 (by simp)⟩))) | omega | (simp only [IntKind.wrap_i64, maxL] at *; omega) | assumption | rfl | contradiction | grind) | skip
theorem pd_199 (c s : D) (Q : List D → Prop) (ho : ∀ (m : Int), Q [.int m]) : PC Try.prog 199 [.cur c, .st [(.sl [(.int .i64), (.int .i64), (.int .i64), (.int .i64), (.int .i64), (.int .i64), (.int .i64), (.int .i64), (.int .i64), (.int .i64), (.int .i64), .bool, .bool]), (.sl [(.int .i64), (.int .i64), .bool]), (.int .i64), (.int .i64)] s] [.sc (.int .i64)] Q := (pc_199 c s).mono (by rintro _ ⟨m, rfl⟩; exact ho m)
/- spec.l7Draw -/
def phi_193 : Nat → List D → (List D → Prop) → Prop
  | 115, [c, n], K => ∀ (b : Bool), K [.bool b]
  | 189, [c, l], K => ∀ (m : Int), (oneOf l m) → K [.int m]
  | 199, [c, s], K => ∀ (m : Int), K [.int m]
  | _, _, _ => False
theorem pc_193 (c s : D) : PC Try.prog 193 [.cur c, .st [(.sl [(.int .i64), (.int .i64), (.int .i64), (.int .i64), (.int .i64), (.int .i64), (.int .i64), (.int .i64), (.int .i64), (.int .i64), (.int .i64), .bool, .bool]), (.sl [(.int .i64), (.int .i64), .bool]), (.int .i64), (.int .i64)] s] [.st [(.int .i64), (.int .i64), (.int .i64), (.int .i64), (.int .i64), (.int .i64), (.int .i64)]] fun o => ∃ (p : D), o = [p] := by
  refine PC.of_sigK mix sig_193 ⟨trivial, rfl, trivial⟩ rfl fun hok ci ch hci hcn hch => ?_
  have e_s : D.lst [s.fld 0, s.fld 1, s.fld 2, s.fld 3] = s := by simpa [List.range, List.range.loop] using okL_eta (hok _ (.head _))
  have k_s : okL [(.sl [(.int .i64), (.int .i64), (.int .i64), (.int .i64), (.int .i64), (.int .i64), (.int .i64), (.int .i64), (.int .i64), (.int .i64), (.int .i64), .bool, .bool]), (.sl [(.int .i64), (.int .i64), .bool]), (.int .i64), (.int .i64)] s := (hok _ (.head _))
  have e_s_0 : D.lst (s.fld 0).toL = s.fld 0 := sl_eta (okL_at k_s (i := 0) rfl)
  have l_s_0 := sl_len (okL_at k_s (i := 0) rfl)
  have k_s_0 := sl_all (okL_at k_s (i := 0) rfl)
  have E_s_0 : ∀ i, i < (s.fld 0).toL.length → D.lst [((s.fld 0).elem i).fld 0, ((s.fld 0).elem i).fld 1, ((s.fld 0).elem i).fld 2, ((s.fld 0).elem i).fld 3, ((s.fld 0).elem i).fld 4, ((s.fld 0).elem i).fld 5, ((s.fld 0).elem i).fld 6, ((s.fld 0).elem i).fld 7, ((s.fld 0).elem i).fld 8, ((s.fld 0).elem i).fld 9, ((s.fld 0).elem i).fld 10, ((s.fld 0).elem i).fld 11, ((s.fld 0).elem i).fld 12] = (s.fld 0).elem i := fun i hi => by simpa [List.range, List.range.loop] using okL_eta (k_s_0 _ (elem_mem hi))
  have e_s_1 : D.lst (s.fld 1).toL = s.fld 1 := sl_eta (okL_at k_s (i := 1) rfl)
  have l_s_1 := sl_len (okL_at k_s (i := 1) rfl)
  have k_s_1 := sl_all (okL_at k_s (i := 1) rfl)
  have E_s_1 : ∀ i, i < (s.fld 1).toL.length → D.lst [((s.fld 1).elem i).fld 0, ((s.fld 1).elem i).fld 1, ((s.fld 1).elem i).fld 2] = (s.fld 1).elem i := fun i hi => by simpa [List.range, List.range.loop] using okL_eta (k_s_1 _ (elem_mem hi))
  apply sayR_den (φ := (phi_193))
  simp (config := { maxSteps := 2000000 }) [e_s_0, E_s_0, e_s_1, E_s_1, e_s, tree_193, T.sayR, inK_i64_iff, RS.oks, RS.ok, CK.okD, X.den, O1.den, O2.den, O3.den, callD, XArg.ev, XArg.dat, Callee'.num, backs, DArg.back, Conds.den, cloArgs, phi_193]
  (repeat' (first | (with_reducible apply And.intro) | intro _)) <;> first | (first | ((with_reducible refine ⟨?_⟩); simp [e_s_0, E_s_0, e_s_1, E_s_1, e_s, tree_193, T.sayR, inK_i64_iff, RS.oks, RS.ok, CK.okD, X.den, O1.den, O2.den, O3.den, callD, XArg.ev, XArg.dat, Callee'.num, backs, DArg.back, Conds.den, cloArgs]; intro K hK; (try simp only [phi_193] at hK); intros; first | contradiction | ((with_reducible refine pd_115 _ _ _ ?ho); (case ho => exact hK)) | ((with_reducible refine pd_189 _ _ ?_ _ ?ho); (case ho => exact hK); all_goals (exact (by first | (with_reducible assumption) | omega | assumption | (simp; done) | (simp; omega) | (simp [*]; done) | exact smallE_of (n := 1048576) (by omega) (by omega) | (simp [*] at *; omega) | grind [szS]))) | ((with_reducible refine pd_199 _ _ _ ?ho); (case ho => exact hK)) | (exact pd_115 _ _ _ hK) | (exact pd_189 _ _ (by first | (with_reducible assumption) | omega | assumption | (simp; done) | (simp; omega) | (simp [*]; done) | exact smallE_of (n := 1048576) (by omega) (by omega) | (simp [*] at *; omega) | grind [szS]) _ hK) | (exact pd_199 _ _ _ hK)) | ((with_reducible show CallIn _ _ _ _ _); first | (refine .inr ⟨_, rfl, fun K hK => hK⟩) | (refine .inr ⟨_, rfl, fun K hK => hK true⟩) | (refine .inr ⟨_, rfl, fun K hK => hK 0 (by simp)⟩))) | exact ⟨_, rfl⟩ | (first | (with_reducible assumption) | (with_reducible exact trivial) | (first | ((with_reducible refine ⟨?_⟩); simp [e_s_0, E_s_0, e_s_1, E_s_1, e_s, tree_193, T.sayR, inK_i64_iff, RS.oks, RS.ok, CK.okD, X.den, O1.den, O2.den, O3.den, callD, XArg.ev, XArg.dat, Callee'.num, backs, DArg.back, Conds.den, cloArgs]; intro K hK; (try simp only [phi_193] at hK); intros; first | contradiction | ((with_reducible refine pd_115 _ _ _ ?ho); (case ho => exact hK)) | ((with_reducible refine pd_189 _ _ ?_ _ ?ho); (case ho => exact hK); all_goals (exact (by first | (with_reducible assumption) | omega | assumption | (simp; done) | (simp; omega) | (simp [*]; done) | exact smallE_of (n := 1048576) (by omega) (by omega) | (simp [*] at *; omega) | grind [szS]))) | ((with_reducible refine pd_199 _ _ _ ?ho); (case ho => exact hK)) | (exact pd_115 _ _ _ hK) | (exact pd_189 _ _ (by first | (with_reducible assumption) | omega | assumption | (simp; done) | (simp; omega) | (simp [*]; done) | exact smallE_of (n := 1048576) (by omega) (by omega) | (simp [*] at *; omega) | grind [szS]) _ hK) | (exact pd_199 _ _ _ hK)) | ((with_reducible show CallIn _ _ _ _ _); first | (refine .inr ⟨_, rfl, fun K hK => hK⟩) | (refine .inr ⟨_, rfl, fun K hK => hK true⟩) | (refine .inr ⟨_, rfl, fun K hK => hK 0 (by simp)⟩))) | omega | (simp only [IntKind.wrap_i64, maxL] at *; omega) | assumption | rfl | contradiction | grind) | skip
theorem pd_193 (c s : D) (Q : List D → Prop) (ho : ∀ (p : D), Q [p]) : PC Try.prog 193 [.cur c, .st [(.sl [(.int .i64), (.int .i64), (.int .i64), (.int .i64), (.int .i64), (.int .i64), (.int .i64), (.int .i64), (.int .i64), (.int .i64), (.int .i64), .bool, .bool]), (.sl [(.int .i64), (.int .i64), .bool]), (.int .i64), (.int .i64)] s] [.st [(.int .i64), (.int .i64), (.int .i64), (.int .i64), (.int .i64), (.int .i64), (.int .i64)]] Q := (pc_193 c s).mono (by rintro _ ⟨p, rfl⟩; exact ho p)
/- spec.l7Any -/
def phi_120 : Nat → List D → (List D → Prop) → Prop
  | 117, [c, n], K => ∀ (m : Int), (0 ≤ m ∧ m ≤ 16777215 ∧ (0 < n.toI → m < n.toI) ∧ (n.toI ≤ 0 → m = 0)) → K [.int m]
  | 133, [c], K => ∀ (m : Int), K [.int m]
  | 189, [c, l], K => ∀ (m : Int), (oneOf l m) → K [.int m]
  | 193, [c, s], K => ∀ (p : D), K [p]
  | _, _, _ => False
theorem pc_120 (c s : D) : PC Try.prog 120 [.cur c, .st [(.sl [(.int .i64), (.int .i64), (.int .i64), (.int .i64), (.int .i64), (.int .i64), (.int .i64), (.int .i64), (.int .i64), (.int .i64), (.int .i64), .bool, .bool]), (.sl [(.int .i64), (.int .i64), .bool]), (.int .i64), (.int .i64)] s] [.st [(.int .i64), (.int .i64), (.int .i64), (.int .i64), (.int .i64), (.int .i64), (.int .i64)]] fun o => ∃ (p : D), o = [p] := by
  refine PC.of_sigK mix sig_120 ⟨trivial, rfl, trivial⟩ rfl fun hok ci ch hci hcn hch => ?_
  have e_s : D.lst [s.fld 0, s.fld 1, s.fld 2, s.fld 3] = s := by simpa [List.range, List.range.loop] using okL_eta (hok _ (.head _))
  have k_s : okL [(.sl [(.int .i64), (.int .i64), (.int .i64), (.int .i64), (.int .i64), (.int .i64), (.int .i64), (.int .i64), (.int .i64), (.int .i64), (.int .i64), .bool, .bool]), (.sl [(.int .i64), (.int .i64), .bool]), (.int .i64), (.int .i64)] s := (hok _ (.head _))
  have e_s_0 : D.lst (s.fld 0).toL = s.fld 0 := sl_eta (okL_at k_s (i := 0) rfl)
  have l_s_0 := sl_len (okL_at k_s (i := 0) rfl)
  have k_s_0 := sl_all (okL_at k_s (i := 0) rfl)
  have E_s_0 : ∀ i, i < (s.fld 0).toL.length → D.lst [((s.fld 0).elem i).fld 0, ((s.fld 0).elem i).fld 1, ((s.fld 0).elem i).fld 2, ((s.fld 0).elem i).fld 3, ((s.fld 0).elem i).fld 4, ((s.fld 0).elem i).fld 5, ((s.fld 0).elem i).fld 6, ((s.fld 0).elem i).fld 7, ((s.fld 0).elem i).fld 8, ((s.fld 0).elem i).fld 9, ((s.fld 0).elem i).fld 10, ((s.fld 0).elem i).fld 11, ((s.fld 0).elem i).fld 12] = (s.fld 0).elem i := fun i hi => by simpa [List.range, List.range.loop] using okL_eta (k_s_0 _ (elem_mem hi))
  have e_s_1 : D.lst (s.fld 1).toL = s.fld 1 := sl_eta (okL_at k_s (i := 1) rfl)
  have l_s_1 := sl_len (okL_at k_s (i := 1) rfl)
  have k_s_1 := sl_all (okL_at k_s (i := 1) rfl)
  have E_s_1 : ∀ i, i < (s.fld 1).toL.length → D.lst [((s.fld 1).elem i).fld 0, ((s.fld 1).elem i).fld 1, ((s.fld 1).elem i).fld 2] = (s.fld 1).elem i := fun i hi => by simpa [List.range, List.range.loop] using okL_eta (k_s_1 _ (elem_mem hi))
  apply sayR_den (φ := (phi_120))
  simp [e_s_0, E_s_0, e_s_1, E_s_1, e_s, tree_120, T.sayR, inK_i64_iff, RS.oks, RS.ok, CK.okD, X.den, O1.den, O2.den, O3.den, callD, XArg.ev, XArg.dat, Callee'.num, backs, DArg.back, Conds.den, cloArgs, phi_120]
  (repeat' (first | (with_reducible apply And.intro) | intro _)) <;> first | (first | ((with_reducible refine ⟨?_⟩); simp [e_s_0, E_s_0, e_s_1, E_s_1, e_s, tree_120, T.sayR, inK_i64_iff, RS.oks, RS.ok, CK.okD, X.den, O1.den, O2.den, O3.den, callD, XArg.ev, XArg.dat, Callee'.num, backs, DArg.back, Conds.den, cloArgs]; intro K hK; (try simp only [phi_120] at hK); intros; first | contradiction | ((with_reducible refine pd_117 _ _ _ ?ho); (case ho => exact hK)) | ((with_reducible refine pd_133 _ _ ?ho); (case ho => exact hK)) | ((with_reducible refine pd_189 _ _ ?_ _ ?ho); (case ho => exact hK); all_goals (exact (by first | (with_reducible assumption) | omega | assumption | (simp; done) | (simp; omega) | (simp [*]; done) | exact smallE_of (n := 1048576) (by omega) (by omega) | (simp [*] at *; omega) | grind [szS]))) | ((with_reducible refine pd_193 _ _ _ ?ho); (case ho => exact hK)) | (exact pd_117 _ _ _ hK) | (exact pd_133 _ _ hK) | (exact pd_189 _ _ (by first | (with_reducible assumption) | omega | assumption | (simp; done) | (simp; omega) | (simp [*]; done) | exact smallE_of (n := 1048576) (by omega) (by omega) | (simp [*] at *; omega) | grind [szS]) _ hK) | (exact pd_193 _ _ _ hK)) | ((with_reducible show CallIn _ _ _ _ _); first | (refine .inr ⟨_, rfl, fun K hK => hK⟩) | (refine .inr ⟨_, rfl, fun K hK => hK true⟩) | (refine .inr ⟨_, rfl, fun K hK => hK 0 (by simp)⟩))) | exact ⟨_, rfl⟩ | (first | (with_reducible assumption) | (with_reducible exact trivial) | (first | ((with_reducible refine ⟨?_⟩); simp [e_s_0, E_s_0, e_s_1, E_s_1, e_s, tree_120, T.sayR, inK_i64_iff, RS.oks, RS.ok, CK.okD, X.den, O1.den, O2.den, O3.den, callD, XArg.ev, XArg.dat, Callee'.num, backs, DArg.back, Conds.den, cloArgs]; intro K hK; (try simp only [phi_120] at hK); intros; first | contradiction | ((with_reducible refine pd_117 _ _ _ ?ho); (case ho => exact hK)) | ((with_reducible refine pd_133 _ _ ?ho); (case ho => exact hK)) | ((with_reducible refine pd_189 _ _ ?_ _ ?ho); (case ho => exact hK); all_goals (exact (by first | (with_reducible assumption) | omega | assumption | (simp; done) | (simp; omega) | (simp [*]; done) | exact smallE_of (n := 1048576) (by omega) (by omega) | (simp [*] at *; omega) | grind [szS]))) | ((with_reducible refine pd_193 _ _ _ ?ho); (case ho => exact hK)) | (exact pd_117 _ _ _ hK) | (exact pd_133 _ _ hK) | (exact pd_189 _ _ (by first | (with_reducible assumption) | omega | assumption | (simp; done) | (simp; omega) | (simp [*]; done) | exact smallE_of (n := 1048576) (by omega) (by omega) | (simp [*] at *; omega) | grind [szS]) _ hK) | (exact pd_193 _ _ _ hK)) | ((with_reducible show CallIn _ _ _ _ _); first | (refine .inr ⟨_, rfl, fun K hK => hK⟩) | (refine .inr ⟨_, rfl, fun K hK => hK true⟩) | (refine .inr ⟨_, rfl, fun K hK => hK 0 (by simp)⟩))) | omega | (simp only [IntKind.wrap_i64, maxL] at *; omega) | assumption | rfl | contradiction | grind) | skip
theorem pd_120 (c s : D) (Q : List D → Prop) (ho : ∀ (p : D), Q [p]) : PC Try.prog 120 [.cur c, .st [(.sl [(.int .i64), (.int .i64), (.int .i64), (.int .i64), (.int .i64), (.int .i64), (.int .i64), (.int .i64), (.int .i64), (.int .i64), (.int .i64), .bool, .bool]), (.sl [(.int .i64), (.int .i64), .bool]), (.int .i64), (.int .i64)] s] [.st [(.int .i64), (.int .i64), (.int .i64), (.int .i64), (.int .i64), (.int .i64), (.int .i64)]] Q := (pc_120 c s).mono (by rintro _ ⟨p, rfl⟩; exact ho p)
/- spec.DrawNarrower -/
def phi_23 : Nat → List D → (List D → Prop) → Prop
  | 113, [a], K => K [a]
  | 115, [c, n], K => ∀ (b : Bool), K [.bool b]
  | 117, [c, n], K => ∀ (m : Int), (0 ≤ m ∧ m ≤ 16777215 ∧ (0 < n.toI → m < n.toI) ∧ (n.toI ≤ 0 → m = 0)) → K [.int m]
  | 119, [c], K => ∀ (s : D), (stateN 5 3 s) → K [s]
  | 120, [c, s], K => ∀ (p : D), K [p]
  | _, _, _ => False
theorem pc_23 (code : D) : PC Try.prog 23 [.sc (.sl [(.int .u8)]) code] [.st [(.int .i64), (.int .i64), (.int .i64), (.int .i64), (.int .i64), (.int .i64), (.int .i64)], .st [(.int .i64), (.int .i64), (.int .i64), (.int .i64), (.int .i64), (.int .i64), (.int .i64)]] fun o => ∃ (p : D) (q : D), o = [p, q] := by
  refine PC.of_sig mix sig_23 ⟨rfl, trivial⟩ rfl fun hok => ?_
  have e_code := sl_eta (hok _ (.head _))
  have l_code := sl_len (hok _ (.head _))
  have k_code := sl_all (hok _ (.head _))
  apply sayR_den (φ := (phi_23))
  simp (config := { maxSteps := 2000000 }) [e_code, tree_23, T.sayR, inK_i64_iff, RS.oks, RS.ok, okD_int, okD_bool, X.den, O1.den, O2.den, O3.den, callD, XArg.ev, XArg.dat, Callee'.num, backs, DArg.back, Conds.den, cloArgs, phi_23]
  (repeat' (first | (with_reducible apply And.intro) | intro _)) <;> first | (first | ((with_reducible refine ⟨?_⟩); simp [e_code, tree_23, T.sayR, inK_i64_iff, RS.oks, RS.ok, okD_int, okD_bool, X.den, O1.den, O2.den, O3.den, callD, XArg.ev, XArg.dat, Callee'.num, backs, DArg.back, Conds.den, cloArgs]; intro K hK; (try simp only [phi_23] at hK); intros; first | contradiction | ((with_reducible refine pd_113 _ _ ?ho); (case ho => exact hK)) | ((with_reducible refine pd_115 _ _ _ ?ho); (case ho => exact hK)) | ((with_reducible refine pd_117 _ _ _ ?ho); (case ho => exact hK)) | ((with_reducible refine pd_119 _ _ ?ho); (case ho => exact hK)) | ((with_reducible refine pd_120 _ _ _ ?ho); (case ho => exact hK)) | (exact pd_113 _ _ hK) | (exact pd_115 _ _ _ hK) | (exact pd_117 _ _ _ hK) | (exact pd_119 _ _ hK) | (exact pd_120 _ _ _ hK)) | ((with_reducible show CallIn _ _ _ _ _); first | (refine .inr ⟨_, rfl, fun K hK => hK⟩) | (refine .inr ⟨_, rfl, fun K hK => hK true⟩) | (refine .inr ⟨_, rfl, fun K hK => hK 0 (by simp)⟩))) | omega | (exact ⟨_, _, rfl⟩)
theorem pd_23 (code : D) (Q : List D → Prop) (ho : ∀ (p : D) (q : D), Q [p, q]) : PC Try.prog 23 [.sc (.sl [(.int .u8)]) code] [.st [(.int .i64), (.int .i64), (.int .i64), (.int .i64), (.int .i64), (.int .i64), (.int .i64)], .st [(.int .i64), (.int .i64), (.int .i64), (.int .i64), (.int .i64), (.int .i64), (.int .i64)]] Q := (pc_23 code).mono (by rintro _ ⟨p, q, rfl⟩; exact ho p q)
/- impl.from -/
theorem pc_123 (a b c : D) : PC Try.prog 123 [.sc (.int .i64) a, .sc (.int .i64) b, .sc (.int .i64) c] [.sc .bool] fun o => o = [.bool (inR a.toI b.toI c.toI)] := by
  refine PC.of_sig mix sig_123 ⟨rfl, rfl, rfl, trivial⟩ rfl fun hok => ?_
  have e_a := int_eta (hok _ (.head _))
  have b_a := int_range (hok _ (.head _))
  have e_b := int_eta (hok _ (.tail _ (.head _)))
  have b_b := int_range (hok _ (.tail _ (.head _)))
  have e_c := int_eta (hok _ (.tail _ (.tail _ (.head _))))
  have b_c := int_range (hok _ (.tail _ (.tail _ (.head _))))
  apply says_den (φ := fun _ _ => [])
  simp [e_a, e_b, e_c, tree_123, T.says, X.den, O1.den, O2.den, O3.den, callD, XArg.ev, XArg.dat, Callee'.num, backs, DArg.back, Conds.den, cloArgs, inR]
theorem pd_123 (a b c : D) (Q : List D → Prop) (ho : Q [.bool (inR a.toI b.toI c.toI)]) : PC Try.prog 123 [.sc (.int .i64) a, .sc (.int .i64) b, .sc (.int .i64) c] [.sc .bool] Q := (pc_123 a b c).mono fun _ h => h ▸ ho
/- impl.isKind -/
def phi_122 : Nat → List D → List D
  | 123, [a, b, c] => [.bool (inR a.toI b.toI c.toI)]
  | _, _ => []
theorem pc_122 (a : D) : PC Try.prog 122 [.sc (.int .i64) a] [.sc .bool] fun o => o = [.bool (inR a.toI 1 6)] := by
  refine PC.of_sig mix sig_122 ⟨rfl, trivial⟩ rfl fun hok => ?_
  have e_a := int_eta (hok _ (.head _))
  have b_a := int_range (hok _ (.head _))
  apply says_den (φ := (phi_122))
  simp [e_a, tree_122, T.says, X.den, O1.den, O2.den, O3.den, callD, XArg.ev, XArg.dat, Callee'.num, backs, DArg.back, Conds.den, cloArgs, phi_122, pd_123]
theorem pd_122 (a : D) (Q : List D → Prop) (ho : Q [.bool (inR a.toI 1 6)]) : PC Try.prog 122 [.sc (.int .i64) a] [.sc .bool] Q := (pc_122 a).mono fun _ h => h ▸ ho
/- impl.isTraits -/
def phi_124 : Nat → List D → List D
  | 123, [a, b, c] => [.bool (inR a.toI b.toI c.toI)]
  | _, _ => []
theorem pc_124 (a : D) : PC Try.prog 124 [.sc (.int .i64) a] [.sc .bool] fun o => o = [.bool (inR a.toI 0 63)] := by
  refine PC.of_sig mix sig_124 ⟨rfl, trivial⟩ rfl fun hok => ?_
  have e_a := int_eta (hok _ (.head _))
  have b_a := int_range (hok _ (.head _))
  apply says_den (φ := (phi_124))
  simp [e_a, tree_124, T.says, X.den, O1.den, O2.den, O3.den, callD, XArg.ev, XArg.dat, Callee'.num, backs, DArg.back, Conds.den, cloArgs, phi_124, pd_123]
theorem pd_124 (a : D) (Q : List D → Prop) (ho : Q [.bool (inR a.toI 0 63)]) : PC Try.prog 124 [.sc (.int .i64) a] [.sc .bool] Q := (pc_124 a).mono fun _ h => h ▸ ho
/- impl.isAmount -/
def phi_125 : Nat → List D → List D
  | 123, [a, b, c] => [.bool (inR a.toI b.toI c.toI)]
  | _, _ => []
theorem pc_125 (a : D) : PC Try.prog 125 [.sc (.int .i64) a] [.sc .bool] fun o => o = [.bool (inR a.toI 0 2147483647)] := by
  refine PC.of_sig mix sig_125 ⟨rfl, trivial⟩ rfl fun hok => ?_
  have e_a := int_eta (hok _ (.head _))
  have b_a := int_range (hok _ (.head _))
  apply says_den (φ := (phi_125))
  simp [e_a, tree_125, T.says, X.den, O1.den, O2.den, O3.den, callD, XArg.ev, XArg.dat, Callee'.num, backs, DArg.back, Conds.den, cloArgs, phi_125, pd_123]
theorem pd_125 (a : D) (Q : List D → Prop) (ho : Q [.bool (inR a.toI 0 2147483647)]) : PC Try.prog 125 [.sc (.int .i64) a] [.sc .bool] Q := (pc_125 a).mono fun _ h => h ▸ ho
/- impl.PatOk -/
def phi_26 : Nat → List D → List D
  | 122, [a] => [.bool (inR a.toI 1 6)]
  | 123, [a, b, c] => [.bool (inR a.toI b.toI c.toI)]
  | 124, [a] => [.bool (inR a.toI 0 63)]
  | 125, [a] => [.bool (inR a.toI 0 2147483647)]
  | _, _ => []
theorem pc_26 (d : D) : PC Try.prog 26 [.st [(.int .i64), (.int .i64), (.int .i64), (.int .i64), (.int .i64), (.int .i64), (.int .i64)] d] [.sc .bool] fun o => o = [.bool (patOk d)] := by
  refine PC.of_sig mix sig_26 ⟨rfl, trivial⟩ rfl fun hok => ?_
  have e_d : D.lst [d.fld 0, d.fld 1, d.fld 2, d.fld 3, d.fld 4, d.fld 5, d.fld 6] = d := by simpa [List.range, List.range.loop] using okL_eta (hok _ (.head _))
  have k_d : okL [(.int .i64), (.int .i64), (.int .i64), (.int .i64), (.int .i64), (.int .i64), (.int .i64)] d := (hok _ (.head _))
  apply says_den (φ := (phi_26))
  simp [e_d, tree_26, T.says, X.den, O1.den, O2.den, O3.den, callD, XArg.ev, XArg.dat, Callee'.num, backs, DArg.back, Conds.den, cloArgs, phi_26, pd_122, pd_123, pd_124, pd_125]
  (repeat' (first | (with_reducible apply And.intro) | intro _)) <;> grind [patOk]
theorem pd_26 (d : D) (Q : List D → Prop) (ho : Q [.bool (patOk d)]) : PC Try.prog 26 [.st [(.int .i64), (.int .i64), (.int .i64), (.int .i64), (.int .i64), (.int .i64), (.int .i64)] d] [.sc .bool] Q := (pc_26 d).mono fun _ h => h ▸ ho
/- impl.demands -/
theorem pc_121 (a b : D) : PC Try.prog 121 [.sc (.int .i64) a, .sc (.int .i64) b] [.sc .bool] fun o => o = [.bool (demands a.toI b.toI)] := by
  refine PC.of_sig mix sig_121 ⟨rfl, rfl, trivial⟩ rfl fun hok => ?_
  have e_a := int_eta (hok _ (.head _))
  have b_a := int_range (hok _ (.head _))
  have e_b := int_eta (hok _ (.tail _ (.head _)))
  have b_b := int_range (hok _ (.tail _ (.head _)))
  apply says_den (φ := fun _ _ => [])
  simp [e_a, e_b, tree_121, T.says, X.den, O1.den, O2.den, O3.den, callD, XArg.ev, XArg.dat, Callee'.num, backs, DArg.back, Conds.den, cloArgs, demands]
theorem pd_121 (a b : D) (Q : List D → Prop) (ho : Q [.bool (demands a.toI b.toI)]) : PC Try.prog 121 [.sc (.int .i64) a, .sc (.int .i64) b] [.sc .bool] Q := (pc_121 a b).mono fun _ h => h ▸ ho
/- impl.Narrower -/
def phi_24 : Nat → List D → List D
  | 26, [d] => [.bool (patOk d)]
  | 121, [a, b] => [.bool (demands a.toI b.toI)]
  | _, _ => []
theorem pc_24 (a b : D) : PC Try.prog 24 [.st [(.int .i64), (.int .i64), (.int .i64), (.int .i64), (.int .i64), (.int .i64), (.int .i64)] a, .st [(.int .i64), (.int .i64), (.int .i64), (.int .i64), (.int .i64), (.int .i64), (.int .i64)] b] [.sc .bool] fun o => o = [.bool (narrower a b)] := by
  refine PC.of_sig mix sig_24 ⟨rfl, rfl, trivial⟩ rfl fun hok => ?_
  have e_a : D.lst [a.fld 0, a.fld 1, a.fld 2, a.fld 3, a.fld 4, a.fld 5, a.fld 6] = a := by simpa [List.range, List.range.loop] using okL_eta (hok _ (.head _))
  have k_a : okL [(.int .i64), (.int .i64), (.int .i64), (.int .i64), (.int .i64), (.int .i64), (.int .i64)] a := (hok _ (.head _))
  have e_b : D.lst [b.fld 0, b.fld 1, b.fld 2, b.fld 3, b.fld 4, b.fld 5, b.fld 6] = b := by simpa [List.range, List.range.loop] using okL_eta (hok _ (.tail _ (.head _)))
  have k_b : okL [(.int .i64), (.int .i64), (.int .i64), (.int .i64), (.int .i64), (.int .i64), (.int .i64)] b := (hok _ (.tail _ (.head _)))
  apply says_den (φ := (phi_24))
  simp [e_a, e_b, tree_24, T.says, X.den, O1.den, O2.den, O3.den, callD, XArg.ev, XArg.dat, Callee'.num, backs, DArg.back, Conds.den, cloArgs, phi_24, pd_26, pd_121]
  (repeat' (first | (with_reducible apply And.intro) | intro _)) <;> grind [narrower]
theorem pd_24 (a b : D) (Q : List D → Prop) (ho : Q [.bool (narrower a b)]) : PC Try.prog 24 [.st [(.int .i64), (.int .i64), (.int .i64), (.int .i64), (.int .i64), (.int .i64), (.int .i64)] a, .st [(.int .i64), (.int .i64), (.int .i64), (.int .i64), (.int .i64), (.int .i64), (.int .i64)] b] [.sc .bool] Q := (pc_24 a b).mono fun _ h => h ▸ ho
/- spec.l1In -/
theorem pc_126 (a b c : D) : PC Try.prog 126 [.sc (.int .i64) a, .sc (.int .i64) b, .sc (.int .i64) c] [.sc .bool] fun o => o = [.bool (inR a.toI b.toI c.toI)] := by
  refine PC.of_sig mix sig_126 ⟨rfl, rfl, rfl, trivial⟩ rfl fun hok => ?_
  have e_a := int_eta (hok _ (.head _))
  have b_a := int_range (hok _ (.head _))
  have e_b := int_eta (hok _ (.tail _ (.head _)))
  have b_b := int_range (hok _ (.tail _ (.head _)))
  have e_c := int_eta (hok _ (.tail _ (.tail _ (.head _))))
  have b_c := int_range (hok _ (.tail _ (.tail _ (.head _))))
  apply says_den (φ := fun _ _ => [])
  simp [e_a, e_b, e_c, tree_126, T.says, X.den, O1.den, O2.den, O3.den, callD, XArg.ev, XArg.dat, Callee'.num, backs, DArg.back, Conds.den, cloArgs, inR]
theorem pd_126 (a b c : D) (Q : List D → Prop) (ho : Q [.bool (inR a.toI b.toI c.toI)]) : PC Try.prog 126 [.sc (.int .i64) a, .sc (.int .i64) b, .sc (.int .i64) c] [.sc .bool] Q := (pc_126 a b c).mono fun _ h => h ▸ ho
/- spec.PatOk -/
def phi_27 : Nat → List D → List D
  | 126, [a, b, c] => [.bool (inR a.toI b.toI c.toI)]
  | _, _ => []
theorem pc_27 (d : D) : PC Try.prog 27 [.st [(.int .i64), (.int .i64), (.int .i64), (.int .i64), (.int .i64), (.int .i64), (.int .i64)] d] [.sc .bool] fun o => o = [.bool (patOk d)] := by
  refine PC.of_sig mix sig_27 ⟨rfl, trivial⟩ rfl fun hok => ?_
  have e_d : D.lst [d.fld 0, d.fld 1, d.fld 2, d.fld 3, d.fld 4, d.fld 5, d.fld 6] = d := by simpa [List.range, List.range.loop] using okL_eta (hok _ (.head _))
  have k_d : okL [(.int .i64), (.int .i64), (.int .i64), (.int .i64), (.int .i64), (.int .i64), (.int .i64)] d := (hok _ (.head _))
  apply says_den (φ := (phi_27))
  simp [e_d, tree_27, T.says, X.den, O1.den, O2.den, O3.den, callD, XArg.ev, XArg.dat, Callee'.num, backs, DArg.back, Conds.den, cloArgs, phi_27, pd_126]
  (repeat' (first | (with_reducible apply And.intro) | intro _)) <;> grind [patOk]
theorem pd_27 (d : D) (Q : List D → Prop) (ho : Q [.bool (patOk d)]) : PC Try.prog 27 [.st [(.int .i64), (.int .i64), (.int .i64), (.int .i64), (.int .i64), (.int .i64), (.int .i64)] d] [.sc .bool] Q := (pc_27 d).mono fun _ h => h ▸ ho
/- spec.Narrower -/
def phi_25 : Nat → List D → List D
  | 27, [d] => [.bool (patOk d)]
  | _, _ => []
theorem pc_25 (a b : D) : PC Try.prog 25 [.st [(.int .i64), (.int .i64), (.int .i64), (.int .i64), (.int .i64), (.int .i64), (.int .i64)] a, .st [(.int .i64), (.int .i64), (.int .i64), (.int .i64), (.int .i64), (.int .i64), (.int .i64)] b] [.sc .bool] fun o => o = [.bool (narrower a b)] := by
  refine PC.of_sig mix sig_25 ⟨rfl, rfl, trivial⟩ rfl fun hok => ?_
  have e_a : D.lst [a.fld 0, a.fld 1, a.fld 2, a.fld 3, a.fld 4, a.fld 5, a.fld 6] = a := by simpa [List.range, List.range.loop] using okL_eta (hok _ (.head _))
  have k_a : okL [(.int .i64), (.int .i64), (.int .i64), (.int .i64), (.int .i64), (.int .i64), (.int .i64)] a := (hok _ (.head _))
  have e_b : D.lst [b.fld 0, b.fld 1, b.fld 2, b.fld 3, b.fld 4, b.fld 5, b.fld 6] = b := by simpa [List.range, List.range.loop] using okL_eta (hok _ (.tail _ (.head _)))
  have k_b : okL [(.int .i64), (.int .i64), (.int .i64), (.int .i64), (.int .i64), (.int .i64), (.int .i64)] b := (hok _ (.tail _ (.head _)))
  apply says_den (φ := (phi_25))
  simp [e_a, e_b, tree_25, T.says, X.den, O1.den, O2.den, O3.den, callD, XArg.ev, XArg.dat, Callee'.num, backs, DArg.back, Conds.den, cloArgs, phi_25, pd_27]
  (repeat' (first | (with_reducible apply And.intro) | intro _)) <;> grind [narrower, demands]
theorem pd_25 (a b : D) (Q : List D → Prop) (ho : Q [.bool (narrower a b)]) : PC Try.prog 25 [.st [(.int .i64), (.int .i64), (.int .i64), (.int .i64), (.int .i64), (.int .i64), (.int .i64)] a, .st [(.int .i64), (.int .i64), (.int .i64), (.int .i64), (.int .i64), (.int .i64), (.int .i64)] b] [.sc .bool] Q := (pc_25 a b).mono fun _ h => h ▸ ho
/- spec.l4Any -/
def phi_194 : Nat → List D → (List D → Prop) → Prop
  | 117, [c, n], K => ∀ (m : Int), (0 ≤ m ∧ m ≤ 16777215 ∧ (0 < n.toI → m < n.toI) ∧ (n.toI ≤ 0 → m = 0)) → K [.int m]
  | 133, [c], K => ∀ (m : Int), K [.int m]
  | 189, [c, l], K => ∀ (m : Int), (oneOf l m) → K [.int m]
  | 192, [c, n], K => ∀ (p : D), (-1 ≤ (p.fld 2).toI) → K [p]
  | _, _, _ => False
theorem pc_194 (c : D) : PC Try.prog 194 [.cur c] [.st [(.int .i64), (.int .i64), (.int .i64), (.int .i64), (.int .i64), (.int .i64), (.int .i64), (.int .i64), (.int .i64), (.int .i64), (.int .i64), .bool, .bool]] fun o => ∃ (p : D), (-1 ≤ (p.fld 2).toI) ∧ o = [p] := by
  refine PC.of_sigK mix sig_194 ⟨trivial, trivial⟩ rfl fun hok ci ch hci hcn hch => ?_
  apply sayR_den (φ := (phi_194))
  simp [tree_194, T.sayR, inK_i64_iff, RS.oks, RS.ok, CK.okD, X.den, O1.den, O2.den, O3.den, callD, XArg.ev, XArg.dat, Callee'.num, backs, DArg.back, Conds.den, cloArgs, phi_194]
  (repeat' (first | (with_reducible apply And.intro) | intro _)) <;> first | (first | (with_reducible assumption) | (with_reducible exact trivial) | (first | ((with_reducible refine ⟨?_⟩); simp [tree_194, T.sayR, inK_i64_iff, RS.oks, RS.ok, CK.okD, X.den, O1.den, O2.den, O3.den, callD, XArg.ev, XArg.dat, Callee'.num, backs, DArg.back, Conds.den, cloArgs]; intro K hK; (try simp only [phi_194] at hK); intros; first | contradiction | ((with_reducible refine pd_117 _ _ _ ?ho); (case ho => exact hK)) | ((with_reducible refine pd_133 _ _ ?ho); (case ho => exact hK)) | ((with_reducible refine pd_189 _ _ ?_ _ ?ho); (case ho => exact hK); all_goals (exact (by first | (with_reducible assumption) | omega | assumption | (simp; done) | (simp; omega) | (simp [*]; done) | exact smallE_of (n := 1048576) (by omega) (by omega) | (simp [*] at *; omega) | grind [szS]))) | ((with_reducible refine pd_192 _ _ _ ?ho); (case ho => exact hK)) | (exact pd_117 _ _ _ hK) | (exact pd_133 _ _ hK) | (exact pd_189 _ _ (by first | (with_reducible assumption) | omega | assumption | (simp; done) | (simp; omega) | (simp [*]; done) | exact smallE_of (n := 1048576) (by omega) (by omega) | (simp [*] at *; omega) | grind [szS]) _ hK) | (exact pd_192 _ _ _ hK)) | ((with_reducible show CallIn _ _ _ _ _); first | (refine .inr ⟨_, rfl, fun K hK => hK⟩) | (refine .inr ⟨_, rfl, fun K hK => hK true⟩) | (refine .inr ⟨_, rfl, fun K hK => hK 0 (by simp)⟩))) | omega | (simp only [IntKind.wrap_i64, maxL] at *; omega) | assumption | rfl | contradiction | grind) | (refine ⟨_, ?_, rfl⟩; simp; omega) | (refine ⟨_, ?_, rfl⟩; simp [oneOf] at *; omega) | (simp [oneOf] at *; omega) | omega | skip
theorem pd_194 (c : D) (Q : List D → Prop) (ho : ∀ (p : D), (-1 ≤ (p.fld 2).toI) → Q [p]) : PC Try.prog 194 [.cur c] [.st [(.int .i64), (.int .i64), (.int .i64), (.int .i64), (.int .i64), (.int .i64), (.int .i64), (.int .i64), (.int .i64), (.int .i64), (.int .i64), .bool, .bool]] Q := (pc_194 c).mono (by rintro _ ⟨p, hc, rfl⟩; exact ho p hc)
/- spec.l5Any -/
def phi_127 : Nat → List D → (List D → Prop) → Prop
  | 117, [c, n], K => ∀ (m : Int), (0 ≤ m ∧ m ≤ 16777215 ∧ (0 < n.toI → m < n.toI) ∧ (n.toI ≤ 0 → m = 0)) → K [.int m]
  | 119, [c], K => ∀ (s : D), (stateN 5 3 s) → K [s]
  | 133, [c], K => ∀ (m : Int), K [.int m]
  | 189, [c, l], K => ∀ (m : Int), (oneOf l m) → K [.int m]
  | 192, [c, n], K => ∀ (p : D), (-1 ≤ (p.fld 2).toI) → K [p]
  | 194, [c], K => ∀ (p : D), (-1 ≤ (p.fld 2).toI) → K [p]
  | _, _, _ => False
theorem pc_127 (c : D) : PC Try.prog 127 [.cur c] [.st [(.sl [(.int .i64), (.int .i64), (.int .i64), (.int .i64), (.int .i64), (.int .i64), (.int .i64), (.int .i64), (.int .i64), (.int .i64), (.int .i64), .bool, .bool]), (.sl [(.int .i64), (.int .i64), .bool]), (.int .i64), (.int .i64)]] fun o => ∃ (s : D), (stateB s) ∧ o = [s] := by
  refine PC.of_sigK mix sig_127 ⟨trivial, trivial⟩ rfl fun hok ci ch hci hcn hch => ?_
  apply sayR_den (φ := (phi_127))
  simp [tree_127, T.sayR, inK_i64_iff, RS.oks, RS.ok, CK.okD, X.den, O1.den, O2.den, O3.den, callD, XArg.ev, XArg.dat, Callee'.num, backs, DArg.back, Conds.den, cloArgs, phi_127]
  refine ⟨by (first | ((with_reducible refine ⟨?_⟩); simp [tree_127, T.sayR, inK_i64_iff, RS.oks, RS.ok, CK.okD, X.den, O1.den, O2.den, O3.den, callD, XArg.ev, XArg.dat, Callee'.num, backs, DArg.back, Conds.den, cloArgs]; intro K hK; (try simp only [phi_127] at hK); intros; first | contradiction | ((with_reducible refine pd_117 _ _ _ ?ho); (case ho => exact hK)) | ((with_reducible refine pd_119 _ _ ?ho); (case ho => exact hK)) | ((with_reducible refine pd_133 _ _ ?ho); (case ho => exact hK)) | ((with_reducible refine pd_189 _ _ ?_ _ ?ho); (case ho => exact hK); all_goals (exact (by first | (with_reducible assumption) | omega | assumption | (simp; done) | (simp; omega) | (simp [*]; done) | exact smallE_of (n := 1048576) (by omega) (by omega) | (simp [*] at *; omega) | grind [szS]))) | ((with_reducible refine pd_192 _ _ _ ?ho); (case ho => exact hK)) | ((with_reducible refine pd_194 _ _ ?ho); (case ho => exact hK)) | (exact pd_117 _ _ _ hK) | (exact pd_119 _ _ hK) | (exact pd_133 _ _ hK) | (exact pd_189 _ _ (by first | (with_reducible assumption) | omega | assumption | (simp; done) | (simp; omega) | (simp [*]; done) | exact smallE_of (n := 1048576) (by omega) (by omega) | (simp [*] at *; omega) | grind [szS]) _ hK) | (exact pd_192 _ _ _ hK) | (exact pd_194 _ _ hK)) | ((with_reducible show CallIn _ _ _ _ _); first | (refine .inr ⟨_, rfl, fun K hK => hK⟩) | (refine .inr ⟨_, rfl, fun K hK => hK true⟩) | (refine .inr ⟨_, rfl, fun K hK => hK 0 (by simp)⟩))), fun s hs hk => ?_⟩
  obtain ⟨h1, h2, h3, h4, h5⟩ := id hs
  (repeat' (first | (with_reducible apply And.intro) | intro _)) <;> first | (first | ((with_reducible refine ⟨?_⟩); simp [tree_127, T.sayR, inK_i64_iff, RS.oks, RS.ok, CK.okD, X.den, O1.den, O2.den, O3.den, callD, XArg.ev, XArg.dat, Callee'.num, backs, DArg.back, Conds.den, cloArgs]; intro K hK; (try simp only [phi_127] at hK); intros; first | contradiction | ((with_reducible refine pd_117 _ _ _ ?ho); (case ho => exact hK)) | ((with_reducible refine pd_119 _ _ ?ho); (case ho => exact hK)) | ((with_reducible refine pd_133 _ _ ?ho); (case ho => exact hK)) | ((with_reducible refine pd_189 _ _ ?_ _ ?ho); (case ho => exact hK); all_goals (exact (by first | (with_reducible assumption) | omega | assumption | (simp; done) | (simp; omega) | (simp [*]; done) | exact smallE_of (n := 1048576) (by omega) (by omega) | (simp [*] at *; omega) | grind [szS]))) | ((with_reducible refine pd_192 _ _ _ ?ho); (case ho => exact hK)) | ((with_reducible refine pd_194 _ _ ?ho); (case ho => exact hK)) | (exact pd_117 _ _ _ hK) | (exact pd_119 _ _ hK) | (exact pd_133 _ _ hK) | (exact pd_189 _ _ (by first | (with_reducible assumption) | omega | assumption | (simp; done) | (simp; omega) | (simp [*]; done) | exact smallE_of (n := 1048576) (by omega) (by omega) | (simp [*] at *; omega) | grind [szS]) _ hK) | (exact pd_192 _ _ _ hK) | (exact pd_194 _ _ hK)) | ((with_reducible show CallIn _ _ _ _ _); first | (refine .inr ⟨_, rfl, fun K hK => hK⟩) | (refine .inr ⟨_, rfl, fun K hK => hK true⟩) | (refine .inr ⟨_, rfl, fun K hK => hK 0 (by simp)⟩))) | omega | (exact stateB_eta hs (by decide) (by decide)) | (refine stateB_1 hs (by decide) ?_ ?_ <;> simp <;> omega) | skip
  · refine stateB_0 hs (by decide) (by simp) (by simp; omega) (sides_app h5 ?_)
    rename_i h _
    exact h
  · refine stateB_0 hs (by decide) (by simp; omega) (by simp; omega) (sides_set h5 ?_)
    rename_i h _
    exact h
  have e0 : s.fld 0 = .lst (s.fld 0).toL := (sl_eta (okL_at hk (i := 0) rfl)).symm
  obtain ⟨I, hI⟩ : ∃ I : List D → Prop, ∀ vs, I vs ↔ ∃ (j : Int) (ps : List D), vs = [.int j, .lst ps] ∧ 40 ≤ j ∧ j ≤ 46 ∧ 1 ≤ ps.length ∧ (ps.length : Int) ≤ j - 35 ∧ ∀ x ∈ ps, -1 ≤ (x.fld 2).toI := ⟨_, fun _ => Iff.rfl⟩
  obtain ⟨μ, hμ⟩ : ∃ μ : List D → Nat, ∀ vs, μ vs = (46 - (vs.getD 0 default).toI).toNat := ⟨_, fun _ => rfl⟩
  refine den_loop I μ ((hI _).2 ⟨40, (s.fld 0).toL, by simp [X.den, O1.den, ← e0], by omega, by omega, by omega, by omega, h5⟩) ?_
  intro vs hvl hv
  obtain ⟨j, ps, rfl, hinv⟩ := (hI _).1 hv
  clear hv
  apply sayR_den (φ := (phi_127))
  by_cases hlt : j < 46
  · have hz : IntKind.i64.wrap (j + 1) = j + 1 := by (first | omega | (simp only [IntKind.wrap_i64, maxL] at *; omega) | (simp [IntKind.wrap_i64, maxL] at *; omega))
    simp [tree_127, T.sayR, inK_i64_iff, RS.oks, RS.ok, CK.okD, X.den, O1.den, O2.den, O3.den, callD, XArg.ev, XArg.dat, Callee'.num, backs, DArg.back, Conds.den, cloArgs, phi_127, hlt, hz]
    (repeat' (first | (with_reducible apply And.intro) | intro _)) <;> first | (first | ((with_reducible refine ⟨?_⟩); simp [tree_127, T.sayR, inK_i64_iff, RS.oks, RS.ok, CK.okD, X.den, O1.den, O2.den, O3.den, callD, XArg.ev, XArg.dat, Callee'.num, backs, DArg.back, Conds.den, cloArgs]; intro K hK; (try simp only [phi_127] at hK); intros; first | contradiction | ((with_reducible refine pd_117 _ _ _ ?ho); (case ho => exact hK)) | ((with_reducible refine pd_119 _ _ ?ho); (case ho => exact hK)) | ((with_reducible refine pd_133 _ _ ?ho); (case ho => exact hK)) | ((with_reducible refine pd_189 _ _ ?_ _ ?ho); (case ho => exact hK); all_goals (exact (by first | (with_reducible assumption) | omega | assumption | (simp; done) | (simp; omega) | (simp [*]; done) | exact smallE_of (n := 1048576) (by omega) (by omega) | (simp [*] at *; omega) | grind [szS]))) | ((with_reducible refine pd_192 _ _ _ ?ho); (case ho => exact hK)) | ((with_reducible refine pd_194 _ _ ?ho); (case ho => exact hK)) | (exact pd_117 _ _ _ hK) | (exact pd_119 _ _ hK) | (exact pd_133 _ _ hK) | (exact pd_189 _ _ (by first | (with_reducible assumption) | omega | assumption | (simp; done) | (simp; omega) | (simp [*]; done) | exact smallE_of (n := 1048576) (by omega) (by omega) | (simp [*] at *; omega) | grind [szS]) _ hK) | (exact pd_192 _ _ _ hK) | (exact pd_194 _ _ hK)) | ((with_reducible show CallIn _ _ _ _ _); first | (refine .inr ⟨_, rfl, fun K hK => hK⟩) | (refine .inr ⟨_, rfl, fun K hK => hK true⟩) | (refine .inr ⟨_, rfl, fun K hK => hK 0 (by simp)⟩))) | omega | ((with_reducible refine (hI _).2 ?_); refine ⟨_, _, rfl, by omega, by omega, by simp, by simp; omega, sides_app hinv.2.2.2.2 ?_⟩; first | (rename_i h _; exact h) | (rename_i h _ _; exact h)) | (rw [hμ, hμ]; simp <;> omega) | skip
  · simp [tree_127, T.sayR, inK_i64_iff, RS.oks, RS.ok, CK.okD, X.den, O1.den, O2.den, O3.den, callD, XArg.ev, XArg.dat, Callee'.num, backs, DArg.back, Conds.den, cloArgs, phi_127, hlt]
    exact stateB_0 hs (by decide) (by simp; omega) (by simp; omega) hinv.2.2.2.2
theorem pd_127 (c : D) (Q : List D → Prop) (ho : ∀ (s : D), (stateB s) → Q [s]) : PC Try.prog 127 [.cur c] [.st [(.sl [(.int .i64), (.int .i64), (.int .i64), (.int .i64), (.int .i64), (.int .i64), (.int .i64), (.int .i64), (.int .i64), (.int .i64), (.int .i64), .bool, .bool]), (.sl [(.int .i64), (.int .i64), .bool]), (.int .i64), (.int .i64)]] Q := (pc_127 c).mono (by rintro _ ⟨s, hc, rfl⟩; exact ho s hc)
/- spec.l6Draw -/
def phi_149 : Nat → List D → (List D → Prop) → Prop
  | 115, [c, n], K => ∀ (b : Bool), K [.bool b]
  | 117, [c, n], K => ∀ (m : Int), (0 ≤ m ∧ m ≤ 16777215 ∧ (0 < n.toI → m < n.toI) ∧ (n.toI ≤ 0 → m = 0)) → K [.int m]
  | 189, [c, l], K => ∀ (m : Int), (oneOf l m) → K [.int m]
  | 199, [c, s], K => ∀ (m : Int), K [.int m]
  | _, _, _ => False
theorem pc_149 (c s : D) : PC Try.prog 149 [.cur c, .st [(.sl [(.int .i64), (.int .i64), (.int .i64), (.int .i64), (.int .i64), (.int .i64), (.int .i64), (.int .i64), (.int .i64), (.int .i64), (.int .i64), .bool, .bool]), (.sl [(.int .i64), (.int .i64), .bool]), (.int .i64), (.int .i64)] s] [.st [(.int .i64), (.int .i64), (.int .i64), (.int .i64), (.int .i64), (.int .i64), .bool]] fun o => ∃ (e : D), o = [e] := by
  refine PC.of_sigK mix sig_149 ⟨trivial, rfl, trivial⟩ rfl fun hok ci ch hci hcn hch => ?_
  have e_s : D.lst [s.fld 0, s.fld 1, s.fld 2, s.fld 3] = s := by simpa [List.range, List.range.loop] using okL_eta (hok _ (.head _))
  have k_s : okL [(.sl [(.int .i64), (.int .i64), (.int .i64), (.int .i64), (.int .i64), (.int .i64), (.int .i64), (.int .i64), (.int .i64), (.int .i64), (.int .i64), .bool, .bool]), (.sl [(.int .i64), (.int .i64), .bool]), (.int .i64), (.int .i64)] s := (hok _ (.head _))
  have e_s_0 : D.lst (s.fld 0).toL = s.fld 0 := sl_eta (okL_at k_s (i := 0) rfl)
  have l_s_0 := sl_len (okL_at k_s (i := 0) rfl)
  have k_s_0 := sl_all (okL_at k_s (i := 0) rfl)
  have E_s_0 : ∀ i, i < (s.fld 0).toL.length → D.lst [((s.fld 0).elem i).fld 0, ((s.fld 0).elem i).fld 1, ((s.fld 0).elem i).fld 2, ((s.fld 0).elem i).fld 3, ((s.fld 0).elem i).fld 4, ((s.fld 0).elem i).fld 5, ((s.fld 0).elem i).fld 6, ((s.fld 0).elem i).fld 7, ((s.fld 0).elem i).fld 8, ((s.fld 0).elem i).fld 9, ((s.fld 0).elem i).fld 10, ((s.fld 0).elem i).fld 11, ((s.fld 0).elem i).fld 12] = (s.fld 0).elem i := fun i hi => by simpa [List.range, List.range.loop] using okL_eta (k_s_0 _ (elem_mem hi))
  have e_s_1 : D.lst (s.fld 1).toL = s.fld 1 := sl_eta (okL_at k_s (i := 1) rfl)
  have l_s_1 := sl_len (okL_at k_s (i := 1) rfl)
  have k_s_1 := sl_all (okL_at k_s (i := 1) rfl)
  have E_s_1 : ∀ i, i < (s.fld 1).toL.length → D.lst [((s.fld 1).elem i).fld 0, ((s.fld 1).elem i).fld 1, ((s.fld 1).elem i).fld 2] = (s.fld 1).elem i := fun i hi => by simpa [List.range, List.range.loop] using okL_eta (k_s_1 _ (elem_mem hi))
  apply sayR_den (φ := (phi_149))
  simp [e_s_0, E_s_0, e_s_1, E_s_1, e_s, tree_149, T.sayR, inK_i64_iff, RS.oks, RS.ok, CK.okD, X.den, O1.den, O2.den, O3.den, callD, XArg.ev, XArg.dat, Callee'.num, backs, DArg.back, Conds.den, cloArgs, phi_149]
  (repeat' (first | (with_reducible apply And.intro) | intro _)) <;> first | (first | (with_reducible assumption) | (with_reducible exact trivial) | (first | ((with_reducible refine ⟨?_⟩); simp [e_s_0, E_s_0, e_s_1, E_s_1, e_s, tree_149, T.sayR, inK_i64_iff, RS.oks, RS.ok, CK.okD, X.den, O1.den, O2.den, O3.den, callD, XArg.ev, XArg.dat, Callee'.num, backs, DArg.back, Conds.den, cloArgs]; intro K hK; (try simp only [phi_149] at hK); intros; first | contradiction | ((with_reducible refine pd_115 _ _ _ ?ho); (case ho => exact hK)) | ((with_reducible refine pd_117 _ _ _ ?ho); (case ho => exact hK)) | ((with_reducible refine pd_189 _ _ ?_ _ ?ho); (case ho => exact hK); all_goals (exact (by first | (with_reducible assumption) | omega | assumption | (simp; done) | (simp; omega) | (simp [*]; done) | exact smallE_of (n := 1048576) (by omega) (by omega) | (simp [*] at *; omega) | grind [szS]))) | ((with_reducible refine pd_199 _ _ _ ?ho); (case ho => exact hK)) | (exact pd_115 _ _ _ hK) | (exact pd_117 _ _ _ hK) | (exact pd_189 _ _ (by first | (with_reducible assumption) | omega | assumption | (simp; done) | (simp; omega) | (simp [*]; done) | exact smallE_of (n := 1048576) (by omega) (by omega) | (simp [*] at *; omega) | grind [szS]) _ hK) | (exact pd_199 _ _ _ hK)) | ((with_reducible show CallIn _ _ _ _ _); first | (refine .inr ⟨_, rfl, fun K hK => hK⟩) | (refine .inr ⟨_, rfl, fun K hK => hK true⟩) | (refine .inr ⟨_, rfl, fun K hK => hK 0 (by simp)⟩))) | omega | (simp only [IntKind.wrap_i64, maxL] at *; omega) | assumption | rfl | contradiction | grind) | exact ⟨_, rfl⟩ | skip
theorem pd_149 (c s : D) (Q : List D → Prop) (ho : ∀ (e : D), Q [e]) : PC Try.prog 149 [.cur c, .st [(.sl [(.int .i64), (.int .i64), (.int .i64), (.int .i64), (.int .i64), (.int .i64), (.int .i64), (.int .i64), (.int .i64), (.int .i64), (.int .i64), .bool, .bool]), (.sl [(.int .i64), (.int .i64), .bool]), (.int .i64), (.int .i64)] s] [.st [(.int .i64), (.int .i64), (.int .i64), (.int .i64), (.int .i64), (.int .i64), .bool]] Q := (pc_149 c s).mono (by rintro _ ⟨e, rfl⟩; exact ho e)
/- spec.l6Any -/
def phi_148 : Nat → List D → (List D → Prop) → Prop
  | 117, [c, n], K => ∀ (m : Int), (0 ≤ m ∧ m ≤ 16777215 ∧ (0 < n.toI → m < n.toI) ∧ (n.toI ≤ 0 → m = 0)) → K [.int m]
  | 133, [c], K => ∀ (m : Int), K [.int m]
  | 149, [c, s], K => ∀ (e : D), K [e]
  | 189, [c, l], K => ∀ (m : Int), (oneOf l m) → K [.int m]
  | _, _, _ => False
theorem pc_148 (c s : D) : PC Try.prog 148 [.cur c, .st [(.sl [(.int .i64), (.int .i64), (.int .i64), (.int .i64), (.int .i64), (.int .i64), (.int .i64), (.int .i64), (.int .i64), (.int .i64), (.int .i64), .bool, .bool]), (.sl [(.int .i64), (.int .i64), .bool]), (.int .i64), (.int .i64)] s] [.st [(.int .i64), (.int .i64), (.int .i64), (.int .i64), (.int .i64), (.int .i64), .bool]] fun o => ∃ (e : D), o = [e] := by
  refine PC.of_sigK mix sig_148 ⟨trivial, rfl, trivial⟩ rfl fun hok ci ch hci hcn hch => ?_
  have e_s : D.lst [s.fld 0, s.fld 1, s.fld 2, s.fld 3] = s := by simpa [List.range, List.range.loop] using okL_eta (hok _ (.head _))
  have k_s : okL [(.sl [(.int .i64), (.int .i64), (.int .i64), (.int .i64), (.int .i64), (.int .i64), (.int .i64), (.int .i64), (.int .i64), (.int .i64), (.int .i64), .bool, .bool]), (.sl [(.int .i64), (.int .i64), .bool]), (.int .i64), (.int .i64)] s := (hok _ (.head _))
  have e_s_0 : D.lst (s.fld 0).toL = s.fld 0 := sl_eta (okL_at k_s (i := 0) rfl)
  have l_s_0 := sl_len (okL_at k_s (i := 0) rfl)
  have k_s_0 := sl_all (okL_at k_s (i := 0) rfl)
  have E_s_0 : ∀ i, i < (s.fld 0).toL.length → D.lst [((s.fld 0).elem i).fld 0, ((s.fld 0).elem i).fld 1, ((s.fld 0).elem i).fld 2, ((s.fld 0).elem i).fld 3, ((s.fld 0).elem i).fld 4, ((s.fld 0).elem i).fld 5, ((s.fld 0).elem i).fld 6, ((s.fld 0).elem i).fld 7, ((s.fld 0).elem i).fld 8, ((s.fld 0).elem i).fld 9, ((s.fld 0).elem i).fld 10, ((s.fld 0).elem i).fld 11, ((s.fld 0).elem i).fld 12] = (s.fld 0).elem i := fun i hi => by simpa [List.range, List.range.loop] using okL_eta (k_s_0 _ (elem_mem hi))
  have e_s_1 : D.lst (s.fld 1).toL = s.fld 1 := sl_eta (okL_at k_s (i := 1) rfl)
  have l_s_1 := sl_len (okL_at k_s (i := 1) rfl)
  have k_s_1 := sl_all (okL_at k_s (i := 1) rfl)
  have E_s_1 : ∀ i, i < (s.fld 1).toL.length → D.lst [((s.fld 1).elem i).fld 0, ((s.fld 1).elem i).fld 1, ((s.fld 1).elem i).fld 2] = (s.fld 1).elem i := fun i hi => by simpa [List.range, List.range.loop] using okL_eta (k_s_1 _ (elem_mem hi))
  apply sayR_den (φ := (phi_148))
  simp [e_s_0, E_s_0, e_s_1, E_s_1, e_s, tree_148, T.sayR, inK_i64_iff, RS.oks, RS.ok, CK.okD, X.den, O1.den, O2.den, O3.den, callD, XArg.ev, XArg.dat, Callee'.num, backs, DArg.back, Conds.den, cloArgs, phi_148]
  (repeat' (first | (with_reducible apply And.intro) | intro _)) <;> first | (first | (with_reducible assumption) | (with_reducible exact trivial) | (first | ((with_reducible refine ⟨?_⟩); simp [e_s_0, E_s_0, e_s_1, E_s_1, e_s, tree_148, T.sayR, inK_i64_iff, RS.oks, RS.ok, CK.okD, X.den, O1.den, O2.den, O3.den, callD, XArg.ev, XArg.dat, Callee'.num, backs, DArg.back, Conds.den, cloArgs]; intro K hK; (try simp only [phi_148] at hK); intros; first | contradiction | ((with_reducible refine pd_117 _ _ _ ?ho); (case ho => exact hK)) | ((with_reducible refine pd_133 _ _ ?ho); (case ho => exact hK)) | ((with_reducible refine pd_149 _ _ _ ?ho); (case ho => exact hK)) | ((with_reducible refine pd_189 _ _ ?_ _ ?ho); (case ho => exact hK); all_goals (exact (by first | (with_reducible assumption) | omega | assumption | (simp; done) | (simp; omega) | (simp [*]; done) | exact smallE_of (n := 1048576) (by omega) (by omega) | (simp [*] at *; omega) | grind [szS]))) | (exact pd_117 _ _ _ hK) | (exact pd_133 _ _ hK) | (exact pd_149 _ _ _ hK) | (exact pd_189 _ _ (by first | (with_reducible assumption) | omega | assumption | (simp; done) | (simp; omega) | (simp [*]; done) | exact smallE_of (n := 1048576) (by omega) (by omega) | (simp [*] at *; omega) | grind [szS]) _ hK)) | ((with_reducible show CallIn _ _ _ _ _); first | (refine .inr ⟨_, rfl, fun K hK => hK⟩) | (refine .inr ⟨_, rfl, fun K hK => hK true⟩) | (refine .inr ⟨_, rfl, fun K hK => hK 0 (by simp)⟩))) | omega | (simp only [IntKind.wrap_i64, maxL] at *; omega) | assumption | rfl | contradiction | grind) | exact ⟨_, rfl⟩ | skip
theorem pd_148 (c s : D) (Q : List D → Prop) (ho : ∀ (e : D), Q [e]) : PC Try.prog 148 [.cur c, .st [(.sl [(.int .i64), (.int .i64), (.int .i64), (.int .i64), (.int .i64), (.int .i64), (.int .i64), (.int .i64), (.int .i64), (.int .i64), (.int .i64), .bool, .bool]), (.sl [(.int .i64), (.int .i64), .bool]), (.int .i64), (.int .i64)] s] [.st [(.int .i64), (.int .i64), (.int .i64), (.int .i64), (.int .i64), (.int .i64), .bool]] Q := (pc_148 c s).mono (by rintro _ ⟨e, rfl⟩; exact ho e)
/- spec.DrawPatFits -/
def phi_45 : Nat → List D → (List D → Prop) → Prop
  | 113, [a], K => K [a]
  | 117, [c, n], K => ∀ (m : Int), (0 ≤ m ∧ m ≤ 16777215 ∧ (0 < n.toI → m < n.toI) ∧ (n.toI ≤ 0 → m = 0)) → K [.int m]
  | 120, [c, s], K => ∀ (p : D), K [p]
  | 127, [c], K => ∀ (s : D), (stateB s) → K [s]
  | 148, [c, s], K => ∀ (e : D), K [e]
  | 149, [c, s], K => ∀ (e : D), K [e]
  | _, _, _ => False
theorem pc_45 (code : D) : PC Try.prog 45 [.sc (.sl [(.int .u8)]) code] [.st [(.sl [(.int .i64), (.int .i64), (.int .i64), (.int .i64), (.int .i64), (.int .i64), (.int .i64), (.int .i64), (.int .i64), (.int .i64), (.int .i64), .bool, .bool]), (.sl [(.int .i64), (.int .i64), .bool]), (.int .i64), (.int .i64)], .sc (.int .i64), .st [(.int .i64), (.int .i64), (.int .i64), (.int .i64), (.int .i64), (.int .i64), (.int .i64)], .st [(.int .i64), (.int .i64), (.int .i64), (.int .i64), (.int .i64), (.int .i64), .bool]] fun o => ∃ (s : D) (k : Int) (p : D) (e : D), (stateB s) ∧ o = [s, .int k, p, e] := by
  refine PC.of_sig mix sig_45 ⟨rfl, trivial⟩ rfl fun hok => ?_
  have e_code := sl_eta (hok _ (.head _))
  have l_code := sl_len (hok _ (.head _))
  have k_code := sl_all (hok _ (.head _))
  apply sayR_den (φ := (phi_45))
  simp (config := { maxSteps := 2000000 }) [e_code, tree_45, T.sayR, inK_i64_iff, RS.oks, RS.ok, okD_int, okD_bool, X.den, O1.den, O2.den, O3.den, callD, XArg.ev, XArg.dat, Callee'.num, backs, DArg.back, Conds.den, cloArgs, phi_45]
  (repeat' (first | (with_reducible apply And.intro) | intro _)) <;> first | (first | ((with_reducible refine ⟨?_⟩); simp [e_code, tree_45, T.sayR, inK_i64_iff, RS.oks, RS.ok, okD_int, okD_bool, X.den, O1.den, O2.den, O3.den, callD, XArg.ev, XArg.dat, Callee'.num, backs, DArg.back, Conds.den, cloArgs]; intro K hK; (try simp only [phi_45] at hK); intros; first | contradiction | ((with_reducible refine pd_113 _ _ ?ho); (case ho => exact hK)) | ((with_reducible refine pd_117 _ _ _ ?ho); (case ho => exact hK)) | ((with_reducible refine pd_120 _ _ _ ?ho); (case ho => exact hK)) | ((with_reducible refine pd_127 _ _ ?ho); (case ho => exact hK)) | ((with_reducible refine pd_148 _ _ _ ?ho); (case ho => exact hK)) | ((with_reducible refine pd_149 _ _ _ ?ho); (case ho => exact hK)) | (exact pd_113 _ _ hK) | (exact pd_117 _ _ _ hK) | (exact pd_120 _ _ _ hK) | (exact pd_127 _ _ hK) | (exact pd_148 _ _ _ hK) | (exact pd_149 _ _ _ hK)) | ((with_reducible show CallIn _ _ _ _ _); first | (refine .inr ⟨_, rfl, fun K hK => hK⟩) | (refine .inr ⟨_, rfl, fun K hK => hK true⟩) | (refine .inr ⟨_, rfl, fun K hK => hK 0 (by simp)⟩))) | omega | skip
  rename_i s0 hs0 ks0 p0 kp0 e0 ke0
  obtain ⟨I, hI⟩ : ∃ I : List D → Prop, ∀ vs, I vs ↔ ∃ (j : Int) (x : D), vs = [.int j, x.fld 0, x.fld 1, x.fld 2, x.fld 3, x.fld 4, x.fld 5, x.fld 6] ∧ 0 ≤ j ∧ j ≤ 4 := ⟨_, fun _ => Iff.rfl⟩
  obtain ⟨μ, hμ⟩ : ∃ μ : List D → Nat, ∀ vs, μ vs = (4 - (vs.getD 0 default).toI).toNat := ⟨_, fun _ => rfl⟩
  refine den_loop I μ ((hI _).2 ⟨0, e0, by simp [X.den, O1.den], by omega, by omega⟩) ?_
  intro vs hvl hv
  obtain ⟨j, x, rfl, hinv⟩ := (hI _).1 hv
  clear hv
  apply sayR_den (φ := (phi_45))
  have hy : j < 4 → IntKind.i64.wrap (j + 1) = j + 1 := by intro h; (first | omega | (simp only [IntKind.wrap_i64, maxL] at *; omega) | (simp [IntKind.wrap_i64, maxL] at *; omega))
  simp (config := { maxSteps := 2000000 }) [e_code, tree_45, T.sayR, inK_i64_iff, RS.oks, RS.ok, okD_int, okD_bool, X.den, O1.den, O2.den, O3.den, callD, XArg.ev, XArg.dat, Callee'.num, backs, DArg.back, Conds.den, cloArgs, phi_45]
  (repeat' (first | (with_reducible apply And.intro) | intro _)) <;> first | (first | ((with_reducible refine ⟨?_⟩); simp [e_code, tree_45, T.sayR, inK_i64_iff, RS.oks, RS.ok, okD_int, okD_bool, X.den, O1.den, O2.den, O3.den, callD, XArg.ev, XArg.dat, Callee'.num, backs, DArg.back, Conds.den, cloArgs]; intro K hK; (try simp only [phi_45] at hK); intros; first | contradiction | ((with_reducible refine pd_113 _ _ ?ho); (case ho => exact hK)) | ((with_reducible refine pd_117 _ _ _ ?ho); (case ho => exact hK)) | ((with_reducible refine pd_120 _ _ _ ?ho); (case ho => exact hK)) | ((with_reducible refine pd_127 _ _ ?ho); (case ho => exact hK)) | ((with_reducible refine pd_148 _ _ _ ?ho); (case ho => exact hK)) | ((with_reducible refine pd_149 _ _ _ ?ho); (case ho => exact hK)) | (exact pd_113 _ _ hK) | (exact pd_117 _ _ _ hK) | (exact pd_120 _ _ _ hK) | (exact pd_127 _ _ hK) | (exact pd_148 _ _ _ hK) | (exact pd_149 _ _ _ hK)) | ((with_reducible show CallIn _ _ _ _ _); first | (refine .inr ⟨_, rfl, fun K hK => hK⟩) | (refine .inr ⟨_, rfl, fun K hK => hK true⟩) | (refine .inr ⟨_, rfl, fun K hK => hK 0 (by simp)⟩))) | omega | ((with_reducible refine (hI _).2 ?_); rw [hy (by omega)]; exact ⟨j + 1, _, rfl, by omega, by omega⟩) | (rw [hy (by omega), hμ, hμ]; simp; omega) | assumption | (exact stateB_eta (by assumption) (by decide) (by decide))
theorem pd_45 (code : D) (Q : List D → Prop) (ho : ∀ (s : D) (k : Int) (p : D) (e : D), (stateB s) → Q [s, .int k, p, e]) : PC Try.prog 45 [.sc (.sl [(.int .u8)]) code] [.st [(.sl [(.int .i64), (.int .i64), (.int .i64), (.int .i64), (.int .i64), (.int .i64), (.int .i64), (.int .i64), (.int .i64), (.int .i64), (.int .i64), .bool, .bool]), (.sl [(.int .i64), (.int .i64), .bool]), (.int .i64), (.int .i64)], .sc (.int .i64), .st [(.int .i64), (.int .i64), (.int .i64), (.int .i64), (.int .i64), (.int .i64), (.int .i64)], .st [(.int .i64), (.int .i64), (.int .i64), (.int .i64), (.int .i64), (.int .i64), .bool]] Q := (pc_45 code).mono (by rintro _ ⟨s, k, p, e, hc, rfl⟩; exact ho s k p e hc)
/- impl.PieceAt$1 -/
theorem pc_154 (e c : D) : PC Try.prog 154 [.st [(.int .i64), (.int .i64), (.int .i64), (.int .i64), (.int .i64), (.int .i64), (.int .i64), (.int .i64), (.int .i64), (.int .i64), (.int .i64), .bool, .bool] e, .bx [(.int .i64)] c] [.sc .bool] fun o => o = [.bool ((e.fld 0).toI == (c.fld 0).toI)] := by
  refine PC.of_sigC («as» := [.st [(.int .i64), (.int .i64), (.int .i64), (.int .i64), (.int .i64), (.int .i64), (.int .i64), (.int .i64), (.int .i64), (.int .i64), (.int .i64), .bool, .bool] e]) [([(.int .i64)], c)] mix sig_154 ⟨rfl, trivial⟩ rfl fun hok => ?_
  have e_e : D.lst [e.fld 0, e.fld 1, e.fld 2, e.fld 3, e.fld 4, e.fld 5, e.fld 6, e.fld 7, e.fld 8, e.fld 9, e.fld 10, e.fld 11, e.fld 12] = e := by simpa [List.range, List.range.loop] using okL_eta (hok _ (.head _))
  have k_e : okL [(.int .i64), (.int .i64), (.int .i64), (.int .i64), (.int .i64), (.int .i64), (.int .i64), (.int .i64), (.int .i64), (.int .i64), (.int .i64), .bool, .bool] e := (hok _ (.head _))
  apply says_den (φ := fun _ _ => [])
  simp [e_e, tree_154, T.says, X.den, O1.den, O2.den, O3.den, callD, XArg.ev, XArg.dat, Callee'.num, backs, DArg.back, Conds.den, cloArgs]
theorem pd_154 (e c : D) (Q : List D → Prop) (ho : Q [.bool ((e.fld 0).toI == (c.fld 0).toI)]) : PC Try.prog 154 [.st [(.int .i64), (.int .i64), (.int .i64), (.int .i64), (.int .i64), (.int .i64), (.int .i64), (.int .i64), (.int .i64), (.int .i64), (.int .i64), .bool, .bool] e, .bx [(.int .i64)] c] [.sc .bool] Q := (pc_154 e c).mono fun _ h => h ▸ ho
/- slices.IndexFunc[[]impl.Piece,impl.Piece] -/
def phi_153 (a c : D) : Nat → List D → List D
  | 154, [e, c] => [.bool ((e.fld 0).toI == (c.fld 0).toI)]
  | 0, [e] => [.bool ((e.fld 0).toI == (c.fld 0).toI)]
  | _, _ => []
theorem pc_153 (a c : D) : PC Try.prog 153 [.sc (.sl [(.int .i64), (.int .i64), (.int .i64), (.int .i64), (.int .i64), (.int .i64), (.int .i64), (.int .i64), (.int .i64), (.int .i64), (.int .i64), .bool, .bool]) a, .clo 154 [([(.int .i64)], c)]] [.sc (.int .i64)] fun o => o = [.int (findR (fun i => ((a.elem i).fld 0).toI == (c.fld 0).toI) a.toL.length)] := by
  refine PC.of_sig mix sig_153 ⟨rfl, trivial, trivial⟩ rfl fun hok => ?_
  have e_a := sl_eta (hok _ (.head _))
  have l_a := sl_len (hok _ (.head _))
  have k_a := sl_all (hok _ (.head _))
  have E_a : ∀ i, i < a.toL.length → D.lst [(a.elem i).fld 0, (a.elem i).fld 1, (a.elem i).fld 2, (a.elem i).fld 3, (a.elem i).fld 4, (a.elem i).fld 5, (a.elem i).fld 6, (a.elem i).fld 7, (a.elem i).fld 8, (a.elem i).fld 9, (a.elem i).fld 10, (a.elem i).fld 11, (a.elem i).fld 12] = a.elem i := fun i hi => by simpa [List.range, List.range.loop] using okL_eta (k_a _ (elem_mem hi))
  apply says_den (φ := (phi_153 a c))
  simp [e_a, E_a, tree_153, T.says, X.den, O1.den, O2.den, O3.den, callD, XArg.ev, XArg.dat, Callee'.num, backs, DArg.back, Conds.den, cloArgs, phi_153, pd_154]
  refine fun _ => ?_
  refine den_for a.toL.length 0 (fun i => [.int i]) (fun i => ∀ j, j < i → (((a.elem j).fld 0).toI == (c.fld 0).toI) = false) (by simp) (by simp [X.den]) (by simp) fun i hi hR => ?_
  apply says_den (φ := (phi_153 a c))
  by_cases hlt : i < a.toL.length
  · simp [e_a, E_a, tree_153, T.says, X.den, O1.den, O2.den, O3.den, callD, XArg.ev, XArg.dat, Callee'.num, backs, DArg.back, Conds.den, cloArgs, phi_153, pd_154, hlt]
    (repeat' (first | (with_reducible apply And.intro) | intro _))
    · exact (findR_some (p := fun i => ((a.elem i).fld 0).toI == (c.fld 0).toI) hlt (by simp_all) hR).symm
    · (first | omega | (simp only [IntKind.wrap_i64, maxL] at *; omega) | (simp [IntKind.wrap_i64, maxL] at *; omega))
    · grind
  · simp [e_a, E_a, tree_153, T.says, X.den, O1.den, O2.den, O3.den, callD, XArg.ev, XArg.dat, Callee'.num, backs, DArg.back, Conds.den, cloArgs, phi_153, pd_154, hlt]
    (repeat' (first | (with_reducible apply And.intro) | intro _))
    · exact (findR_none fun j hj => hR j (by omega)).symm
theorem pd_153 (a c : D) (Q : List D → Prop) (ho : Q [.int (findR (fun i => ((a.elem i).fld 0).toI == (c.fld 0).toI) a.toL.length)]) : PC Try.prog 153 [.sc (.sl [(.int .i64), (.int .i64), (.int .i64), (.int .i64), (.int .i64), (.int .i64), (.int .i64), (.int .i64), (.int .i64), (.int .i64), (.int .i64), .bool, .bool]) a, .clo 154 [([(.int .i64)], c)]] [.sc (.int .i64)] Q := (pc_153 a c).mono fun _ h => h ▸ ho
/- impl.PieceAt -/
def phi_64 (s n : D) : Nat → List D → List D
  | 153, [a, _] => [.int (findR (fun i => ((a.elem i).fld 0).toI == n.toI) a.toL.length)]
  | 154, [e, c] => [.bool ((e.fld 0).toI == (c.fld 0).toI)]
  | _, _ => []
theorem pc_64 (s n : D) : PC Try.prog 64 [.st [(.sl [(.int .i64), (.int .i64), (.int .i64), (.int .i64), (.int .i64), (.int .i64), (.int .i64), (.int .i64), (.int .i64), (.int .i64), (.int .i64), .bool, .bool]), (.sl [(.int .i64), (.int .i64), .bool]), (.int .i64), (.int .i64)] s, .sc (.int .i64) n] [.sc (.int .i64)] fun o => o = [.int (pieceAt s n.toI)] := by
  refine PC.of_sig mix sig_64 ⟨rfl, rfl, trivial⟩ rfl fun hok => ?_
  have e_s : D.lst [s.fld 0, s.fld 1, s.fld 2, s.fld 3] = s := by simpa [List.range, List.range.loop] using okL_eta (hok _ (.head _))
  have k_s : okL [(.sl [(.int .i64), (.int .i64), (.int .i64), (.int .i64), (.int .i64), (.int .i64), (.int .i64), (.int .i64), (.int .i64), (.int .i64), (.int .i64), .bool, .bool]), (.sl [(.int .i64), (.int .i64), .bool]), (.int .i64), (.int .i64)] s := (hok _ (.head _))
  have e_s_0 : D.lst (s.fld 0).toL = s.fld 0 := sl_eta (okL_at k_s (i := 0) rfl)
  have l_s_0 := sl_len (okL_at k_s (i := 0) rfl)
  have k_s_0 := sl_all (okL_at k_s (i := 0) rfl)
  have E_s_0 : ∀ i, i < (s.fld 0).toL.length → D.lst [((s.fld 0).elem i).fld 0, ((s.fld 0).elem i).fld 1, ((s.fld 0).elem i).fld 2, ((s.fld 0).elem i).fld 3, ((s.fld 0).elem i).fld 4, ((s.fld 0).elem i).fld 5, ((s.fld 0).elem i).fld 6, ((s.fld 0).elem i).fld 7, ((s.fld 0).elem i).fld 8, ((s.fld 0).elem i).fld 9, ((s.fld 0).elem i).fld 10, ((s.fld 0).elem i).fld 11, ((s.fld 0).elem i).fld 12] = (s.fld 0).elem i := fun i hi => by simpa [List.range, List.range.loop] using okL_eta (k_s_0 _ (elem_mem hi))
  have e_s_1 : D.lst (s.fld 1).toL = s.fld 1 := sl_eta (okL_at k_s (i := 1) rfl)
  have l_s_1 := sl_len (okL_at k_s (i := 1) rfl)
  have k_s_1 := sl_all (okL_at k_s (i := 1) rfl)
  have E_s_1 : ∀ i, i < (s.fld 1).toL.length → D.lst [((s.fld 1).elem i).fld 0, ((s.fld 1).elem i).fld 1, ((s.fld 1).elem i).fld 2] = (s.fld 1).elem i := fun i hi => by simpa [List.range, List.range.loop] using okL_eta (k_s_1 _ (elem_mem hi))
  have e_n := int_eta (hok _ (.tail _ (.head _)))
  have b_n := int_range (hok _ (.tail _ (.head _)))
  apply says_den (φ := (phi_64 s n))
  simp [e_s_0, E_s_0, e_s_1, E_s_1, e_s, e_n, tree_64, T.says, X.den, O1.den, O2.den, O3.den, callD, XArg.ev, XArg.dat, Callee'.num, backs, DArg.back, Conds.den, cloArgs, phi_64, pd_153, pd_154, pieceAt]
theorem pd_64 (s n : D) (Q : List D → Prop) (ho : Q [.int (pieceAt s n.toI)]) : PC Try.prog 64 [.st [(.sl [(.int .i64), (.int .i64), (.int .i64), (.int .i64), (.int .i64), (.int .i64), (.int .i64), (.int .i64), (.int .i64), (.int .i64), (.int .i64), .bool, .bool]), (.sl [(.int .i64), (.int .i64), .bool]), (.int .i64), (.int .i64)] s, .sc (.int .i64) n] [.sc (.int .i64)] Q := (pc_64 s n).mono fun _ h => h ▸ ho
/- impl.isSide -/
def phi_129 : Nat → List D → List D
  | 123, [a, b, c] => [.bool (inR a.toI b.toI c.toI)]
  | _, _ => []
theorem pc_129 (s n : D) : PC Try.prog 129 [.st [(.sl [(.int .i64), (.int .i64), (.int .i64), (.int .i64), (.int .i64), (.int .i64), (.int .i64), (.int .i64), (.int .i64), (.int .i64), (.int .i64), .bool, .bool]), (.sl [(.int .i64), (.int .i64), .bool]), (.int .i64), (.int .i64)] s, .sc (.int .i64) n] [.sc .bool] fun o => o = [.bool (inR n.toI 0 ((s.fld 1).toL.length - 1))] := by
  refine PC.of_sig mix sig_129 ⟨rfl, rfl, trivial⟩ rfl fun hok => ?_
  have e_s : D.lst [s.fld 0, s.fld 1, s.fld 2, s.fld 3] = s := by simpa [List.range, List.range.loop] using okL_eta (hok _ (.head _))
  have k_s : okL [(.sl [(.int .i64), (.int .i64), (.int .i64), (.int .i64), (.int .i64), (.int .i64), (.int .i64), (.int .i64), (.int .i64), (.int .i64), (.int .i64), .bool, .bool]), (.sl [(.int .i64), (.int .i64), .bool]), (.int .i64), (.int .i64)] s := (hok _ (.head _))
  have e_s_0 : D.lst (s.fld 0).toL = s.fld 0 := sl_eta (okL_at k_s (i := 0) rfl)
  have l_s_0 := sl_len (okL_at k_s (i := 0) rfl)
  have k_s_0 := sl_all (okL_at k_s (i := 0) rfl)
  have E_s_0 : ∀ i, i < (s.fld 0).toL.length → D.lst [((s.fld 0).elem i).fld 0, ((s.fld 0).elem i).fld 1, ((s.fld 0).elem i).fld 2, ((s.fld 0).elem i).fld 3, ((s.fld 0).elem i).fld 4, ((s.fld 0).elem i).fld 5, ((s.fld 0).elem i).fld 6, ((s.fld 0).elem i).fld 7, ((s.fld 0).elem i).fld 8, ((s.fld 0).elem i).fld 9, ((s.fld 0).elem i).fld 10, ((s.fld 0).elem i).fld 11, ((s.fld 0).elem i).fld 12] = (s.fld 0).elem i := fun i hi => by simpa [List.range, List.range.loop] using okL_eta (k_s_0 _ (elem_mem hi))
  have e_s_1 : D.lst (s.fld 1).toL = s.fld 1 := sl_eta (okL_at k_s (i := 1) rfl)
  have l_s_1 := sl_len (okL_at k_s (i := 1) rfl)
  have k_s_1 := sl_all (okL_at k_s (i := 1) rfl)
  have E_s_1 : ∀ i, i < (s.fld 1).toL.length → D.lst [((s.fld 1).elem i).fld 0, ((s.fld 1).elem i).fld 1, ((s.fld 1).elem i).fld 2] = (s.fld 1).elem i := fun i hi => by simpa [List.range, List.range.loop] using okL_eta (k_s_1 _ (elem_mem hi))
  have e_n := int_eta (hok _ (.tail _ (.head _)))
  have b_n := int_range (hok _ (.tail _ (.head _)))
  apply says_den (φ := (phi_129))
  have hw : IntKind.i64.wrap (((s.fld 1).toL.length : Int) - 1) = (s.fld 1).toL.length - 1 := by (first | omega | (simp only [IntKind.wrap_i64, maxL] at *; omega) | (simp [IntKind.wrap_i64, maxL] at *; omega))
  simp [e_s_0, E_s_0, e_s_1, E_s_1, e_s, e_n, tree_129, T.says, X.den, O1.den, O2.den, O3.den, callD, XArg.ev, XArg.dat, Callee'.num, backs, DArg.back, Conds.den, cloArgs, phi_129, pd_123, hw]
theorem pd_129 (s n : D) (Q : List D → Prop) (ho : Q [.bool (inR n.toI 0 ((s.fld 1).toL.length - 1))]) : PC Try.prog 129 [.st [(.sl [(.int .i64), (.int .i64), (.int .i64), (.int .i64), (.int .i64), (.int .i64), (.int .i64), (.int .i64), (.int .i64), (.int .i64), (.int .i64), .bool, .bool]), (.sl [(.int .i64), (.int .i64), .bool]), (.int .i64), (.int .i64)] s, .sc (.int .i64) n] [.sc .bool] Q := (pc_129 s n).mono fun _ h => h ▸ ho
/- impl.Target -/
def phi_52 : Nat → List D → List D
  | 64, [s, n] => [.int (pieceAt s n.toI)]
  | 129, [s, n] => [.bool (inR n.toI 0 ((s.fld 1).toL.length - 1))]
  | _, _ => []
theorem pc_52 (s e : D) : PC Try.prog 52 [.st [(.sl [(.int .i64), (.int .i64), (.int .i64), (.int .i64), (.int .i64), (.int .i64), (.int .i64), (.int .i64), (.int .i64), (.int .i64), (.int .i64), .bool, .bool]), (.sl [(.int .i64), (.int .i64), .bool]), (.int .i64), (.int .i64)] s, .st [(.int .i64), (.int .i64), (.int .i64), (.int .i64), (.int .i64), (.int .i64), .bool] e] [.sc (.int .i64)] fun o => o = [.int (target s e)] := by
  refine PC.of_sig mix sig_52 ⟨rfl, rfl, trivial⟩ rfl fun hok => ?_
  have e_s : D.lst [s.fld 0, s.fld 1, s.fld 2, s.fld 3] = s := by simpa [List.range, List.range.loop] using okL_eta (hok _ (.head _))
  have k_s : okL [(.sl [(.int .i64), (.int .i64), (.int .i64), (.int .i64), (.int .i64), (.int .i64), (.int .i64), (.int .i64), (.int .i64), (.int .i64), (.int .i64), .bool, .bool]), (.sl [(.int .i64), (.int .i64), .bool]), (.int .i64), (.int .i64)] s := (hok _ (.head _))
  have e_s_0 : D.lst (s.fld 0).toL = s.fld 0 := sl_eta (okL_at k_s (i := 0) rfl)
  have l_s_0 := sl_len (okL_at k_s (i := 0) rfl)
  have k_s_0 := sl_all (okL_at k_s (i := 0) rfl)
  have E_s_0 : ∀ i, i < (s.fld 0).toL.length → D.lst [((s.fld 0).elem i).fld 0, ((s.fld 0).elem i).fld 1, ((s.fld 0).elem i).fld 2, ((s.fld 0).elem i).fld 3, ((s.fld 0).elem i).fld 4, ((s.fld 0).elem i).fld 5, ((s.fld 0).elem i).fld 6, ((s.fld 0).elem i).fld 7, ((s.fld 0).elem i).fld 8, ((s.fld 0).elem i).fld 9, ((s.fld 0).elem i).fld 10, ((s.fld 0).elem i).fld 11, ((s.fld 0).elem i).fld 12] = (s.fld 0).elem i := fun i hi => by simpa [List.range, List.range.loop] using okL_eta (k_s_0 _ (elem_mem hi))
  have e_s_1 : D.lst (s.fld 1).toL = s.fld 1 := sl_eta (okL_at k_s (i := 1) rfl)
  have l_s_1 := sl_len (okL_at k_s (i := 1) rfl)
  have k_s_1 := sl_all (okL_at k_s (i := 1) rfl)
  have E_s_1 : ∀ i, i < (s.fld 1).toL.length → D.lst [((s.fld 1).elem i).fld 0, ((s.fld 1).elem i).fld 1, ((s.fld 1).elem i).fld 2] = (s.fld 1).elem i := fun i hi => by simpa [List.range, List.range.loop] using okL_eta (k_s_1 _ (elem_mem hi))
  have e_e : D.lst [e.fld 0, e.fld 1, e.fld 2, e.fld 3, e.fld 4, e.fld 5, e.fld 6] = e := by simpa [List.range, List.range.loop] using okL_eta (hok _ (.tail _ (.head _)))
  have k_e : okL [(.int .i64), (.int .i64), (.int .i64), (.int .i64), (.int .i64), (.int .i64), .bool] e := (hok _ (.tail _ (.head _)))
  apply says_den (φ := (phi_52))
  have hr := pieceAt_range s (e.fld 2).toI
  have i3 := int_eta (okL_at k_e (i := 3) rfl)
  have hw : IntKind.i64.wrap (((s.fld 1).toL.length : Int) - 1) = (s.fld 1).toL.length - 1 := by (first | omega | (simp only [IntKind.wrap_i64, maxL] at *; omega) | (simp [IntKind.wrap_i64, maxL] at *; omega))
  simp [e_s_0, E_s_0, e_s_1, E_s_1, e_s, e_e, tree_52, T.says, X.den, O1.den, O2.den, O3.den, callD, XArg.ev, XArg.dat, Callee'.num, backs, DArg.back, Conds.den, cloArgs, phi_52, pd_64, pd_129, hw]
  (repeat' (first | (with_reducible apply And.intro) | intro _))
  all_goals first | omega | (rw [target, if_pos (by omega), if_neg (by simp_all)]; done) | (rw [target, if_pos (by omega), if_pos (by simp_all)]; exact i3.symm) | (rw [target, if_neg (by omega), if_pos (by omega)]; done) | skip
  · rw [target, if_neg (by omega), if_neg (by omega)]
    exact (int_eta (okL_at (k_s_0 _ (elem_mem (by omega))) (i := 2) rfl)).symm
theorem pd_52 (s e : D) (Q : List D → Prop) (ho : Q [.int (target s e)]) : PC Try.prog 52 [.st [(.sl [(.int .i64), (.int .i64), (.int .i64), (.int .i64), (.int .i64), (.int .i64), (.int .i64), (.int .i64), (.int .i64), (.int .i64), (.int .i64), .bool, .bool]), (.sl [(.int .i64), (.int .i64), .bool]), (.int .i64), (.int .i64)] s, .st [(.int .i64), (.int .i64), (.int .i64), (.int .i64), (.int .i64), (.int .i64), .bool] e] [.sc (.int .i64)] Q := (pc_52 s e).mono fun _ h => h ▸ ho
/- impl.TargetFits -/
def phi_48 : Nat → List D → List D
  | 52, [s, e] => [.int (target s e)]
  | _, _ => []
theorem pc_48 (s n p e : D) : PC Try.prog 48 [.st [(.sl [(.int .i64), (.int .i64), (.int .i64), (.int .i64), (.int .i64), (.int .i64), (.int .i64), (.int .i64), (.int .i64), (.int .i64), (.int .i64), .bool, .bool]), (.sl [(.int .i64), (.int .i64), .bool]), (.int .i64), (.int .i64)] s, .sc (.int .i64) n, .st [(.int .i64), (.int .i64), (.int .i64), (.int .i64), (.int .i64), (.int .i64), (.int .i64)] p, .st [(.int .i64), (.int .i64), (.int .i64), (.int .i64), (.int .i64), (.int .i64), .bool] e] [.sc .bool] fun o => o = [.bool (targetFits s n.toI p e)] := by
  refine PC.of_sig mix sig_48 ⟨rfl, rfl, rfl, rfl, trivial⟩ rfl fun hok => ?_
  have e_s : D.lst [s.fld 0, s.fld 1, s.fld 2, s.fld 3] = s := by simpa [List.range, List.range.loop] using okL_eta (hok _ (.head _))
  have k_s : okL [(.sl [(.int .i64), (.int .i64), (.int .i64), (.int .i64), (.int .i64), (.int .i64), (.int .i64), (.int .i64), (.int .i64), (.int .i64), (.int .i64), .bool, .bool]), (.sl [(.int .i64), (.int .i64), .bool]), (.int .i64), (.int .i64)] s := (hok _ (.head _))
  have e_s_0 : D.lst (s.fld 0).toL = s.fld 0 := sl_eta (okL_at k_s (i := 0) rfl)
  have l_s_0 := sl_len (okL_at k_s (i := 0) rfl)
  have k_s_0 := sl_all (okL_at k_s (i := 0) rfl)
  have E_s_0 : ∀ i, i < (s.fld 0).toL.length → D.lst [((s.fld 0).elem i).fld 0, ((s.fld 0).elem i).fld 1, ((s.fld 0).elem i).fld 2, ((s.fld 0).elem i).fld 3, ((s.fld 0).elem i).fld 4, ((s.fld 0).elem i).fld 5, ((s.fld 0).elem i).fld 6, ((s.fld 0).elem i).fld 7, ((s.fld 0).elem i).fld 8, ((s.fld 0).elem i).fld 9, ((s.fld 0).elem i).fld 10, ((s.fld 0).elem i).fld 11, ((s.fld 0).elem i).fld 12] = (s.fld 0).elem i := fun i hi => by simpa [List.range, List.range.loop] using okL_eta (k_s_0 _ (elem_mem hi))
  have e_s_1 : D.lst (s.fld 1).toL = s.fld 1 := sl_eta (okL_at k_s (i := 1) rfl)
  have l_s_1 := sl_len (okL_at k_s (i := 1) rfl)
  have k_s_1 := sl_all (okL_at k_s (i := 1) rfl)
  have E_s_1 : ∀ i, i < (s.fld 1).toL.length → D.lst [((s.fld 1).elem i).fld 0, ((s.fld 1).elem i).fld 1, ((s.fld 1).elem i).fld 2] = (s.fld 1).elem i := fun i hi => by simpa [List.range, List.range.loop] using okL_eta (k_s_1 _ (elem_mem hi))
  have e_n := int_eta (hok _ (.tail _ (.head _)))
  have b_n := int_range (hok _ (.tail _ (.head _)))
  have e_p : D.lst [p.fld 0, p.fld 1, p.fld 2, p.fld 3, p.fld 4, p.fld 5, p.fld 6] = p := by simpa [List.range, List.range.loop] using okL_eta (hok _ (.tail _ (.tail _ (.head _))))
  have k_p : okL [(.int .i64), (.int .i64), (.int .i64), (.int .i64), (.int .i64), (.int .i64), (.int .i64)] p := (hok _ (.tail _ (.tail _ (.head _))))
  have e_e : D.lst [e.fld 0, e.fld 1, e.fld 2, e.fld 3, e.fld 4, e.fld 5, e.fld 6] = e := by simpa [List.range, List.range.loop] using okL_eta (hok _ (.tail _ (.tail _ (.tail _ (.head _)))))
  have k_e : okL [(.int .i64), (.int .i64), (.int .i64), (.int .i64), (.int .i64), (.int .i64), .bool] e := (hok _ (.tail _ (.tail _ (.tail _ (.head _)))))
  apply says_den (φ := (phi_48))
  simp [e_s_0, E_s_0, e_s_1, E_s_1, e_s, e_n, e_p, e_e, tree_48, T.says, X.den, O1.den, O2.den, O3.den, callD, XArg.ev, XArg.dat, Callee'.num, backs, DArg.back, Conds.den, cloArgs, phi_48, pd_52, targetFits]
  all_goals grind
theorem pd_48 (s n p e : D) (Q : List D → Prop) (ho : Q [.bool (targetFits s n.toI p e)]) : PC Try.prog 48 [.st [(.sl [(.int .i64), (.int .i64), (.int .i64), (.int .i64), (.int .i64), (.int .i64), (.int .i64), (.int .i64), (.int .i64), (.int .i64), (.int .i64), .bool, .bool]), (.sl [(.int .i64), (.int .i64), .bool]), (.int .i64), (.int .i64)] s, .sc (.int .i64) n, .st [(.int .i64), (.int .i64), (.int .i64), (.int .i64), (.int .i64), (.int .i64), (.int .i64)] p, .st [(.int .i64), (.int .i64), (.int .i64), (.int .i64), (.int .i64), (.int .i64), .bool] e] [.sc .bool] Q := (pc_48 s n p e).mono fun _ h => h ▸ ho
/- impl.Source -/
def phi_61 : Nat → List D → List D
  | 64, [s, n] => [.int (pieceAt s n.toI)]
  | _, _ => []
theorem pc_61 (s e : D) : PC Try.prog 61 [.st [(.sl [(.int .i64), (.int .i64), (.int .i64), (.int .i64), (.int .i64), (.int .i64), (.int .i64), (.int .i64), (.int .i64), (.int .i64), (.int .i64), .bool, .bool]), (.sl [(.int .i64), (.int .i64), .bool]), (.int .i64), (.int .i64)] s, .st [(.int .i64), (.int .i64), (.int .i64), (.int .i64), (.int .i64), (.int .i64), .bool] e] [.st [(.int .i64), (.int .i64), (.int .i64), (.int .i64), (.int .i64), (.int .i64), (.int .i64), (.int .i64), (.int .i64), (.int .i64), (.int .i64), .bool, .bool]] fun o => o = [source s e] := by
  refine PC.of_sig mix sig_61 ⟨rfl, rfl, trivial⟩ rfl fun hok => ?_
  have e_s : D.lst [s.fld 0, s.fld 1, s.fld 2, s.fld 3] = s := by simpa [List.range, List.range.loop] using okL_eta (hok _ (.head _))
  have k_s : okL [(.sl [(.int .i64), (.int .i64), (.int .i64), (.int .i64), (.int .i64), (.int .i64), (.int .i64), (.int .i64), (.int .i64), (.int .i64), (.int .i64), .bool, .bool]), (.sl [(.int .i64), (.int .i64), .bool]), (.int .i64), (.int .i64)] s := (hok _ (.head _))
  have e_s_0 : D.lst (s.fld 0).toL = s.fld 0 := sl_eta (okL_at k_s (i := 0) rfl)
  have l_s_0 := sl_len (okL_at k_s (i := 0) rfl)
  have k_s_0 := sl_all (okL_at k_s (i := 0) rfl)
  have E_s_0 : ∀ i, i < (s.fld 0).toL.length → D.lst [((s.fld 0).elem i).fld 0, ((s.fld 0).elem i).fld 1, ((s.fld 0).elem i).fld 2, ((s.fld 0).elem i).fld 3, ((s.fld 0).elem i).fld 4, ((s.fld 0).elem i).fld 5, ((s.fld 0).elem i).fld 6, ((s.fld 0).elem i).fld 7, ((s.fld 0).elem i).fld 8, ((s.fld 0).elem i).fld 9, ((s.fld 0).elem i).fld 10, ((s.fld 0).elem i).fld 11, ((s.fld 0).elem i).fld 12] = (s.fld 0).elem i := fun i hi => by simpa [List.range, List.range.loop] using okL_eta (k_s_0 _ (elem_mem hi))
  have e_s_1 : D.lst (s.fld 1).toL = s.fld 1 := sl_eta (okL_at k_s (i := 1) rfl)
  have l_s_1 := sl_len (okL_at k_s (i := 1) rfl)
  have k_s_1 := sl_all (okL_at k_s (i := 1) rfl)
  have E_s_1 : ∀ i, i < (s.fld 1).toL.length → D.lst [((s.fld 1).elem i).fld 0, ((s.fld 1).elem i).fld 1, ((s.fld 1).elem i).fld 2] = (s.fld 1).elem i := fun i hi => by simpa [List.range, List.range.loop] using okL_eta (k_s_1 _ (elem_mem hi))
  have e_e : D.lst [e.fld 0, e.fld 1, e.fld 2, e.fld 3, e.fld 4, e.fld 5, e.fld 6] = e := by simpa [List.range, List.range.loop] using okL_eta (hok _ (.tail _ (.head _)))
  have k_e : okL [(.int .i64), (.int .i64), (.int .i64), (.int .i64), (.int .i64), (.int .i64), .bool] e := (hok _ (.tail _ (.head _)))
  apply says_den (φ := (phi_61))
  have hr := pieceAt_range s (e.fld 1).toI
  simp [e_s_0, E_s_0, e_s_1, E_s_1, e_s, e_e, tree_61, T.says, X.den, O1.den, O2.den, O3.den, callD, XArg.ev, XArg.dat, Callee'.num, backs, DArg.back, Conds.den, cloArgs, phi_61, pd_64]
  (repeat' (first | (with_reducible apply And.intro) | intro _))
  · rw [source, if_pos ‹_›]; rfl
  · omega
  · omega
  · rw [E_s_0 _ (by omega), source, if_neg (by omega)]
theorem pd_61 (s e : D) (Q : List D → Prop) (ho : Q [source s e]) : PC Try.prog 61 [.st [(.sl [(.int .i64), (.int .i64), (.int .i64), (.int .i64), (.int .i64), (.int .i64), (.int .i64), (.int .i64), (.int .i64), (.int .i64), (.int .i64), .bool, .bool]), (.sl [(.int .i64), (.int .i64), .bool]), (.int .i64), (.int .i64)] s, .st [(.int .i64), (.int .i64), (.int .i64), (.int .i64), (.int .i64), (.int .i64), .bool] e] [.st [(.int .i64), (.int .i64), (.int .i64), (.int .i64), (.int .i64), (.int .i64), (.int .i64), (.int .i64), (.int .i64), (.int .i64), (.int .i64), .bool, .bool]] Q := (pc_61 s e).mono fun _ h => h ▸ ho
/- impl.SourceFits -/
def phi_50 : Nat → List D → List D
  | 61, [s, e] => [source s e]
  | _, _ => []
theorem pc_50 (s p e : D) : PC Try.prog 50 [.st [(.sl [(.int .i64), (.int .i64), (.int .i64), (.int .i64), (.int .i64), (.int .i64), (.int .i64), (.int .i64), (.int .i64), (.int .i64), (.int .i64), .bool, .bool]), (.sl [(.int .i64), (.int .i64), .bool]), (.int .i64), (.int .i64)] s, .st [(.int .i64), (.int .i64), (.int .i64), (.int .i64), (.int .i64), (.int .i64), (.int .i64)] p, .st [(.int .i64), (.int .i64), (.int .i64), (.int .i64), (.int .i64), (.int .i64), .bool] e] [.sc .bool] fun o => o = [.bool (sourceFits s p e)] := by
  refine PC.of_sig mix sig_50 ⟨rfl, rfl, rfl, trivial⟩ rfl fun hok => ?_
  have e_s : D.lst [s.fld 0, s.fld 1, s.fld 2, s.fld 3] = s := by simpa [List.range, List.range.loop] using okL_eta (hok _ (.head _))
  have k_s : okL [(.sl [(.int .i64), (.int .i64), (.int .i64), (.int .i64), (.int .i64), (.int .i64), (.int .i64), (.int .i64), (.int .i64), (.int .i64), (.int .i64), .bool, .bool]), (.sl [(.int .i64), (.int .i64), .bool]), (.int .i64), (.int .i64)] s := (hok _ (.head _))
  have e_s_0 : D.lst (s.fld 0).toL = s.fld 0 := sl_eta (okL_at k_s (i := 0) rfl)
  have l_s_0 := sl_len (okL_at k_s (i := 0) rfl)
  have k_s_0 := sl_all (okL_at k_s (i := 0) rfl)
  have E_s_0 : ∀ i, i < (s.fld 0).toL.length → D.lst [((s.fld 0).elem i).fld 0, ((s.fld 0).elem i).fld 1, ((s.fld 0).elem i).fld 2, ((s.fld 0).elem i).fld 3, ((s.fld 0).elem i).fld 4, ((s.fld 0).elem i).fld 5, ((s.fld 0).elem i).fld 6, ((s.fld 0).elem i).fld 7, ((s.fld 0).elem i).fld 8, ((s.fld 0).elem i).fld 9, ((s.fld 0).elem i).fld 10, ((s.fld 0).elem i).fld 11, ((s.fld 0).elem i).fld 12] = (s.fld 0).elem i := fun i hi => by simpa [List.range, List.range.loop] using okL_eta (k_s_0 _ (elem_mem hi))
  have e_s_1 : D.lst (s.fld 1).toL = s.fld 1 := sl_eta (okL_at k_s (i := 1) rfl)
  have l_s_1 := sl_len (okL_at k_s (i := 1) rfl)
  have k_s_1 := sl_all (okL_at k_s (i := 1) rfl)
  have E_s_1 : ∀ i, i < (s.fld 1).toL.length → D.lst [((s.fld 1).elem i).fld 0, ((s.fld 1).elem i).fld 1, ((s.fld 1).elem i).fld 2] = (s.fld 1).elem i := fun i hi => by simpa [List.range, List.range.loop] using okL_eta (k_s_1 _ (elem_mem hi))
  have e_p : D.lst [p.fld 0, p.fld 1, p.fld 2, p.fld 3, p.fld 4, p.fld 5, p.fld 6] = p := by simpa [List.range, List.range.loop] using okL_eta (hok _ (.tail _ (.head _)))
  have k_p : okL [(.int .i64), (.int .i64), (.int .i64), (.int .i64), (.int .i64), (.int .i64), (.int .i64)] p := (hok _ (.tail _ (.head _)))
  have e_e : D.lst [e.fld 0, e.fld 1, e.fld 2, e.fld 3, e.fld 4, e.fld 5, e.fld 6] = e := by simpa [List.range, List.range.loop] using okL_eta (hok _ (.tail _ (.tail _ (.head _))))
  have k_e : okL [(.int .i64), (.int .i64), (.int .i64), (.int .i64), (.int .i64), (.int .i64), .bool] e := (hok _ (.tail _ (.tail _ (.head _))))
  apply says_den (φ := (phi_50))
  simp [e_s_0, E_s_0, e_s_1, E_s_1, e_s, e_p, e_e, tree_50, T.says, X.den, O1.den, O2.den, O3.den, callD, XArg.ev, XArg.dat, Callee'.num, backs, DArg.back, Conds.den, cloArgs, phi_50, pd_61, sourceFits]
  all_goals grind
theorem pd_50 (s p e : D) (Q : List D → Prop) (ho : Q [.bool (sourceFits s p e)]) : PC Try.prog 50 [.st [(.sl [(.int .i64), (.int .i64), (.int .i64), (.int .i64), (.int .i64), (.int .i64), (.int .i64), (.int .i64), (.int .i64), (.int .i64), (.int .i64), .bool, .bool]), (.sl [(.int .i64), (.int .i64), .bool]), (.int .i64), (.int .i64)] s, .st [(.int .i64), (.int .i64), (.int .i64), (.int .i64), (.int .i64), (.int .i64), (.int .i64)] p, .st [(.int .i64), (.int .i64), (.int .i64), (.int .i64), (.int .i64), (.int .i64), .bool] e] [.sc .bool] Q := (pc_50 s p e).mono fun _ h => h ▸ ho
/- impl.isId -/
def phi_142 : Nat → List D → List D
  | 123, [a, b, c] => [.bool (inR a.toI b.toI c.toI)]
  | _, _ => []
theorem pc_142 (a : D) : PC Try.prog 142 [.sc (.int .i64) a] [.sc .bool] fun o => o = [.bool (inR a.toI 1 99)] := by
  refine PC.of_sig mix sig_142 ⟨rfl, trivial⟩ rfl fun hok => ?_
  have e_a := int_eta (hok _ (.head _))
  have b_a := int_range (hok _ (.head _))
  apply says_den (φ := (phi_142))
  simp [e_a, tree_142, T.says, X.den, O1.den, O2.den, O3.den, callD, XArg.ev, XArg.dat, Callee'.num, backs, DArg.back, Conds.den, cloArgs, phi_142, pd_123]
theorem pd_142 (a : D) (Q : List D → Prop) (ho : Q [.bool (inR a.toI 1 99)]) : PC Try.prog 142 [.sc (.int .i64) a] [.sc .bool] Q := (pc_142 a).mono fun _ h => h ▸ ho
/- impl.isZone -/
def phi_144 : Nat → List D → List D
  | 123, [a, b, c] => [.bool (inR a.toI b.toI c.toI)]
  | _, _ => []
theorem pc_144 (a : D) : PC Try.prog 144 [.sc (.int .i64) a] [.sc .bool] fun o => o = [.bool (inR a.toI 1 4)] := by
  refine PC.of_sig mix sig_144 ⟨rfl, trivial⟩ rfl fun hok => ?_
  have e_a := int_eta (hok _ (.head _))
  have b_a := int_range (hok _ (.head _))
  apply says_den (φ := (phi_144))
  simp [e_a, tree_144, T.says, X.den, O1.den, O2.den, O3.den, callD, XArg.ev, XArg.dat, Callee'.num, backs, DArg.back, Conds.den, cloArgs, phi_144, pd_123]
theorem pd_144 (a : D) (Q : List D → Prop) (ho : Q [.bool (inR a.toI 1 4)]) : PC Try.prog 144 [.sc (.int .i64) a] [.sc .bool] Q := (pc_144 a).mono fun _ h => h ▸ ho
/- impl.onPiece -/
def phi_150 : Nat → List D → List D
  | 142, [a] => [.bool (inR a.toI 1 99)]
  | _, _ => []
theorem pc_150 (e : D) : PC Try.prog 150 [.st [(.int .i64), (.int .i64), (.int .i64), (.int .i64), (.int .i64), (.int .i64), .bool] e] [.sc .bool] fun o => o = [.bool (onPiece e)] := by
  refine PC.of_sig mix sig_150 ⟨rfl, trivial⟩ rfl fun hok => ?_
  have e_e : D.lst [e.fld 0, e.fld 1, e.fld 2, e.fld 3, e.fld 4, e.fld 5, e.fld 6] = e := by simpa [List.range, List.range.loop] using okL_eta (hok _ (.head _))
  have k_e : okL [(.int .i64), (.int .i64), (.int .i64), (.int .i64), (.int .i64), (.int .i64), .bool] e := (hok _ (.head _))
  apply says_den (φ := (phi_150))
  simp [e_e, tree_150, T.says, X.den, O1.den, O2.den, O3.den, callD, XArg.ev, XArg.dat, Callee'.num, backs, DArg.back, Conds.den, cloArgs, phi_150, pd_142, onPiece]
theorem pd_150 (e : D) (Q : List D → Prop) (ho : Q [.bool (onPiece e)]) : PC Try.prog 150 [.st [(.int .i64), (.int .i64), (.int .i64), (.int .i64), (.int .i64), (.int .i64), .bool] e] [.sc .bool] Q := (pc_150 e).mono fun _ h => h ▸ ho
/- impl.isPlayer -/
def phi_143 : Nat → List D → List D
  | 123, [a, b, c] => [.bool (inR a.toI b.toI c.toI)]
  | _, _ => []
theorem pc_143 (a : D) : PC Try.prog 143 [.sc (.int .i64) a] [.sc .bool] fun o => o = [.bool (inR a.toI 0 2)] := by
  refine PC.of_sig mix sig_143 ⟨rfl, trivial⟩ rfl fun hok => ?_
  have e_a := int_eta (hok _ (.head _))
  have b_a := int_range (hok _ (.head _))
  apply says_den (φ := (phi_143))
  simp [e_a, tree_143, T.says, X.den, O1.den, O2.den, O3.den, callD, XArg.ev, XArg.dat, Callee'.num, backs, DArg.back, Conds.den, cloArgs, phi_143, pd_123]
theorem pd_143 (a : D) (Q : List D → Prop) (ho : Q [.bool (inR a.toI 0 2)]) : PC Try.prog 143 [.sc (.int .i64) a] [.sc .bool] Q := (pc_143 a).mono fun _ h => h ▸ ho
/- impl.onPlayer -/
def phi_151 : Nat → List D → List D
  | 143, [a] => [.bool (inR a.toI 0 2)]
  | _, _ => []
theorem pc_151 (e : D) : PC Try.prog 151 [.st [(.int .i64), (.int .i64), (.int .i64), (.int .i64), (.int .i64), (.int .i64), .bool] e] [.sc .bool] fun o => o = [.bool (onPlayer e)] := by
  refine PC.of_sig mix sig_151 ⟨rfl, trivial⟩ rfl fun hok => ?_
  have e_e : D.lst [e.fld 0, e.fld 1, e.fld 2, e.fld 3, e.fld 4, e.fld 5, e.fld 6] = e := by simpa [List.range, List.range.loop] using okL_eta (hok _ (.head _))
  have k_e : okL [(.int .i64), (.int .i64), (.int .i64), (.int .i64), (.int .i64), (.int .i64), .bool] e := (hok _ (.head _))
  apply says_den (φ := (phi_151))
  simp [e_e, tree_151, T.says, X.den, O1.den, O2.den, O3.den, callD, XArg.ev, XArg.dat, Callee'.num, backs, DArg.back, Conds.den, cloArgs, phi_151, pd_143, onPlayer]
theorem pd_151 (e : D) (Q : List D → Prop) (ho : Q [.bool (onPlayer e)]) : PC Try.prog 151 [.st [(.int .i64), (.int .i64), (.int .i64), (.int .i64), (.int .i64), (.int .i64), .bool] e] [.sc .bool] Q := (pc_151 e).mono fun _ h => h ▸ ho
/- impl.EventOk -/
def phi_58 : Nat → List D → List D
  | 125, [a] => [.bool (inR a.toI 0 2147483647)]
  | 142, [a] => [.bool (inR a.toI 1 99)]
  | 144, [a] => [.bool (inR a.toI 1 4)]
  | 150, [e] => [.bool (onPiece e)]
  | 151, [e] => [.bool (onPlayer e)]
  | _, _ => []
theorem pc_58 (e : D) : PC Try.prog 58 [.st [(.int .i64), (.int .i64), (.int .i64), (.int .i64), (.int .i64), (.int .i64), .bool] e] [.sc .bool] fun o => o = [.bool (eventOk e)] := by
  refine PC.of_sig mix sig_58 ⟨rfl, trivial⟩ rfl fun hok => ?_
  have e_e : D.lst [e.fld 0, e.fld 1, e.fld 2, e.fld 3, e.fld 4, e.fld 5, e.fld 6] = e := by simpa [List.range, List.range.loop] using okL_eta (hok _ (.head _))
  have k_e : okL [(.int .i64), (.int .i64), (.int .i64), (.int .i64), (.int .i64), (.int .i64), .bool] e := (hok _ (.head _))
  apply says_den (φ := (phi_58))
  simp [e_e, tree_58, T.says, X.den, O1.den, O2.den, O3.den, callD, XArg.ev, XArg.dat, Callee'.num, backs, DArg.back, Conds.den, cloArgs, phi_58, pd_125, pd_142, pd_144, pd_150, pd_151]
  (repeat' (first | (with_reducible apply And.intro) | intro _)) <;> grind [eventOk, inR]
theorem pd_58 (e : D) (Q : List D → Prop) (ho : Q [.bool (eventOk e)]) : PC Try.prog 58 [.st [(.int .i64), (.int .i64), (.int .i64), (.int .i64), (.int .i64), (.int .i64), .bool] e] [.sc .bool] Q := (pc_58 e).mono fun _ h => h ▸ ho
/- impl.PatFits -/
def phi_46 : Nat → List D → List D
  | 26, [d] => [.bool (patOk d)]
  | 48, [s, n, p, e] => [.bool (targetFits s n.toI p e)]
  | 50, [s, p, e] => [.bool (sourceFits s p e)]
  | 58, [e] => [.bool (eventOk e)]
  | _, _ => []
theorem pc_46 (s n p e : D) : PC Try.prog 46 [.st [(.sl [(.int .i64), (.int .i64), (.int .i64), (.int .i64), (.int .i64), (.int .i64), (.int .i64), (.int .i64), (.int .i64), (.int .i64), (.int .i64), .bool, .bool]), (.sl [(.int .i64), (.int .i64), .bool]), (.int .i64), (.int .i64)] s, .sc (.int .i64) n, .st [(.int .i64), (.int .i64), (.int .i64), (.int .i64), (.int .i64), (.int .i64), (.int .i64)] p, .st [(.int .i64), (.int .i64), (.int .i64), (.int .i64), (.int .i64), (.int .i64), .bool] e] [.sc .bool] fun o => o = [.bool (patFits s n.toI p e)] := by
  refine PC.of_sig mix sig_46 ⟨rfl, rfl, rfl, rfl, trivial⟩ rfl fun hok => ?_
  have e_s : D.lst [s.fld 0, s.fld 1, s.fld 2, s.fld 3] = s := by simpa [List.range, List.range.loop] using okL_eta (hok _ (.head _))
  have k_s : okL [(.sl [(.int .i64), (.int .i64), (.int .i64), (.int .i64), (.int .i64), (.int .i64), (.int .i64), (.int .i64), (.int .i64), (.int .i64), (.int .i64), .bool, .bool]), (.sl [(.int .i64), (.int .i64), .bool]), (.int .i64), (.int .i64)] s := (hok _ (.head _))
  have e_s_0 : D.lst (s.fld 0).toL = s.fld 0 := sl_eta (okL_at k_s (i := 0) rfl)
  have l_s_0 := sl_len (okL_at k_s (i := 0) rfl)
  have k_s_0 := sl_all (okL_at k_s (i := 0) rfl)
  have E_s_0 : ∀ i, i < (s.fld 0).toL.length → D.lst [((s.fld 0).elem i).fld 0, ((s.fld 0).elem i).fld 1, ((s.fld 0).elem i).fld 2, ((s.fld 0).elem i).fld 3, ((s.fld 0).elem i).fld 4, ((s.fld 0).elem i).fld 5, ((s.fld 0).elem i).fld 6, ((s.fld 0).elem i).fld 7, ((s.fld 0).elem i).fld 8, ((s.fld 0).elem i).fld 9, ((s.fld 0).elem i).fld 10, ((s.fld 0).elem i).fld 11, ((s.fld 0).elem i).fld 12] = (s.fld 0).elem i := fun i hi => by simpa [List.range, List.range.loop] using okL_eta (k_s_0 _ (elem_mem hi))
  have e_s_1 : D.lst (s.fld 1).toL = s.fld 1 := sl_eta (okL_at k_s (i := 1) rfl)
  have l_s_1 := sl_len (okL_at k_s (i := 1) rfl)
  have k_s_1 := sl_all (okL_at k_s (i := 1) rfl)
  have E_s_1 : ∀ i, i < (s.fld 1).toL.length → D.lst [((s.fld 1).elem i).fld 0, ((s.fld 1).elem i).fld 1, ((s.fld 1).elem i).fld 2] = (s.fld 1).elem i := fun i hi => by simpa [List.range, List.range.loop] using okL_eta (k_s_1 _ (elem_mem hi))
  have e_n := int_eta (hok _ (.tail _ (.head _)))
  have b_n := int_range (hok _ (.tail _ (.head _)))
  have e_p : D.lst [p.fld 0, p.fld 1, p.fld 2, p.fld 3, p.fld 4, p.fld 5, p.fld 6] = p := by simpa [List.range, List.range.loop] using okL_eta (hok _ (.tail _ (.tail _ (.head _))))
  have k_p : okL [(.int .i64), (.int .i64), (.int .i64), (.int .i64), (.int .i64), (.int .i64), (.int .i64)] p := (hok _ (.tail _ (.tail _ (.head _))))
  have e_e : D.lst [e.fld 0, e.fld 1, e.fld 2, e.fld 3, e.fld 4, e.fld 5, e.fld 6] = e := by simpa [List.range, List.range.loop] using okL_eta (hok _ (.tail _ (.tail _ (.tail _ (.head _)))))
  have k_e : okL [(.int .i64), (.int .i64), (.int .i64), (.int .i64), (.int .i64), (.int .i64), .bool] e := (hok _ (.tail _ (.tail _ (.tail _ (.head _)))))
  apply says_den (φ := (phi_46))
  simp [e_s_0, E_s_0, e_s_1, E_s_1, e_s, e_n, e_p, e_e, tree_46, T.says, X.den, O1.den, O2.den, O3.den, callD, XArg.ev, XArg.dat, Callee'.num, backs, DArg.back, Conds.den, cloArgs, phi_46, pd_26, pd_48, pd_50, pd_58, patFits]
  all_goals grind
theorem pd_46 (s n p e : D) (Q : List D → Prop) (ho : Q [.bool (patFits s n.toI p e)]) : PC Try.prog 46 [.st [(.sl [(.int .i64), (.int .i64), (.int .i64), (.int .i64), (.int .i64), (.int .i64), (.int .i64), (.int .i64), (.int .i64), (.int .i64), (.int .i64), .bool, .bool]), (.sl [(.int .i64), (.int .i64), .bool]), (.int .i64), (.int .i64)] s, .sc (.int .i64) n, .st [(.int .i64), (.int .i64), (.int .i64), (.int .i64), (.int .i64), (.int .i64), (.int .i64)] p, .st [(.int .i64), (.int .i64), (.int .i64), (.int .i64), (.int .i64), (.int .i64), .bool] e] [.sc .bool] Q := (pc_46 s n p e).mono fun _ h => h ▸ ho
/- spec.PieceAt -/
theorem pc_152 (s n : D) : PC Try.prog 152 [.st [(.sl [(.int .i64), (.int .i64), (.int .i64), (.int .i64), (.int .i64), (.int .i64), (.int .i64), (.int .i64), (.int .i64), (.int .i64), (.int .i64), .bool, .bool]), (.sl [(.int .i64), (.int .i64), .bool]), (.int .i64), (.int .i64)] s, .sc (.int .i64) n] [.sc (.int .i64)] fun o => o = [.int (pieceAt s n.toI)] := by
  refine PC.of_sig mix sig_152 ⟨rfl, rfl, trivial⟩ rfl fun hok => ?_
  have e_s : D.lst [s.fld 0, s.fld 1, s.fld 2, s.fld 3] = s := by simpa [List.range, List.range.loop] using okL_eta (hok _ (.head _))
  have k_s : okL [(.sl [(.int .i64), (.int .i64), (.int .i64), (.int .i64), (.int .i64), (.int .i64), (.int .i64), (.int .i64), (.int .i64), (.int .i64), (.int .i64), .bool, .bool]), (.sl [(.int .i64), (.int .i64), .bool]), (.int .i64), (.int .i64)] s := (hok _ (.head _))
  have e_s_0 : D.lst (s.fld 0).toL = s.fld 0 := sl_eta (okL_at k_s (i := 0) rfl)
  have l_s_0 := sl_len (okL_at k_s (i := 0) rfl)
  have k_s_0 := sl_all (okL_at k_s (i := 0) rfl)
  have E_s_0 : ∀ i, i < (s.fld 0).toL.length → D.lst [((s.fld 0).elem i).fld 0, ((s.fld 0).elem i).fld 1, ((s.fld 0).elem i).fld 2, ((s.fld 0).elem i).fld 3, ((s.fld 0).elem i).fld 4, ((s.fld 0).elem i).fld 5, ((s.fld 0).elem i).fld 6, ((s.fld 0).elem i).fld 7, ((s.fld 0).elem i).fld 8, ((s.fld 0).elem i).fld 9, ((s.fld 0).elem i).fld 10, ((s.fld 0).elem i).fld 11, ((s.fld 0).elem i).fld 12] = (s.fld 0).elem i := fun i hi => by simpa [List.range, List.range.loop] using okL_eta (k_s_0 _ (elem_mem hi))
  have e_s_1 : D.lst (s.fld 1).toL = s.fld 1 := sl_eta (okL_at k_s (i := 1) rfl)
  have l_s_1 := sl_len (okL_at k_s (i := 1) rfl)
  have k_s_1 := sl_all (okL_at k_s (i := 1) rfl)
  have E_s_1 : ∀ i, i < (s.fld 1).toL.length → D.lst [((s.fld 1).elem i).fld 0, ((s.fld 1).elem i).fld 1, ((s.fld 1).elem i).fld 2] = (s.fld 1).elem i := fun i hi => by simpa [List.range, List.range.loop] using okL_eta (k_s_1 _ (elem_mem hi))
  have e_n := int_eta (hok _ (.tail _ (.head _)))
  have b_n := int_range (hok _ (.tail _ (.head _)))
  apply says_den (φ := fun _ _ => [])
  simp [e_s_0, E_s_0, e_s_1, E_s_1, e_s, e_n, tree_152, T.says, X.den, O1.den, O2.den, O3.den, callD, XArg.ev, XArg.dat, Callee'.num, backs, DArg.back, Conds.den, cloArgs, pieceAt]
  refine den_for (s.fld 0).toL.length 0 (fun i => [.int i]) (fun i => ∀ j, j < i → ((((s.fld 0).elem j).fld 0).toI == n.toI) = false) (by simp) (by simp [X.den]) (by simp) fun i hi hR => ?_
  apply says_den (φ := fun _ _ => [])
  by_cases hlt : i < (s.fld 0).toL.length
  · simp [e_s_0, E_s_0, e_s_1, E_s_1, e_s, e_n, tree_152, T.says, X.den, O1.den, O2.den, O3.den, callD, XArg.ev, XArg.dat, Callee'.num, backs, DArg.back, Conds.den, cloArgs, hlt]
    (repeat' (first | (with_reducible apply And.intro) | intro _))
    · exact (findR_some (p := fun i => (((s.fld 0).elem i).fld 0).toI == n.toI) hlt (by simp_all) hR).symm
    · (first | omega | (simp only [IntKind.wrap_i64, maxL] at *; omega) | (simp [IntKind.wrap_i64, maxL] at *; omega))
    · grind
  · simp [e_s_0, E_s_0, e_s_1, E_s_1, e_s, e_n, tree_152, T.says, X.den, O1.den, O2.den, O3.den, callD, XArg.ev, XArg.dat, Callee'.num, backs, DArg.back, Conds.den, cloArgs, hlt]
    (repeat' (first | (with_reducible apply And.intro) | intro _))
    · exact (findR_none fun j hj => hR j (by omega)).symm
theorem pd_152 (s n : D) (Q : List D → Prop) (ho : Q [.int (pieceAt s n.toI)]) : PC Try.prog 152 [.st [(.sl [(.int .i64), (.int .i64), (.int .i64), (.int .i64), (.int .i64), (.int .i64), (.int .i64), (.int .i64), (.int .i64), (.int .i64), (.int .i64), .bool, .bool]), (.sl [(.int .i64), (.int .i64), .bool]), (.int .i64), (.int .i64)] s, .sc (.int .i64) n] [.sc (.int .i64)] Q := (pc_152 s n).mono fun _ h => h ▸ ho
/- spec.Target -/
def phi_60 : Nat → List D → List D
  | 126, [a, b, c] => [.bool (inR a.toI b.toI c.toI)]
  | 152, [s, n] => [.int (pieceAt s n.toI)]
  | _, _ => []
theorem pc_60 (s e : D) : PC Try.prog 60 [.st [(.sl [(.int .i64), (.int .i64), (.int .i64), (.int .i64), (.int .i64), (.int .i64), (.int .i64), (.int .i64), (.int .i64), (.int .i64), (.int .i64), .bool, .bool]), (.sl [(.int .i64), (.int .i64), .bool]), (.int .i64), (.int .i64)] s, .st [(.int .i64), (.int .i64), (.int .i64), (.int .i64), (.int .i64), (.int .i64), .bool] e] [.sc (.int .i64)] fun o => o = [.int (target s e)] := by
  refine PC.of_sig mix sig_60 ⟨rfl, rfl, trivial⟩ rfl fun hok => ?_
  have e_s : D.lst [s.fld 0, s.fld 1, s.fld 2, s.fld 3] = s := by simpa [List.range, List.range.loop] using okL_eta (hok _ (.head _))
  have k_s : okL [(.sl [(.int .i64), (.int .i64), (.int .i64), (.int .i64), (.int .i64), (.int .i64), (.int .i64), (.int .i64), (.int .i64), (.int .i64), (.int .i64), .bool, .bool]), (.sl [(.int .i64), (.int .i64), .bool]), (.int .i64), (.int .i64)] s := (hok _ (.head _))
  have e_s_0 : D.lst (s.fld 0).toL = s.fld 0 := sl_eta (okL_at k_s (i := 0) rfl)
  have l_s_0 := sl_len (okL_at k_s (i := 0) rfl)
  have k_s_0 := sl_all (okL_at k_s (i := 0) rfl)
  have E_s_0 : ∀ i, i < (s.fld 0).toL.length → D.lst [((s.fld 0).elem i).fld 0, ((s.fld 0).elem i).fld 1, ((s.fld 0).elem i).fld 2, ((s.fld 0).elem i).fld 3, ((s.fld 0).elem i).fld 4, ((s.fld 0).elem i).fld 5, ((s.fld 0).elem i).fld 6, ((s.fld 0).elem i).fld 7, ((s.fld 0).elem i).fld 8, ((s.fld 0).elem i).fld 9, ((s.fld 0).elem i).fld 10, ((s.fld 0).elem i).fld 11, ((s.fld 0).elem i).fld 12] = (s.fld 0).elem i := fun i hi => by simpa [List.range, List.range.loop] using okL_eta (k_s_0 _ (elem_mem hi))
  have e_s_1 : D.lst (s.fld 1).toL = s.fld 1 := sl_eta (okL_at k_s (i := 1) rfl)
  have l_s_1 := sl_len (okL_at k_s (i := 1) rfl)
  have k_s_1 := sl_all (okL_at k_s (i := 1) rfl)
  have E_s_1 : ∀ i, i < (s.fld 1).toL.length → D.lst [((s.fld 1).elem i).fld 0, ((s.fld 1).elem i).fld 1, ((s.fld 1).elem i).fld 2] = (s.fld 1).elem i := fun i hi => by simpa [List.range, List.range.loop] using okL_eta (k_s_1 _ (elem_mem hi))
  have e_e : D.lst [e.fld 0, e.fld 1, e.fld 2, e.fld 3, e.fld 4, e.fld 5, e.fld 6] = e := by simpa [List.range, List.range.loop] using okL_eta (hok _ (.tail _ (.head _)))
  have k_e : okL [(.int .i64), (.int .i64), (.int .i64), (.int .i64), (.int .i64), (.int .i64), .bool] e := (hok _ (.tail _ (.head _)))
  apply says_den (φ := (phi_60))
  have hr := pieceAt_range s (e.fld 2).toI
  have i3 := int_eta (okL_at k_e (i := 3) rfl)
  have hw : IntKind.i64.wrap (((s.fld 1).toL.length : Int) - 1) = (s.fld 1).toL.length - 1 := by (first | omega | (simp only [IntKind.wrap_i64, maxL] at *; omega) | (simp [IntKind.wrap_i64, maxL] at *; omega))
  simp [e_s_0, E_s_0, e_s_1, E_s_1, e_s, e_e, tree_60, T.says, X.den, O1.den, O2.den, O3.den, callD, XArg.ev, XArg.dat, Callee'.num, backs, DArg.back, Conds.den, cloArgs, phi_60, pd_126, pd_152, hw]
  (repeat' (first | (with_reducible apply And.intro) | intro _))
  all_goals first | omega | (rw [target, if_pos (by omega), if_neg (by simp_all)]; done) | (rw [target, if_pos (by omega), if_pos (by simp_all)]; exact i3.symm) | (rw [target, if_neg (by omega), if_pos (by omega)]; done) | skip
  · rw [target, if_neg (by omega), if_neg (by omega)]
    exact (int_eta (okL_at (k_s_0 _ (elem_mem (by omega))) (i := 2) rfl)).symm
theorem pd_60 (s e : D) (Q : List D → Prop) (ho : Q [.int (target s e)]) : PC Try.prog 60 [.st [(.sl [(.int .i64), (.int .i64), (.int .i64), (.int .i64), (.int .i64), (.int .i64), (.int .i64), (.int .i64), (.int .i64), (.int .i64), (.int .i64), .bool, .bool]), (.sl [(.int .i64), (.int .i64), .bool]), (.int .i64), (.int .i64)] s, .st [(.int .i64), (.int .i64), (.int .i64), (.int .i64), (.int .i64), (.int .i64), .bool] e] [.sc (.int .i64)] Q := (pc_60 s e).mono fun _ h => h ▸ ho
/- spec.TargetFits -/
def phi_49 : Nat → List D → List D
  | 60, [s, e] => [.int (target s e)]
  | _, _ => []
theorem pc_49 (s n p e : D) : PC Try.prog 49 [.st [(.sl [(.int .i64), (.int .i64), (.int .i64), (.int .i64), (.int .i64), (.int .i64), (.int .i64), (.int .i64), (.int .i64), (.int .i64), (.int .i64), .bool, .bool]), (.sl [(.int .i64), (.int .i64), .bool]), (.int .i64), (.int .i64)] s, .sc (.int .i64) n, .st [(.int .i64), (.int .i64), (.int .i64), (.int .i64), (.int .i64), (.int .i64), (.int .i64)] p, .st [(.int .i64), (.int .i64), (.int .i64), (.int .i64), (.int .i64), (.int .i64), .bool] e] [.sc .bool] fun o => o = [.bool (targetFits s n.toI p e)] := by
  refine PC.of_sig mix sig_49 ⟨rfl, rfl, rfl, rfl, trivial⟩ rfl fun hok => ?_
  have e_s : D.lst [s.fld 0, s.fld 1, s.fld 2, s.fld 3] = s := by simpa [List.range, List.range.loop] using okL_eta (hok _ (.head _))
  have k_s : okL [(.sl [(.int .i64), (.int .i64), (.int .i64), (.int .i64), (.int .i64), (.int .i64), (.int .i64), (.int .i64), (.int .i64), (.int .i64), (.int .i64), .bool, .bool]), (.sl [(.int .i64), (.int .i64), .bool]), (.int .i64), (.int .i64)] s := (hok _ (.head _))
  have e_s_0 : D.lst (s.fld 0).toL = s.fld 0 := sl_eta (okL_at k_s (i := 0) rfl)
  have l_s_0 := sl_len (okL_at k_s (i := 0) rfl)
  have k_s_0 := sl_all (okL_at k_s (i := 0) rfl)
  have E_s_0 : ∀ i, i < (s.fld 0).toL.length → D.lst [((s.fld 0).elem i).fld 0, ((s.fld 0).elem i).fld 1, ((s.fld 0).elem i).fld 2, ((s.fld 0).elem i).fld 3, ((s.fld 0).elem i).fld 4, ((s.fld 0).elem i).fld 5, ((s.fld 0).elem i).fld 6, ((s.fld 0).elem i).fld 7, ((s.fld 0).elem i).fld 8, ((s.fld 0).elem i).fld 9, ((s.fld 0).elem i).fld 10, ((s.fld 0).elem i).fld 11, ((s.fld 0).elem i).fld 12] = (s.fld 0).elem i := fun i hi => by simpa [List.range, List.range.loop] using okL_eta (k_s_0 _ (elem_mem hi))
  have e_s_1 : D.lst (s.fld 1).toL = s.fld 1 := sl_eta (okL_at k_s (i := 1) rfl)
  have l_s_1 := sl_len (okL_at k_s (i := 1) rfl)
  have k_s_1 := sl_all (okL_at k_s (i := 1) rfl)
  have E_s_1 : ∀ i, i < (s.fld 1).toL.length → D.lst [((s.fld 1).elem i).fld 0, ((s.fld 1).elem i).fld 1, ((s.fld 1).elem i).fld 2] = (s.fld 1).elem i := fun i hi => by simpa [List.range, List.range.loop] using okL_eta (k_s_1 _ (elem_mem hi))
  have e_n := int_eta (hok _ (.tail _ (.head _)))
  have b_n := int_range (hok _ (.tail _ (.head _)))
  have e_p : D.lst [p.fld 0, p.fld 1, p.fld 2, p.fld 3, p.fld 4, p.fld 5, p.fld 6] = p := by simpa [List.range, List.range.loop] using okL_eta (hok _ (.tail _ (.tail _ (.head _))))
  have k_p : okL [(.int .i64), (.int .i64), (.int .i64), (.int .i64), (.int .i64), (.int .i64), (.int .i64)] p := (hok _ (.tail _ (.tail _ (.head _))))
  have e_e : D.lst [e.fld 0, e.fld 1, e.fld 2, e.fld 3, e.fld 4, e.fld 5, e.fld 6] = e := by simpa [List.range, List.range.loop] using okL_eta (hok _ (.tail _ (.tail _ (.tail _ (.head _)))))
  have k_e : okL [(.int .i64), (.int .i64), (.int .i64), (.int .i64), (.int .i64), (.int .i64), .bool] e := (hok _ (.tail _ (.tail _ (.tail _ (.head _)))))
  apply says_den (φ := (phi_49))
  simp [e_s_0, E_s_0, e_s_1, E_s_1, e_s, e_n, e_p, e_e, tree_49, T.says, X.den, O1.den, O2.den, O3.den, callD, XArg.ev, XArg.dat, Callee'.num, backs, DArg.back, Conds.den, cloArgs, phi_49, pd_60, targetFits]
  all_goals grind
theorem pd_49 (s n p e : D) (Q : List D → Prop) (ho : Q [.bool (targetFits s n.toI p e)]) : PC Try.prog 49 [.st [(.sl [(.int .i64), (.int .i64), (.int .i64), (.int .i64), (.int .i64), (.int .i64), (.int .i64), (.int .i64), (.int .i64), (.int .i64), (.int .i64), .bool, .bool]), (.sl [(.int .i64), (.int .i64), .bool]), (.int .i64), (.int .i64)] s, .sc (.int .i64) n, .st [(.int .i64), (.int .i64), (.int .i64), (.int .i64), (.int .i64), (.int .i64), (.int .i64)] p, .st [(.int .i64), (.int .i64), (.int .i64), (.int .i64), (.int .i64), (.int .i64), .bool] e] [.sc .bool] Q := (pc_49 s n p e).mono fun _ h => h ▸ ho
/- spec.Source -/
def phi_62 : Nat → List D → List D
  | 152, [s, n] => [.int (pieceAt s n.toI)]
  | _, _ => []
theorem pc_62 (s e : D) : PC Try.prog 62 [.st [(.sl [(.int .i64), (.int .i64), (.int .i64), (.int .i64), (.int .i64), (.int .i64), (.int .i64), (.int .i64), (.int .i64), (.int .i64), (.int .i64), .bool, .bool]), (.sl [(.int .i64), (.int .i64), .bool]), (.int .i64), (.int .i64)] s, .st [(.int .i64), (.int .i64), (.int .i64), (.int .i64), (.int .i64), (.int .i64), .bool] e] [.st [(.int .i64), (.int .i64), (.int .i64), (.int .i64), (.int .i64), (.int .i64), (.int .i64), (.int .i64), (.int .i64), (.int .i64), (.int .i64), .bool, .bool]] fun o => o = [source s e] := by
  refine PC.of_sig mix sig_62 ⟨rfl, rfl, trivial⟩ rfl fun hok => ?_
  have e_s : D.lst [s.fld 0, s.fld 1, s.fld 2, s.fld 3] = s := by simpa [List.range, List.range.loop] using okL_eta (hok _ (.head _))
  have k_s : okL [(.sl [(.int .i64), (.int .i64), (.int .i64), (.int .i64), (.int .i64), (.int .i64), (.int .i64), (.int .i64), (.int .i64), (.int .i64), (.int .i64), .bool, .bool]), (.sl [(.int .i64), (.int .i64), .bool]), (.int .i64), (.int .i64)] s := (hok _ (.head _))
  have e_s_0 : D.lst (s.fld 0).toL = s.fld 0 := sl_eta (okL_at k_s (i := 0) rfl)
  have l_s_0 := sl_len (okL_at k_s (i := 0) rfl)
  have k_s_0 := sl_all (okL_at k_s (i := 0) rfl)
  have E_s_0 : ∀ i, i < (s.fld 0).toL.length → D.lst [((s.fld 0).elem i).fld 0, ((s.fld 0).elem i).fld 1, ((s.fld 0).elem i).fld 2, ((s.fld 0).elem i).fld 3, ((s.fld 0).elem i).fld 4, ((s.fld 0).elem i).fld 5, ((s.fld 0).elem i).fld 6, ((s.fld 0).elem i).fld 7, ((s.fld 0).elem i).fld 8, ((s.fld 0).elem i).fld 9, ((s.fld 0).elem i).fld 10, ((s.fld 0).elem i).fld 11, ((s.fld 0).elem i).fld 12] = (s.fld 0).elem i := fun i hi => by simpa [List.range, List.range.loop] using okL_eta (k_s_0 _ (elem_mem hi))
  have e_s_1 : D.lst (s.fld 1).toL = s.fld 1 := sl_eta (okL_at k_s (i := 1) rfl)
  have l_s_1 := sl_len (okL_at k_s (i := 1) rfl)
  have k_s_1 := sl_all (okL_at k_s (i := 1) rfl)
  have E_s_1 : ∀ i, i < (s.fld 1).toL.length → D.lst [((s.fld 1).elem i).fld 0, ((s.fld 1).elem i).fld 1, ((s.fld 1).elem i).fld 2] = (s.fld 1).elem i := fun i hi => by simpa [List.range, List.range.loop] using okL_eta (k_s_1 _ (elem_mem hi))
  have e_e : D.lst [e.fld 0, e.fld 1, e.fld 2, e.fld 3, e.fld 4, e.fld 5, e.fld 6] = e := by simpa [List.range, List.range.loop] using okL_eta (hok _ (.tail _ (.head _)))
  have k_e : okL [(.int .i64), (.int .i64), (.int .i64), (.int .i64), (.int .i64), (.int .i64), .bool] e := (hok _ (.tail _ (.head _)))
  apply says_den (φ := (phi_62))
  have hr := pieceAt_range s (e.fld 1).toI
  simp [e_s_0, E_s_0, e_s_1, E_s_1, e_s, e_e, tree_62, T.says, X.den, O1.den, O2.den, O3.den, callD, XArg.ev, XArg.dat, Callee'.num, backs, DArg.back, Conds.den, cloArgs, phi_62, pd_152]
  (repeat' (first | (with_reducible apply And.intro) | intro _))
  · rw [source, if_pos ‹_›]; rfl
  · omega
  · omega
  · rw [E_s_0 _ (by omega), source, if_neg (by omega)]
theorem pd_62 (s e : D) (Q : List D → Prop) (ho : Q [source s e]) : PC Try.prog 62 [.st [(.sl [(.int .i64), (.int .i64), (.int .i64), (.int .i64), (.int .i64), (.int .i64), (.int .i64), (.int .i64), (.int .i64), (.int .i64), (.int .i64), .bool, .bool]), (.sl [(.int .i64), (.int .i64), .bool]), (.int .i64), (.int .i64)] s, .st [(.int .i64), (.int .i64), (.int .i64), (.int .i64), (.int .i64), (.int .i64), .bool] e] [.st [(.int .i64), (.int .i64), (.int .i64), (.int .i64), (.int .i64), (.int .i64), (.int .i64), (.int .i64), (.int .i64), (.int .i64), (.int .i64), .bool, .bool]] Q := (pc_62 s e).mono fun _ h => h ▸ ho
/- spec.SourceFits -/
def phi_51 : Nat → List D → List D
  | 62, [s, e] => [source s e]
  | _, _ => []
theorem pc_51 (s p e : D) : PC Try.prog 51 [.st [(.sl [(.int .i64), (.int .i64), (.int .i64), (.int .i64), (.int .i64), (.int .i64), (.int .i64), (.int .i64), (.int .i64), (.int .i64), (.int .i64), .bool, .bool]), (.sl [(.int .i64), (.int .i64), .bool]), (.int .i64), (.int .i64)] s, .st [(.int .i64), (.int .i64), (.int .i64), (.int .i64), (.int .i64), (.int .i64), (.int .i64)] p, .st [(.int .i64), (.int .i64), (.int .i64), (.int .i64), (.int .i64), (.int .i64), .bool] e] [.sc .bool] fun o => o = [.bool (sourceFits s p e)] := by
  refine PC.of_sig mix sig_51 ⟨rfl, rfl, rfl, trivial⟩ rfl fun hok => ?_
  have e_s : D.lst [s.fld 0, s.fld 1, s.fld 2, s.fld 3] = s := by simpa [List.range, List.range.loop] using okL_eta (hok _ (.head _))
  have k_s : okL [(.sl [(.int .i64), (.int .i64), (.int .i64), (.int .i64), (.int .i64), (.int .i64), (.int .i64), (.int .i64), (.int .i64), (.int .i64), (.int .i64), .bool, .bool]), (.sl [(.int .i64), (.int .i64), .bool]), (.int .i64), (.int .i64)] s := (hok _ (.head _))
  have e_s_0 : D.lst (s.fld 0).toL = s.fld 0 := sl_eta (okL_at k_s (i := 0) rfl)
  have l_s_0 := sl_len (okL_at k_s (i := 0) rfl)
  have k_s_0 := sl_all (okL_at k_s (i := 0) rfl)
  have E_s_0 : ∀ i, i < (s.fld 0).toL.length → D.lst [((s.fld 0).elem i).fld 0, ((s.fld 0).elem i).fld 1, ((s.fld 0).elem i).fld 2, ((s.fld 0).elem i).fld 3, ((s.fld 0).elem i).fld 4, ((s.fld 0).elem i).fld 5, ((s.fld 0).elem i).fld 6, ((s.fld 0).elem i).fld 7, ((s.fld 0).elem i).fld 8, ((s.fld 0).elem i).fld 9, ((s.fld 0).elem i).fld 10, ((s.fld 0).elem i).fld 11, ((s.fld 0).elem i).fld 12] = (s.fld 0).elem i := fun i hi => by simpa [List.range, List.range.loop] using okL_eta (k_s_0 _ (elem_mem hi))
  have e_s_1 : D.lst (s.fld 1).toL = s.fld 1 := sl_eta (okL_at k_s (i := 1) rfl)
  have l_s_1 := sl_len (okL_at k_s (i := 1) rfl)
  have k_s_1 := sl_all (okL_at k_s (i := 1) rfl)
  have E_s_1 : ∀ i, i < (s.fld 1).toL.length → D.lst [((s.fld 1).elem i).fld 0, ((s.fld 1).elem i).fld 1, ((s.fld 1).elem i).fld 2] = (s.fld 1).elem i := fun i hi => by simpa [List.range, List.range.loop] using okL_eta (k_s_1 _ (elem_mem hi))
  have e_p : D.lst [p.fld 0, p.fld 1, p.fld 2, p.fld 3, p.fld 4, p.fld 5, p.fld 6] = p := by simpa [List.range, List.range.loop] using okL_eta (hok _ (.tail _ (.head _)))
  have k_p : okL [(.int .i64), (.int .i64), (.int .i64), (.int .i64), (.int .i64), (.int .i64), (.int .i64)] p := (hok _ (.tail _ (.head _)))
  have e_e : D.lst [e.fld 0, e.fld 1, e.fld 2, e.fld 3, e.fld 4, e.fld 5, e.fld 6] = e := by simpa [List.range, List.range.loop] using okL_eta (hok _ (.tail _ (.tail _ (.head _))))
  have k_e : okL [(.int .i64), (.int .i64), (.int .i64), (.int .i64), (.int .i64), (.int .i64), .bool] e := (hok _ (.tail _ (.tail _ (.head _))))
  apply says_den (φ := (phi_51))
  simp [e_s_0, E_s_0, e_s_1, E_s_1, e_s, e_p, e_e, tree_51, T.says, X.den, O1.den, O2.den, O3.den, callD, XArg.ev, XArg.dat, Callee'.num, backs, DArg.back, Conds.den, cloArgs, phi_51, pd_62, sourceFits]
  all_goals grind
theorem pd_51 (s p e : D) (Q : List D → Prop) (ho : Q [.bool (sourceFits s p e)]) : PC Try.prog 51 [.st [(.sl [(.int .i64), (.int .i64), (.int .i64), (.int .i64), (.int .i64), (.int .i64), (.int .i64), (.int .i64), (.int .i64), (.int .i64), (.int .i64), .bool, .bool]), (.sl [(.int .i64), (.int .i64), .bool]), (.int .i64), (.int .i64)] s, .st [(.int .i64), (.int .i64), (.int .i64), (.int .i64), (.int .i64), (.int .i64), (.int .i64)] p, .st [(.int .i64), (.int .i64), (.int .i64), (.int .i64), (.int .i64), (.int .i64), .bool] e] [.sc .bool] Q := (pc_51 s p e).mono fun _ h => h ▸ ho
/- spec.EventOk -/
def phi_59 : Nat → List D → List D
  | 126, [a, b, c] => [.bool (inR a.toI b.toI c.toI)]
  | _, _ => []
theorem pc_59 (e : D) : PC Try.prog 59 [.st [(.int .i64), (.int .i64), (.int .i64), (.int .i64), (.int .i64), (.int .i64), .bool] e] [.sc .bool] fun o => o = [.bool (eventOk e)] := by
  refine PC.of_sig mix sig_59 ⟨rfl, trivial⟩ rfl fun hok => ?_
  have e_e : D.lst [e.fld 0, e.fld 1, e.fld 2, e.fld 3, e.fld 4, e.fld 5, e.fld 6] = e := by simpa [List.range, List.range.loop] using okL_eta (hok _ (.head _))
  have k_e : okL [(.int .i64), (.int .i64), (.int .i64), (.int .i64), (.int .i64), (.int .i64), .bool] e := (hok _ (.head _))
  apply says_den (φ := (phi_59))
  simp [e_e, tree_59, T.says, X.den, O1.den, O2.den, O3.den, callD, XArg.ev, XArg.dat, Callee'.num, backs, DArg.back, Conds.den, cloArgs, phi_59, pd_126]
  (repeat' (first | (with_reducible apply And.intro) | intro _)) <;> grind [eventOk, onPiece, onPlayer]
theorem pd_59 (e : D) (Q : List D → Prop) (ho : Q [.bool (eventOk e)]) : PC Try.prog 59 [.st [(.int .i64), (.int .i64), (.int .i64), (.int .i64), (.int .i64), (.int .i64), .bool] e] [.sc .bool] Q := (pc_59 e).mono fun _ h => h ▸ ho
/- spec.PatFits -/
def phi_47 : Nat → List D → List D
  | 27, [d] => [.bool (patOk d)]
  | 49, [s, n, p, e] => [.bool (targetFits s n.toI p e)]
  | 51, [s, p, e] => [.bool (sourceFits s p e)]
  | 59, [e] => [.bool (eventOk e)]
  | _, _ => []
theorem pc_47 (s n p e : D) : PC Try.prog 47 [.st [(.sl [(.int .i64), (.int .i64), (.int .i64), (.int .i64), (.int .i64), (.int .i64), (.int .i64), (.int .i64), (.int .i64), (.int .i64), (.int .i64), .bool, .bool]), (.sl [(.int .i64), (.int .i64), .bool]), (.int .i64), (.int .i64)] s, .sc (.int .i64) n, .st [(.int .i64), (.int .i64), (.int .i64), (.int .i64), (.int .i64), (.int .i64), (.int .i64)] p, .st [(.int .i64), (.int .i64), (.int .i64), (.int .i64), (.int .i64), (.int .i64), .bool] e] [.sc .bool] fun o => o = [.bool (patFits s n.toI p e)] := by
  refine PC.of_sig mix sig_47 ⟨rfl, rfl, rfl, rfl, trivial⟩ rfl fun hok => ?_
  have e_s : D.lst [s.fld 0, s.fld 1, s.fld 2, s.fld 3] = s := by simpa [List.range, List.range.loop] using okL_eta (hok _ (.head _))
  have k_s : okL [(.sl [(.int .i64), (.int .i64), (.int .i64), (.int .i64), (.int .i64), (.int .i64), (.int .i64), (.int .i64), (.int .i64), (.int .i64), (.int .i64), .bool, .bool]), (.sl [(.int .i64), (.int .i64), .bool]), (.int .i64), (.int .i64)] s := (hok _ (.head _))
  have e_s_0 : D.lst (s.fld 0).toL = s.fld 0 := sl_eta (okL_at k_s (i := 0) rfl)
  have l_s_0 := sl_len (okL_at k_s (i := 0) rfl)
  have k_s_0 := sl_all (okL_at k_s (i := 0) rfl)
  have E_s_0 : ∀ i, i < (s.fld 0).toL.length → D.lst [((s.fld 0).elem i).fld 0, ((s.fld 0).elem i).fld 1, ((s.fld 0).elem i).fld 2, ((s.fld 0).elem i).fld 3, ((s.fld 0).elem i).fld 4, ((s.fld 0).elem i).fld 5, ((s.fld 0).elem i).fld 6, ((s.fld 0).elem i).fld 7, ((s.fld 0).elem i).fld 8, ((s.fld 0).elem i).fld 9, ((s.fld 0).elem i).fld 10, ((s.fld 0).elem i).fld 11, ((s.fld 0).elem i).fld 12] = (s.fld 0).elem i := fun i hi => by simpa [List.range, List.range.loop] using okL_eta (k_s_0 _ (elem_mem hi))
  have e_s_1 : D.lst (s.fld 1).toL = s.fld 1 := sl_eta (okL_at k_s (i := 1) rfl)
  have l_s_1 := sl_len (okL_at k_s (i := 1) rfl)
  have k_s_1 := sl_all (okL_at k_s (i := 1) rfl)
  have E_s_1 : ∀ i, i < (s.fld 1).toL.length → D.lst [((s.fld 1).elem i).fld 0, ((s.fld 1).elem i).fld 1, ((s.fld 1).elem i).fld 2] = (s.fld 1).elem i := fun i hi => by simpa [List.range, List.range.loop] using okL_eta (k_s_1 _ (elem_mem hi))
  have e_n := int_eta (hok _ (.tail _ (.head _)))
  have b_n := int_range (hok _ (.tail _ (.head _)))
  have e_p : D.lst [p.fld 0, p.fld 1, p.fld 2, p.fld 3, p.fld 4, p.fld 5, p.fld 6] = p := by simpa [List.range, List.range.loop] using okL_eta (hok _ (.tail _ (.tail _ (.head _))))
  have k_p : okL [(.int .i64), (.int .i64), (.int .i64), (.int .i64), (.int .i64), (.int .i64), (.int .i64)] p := (hok _ (.tail _ (.tail _ (.head _))))
  have e_e : D.lst [e.fld 0, e.fld 1, e.fld 2, e.fld 3, e.fld 4, e.fld 5, e.fld 6] = e := by simpa [List.range, List.range.loop] using okL_eta (hok _ (.tail _ (.tail _ (.tail _ (.head _)))))
  have k_e : okL [(.int .i64), (.int .i64), (.int .i64), (.int .i64), (.int .i64), (.int .i64), .bool] e := (hok _ (.tail _ (.tail _ (.tail _ (.head _)))))
  apply says_den (φ := (phi_47))
  simp [e_s_0, E_s_0, e_s_1, E_s_1, e_s, e_n, e_p, e_e, tree_47, T.says, X.den, O1.den, O2.den, O3.den, callD, XArg.ev, XArg.dat, Callee'.num, backs, DArg.back, Conds.den, cloArgs, phi_47, pd_27, pd_49, pd_51, pd_59, patFits]
  all_goals grind
theorem pd_47 (s n p e : D) (Q : List D → Prop) (ho : Q [.bool (patFits s n.toI p e)]) : PC Try.prog 47 [.st [(.sl [(.int .i64), (.int .i64), (.int .i64), (.int .i64), (.int .i64), (.int .i64), (.int .i64), (.int .i64), (.int .i64), (.int .i64), (.int .i64), .bool, .bool]), (.sl [(.int .i64), (.int .i64), .bool]), (.int .i64), (.int .i64)] s, .sc (.int .i64) n, .st [(.int .i64), (.int .i64), (.int .i64), (.int .i64), (.int .i64), (.int .i64), (.int .i64)] p, .st [(.int .i64), (.int .i64), (.int .i64), (.int .i64), (.int .i64), (.int .i64), .bool] e] [.sc .bool] Q := (pc_47 s n p e).mono fun _ h => h ▸ ho
end Go.Proofs.Ytammagpahfmenaa
