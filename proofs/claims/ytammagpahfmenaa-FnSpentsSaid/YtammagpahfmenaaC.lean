/- The contracts of the functions that this claim reaches: what each hands back, for all data. -/
import Derived.Test.YtammagpahfmenaaT
import Derived.Test.YtammagpahfmenaaS
namespace Go.Proofs.Ytammagpahfmenaa
open Go.Proofs.Ytammagpahfmenaa.Eng
set_option maxRecDepth 100000
set_option maxHeartbeats 2000000
set_option linter.unusedSimpArgs false
set_option linter.unusedVariables false
/- laws.big -/
theorem pc_14 (code : D) : PC Try.prog 14 [.sc (.sl [(.int .u8)]) code] [.sc .bool] fun o => o = [.bool (decide ((1048576 : Int) < code.toL.length))] := by
  refine PC.of_sig mix sig_14 ⟨rfl, trivial⟩ rfl fun hok => ?_
  have e_code := sl_eta (hok _ (.head _))
  have l_code := sl_len (hok _ (.head _))
  have k_code := sl_all (hok _ (.head _))
  apply says_den (φ := fun _ _ => [])
  simp [e_code, tree_14, T.says, X.den, O1.den, O2.den, O3.den, callD, XArg.ev, XArg.dat, Callee'.num, backs, DArg.back, Conds.den, cloArgs]
theorem pd_14 (code : D) (Q : List D → Prop) (ho : Q [.bool (decide ((1048576 : Int) < code.toL.length))]) : PC Try.prog 14 [.sc (.sl [(.int .u8)]) code] [.sc .bool] Q := (pc_14 code).mono fun _ h => h ▸ ho
/- impl.Upto -/
theorem pc_44 (a b : D) : PC Try.prog 44 [.sc (.int .i64) a, .sc (.int .i64) b] [.sc (.int .i64)] fun o => o = [.int (upto a.toI b.toI)] := by
  refine PC.of_sig mix sig_44 ⟨rfl, rfl, trivial⟩ rfl fun hok => ?_
  have e_a := int_eta (hok _ (.head _))
  have b_a := int_range (hok _ (.head _))
  have e_b := int_eta (hok _ (.tail _ (.head _)))
  have b_b := int_range (hok _ (.tail _ (.head _)))
  apply says_den (φ := fun _ _ => [])
  simp [e_a, e_b, tree_44, T.says, X.den, O1.den, O2.den, O3.den, callD, XArg.ev, XArg.dat, Callee'.num, backs, DArg.back, Conds.den, cloArgs]
  grind [upto]
theorem pd_44 (a b : D) (Q : List D → Prop) (ho : Q [.int (upto a.toI b.toI)]) : PC Try.prog 44 [.sc (.int .i64) a, .sc (.int .i64) b] [.sc (.int .i64)] Q := (pc_44 a b).mono fun _ h => h ▸ ho
/- spec.l1New -/
theorem pc_113 (a : D) : PC Try.prog 113 [.sc (.sl [(.int .u8)]) a] [.cur] fun o => o = [a] := by
  refine PC.of_sig mix sig_113 ⟨rfl, trivial⟩ rfl fun hok => ?_
  have e_a := sl_eta (hok _ (.head _))
  have l_a := sl_len (hok _ (.head _))
  have k_a := sl_all (hok _ (.head _))
  apply says_den (φ := fun _ _ => [])
  simp [e_a, tree_113, T.says, X.den, O1.den, O2.den, O3.den, callD, XArg.ev, XArg.dat, Callee'.num, backs, DArg.back, Conds.den, cloArgs]
  refine fun _ => ?_
  refine den_loop (fun vs => ∃ (h : Int) (i : Nat), vs = [.int h, .int i] ∧ i ≤ a.toL.length) (fun vs => a.toL.length - ((vs.getD 1 default).toI).toNat) ⟨IntKind.i64.wrap (139871 + (a.toL.length : Int)), 0, by simp [X.den, O1.den, O2.den], by omega⟩ ?_
  rintro vs hvl ⟨h, i, rfl, hi⟩
  apply says_den (φ := fun _ _ => [])
  by_cases hlt : i < a.toL.length
  · have hz : IntKind.i64.wrap ((i : Int) + 1) = ((i + 1 : Nat) : Int) := by (first | omega | (simp only [IntKind.wrap_i64, maxL] at *; omega) | (simp [IntKind.wrap_i64, maxL] at *; omega))
    simp [e_a, tree_113, T.says, X.den, O1.den, O2.den, O3.den, callD, XArg.ev, XArg.dat, Callee'.num, backs, DArg.back, Conds.den, cloArgs, hlt, hz]
    (repeat' (first | (with_reducible apply And.intro) | intro _)) <;> first | exact ⟨_, i + 1, ⟨rfl, by omega⟩, by omega⟩ | exact ⟨i + 1, rfl, by omega⟩ | (rw [hz]; omega) | omega | skip
  · simp [e_a, tree_113, T.says, X.den, O1.den, O2.den, O3.den, callD, XArg.ev, XArg.dat, Callee'.num, backs, DArg.back, Conds.den, cloArgs, hlt]
theorem pd_113 (a : D) (Q : List D → Prop) (ho : Q [a]) : PC Try.prog 113 [.sc (.sl [(.int .u8)]) a] [.cur] Q := (pc_113 a).mono fun _ h => h ▸ ho
/- spec.l1Byte -/
def phi_190 : Nat → List D → (List D → Prop) → Prop
  | _, _, _ => False
theorem pc_190 (c : D) : PC Try.prog 190 [.cur c] [.sc (.int .i64)] fun o => ∃ (m : Int), (0 ≤ m ∧ m ≤ 255) ∧ o = [.int m] := by
  refine PC.of_sigK mix sig_190 ⟨trivial, trivial⟩ rfl fun hok ci ch hci hcn hch => ?_
  have hci := inK_i64 hci
  have hw : ci < c.toL.length → c.toL.length ≤ maxL → IntKind.i64.wrap (ci + 1) = ci + 1 := fun h h2 => by rw [IntKind.wrap_i64]; simp only [maxL] at h2; omega
  apply sayR_den (φ := (phi_190))
  simp [tree_190, T.sayR, inK_i64_iff, RS.oks, RS.ok, CK.okD, X.den, O1.den, O2.den, O3.den, callD, XArg.ev, XArg.dat, Callee'.num, backs, DArg.back, Conds.den, cloArgs]
  (repeat' (first | (with_reducible apply And.intro) | intro _)) <;> first | exact (bits2_and255 _).1 | exact (bits2_and255 _).2 | omega | (rw [hw (by assumption) (by assumption)]; omega) | skip
theorem pd_190 (c : D) (Q : List D → Prop) (ho : ∀ (m : Int), (0 ≤ m ∧ m ≤ 255) → Q [.int m]) : PC Try.prog 190 [.cur c] [.sc (.int .i64)] Q := (pc_190 c).mono (by rintro _ ⟨m, hc, rfl⟩; exact ho m hc)
/- spec.l1Below -/
def phi_117 : Nat → List D → (List D → Prop) → Prop
  | 190, [c], K => ∀ (m : Int), (0 ≤ m ∧ m ≤ 255) → K [.int m]
  | _, _, _ => False
theorem pc_117 (c n : D) : PC Try.prog 117 [.cur c, .sc (.int .i64) n] [.sc (.int .i64)] fun o => ∃ (m : Int), (0 ≤ m ∧ m ≤ 16777215 ∧ (0 < n.toI → m < n.toI) ∧ (n.toI ≤ 0 → m = 0)) ∧ o = [.int m] := by
  refine PC.of_sigK mix sig_117 ⟨trivial, rfl, trivial⟩ rfl fun hok ci ch hci hcn hch => ?_
  have e_n := int_eta (hok _ (.head _))
  have b_n := int_range (hok _ (.head _))
  apply sayR_den (φ := (phi_117))
  simp [e_n, tree_117, T.sayR, inK_i64_iff, RS.oks, RS.ok, CK.okD, X.den, O1.den, O2.den, O3.den, callD, XArg.ev, XArg.dat, Callee'.num, backs, DArg.back, Conds.den, cloArgs, phi_117]
  (repeat' (first | (with_reducible apply And.intro) | intro _)) <;> (try rw [mix3 (by assumption) (by assumption) (by assumption) (by assumption) (by assumption) (by assumption)]) <;> first | omega | assumption | (exact (tmod_lt (by omega) (by omega)).1) | (exact (tmod_lt (by omega) (by omega)).2) | (exact Int.le_trans (tmod_le (by omega) _) (by omega)) | (first | (with_reducible assumption) | (with_reducible exact trivial) | (first | ((with_reducible refine ⟨?_⟩); simp [e_n, tree_117, T.sayR, inK_i64_iff, RS.oks, RS.ok, CK.okD, X.den, O1.den, O2.den, O3.den, callD, XArg.ev, XArg.dat, Callee'.num, backs, DArg.back, Conds.den, cloArgs]; intro K hK; (try simp only [phi_117] at hK); intros; first | contradiction | ((with_reducible refine pd_190 _ _ ?ho); (case ho => exact hK)) | (exact pd_190 _ _ hK)) | ((with_reducible show CallIn _ _ _ _ _); first | (refine .inr ⟨_, rfl, fun K hK => hK⟩) | (refine .inr ⟨_, rfl, fun K hK => hK true⟩) | (refine .inr ⟨_, rfl, fun K hK => hK 0 (by simp)⟩))) | omega | (simp only [IntKind.wrap_i64, maxL] at *; omega) | assumption | rfl | contradiction | grind) | skip
theorem pd_117 (c n : D) (Q : List D → Prop) (ho : ∀ (m : Int), (0 ≤ m ∧ m ≤ 16777215 ∧ (0 < n.toI → m < n.toI) ∧ (n.toI ≤ 0 → m = 0)) → Q [.int m]) : PC Try.prog 117 [.cur c, .sc (.int .i64) n] [.sc (.int .i64)] Q := (pc_117 c n).mono (by rintro _ ⟨m, hc, rfl⟩; exact ho m hc)
/- spec.l1Once -/
def phi_115 : Nat → List D → (List D → Prop) → Prop
  | 117, [c, n], K => ∀ (m : Int), (0 ≤ m ∧ m ≤ 16777215 ∧ (0 < n.toI → m < n.toI) ∧ (n.toI ≤ 0 → m = 0)) → K [.int m]
  | _, _, _ => False
theorem pc_115 (c n : D) : PC Try.prog 115 [.cur c, .sc (.int .i64) n] [.sc .bool] fun o => ∃ (b : Bool), o = [.bool b] := by
  refine PC.of_sigK mix sig_115 ⟨trivial, rfl, trivial⟩ rfl fun hok ci ch hci hcn hch => ?_
  have e_n := int_eta (hok _ (.head _))
  have b_n := int_range (hok _ (.head _))
  apply sayR_den (φ := (phi_115))
  simp [e_n, tree_115, T.sayR, inK_i64_iff, RS.oks, RS.ok, CK.okD, X.den, O1.den, O2.den, O3.den, callD, XArg.ev, XArg.dat, Callee'.num, backs, DArg.back, Conds.den, cloArgs, phi_115]
  all_goals ((repeat' (first | (with_reducible apply And.intro) | intro _)) <;> (first | (with_reducible assumption) | (with_reducible exact trivial) | (first | ((with_reducible refine ⟨?_⟩); simp [e_n, tree_115, T.sayR, inK_i64_iff, RS.oks, RS.ok, CK.okD, X.den, O1.den, O2.den, O3.den, callD, XArg.ev, XArg.dat, Callee'.num, backs, DArg.back, Conds.den, cloArgs]; intro K hK; (try simp only [phi_115] at hK); intros; first | contradiction | ((with_reducible refine pd_117 _ _ _ ?ho); (case ho => exact hK)) | (exact pd_117 _ _ _ hK)) | ((with_reducible show CallIn _ _ _ _ _); first | (refine .inr ⟨_, rfl, fun K hK => hK⟩) | (refine .inr ⟨_, rfl, fun K hK => hK true⟩) | (refine .inr ⟨_, rfl, fun K hK => hK 0 (by simp)⟩))) | omega | (simp only [IntKind.wrap_i64, maxL] at *; omega) | assumption | rfl | contradiction | grind))
theorem pd_115 (c n : D) (Q : List D → Prop) (ho : ∀ (b : Bool), Q [.bool b]) : PC Try.prog 115 [.cur c, .sc (.int .i64) n] [.sc .bool] Q := (pc_115 c n).mono (by rintro _ ⟨b, rfl⟩; exact ho b)
/- spec.l1Int -/
def phi_189 : Nat → List D → (List D → Prop) → Prop
  | 117, [c, n], K => ∀ (m : Int), (0 ≤ m ∧ m ≤ 16777215 ∧ (0 < n.toI → m < n.toI) ∧ (n.toI ≤ 0 → m = 0)) → K [.int m]
  | _, _, _ => False
theorem pc_189 (c l : D) (h : l.toL ≠ []) : PC Try.prog 189 [.cur c, .sc (.sl [(.int .i64)]) l] [.sc (.int .i64)] fun o => ∃ (m : Int), (oneOf l m) ∧ o = [.int m] := by
  refine PC.of_sigK mix sig_189 ⟨trivial, rfl, trivial⟩ rfl fun hok ci ch hci hcn hch => ?_
  have e_l := sl_eta (hok _ (.head _))
  have l_l := sl_len (hok _ (.head _))
  have k_l := sl_all (hok _ (.head _))
  apply sayR_den (φ := (phi_189))
  have hp : 0 < l.toL.length := List.length_pos_iff.mpr h
  have hin : ∀ i : Nat, i < l.toL.length → ∃ m : Int, oneOf l m ∧ (l.elem i).fld 0 = .int m := fun i hi => ⟨_, List.mem_map.2 ⟨_, elem_mem hi, rfl⟩, (int_eta (okL_at (k_l _ (elem_mem hi)) (i := 0) rfl)).symm⟩
  simp [e_l, tree_189, T.sayR, inK_i64_iff, RS.oks, RS.ok, CK.okD, X.den, O1.den, O2.den, O3.den, callD, XArg.ev, XArg.dat, Callee'.num, backs, DArg.back, Conds.den, cloArgs, phi_189, hp]
  (repeat' (first | (with_reducible apply And.intro) | intro _)) <;> first | omega | (simpa using hin _ (by omega)) | (first | (with_reducible assumption) | (with_reducible exact trivial) | (first | ((with_reducible refine ⟨?_⟩); simp [e_l, tree_189, T.sayR, inK_i64_iff, RS.oks, RS.ok, CK.okD, X.den, O1.den, O2.den, O3.den, callD, XArg.ev, XArg.dat, Callee'.num, backs, DArg.back, Conds.den, cloArgs]; intro K hK; (try simp only [phi_189] at hK); intros; first | contradiction | ((with_reducible refine pd_117 _ _ _ ?ho); (case ho => exact hK)) | (exact pd_117 _ _ _ hK)) | ((with_reducible show CallIn _ _ _ _ _); first | (refine .inr ⟨_, rfl, fun K hK => hK⟩) | (refine .inr ⟨_, rfl, fun K hK => hK true⟩) | (refine .inr ⟨_, rfl, fun K hK => hK 0 (by simp)⟩))) | omega | (simp only [IntKind.wrap_i64, maxL] at *; omega) | assumption | rfl | contradiction | grind) | skip
theorem pd_189 (c l : D) (h : l.toL ≠ []) (Q : List D → Prop) (ho : ∀ (m : Int), (oneOf l m) → Q [.int m]) : PC Try.prog 189 [.cur c, .sc (.sl [(.int .i64)]) l] [.sc (.int .i64)] Q := (pc_189 c l h).mono (by rintro _ ⟨m, hc, rfl⟩; exact ho m hc)
/- spec.StateNew -/
def phi_191 : Nat → List D → (List D → Prop) → Prop
  | _, _, _ => False
theorem pc_191 (n : D) : PC Try.prog 191 [.sc (.int .i64) n] [.st [(.sl [(.int .i64), (.int .i64), (.int .i64), (.int .i64), (.int .i64), (.int .i64), (.int .i64), (.int .i64), (.int .i64), (.int .i64), (.int .i64), .bool, .bool]), (.sl [(.int .i64), (.int .i64), .bool]), (.int .i64), (.int .i64)]] fun o => ∃ (s : D), ((s.fld 0).toL = [] ∧ 2 ≤ (s.fld 1).toL.length ∧ (s.fld 1).toL.length ≤ 3) ∧ o = [s] := by
  refine PC.of_sig mix sig_191 ⟨rfl, trivial⟩ rfl fun hok => ?_
  have e_n := int_eta (hok _ (.head _))
  have b_n := int_range (hok _ (.head _))
  apply sayR_den (φ := (phi_191))
  simp [e_n, tree_191, T.sayR, inK_i64_iff, RS.oks, RS.ok, CK.okD, X.den, O1.den, O2.den, O3.den, callD, XArg.ev, XArg.dat, Callee'.num, backs, DArg.back, Conds.den, cloArgs]
  all_goals ((repeat' (first | (with_reducible apply And.intro) | intro _)) <;> first | exact ⟨_, by simp, rfl⟩ | (refine ⟨D.lst _, ?_, rfl⟩; simp) | (first | (with_reducible assumption) | (with_reducible exact trivial) | (first | ((with_reducible refine ⟨?_⟩); simp [e_n, tree_191, T.sayR, inK_i64_iff, RS.oks, RS.ok, CK.okD, X.den, O1.den, O2.den, O3.den, callD, XArg.ev, XArg.dat, Callee'.num, backs, DArg.back, Conds.den, cloArgs]; intro K hK; intros; first | contradiction) | ((with_reducible show CallIn _ _ _ _ _); first | (refine .inr ⟨_, rfl, fun K hK => hK⟩) | (refine .inr ⟨_, rfl, fun K hK => hK true⟩) | (refine .inr ⟨_, rfl, fun K hK => hK 0 (by simp)⟩))) | omega | (simp only [IntKind.wrap_i64, maxL] at *; omega) | assumption | rfl | contradiction | grind) | skip)
theorem pd_191 (n : D) (Q : List D → Prop) (ho : ∀ (s : D), ((s.fld 0).toL = [] ∧ 2 ≤ (s.fld 1).toL.length ∧ (s.fld 1).toL.length ≤ 3) → Q [s]) : PC Try.prog 191 [.sc (.int .i64) n] [.st [(.sl [(.int .i64), (.int .i64), (.int .i64), (.int .i64), (.int .i64), (.int .i64), (.int .i64), (.int .i64), (.int .i64), (.int .i64), (.int .i64), .bool, .bool]), (.sl [(.int .i64), (.int .i64), .bool]), (.int .i64), (.int .i64)]] Q := (pc_191 n).mono (by rintro _ ⟨s, hc, rfl⟩; exact ho s hc)
/- spec.l4Draw -/
def phi_192 : Nat → List D → (List D → Prop) → Prop
  | 115, [c, n], K => ∀ (b : Bool), K [.bool b]
  | 117, [c, n], K => ∀ (m : Int), (0 ≤ m ∧ m ≤ 16777215 ∧ (0 < n.toI → m < n.toI) ∧ (n.toI ≤ 0 → m = 0)) → K [.int m]
  | 189, [c, l], K => ∀ (m : Int), (oneOf l m) → K [.int m]
  | _, _, _ => False
theorem pc_192 (c n : D) : PC Try.prog 192 [.cur c, .sc (.int .i64) n] [.st [(.int .i64), (.int .i64), (.int .i64), (.int .i64), (.int .i64), (.int .i64), (.int .i64), (.int .i64), (.int .i64), (.int .i64), (.int .i64), .bool, .bool]] fun o => ∃ (p : D), (-1 ≤ (p.fld 2).toI) ∧ o = [p] := by
  refine PC.of_sigK mix sig_192 ⟨trivial, rfl, trivial⟩ rfl fun hok ci ch hci hcn hch => ?_
  have e_n := int_eta (hok _ (.head _))
  have b_n := int_range (hok _ (.head _))
  apply sayR_den (φ := (phi_192))
  simp [e_n, tree_192, T.sayR, inK_i64_iff, RS.oks, RS.ok, CK.okD, X.den, O1.den, O2.den, O3.den, callD, XArg.ev, XArg.dat, Callee'.num, backs, DArg.back, Conds.den, cloArgs, phi_192]
  (repeat' (first | (with_reducible apply And.intro) | intro _)) <;> first | (first | (with_reducible assumption) | (with_reducible exact trivial) | (first | ((with_reducible refine ⟨?_⟩); simp [e_n, tree_192, T.sayR, inK_i64_iff, RS.oks, RS.ok, CK.okD, X.den, O1.den, O2.den, O3.den, callD, XArg.ev, XArg.dat, Callee'.num, backs, DArg.back, Conds.den, cloArgs]; intro K hK; (try simp only [phi_192] at hK); intros; first | contradiction | ((with_reducible refine pd_115 _ _ _ ?ho); (case ho => exact hK)) | ((with_reducible refine pd_117 _ _ _ ?ho); (case ho => exact hK)) | ((with_reducible refine pd_189 _ _ ?_ _ ?ho); (case ho => exact hK); all_goals (exact (by first | (with_reducible assumption) | omega | assumption | (simp; done) | (simp; omega) | (simp [*]; done) | exact smallE_of (n := 1048576) (by omega) (by omega) | (simp [*] at *; omega) | grind [szS]))) | (exact pd_115 _ _ _ hK) | (exact pd_117 _ _ _ hK) | (exact pd_189 _ _ (by first | (with_reducible assumption) | omega | assumption | (simp; done) | (simp; omega) | (simp [*]; done) | exact smallE_of (n := 1048576) (by omega) (by omega) | (simp [*] at *; omega) | grind [szS]) _ hK)) | ((with_reducible show CallIn _ _ _ _ _); first | (refine .inr ⟨_, rfl, fun K hK => hK⟩) | (refine .inr ⟨_, rfl, fun K hK => hK true⟩) | (refine .inr ⟨_, rfl, fun K hK => hK 0 (by simp)⟩))) | omega | (simp only [IntKind.wrap_i64, maxL] at *; omega) | assumption | rfl | contradiction | grind) | skip
  obtain ⟨I, hI⟩ : ∃ I : List D → Prop, ∀ vs, I vs ↔ ∃ (i : Nat) (t : Int), vs = [.int i, .int t] ∧ i ≤ 6 := ⟨_, fun _ => Iff.rfl⟩
  obtain ⟨μ, hμ⟩ : ∃ μ : List D → Nat, ∀ vs, μ vs = 6 - ((vs.getD 0 default).toI).toNat := ⟨_, fun _ => rfl⟩
  refine den_loop I μ ((hI _).2 ⟨0, 0, by simp [X.den], by omega⟩) ?_
  intro vs hvl hv
  obtain ⟨i, t, rfl, hinv⟩ := (hI _).1 hv
  clear hv
  apply sayR_den (φ := (phi_192))
  by_cases hlt : i < 6
  · have hz : IntKind.i64.wrap ((i : Int) + 1) = ((i + 1 : Nat) : Int) := by (first | omega | (simp only [IntKind.wrap_i64, maxL] at *; omega) | (simp [IntKind.wrap_i64, maxL] at *; omega))
    have hlt2 : (i : Int) < 6 := by omega
    simp [e_n, tree_192, T.sayR, inK_i64_iff, RS.oks, RS.ok, CK.okD, X.den, O1.den, O2.den, O3.den, callD, XArg.ev, XArg.dat, Callee'.num, backs, DArg.back, Conds.den, cloArgs, phi_192, hlt, hlt2, hz]
    (repeat' (first | (with_reducible apply And.intro) | intro _)) <;> first | (exact (hI _).2 ⟨i + 1, _, rfl, by omega⟩) | (rw [hμ, hμ]; simp; omega) | (first | (with_reducible assumption) | (with_reducible exact trivial) | (first | ((with_reducible refine ⟨?_⟩); simp [e_n, tree_192, T.sayR, inK_i64_iff, RS.oks, RS.ok, CK.okD, X.den, O1.den, O2.den, O3.den, callD, XArg.ev, XArg.dat, Callee'.num, backs, DArg.back, Conds.den, cloArgs]; intro K hK; (try simp only [phi_192] at hK); intros; first | contradiction | ((with_reducible refine pd_115 _ _ _ ?ho); (case ho => exact hK)) | ((with_reducible refine pd_117 _ _ _ ?ho); (case ho => exact hK)) | ((with_reducible refine pd_189 _ _ ?_ _ ?ho); (case ho => exact hK); all_goals (exact (by first | (with_reducible assumption) | omega | assumption | (simp; done) | (simp; omega) | (simp [*]; done) | exact smallE_of (n := 1048576) (by omega) (by omega) | (simp [*] at *; omega) | grind [szS]))) | (exact pd_115 _ _ _ hK) | (exact pd_117 _ _ _ hK) | (exact pd_189 _ _ (by first | (with_reducible assumption) | omega | assumption | (simp; done) | (simp; omega) | (simp [*]; done) | exact smallE_of (n := 1048576) (by omega) (by omega) | (simp [*] at *; omega) | grind [szS]) _ hK)) | ((with_reducible show CallIn _ _ _ _ _); first | (refine .inr ⟨_, rfl, fun K hK => hK⟩) | (refine .inr ⟨_, rfl, fun K hK => hK true⟩) | (refine .inr ⟨_, rfl, fun K hK => hK 0 (by simp)⟩))) | omega | (simp only [IntKind.wrap_i64, maxL] at *; omega) | assumption | rfl | contradiction | grind) | skip
  · have : i = 6 := by omega
    subst this
    simp [e_n, tree_192, T.sayR, inK_i64_iff, RS.oks, RS.ok, CK.okD, X.den, O1.den, O2.den, O3.den, callD, XArg.ev, XArg.dat, Callee'.num, backs, DArg.back, Conds.den, cloArgs, phi_192]
    (repeat' (first | (with_reducible apply And.intro) | intro _)) <;> first | (first | (with_reducible assumption) | (with_reducible exact trivial) | (first | ((with_reducible refine ⟨?_⟩); simp [e_n, tree_192, T.sayR, inK_i64_iff, RS.oks, RS.ok, CK.okD, X.den, O1.den, O2.den, O3.den, callD, XArg.ev, XArg.dat, Callee'.num, backs, DArg.back, Conds.den, cloArgs]; intro K hK; (try simp only [phi_192] at hK); intros; first | contradiction | ((with_reducible refine pd_115 _ _ _ ?ho); (case ho => exact hK)) | ((with_reducible refine pd_117 _ _ _ ?ho); (case ho => exact hK)) | ((with_reducible refine pd_189 _ _ ?_ _ ?ho); (case ho => exact hK); all_goals (exact (by first | (with_reducible assumption) | omega | assumption | (simp; done) | (simp; omega) | (simp [*]; done) | exact smallE_of (n := 1048576) (by omega) (by omega) | (simp [*] at *; omega) | grind [szS]))) | (exact pd_115 _ _ _ hK) | (exact pd_117 _ _ _ hK) | (exact pd_189 _ _ (by first | (with_reducible assumption) | omega | assumption | (simp; done) | (simp; omega) | (simp [*]; done) | exact smallE_of (n := 1048576) (by omega) (by omega) | (simp [*] at *; omega) | grind [szS]) _ hK)) | ((with_reducible show CallIn _ _ _ _ _); first | (refine .inr ⟨_, rfl, fun K hK => hK⟩) | (refine .inr ⟨_, rfl, fun K hK => hK true⟩) | (refine .inr ⟨_, rfl, fun K hK => hK 0 (by simp)⟩))) | omega | (simp only [IntKind.wrap_i64, maxL] at *; omega) | assumption | rfl | contradiction | grind) | (refine ⟨_, ?_, rfl⟩; simp; (first | omega | (simp only [IntKind.wrap_i64, maxL] at *; omega) | (simp [IntKind.wrap_i64, maxL] at *; omega))) | skip
theorem pd_192 (c n : D) (Q : List D → Prop) (ho : ∀ (p : D), (-1 ≤ (p.fld 2).toI) → Q [p]) : PC Try.prog 192 [.cur c, .sc (.int .i64) n] [.st [(.int .i64), (.int .i64), (.int .i64), (.int .i64), (.int .i64), (.int .i64), (.int .i64), (.int .i64), (.int .i64), (.int .i64), (.int .i64), .bool, .bool]] Q := (pc_192 c n).mono (by rintro _ ⟨p, hc, rfl⟩; exact ho p hc)
/- spec.l5Draw -/
def phi_119 : Nat → List D → (List D → Prop) → Prop
  | 117, [c, n], K => ∀ (m : Int), (0 ≤ m ∧ m ≤ 16777215 ∧ (0 < n.toI → m < n.toI) ∧ (n.toI ≤ 0 → m = 0)) → K [.int m]
  | 189, [c, l], K => ∀ (m : Int), (oneOf l m) → K [.int m]
  | 191, [n], K => ∀ (s : D), ((s.fld 0).toL = [] ∧ 2 ≤ (s.fld 1).toL.length ∧ (s.fld 1).toL.length ≤ 3) → K [s]
  | 192, [c, n], K => ∀ (p : D), (-1 ≤ (p.fld 2).toI) → K [p]
  | _, _, _ => False
theorem pc_119 (c : D) : PC Try.prog 119 [.cur c] [.st [(.sl [(.int .i64), (.int .i64), (.int .i64), (.int .i64), (.int .i64), (.int .i64), (.int .i64), (.int .i64), (.int .i64), (.int .i64), (.int .i64), .bool, .bool]), (.sl [(.int .i64), (.int .i64), .bool]), (.int .i64), (.int .i64)]] fun o => ∃ (s : D), (stateN 5 3 s) ∧ o = [s] := by
  refine PC.of_sigK mix sig_119 ⟨trivial, trivial⟩ rfl fun hok ci ch hci hcn hch => ?_
  apply sayR_den (φ := (phi_119))
  simp [tree_119, T.sayR, inK_i64_iff, RS.oks, RS.ok, CK.okD, X.den, O1.den, O2.den, O3.den, callD, XArg.ev, XArg.dat, Callee'.num, backs, DArg.back, Conds.den, cloArgs, phi_119]
  (repeat' (first | (with_reducible apply And.intro) | intro _)) <;> first | (first | (with_reducible assumption) | (with_reducible exact trivial) | (first | ((with_reducible refine ⟨?_⟩); simp [tree_119, T.sayR, inK_i64_iff, RS.oks, RS.ok, CK.okD, X.den, O1.den, O2.den, O3.den, callD, XArg.ev, XArg.dat, Callee'.num, backs, DArg.back, Conds.den, cloArgs]; intro K hK; (try simp only [phi_119] at hK); intros; first | contradiction | ((with_reducible refine pd_117 _ _ _ ?ho); (case ho => exact hK)) | ((with_reducible refine pd_189 _ _ ?_ _ ?ho); (case ho => exact hK); all_goals (exact (by first | (with_reducible assumption) | omega | assumption | (simp; done) | (simp; omega) | (simp [*]; done) | exact smallE_of (n := 1048576) (by omega) (by omega) | (simp [*] at *; omega) | grind [szS]))) | ((with_reducible refine pd_191 _ _ ?ho); (case ho => exact hK)) | ((with_reducible refine pd_192 _ _ _ ?ho); (case ho => exact hK)) | (exact pd_117 _ _ _ hK) | (exact pd_189 _ _ (by first | (with_reducible assumption) | omega | assumption | (simp; done) | (simp; omega) | (simp [*]; done) | exact smallE_of (n := 1048576) (by omega) (by omega) | (simp [*] at *; omega) | grind [szS]) _ hK) | (exact pd_191 _ _ hK) | (exact pd_192 _ _ _ hK)) | ((with_reducible show CallIn _ _ _ _ _); first | (refine .inr ⟨_, rfl, fun K hK => hK⟩) | (refine .inr ⟨_, rfl, fun K hK => hK true⟩) | (refine .inr ⟨_, rfl, fun K hK => hK 0 (by simp)⟩))) | omega | (simp only [IntKind.wrap_i64, maxL] at *; omega) | assumption | rfl | contradiction | grind) | skip
  rename_i s0 hs0 hs1 hs2 hk m1 _ _ _ _ _ m2 _ _ _ _ _
  have e1 := sl_eta (okL_at hk (i := 1) rfl)
  have e0 : s0.fld 0 = .lst [] := by rw [← sl_eta (okL_at hk (i := 0) rfl), hs0]
  obtain ⟨I, hI⟩ : ∃ I : List D → Prop, ∀ vs, I vs ↔ ∃ (i : Nat) (l : List D), vs = [.int i, .lst l] ∧ i ≤ 2 ∧ 2 ≤ l.length ∧ l.length ≤ 3 := ⟨_, fun _ => Iff.rfl⟩
  obtain ⟨μ, hμ⟩ : ∃ μ : List D → Nat, ∀ vs, μ vs = 2 - ((vs.getD 0 default).toI).toNat := ⟨_, fun _ => rfl⟩
  refine den_loop I μ ((hI _).2 ⟨0, (s0.fld 1).toL, by simp [X.den, O1.den, e1], by omega, hs1, hs2⟩) ?_
  intro vs hvl hv
  obtain ⟨i, l, rfl, hinv⟩ := (hI _).1 hv
  clear hv
  apply sayR_den (φ := (phi_119))
  by_cases hlt : i < 2
  · have hz : IntKind.i64.wrap ((i : Int) + 1) = ((i + 1 : Nat) : Int) := by (first | omega | (simp only [IntKind.wrap_i64, maxL] at *; omega) | (simp [IntKind.wrap_i64, maxL] at *; omega))
    have hlt2 : (i : Int) < 2 := by omega
    have hl2 : i < l.length := by omega
    simp [tree_119, T.sayR, inK_i64_iff, RS.oks, RS.ok, CK.okD, X.den, O1.den, O2.den, O3.den, callD, XArg.ev, XArg.dat, Callee'.num, backs, DArg.back, Conds.den, cloArgs, phi_119, hlt, hlt2, hz, hl2]
    (repeat' (first | (with_reducible apply And.intro) | intro _)) <;> first | (exact (hI _).2 ⟨i + 1, _, rfl, by omega, by simp; omega, by simp; omega⟩) | (rw [hμ, hμ]; simp; omega) | (first | (with_reducible assumption) | (with_reducible exact trivial) | (first | ((with_reducible refine ⟨?_⟩); simp [tree_119, T.sayR, inK_i64_iff, RS.oks, RS.ok, CK.okD, X.den, O1.den, O2.den, O3.den, callD, XArg.ev, XArg.dat, Callee'.num, backs, DArg.back, Conds.den, cloArgs]; intro K hK; (try simp only [phi_119] at hK); intros; first | contradiction | ((with_reducible refine pd_117 _ _ _ ?ho); (case ho => exact hK)) | ((with_reducible refine pd_189 _ _ ?_ _ ?ho); (case ho => exact hK); all_goals (exact (by first | (with_reducible assumption) | omega | assumption | (simp; done) | (simp; omega) | (simp [*]; done) | exact smallE_of (n := 1048576) (by omega) (by omega) | (simp [*] at *; omega) | grind [szS]))) | ((with_reducible refine pd_191 _ _ ?ho); (case ho => exact hK)) | ((with_reducible refine pd_192 _ _ _ ?ho); (case ho => exact hK)) | (exact pd_117 _ _ _ hK) | (exact pd_189 _ _ (by first | (with_reducible assumption) | omega | assumption | (simp; done) | (simp; omega) | (simp [*]; done) | exact smallE_of (n := 1048576) (by omega) (by omega) | (simp [*] at *; omega) | grind [szS]) _ hK) | (exact pd_191 _ _ hK) | (exact pd_192 _ _ _ hK)) | ((with_reducible show CallIn _ _ _ _ _); first | (refine .inr ⟨_, rfl, fun K hK => hK⟩) | (refine .inr ⟨_, rfl, fun K hK => hK true⟩) | (refine .inr ⟨_, rfl, fun K hK => hK 0 (by simp)⟩))) | omega | (simp only [IntKind.wrap_i64, maxL] at *; omega) | assumption | rfl | contradiction | grind) | skip
  · have : i = 2 := by omega
    subst this
    simp [tree_119, T.sayR, inK_i64_iff, RS.oks, RS.ok, CK.okD, X.den, O1.den, O2.den, O3.den, callD, XArg.ev, XArg.dat, Callee'.num, backs, DArg.back, Conds.den, cloArgs, phi_119]
    (repeat' (first | (with_reducible apply And.intro) | intro _)) <;> first | (first | (with_reducible assumption) | (with_reducible exact trivial) | (first | ((with_reducible refine ⟨?_⟩); simp [tree_119, T.sayR, inK_i64_iff, RS.oks, RS.ok, CK.okD, X.den, O1.den, O2.den, O3.den, callD, XArg.ev, XArg.dat, Callee'.num, backs, DArg.back, Conds.den, cloArgs]; intro K hK; (try simp only [phi_119] at hK); intros; first | contradiction | ((with_reducible refine pd_117 _ _ _ ?ho); (case ho => exact hK)) | ((with_reducible refine pd_189 _ _ ?_ _ ?ho); (case ho => exact hK); all_goals (exact (by first | (with_reducible assumption) | omega | assumption | (simp; done) | (simp; omega) | (simp [*]; done) | exact smallE_of (n := 1048576) (by omega) (by omega) | (simp [*] at *; omega) | grind [szS]))) | ((with_reducible refine pd_191 _ _ ?ho); (case ho => exact hK)) | ((with_reducible refine pd_192 _ _ _ ?ho); (case ho => exact hK)) | (exact pd_117 _ _ _ hK) | (exact pd_189 _ _ (by first | (with_reducible assumption) | omega | assumption | (simp; done) | (simp; omega) | (simp [*]; done) | exact smallE_of (n := 1048576) (by omega) (by omega) | (simp [*] at *; omega) | grind [szS]) _ hK) | (exact pd_191 _ _ hK) | (exact pd_192 _ _ _ hK)) | ((with_reducible show CallIn _ _ _ _ _); first | (refine .inr ⟨_, rfl, fun K hK => hK⟩) | (refine .inr ⟨_, rfl, fun K hK => hK true⟩) | (refine .inr ⟨_, rfl, fun K hK => hK 0 (by simp)⟩))) | omega | (simp only [IntKind.wrap_i64, maxL] at *; omega) | assumption | rfl | contradiction | grind) | skip
    rename_i m3 h30 _ h34 _ _
    obtain ⟨k, hk3⟩ : ∃ k : Nat, m3 = k := ⟨m3.toNat, by omega⟩
    subst hk3
    have hw : IntKind.i64.wrap (1 + (k : Int)) = ((k + 1 : Nat) : Int) := by (first | omega | (simp only [IntKind.wrap_i64, maxL] at *; omega) | (simp [IntKind.wrap_i64, maxL] at *; omega))
    obtain ⟨I, hI⟩ : ∃ I : List D → Prop, ∀ vs, I vs ↔ ∃ (q : Int) (j : Nat) (ps : List D), vs = [.int q, .int j, .lst ps] ∧ ps.length + j = k + 1 ∧ ∀ x ∈ ps, -1 ≤ (x.fld 2).toI := ⟨_, fun _ => Iff.rfl⟩
    obtain ⟨μ, hμ⟩ : ∃ μ : List D → Nat, ∀ vs, μ vs = ((vs.getD 1 default).toI).toNat := ⟨_, fun _ => rfl⟩
    refine den_loop I μ ((hI _).2 ⟨0, k + 1, [], by simp [X.den, O1.den, O2.den, e0, hw], by simp, by simp⟩) ?_
    intro vs hvl hv
    obtain ⟨q, j, ps, rfl, hinv⟩ := (hI _).1 hv
    clear hv
    apply sayR_den (φ := (phi_119))
    cases j with
    | succ j =>
      have hz : IntKind.i64.wrap (j : Int) = j := by (first | omega | (simp only [IntKind.wrap_i64, maxL] at *; omega) | (simp [IntKind.wrap_i64, maxL] at *; omega))
      have hp : (0 : Int) < (j : Int) + 1 := by omega
      simp [tree_119, T.sayR, inK_i64_iff, RS.oks, RS.ok, CK.okD, X.den, O1.den, O2.den, O3.den, callD, XArg.ev, XArg.dat, Callee'.num, backs, DArg.back, Conds.den, cloArgs, phi_119, hz, hp]
      (repeat' (first | (with_reducible apply And.intro) | intro _)) <;> first | ((with_reducible refine (hI _).2 ?_); refine ⟨_, j, _, rfl, (by simp only [List.length_append, List.length_singleton]; omega), sides_app hinv.2 ?_⟩; first | (rename_i h _; exact h) | (rename_i h _ _; exact h)) | (rw [hμ, hμ]; simp <;> omega) | (first | (with_reducible assumption) | (with_reducible exact trivial) | (first | ((with_reducible refine ⟨?_⟩); simp [tree_119, T.sayR, inK_i64_iff, RS.oks, RS.ok, CK.okD, X.den, O1.den, O2.den, O3.den, callD, XArg.ev, XArg.dat, Callee'.num, backs, DArg.back, Conds.den, cloArgs]; intro K hK; (try simp only [phi_119] at hK); intros; first | contradiction | ((with_reducible refine pd_117 _ _ _ ?ho); (case ho => exact hK)) | ((with_reducible refine pd_189 _ _ ?_ _ ?ho); (case ho => exact hK); all_goals (exact (by first | (with_reducible assumption) | omega | assumption | (simp; done) | (simp; omega) | (simp [*]; done) | exact smallE_of (n := 1048576) (by omega) (by omega) | (simp [*] at *; omega) | grind [szS]))) | ((with_reducible refine pd_191 _ _ ?ho); (case ho => exact hK)) | ((with_reducible refine pd_192 _ _ _ ?ho); (case ho => exact hK)) | (exact pd_117 _ _ _ hK) | (exact pd_189 _ _ (by first | (with_reducible assumption) | omega | assumption | (simp; done) | (simp; omega) | (simp [*]; done) | exact smallE_of (n := 1048576) (by omega) (by omega) | (simp [*] at *; omega) | grind [szS]) _ hK) | (exact pd_191 _ _ hK) | (exact pd_192 _ _ _ hK)) | ((with_reducible show CallIn _ _ _ _ _); first | (refine .inr ⟨_, rfl, fun K hK => hK⟩) | (refine .inr ⟨_, rfl, fun K hK => hK true⟩) | (refine .inr ⟨_, rfl, fun K hK => hK 0 (by simp)⟩))) | omega | (simp only [IntKind.wrap_i64, maxL] at *; omega) | assumption | rfl | contradiction | grind) | skip
    | zero =>
      simp [tree_119, T.sayR, inK_i64_iff, RS.oks, RS.ok, CK.okD, X.den, O1.den, O2.den, O3.den, callD, XArg.ev, XArg.dat, Callee'.num, backs, DArg.back, Conds.den, cloArgs, phi_119]
      exact stateN_mk (by omega) (by omega) (by omega) (by omega) hinv.2
theorem pd_119 (c : D) (Q : List D → Prop) (ho : ∀ (s : D), (stateN 5 3 s) → Q [s]) : PC Try.prog 119 [.cur c] [.st [(.sl [(.int .i64), (.int .i64), (.int .i64), (.int .i64), (.int .i64), (.int .i64), (.int .i64), (.int .i64), (.int .i64), (.int .i64), (.int .i64), .bool, .bool]), (.sl [(.int .i64), (.int .i64), .bool]), (.int .i64), (.int .i64)]] Q := (pc_119 c).mono (by rintro _ ⟨s, hc, rfl⟩; exact ho s hc)
/- spec.l1Odd -/
def phi_116 : Nat → List D → (List D → Prop) → Prop
  | 189, [c, l], K => ∀ (m : Int), (oneOf l m) → K [.int m]
  | _, _, _ => False
theorem pc_116 (c : D) : PC Try.prog 116 [.cur c] [.sc (.int .i64)] fun o => ∃ (m : Int), o = [.int m] := by
  refine PC.of_sigK mix sig_116 ⟨trivial, trivial⟩ rfl fun hok ci ch hci hcn hch => ?_
  apply sayR_den (φ := (phi_116))
  simp [tree_116, T.sayR, inK_i64_iff, RS.oks, RS.ok, CK.okD, X.den, O1.den, O2.den, O3.den, callD, XArg.ev, XArg.dat, Callee'.num, backs, DArg.back, Conds.den, cloArgs, phi_116]
  all_goals ((repeat' (first | (with_reducible apply And.intro) | intro _)) <;> (first | (with_reducible assumption) | (with_reducible exact trivial) | (first | ((with_reducible refine ⟨?_⟩); simp [tree_116, T.sayR, inK_i64_iff, RS.oks, RS.ok, CK.okD, X.den, O1.den, O2.den, O3.den, callD, XArg.ev, XArg.dat, Callee'.num, backs, DArg.back, Conds.den, cloArgs]; intro K hK; (try simp only [phi_116] at hK); intros; first | contradiction | ((with_reducible refine pd_189 _ _ ?_ _ ?ho); (case ho => exact hK); all_goals (exact (by first | (with_reducible assumption) | omega | assumption | (simp; done) | (simp; omega) | (simp [*]; done) | exact smallE_of (n := 1048576) (by omega) (by omega) | (simp [*] at *; omega) | grind [szS]))) | (exact pd_189 _ _ (by first | (with_reducible assumption) | omega | assumption | (simp; done) | (simp; omega) | (simp [*]; done) | exact smallE_of (n := 1048576) (by omega) (by omega) | (simp [*] at *; omega) | grind [szS]) _ hK)) | ((with_reducible show CallIn _ _ _ _ _); first | (refine .inr ⟨_, rfl, fun K hK => hK⟩) | (refine .inr ⟨_, rfl, fun K hK => hK true⟩) | (refine .inr ⟨_, rfl, fun K hK => hK 0 (by simp)⟩))) | omega | (simp only [IntKind.wrap_i64, maxL] at *; omega) | assumption | rfl | contradiction | grind))
theorem pd_116 (c : D) (Q : List D → Prop) (ho : ∀ (m : Int), Q [.int m]) : PC Try.prog 116 [.cur c] [.sc (.int .i64)] Q := (pc_116 c).mono (by rintro _ ⟨m, rfl⟩; exact ho m)
/- spec.l1Raw -/
def phi_133 : Nat → List D → (List D → Prop) → Prop
  | 115, [c, n], K => ∀ (b : Bool), K [.bool b]
  | 116, [c], K => ∀ (m : Int), K [.int m]
  | 189, [c, l], K => ∀ (m : Int), (oneOf l m) → K [.int m]
  | _, _, _ => False
theorem pc_133 (c : D) : PC Try.prog 133 [.cur c] [.sc (.int .i64)] fun o => ∃ (m : Int), o = [.int m] := by
  refine PC.of_sigK mix sig_133 ⟨trivial, trivial⟩ rfl fun hok ci ch hci hcn hch => ?_
  apply sayR_den (φ := (phi_133))
  simp [tree_133, T.sayR, inK_i64_iff, RS.oks, RS.ok, CK.okD, X.den, O1.den, O2.den, O3.den, callD, XArg.ev, XArg.dat, Callee'.num, backs, DArg.back, Conds.den, cloArgs, phi_133]
  all_goals ((repeat' (first | (with_reducible apply And.intro) | intro _)) <;> (first | (with_reducible assumption) | (with_reducible exact trivial) | (first | ((with_reducible refine ⟨?_⟩); simp [tree_133, T.sayR, inK_i64_iff, RS.oks, RS.ok, CK.okD, X.den, O1.den, O2.den, O3.den, callD, XArg.ev, XArg.dat, Callee'.num, backs, DArg.back, Conds.den, cloArgs]; intro K hK; (try simp only [phi_133] at hK); intros; first | contradiction | ((with_reducible refine pd_115 _ _ _ ?ho); (case ho => exact hK)) | ((with_reducible refine pd_116 _ _ ?ho); (case ho => exact hK)) | ((with_reducible refine pd_189 _ _ ?_ _ ?ho); (case ho => exact hK); all_goals (exact (by first | (with_reducible assumption) | omega | assumption | (simp; done) | (simp; omega) | (simp [*]; done) | exact smallE_of (n := 1048576) (by omega) (by omega) | (simp [*] at *; omega) | grind [szS]))) | (exact pd_115 _ _ _ hK) | (exact pd_116 _ _ hK) | (exact pd_189 _ _ (by first | (with_reducible assumption) | omega | assumption | (simp; done) | (simp; omega) | (simp [*]; done) | exact smallE_of (n := 1048576) (by omega) (by omega) | (simp [*] at *; omega) | grind [szS]) _ hK)) | ((with_reducible show CallIn _ _ _ _ _); first | (refine .inr ⟨_, rfl, fun K hK => hK⟩) | (refine .inr ⟨_, rfl, fun K hK => hK true⟩) | (refine .inr ⟨_, rfl, fun K hK => hK 0 (by simp)⟩))) | omega | (simp only [IntKind.wrap_i64, maxL] at *; omega) | assumption | rfl | contradiction | grind))
theorem pd_133 (c : D) (Q : List D → Prop) (ho : ∀ (m : Int), Q [.int m]) : PC Try.prog 133 [.cur c] [.sc (.int .i64)] Q := (pc_133 c).mono (by rintro _ ⟨m, rfl⟩; exact ho m)
/- spec.l1Amount -/
def phi_134 : Nat → List D → (List D → Prop) → Prop
  | 189, [c, l], K => ∀ (m : Int), (oneOf l m) → K [.int m]
  | _, _, _ => False
theorem pc_134 (c : D) : PC Try.prog 134 [.cur c] [.sc (.int .i64)] fun o => ∃ (m : Int), (0 ≤ m ∧ m ≤ 2147483647) ∧ o = [.int m] := by
  refine PC.of_sigK mix sig_134 ⟨trivial, trivial⟩ rfl fun hok ci ch hci hcn hch => ?_
  apply sayR_den (φ := (phi_134))
  simp [tree_134, T.sayR, inK_i64_iff, RS.oks, RS.ok, CK.okD, X.den, O1.den, O2.den, O3.den, callD, XArg.ev, XArg.dat, Callee'.num, backs, DArg.back, Conds.den, cloArgs, phi_134]
  (repeat' (first | (with_reducible apply And.intro) | intro _)) <;> first | (simp [oneOf] at *; omega) | (first | (with_reducible assumption) | (with_reducible exact trivial) | (first | ((with_reducible refine ⟨?_⟩); simp [tree_134, T.sayR, inK_i64_iff, RS.oks, RS.ok, CK.okD, X.den, O1.den, O2.den, O3.den, callD, XArg.ev, XArg.dat, Callee'.num, backs, DArg.back, Conds.den, cloArgs]; intro K hK; (try simp only [phi_134] at hK); intros; first | contradiction | ((with_reducible refine pd_189 _ _ ?_ _ ?ho); (case ho => exact hK); all_goals (exact (by first | (with_reducible assumption) | omega | assumption | (simp; done) | (simp; omega) | (simp [*]; done) | exact smallE_of (n := 1048576) (by omega) (by omega) | (simp [*] at *; omega) | grind [szS]))) | (exact pd_189 _ _ (by first | (with_reducible assumption) | omega | assumption | (simp; done) | (simp; omega) | (simp [*]; done) | exact smallE_of (n := 1048576) (by omega) (by omega) | (simp [*] at *; omega) | grind [szS]) _ hK)) | ((with_reducible show CallIn _ _ _ _ _); first | (refine .inr ⟨_, rfl, fun K hK => hK⟩) | (refine .inr ⟨_, rfl, fun K hK => hK true⟩) | (refine .inr ⟨_, rfl, fun K hK => hK 0 (by simp)⟩))) | omega | (simp only [IntKind.wrap_i64, maxL] at *; omega) | assumption | rfl | contradiction | grind) | skip
theorem pd_134 (c : D) (Q : List D → Prop) (ho : ∀ (m : Int), (0 ≤ m ∧ m ≤ 2147483647) → Q [.int m]) : PC Try.prog 134 [.cur c] [.sc (.int .i64)] Q := (pc_134 c).mono (by rintro _ ⟨m, hc, rfl⟩; exact ho m hc)
/- spec.l6Id -/
def phi_199 : Nat → List D → (List D → Prop) → Prop
  | 115, [c, n], K => ∀ (b : Bool), K [.bool b]
  | 117, [c, n], K => ∀ (m : Int), (0 ≤ m ∧ m ≤ 16777215 ∧ (0 < n.toI → m < n.toI) ∧ (n.toI ≤ 0 → m = 0)) → K [.int m]
  | _, _, _ => False
theorem pc_199 (c s : D) : PC Try.prog 199 [.cur c, .st [(.sl [(.int .i64), (.int .i64), (.int .i64), (.int .i64), (.int .i64), (.int .i64), (.int .i64), (.int .i64), (.int .i64), (.int .i64), (.int .i64), .bool, .bool]), (.sl [(.int .i64), (.int .i64), .bool]), (.int .i64), (.int .i64)] s] [.sc (.int .i64)] fun o => ∃ (m : Int), o = [.int m] := by
  refine PC.of_sigK mix sig_199 ⟨trivial, rfl, trivial⟩ rfl fun hok ci ch hci hcn hch => ?_
  have e_s : D.lst [s.fld 0, s.fld 1, s.fld 2, s.fld 3] = s := by simpa [List.range, List.range.loop] using okL_eta (hok _ (.head _))
  have k_s : okL [(.sl [(.int .i64), (.int .i64), (.int .i64), (.int .i64), (.int .i64), (.int .i64), (.int .i64), (.int .i64), (.int .i64), (.int .i64), (.int .i64), .bool, .bool]), (.sl [(.int .i64), (.int .i64), .bool]), (.int .i64), (.int .i64)] s := (hok _ (.head _))
  have e_s_0 : D.lst (s.fld 0).toL = s.fld 0 := sl_eta (okL_at k_s (i := 0) rfl)
  have l_s_0 := sl_len (okL_at k_s (i := 0) rfl)
  have k_s_0 := sl_all (okL_at k_s (i := 0) rfl)
  have E_s_0 : ∀ i, i < (s.fld 0).toL.length → D.lst [((s.fld 0).elem i).fld 0, ((s.fld 0).elem i).fld 1, ((s.fld 0).elem i).fld 2, ((s.fld 0).elem i).fld 3, ((s.fld 0).elem i).fld 4, ((s.fld 0).elem i).fld 5, ((s.fld 0).elem i).fld 6, ((s.fld 0).elem i).fld 7, ((s.fld 0).elem i).fld 8, ((s.fld 0).elem i).fld 9, ((s.fld 0).elem i).fld 10, ((s.fld 0).elem i).fld 11, ((s.fld 0).elem i).fld 12] = (s.fld 0).elem i := fun i hi => by simpa [List.range, List.range.loop] using okL_eta (k_s_0 _ (elem_mem hi))
  have e_s_1 : D.lst (s.fld 1).toL = s.fld 1 := sl_eta (okL_at k_s (i := 1) rfl)
  have l_s_1 := sl_len (okL_at k_s (i := 1) rfl)
  have k_s_1 := sl_all (okL_at k_s (i := 1) rfl)
  have E_s_1 : ∀ i, i < (s.fld 1).toL.length → D.lst [((s.fld 1).elem i).fld 0, ((s.fld 1).elem i).fld 1, ((s.fld 1).elem i).fld 2] = (s.fld 1).elem i := fun i hi => by simpa [List.range, List.range.loop] using okL_eta (k_s_1 _ (elem_mem hi))
  apply sayR_den (φ := (phi_199))
  have hin : ∀ i : Nat, i < (s.fld 0).toL.length → ∃ m : Int, ((s.fld 0).elem i).fld 0 = .int m := fun i hi => ⟨_, (int_eta (okL_at (k_s_0 _ (elem_mem hi)) (i := 0) rfl)).symm⟩
  by_cases hp : 0 < (s.fld 0).toL.length
  · simp [e_s_0, E_s_0, e_s_1, E_s_1, e_s, tree_199, T.sayR, inK_i64_iff, RS.oks, RS.ok, CK.okD, X.den, O1.den, O2.den, O3.den, callD, XArg.ev, XArg.dat, Callee'.num, backs, DArg.back, Conds.den, cloArgs, phi_199, hp]
    (repeat' (first | (with_reducible apply And.intro) | intro _)) <;> first | omega | (exact hin _ (by omega)) | (first | (with_reducible assumption) | (with_reducible exact trivial) | (first | ((with_reducible refine ⟨?_⟩); simp [e_s_0, E_s_0, e_s_1, E_s_1, e_s, tree_199, T.sayR, inK_i64_iff, RS.oks, RS.ok, CK.okD, X.den, O1.den, O2.den, O3.den, callD, XArg.ev, XArg.dat, Callee'.num, backs, DArg.back, Conds.den, cloArgs]; intro K hK; (try simp only [phi_199] at hK); intros; first | contradiction | ((with_reducible refine pd_115 _ _ _ ?ho); (case ho => exact hK)) | ((with_reducible refine pd_117 _ _ _ ?ho); (case ho => exact hK)) | (exact pd_115 _ _ _ hK) | (exact pd_117 _ _ _ hK)) | ((with_reducible show CallIn _ _ _ _ _); first | (refine .inr ⟨_, rfl, fun K hK => hK⟩) | (refine .inr ⟨_, rfl, fun K hK => hK true⟩) | (refine .inr ⟨_, rfl, fun K hK => hK 0 (by simp)⟩))) | omega | (simp only [IntKind.wrap_i64, maxL] at *; omega) | assumption | rfl | contradiction | grind) | skip
  · have he : (s.fld 0).toL = [] := by cases h : (s.fld 0).toL <;> simp_all
    simp [e_s_0, E_s_0, e_s_1, E_s_1, e_s, tree_199, T.sayR, inK_i64_iff, RS.oks, RS.ok, CK.okD, X.den, O1.den, O2.den, O3.den, callD, XArg.ev, XArg.dat, Callee'.num, backs, DArg.back, Conds.den, cloArgs, phi_199, he]
    (repeat' (first | (with_reducible apply And.intro) | intro _)) <;> first | omega | (first | (with_reducible assumption) | (with_reducible exact trivial) | (first | ((with_reducible refine ⟨?_⟩); simp [e_s_0, E_s_0, e_s_1, E_s_1, e_s, tree_199, T.sayR, inK_i64_iff, RS.oks, RS.ok, CK.okD, X.den, O1.den, O2.den, O3.den, callD, XArg.ev, XArg.dat, Callee'.num, backs, DArg.back, Conds.den, cloArgs]; intro K hK; (try simp only [phi_199] at hK); intros; first | contradiction | ((with_reducible refine pd_115 _ _ _ ?ho); (case ho => exact hK)) | ((with_reducible refine pd_117 _ _ _ ?ho); (case ho => exact hK)) | (exact pd_115 _ _ _ hK) | (exact pd_117 _ _ _ hK)) | ((with_reducible show CallIn _ _ _ _ _); first | (refine .inr ⟨_, rfl, fun K hK => hK⟩) | (refine .inr ⟨_, rfl, fun K hK => hK true⟩) | (refine .inr ⟨_, rfl, fun K hK => hK 0 (by simp)⟩))) | omega | (simp only [IntKind.wrap_i64, maxL] at *; omega) | assumption | rfl | contradiction | grind) | skip
theorem pd_199 (c s : D) (Q : List D → Prop) (ho : ∀ (m : Int), Q [.int m]) : PC Try.prog 199 [.cur c, .st [(.sl [(.int .i64), (.int .i64), (.int .i64), (.int .i64), (.int .i64), (.int .i64), (.int .i64), (.int .i64), (.int .i64), (.int .i64), (.int .i64), .bool, .bool]), (.sl [(.int .i64), (.int .i64), .bool]), (.int .i64), (.int .i64)] s] [.sc (.int .i64)] Q := (pc_199 c s).mono (by rintro _ ⟨m, rfl⟩; exact ho m)
/- spec.l7Draw -/
def phi_193 : Nat → List D → (List D → Prop) → Prop
  | 115, [c, n], K => ∀ (b : Bool), K [.bool b]
  | 189, [c, l], K => ∀ (m : Int), (oneOf l m) → K [.int m]
  | 199, [c, s], K => ∀ (m : Int), K [.int m]
  | _, _, _ => False
theorem pc_193 (c s : D) : PC Try.prog 193 [.cur c, .st [(.sl [(.int .i64), (.int .i64), (.int .i64), (.int .i64), (.int .i64), (.int .i64), (.int .i64), (.int .i64), (.int .i64), (.int .i64), (.int .i64), .bool, .bool]), (.sl [(.int .i64), (.int .i64), .bool]), (.int .i64), (.int .i64)] s] [.st [(.int .i64), (.int .i64), (.int .i64), (.int .i64), (.int .i64), (.int .i64), (.int .i64)]] fun o => ∃ (p : D), o = [p] := by
  refine PC.of_sigK mix sig_193 ⟨trivial, rfl, trivial⟩ rfl fun hok ci ch hci hcn hch => ?_
  have e_s : D.lst [s.fld 0, s.fld 1, s.fld 2, s.fld 3] = s := by simpa [List.range, List.range.loop] using okL_eta (hok _ (.head _))
  have k_s : okL [(.sl [(.int .i64), (.int .i64), (.int .i64), (.int .i64), (.int .i64), (.int .i64), (.int .i64), (.int .i64), (.int .i64), (.int .i64), (.int .i64), .bool, .bool]), (.sl [(.int .i64), (.int .i64), .bool]), (.int .i64), (.int .i64)] s := (hok _ (.head _))
  have e_s_0 : D.lst (s.fld 0).toL = s.fld 0 := sl_eta (okL_at k_s (i := 0) rfl)
  have l_s_0 := sl_len (okL_at k_s (i := 0) rfl)
  have k_s_0 := sl_all (okL_at k_s (i := 0) rfl)
  have E_s_0 : ∀ i, i < (s.fld 0).toL.length → D.lst [((s.fld 0).elem i).fld 0, ((s.fld 0).elem i).fld 1, ((s.fld 0).elem i).fld 2, ((s.fld 0).elem i).fld 3, ((s.fld 0).elem i).fld 4, ((s.fld 0).elem i).fld 5, ((s.fld 0).elem i).fld 6, ((s.fld 0).elem i).fld 7, ((s.fld 0).elem i).fld 8, ((s.fld 0).elem i).fld 9, ((s.fld 0).elem i).fld 10, ((s.fld 0).elem i).fld 11, ((s.fld 0).elem i).fld 12] = (s.fld 0).elem i := fun i hi => by simpa [List.range, List.range.loop] using okL_eta (k_s_0 _ (elem_mem hi))
  have e_s_1 : D.lst (s.fld 1).toL = s.fld 1 := sl_eta (okL_at k_s (i := 1) rfl)
  have l_s_1 := sl_len (okL_at k_s (i := 1) rfl)
  have k_s_1 := sl_all (okL_at k_s (i := 1) rfl)
  have E_s_1 : ∀ i, i < (s.fld 1).toL.length → D.lst [((s.fld 1).elem i).fld 0, ((s.fld 1).elem i).fld 1, ((s.fld 1).elem i).fld 2] = (s.fld 1).elem i := fun i hi => by simpa [List.range, List.range.loop] using okL_eta (k_s_1 _ (elem_mem hi))
  apply sayR_den (φ := (phi_193))
  simp (config := { maxSteps := 2000000 }) [e_s_0, E_s_0, e_s_1, E_s_1, e_s, tree_193, T.sayR, inK_i64_iff, RS.oks, RS.ok, CK.okD, X.den, O1.den, O2.den, O3.den, callD, XArg.ev, XArg.dat, Callee'.num, backs, DArg.back, Conds.den, cloArgs, phi_193]
  (repeat' (first | (with_reducible apply And.intro) | intro _)) <;> first | (first | ((with_reducible refine ⟨?_⟩); simp [e_s_0, E_s_0, e_s_1, E_s_1, e_s, tree_193, T.sayR, inK_i64_iff, RS.oks, RS.ok, CK.okD, X.den, O1.den, O2.den, O3.den, callD, XArg.ev, XArg.dat, Callee'.num, backs, DArg.back, Conds.den, cloArgs]; intro K hK; (try simp only [phi_193] at hK); intros; first | contradiction | ((with_reducible refine pd_115 _ _ _ ?ho); (case ho => exact hK)) | ((with_reducible refine pd_189 _ _ ?_ _ ?ho); (case ho => exact hK); all_goals (exact (by first | (with_reducible assumption) | omega | assumption | (simp; done) | (simp; omega) | (simp [*]; done) | exact smallE_of (n := 1048576) (by omega) (by omega) | (simp [*] at *; omega) | grind [szS]))) | ((with_reducible refine pd_199 _ _ _ ?ho); (case ho => exact hK)) | (exact pd_115 _ _ _ hK) | (exact pd_189 _ _ (by first | (with_reducible assumption) | omega | assumption | (simp; done) | (simp; omega) | (simp [*]; done) | exact smallE_of (n := 1048576) (by omega) (by omega) | (simp [*] at *; omega) | grind [szS]) _ hK) | (exact pd_199 _ _ _ hK)) | ((with_reducible show CallIn _ _ _ _ _); first | (refine .inr ⟨_, rfl, fun K hK => hK⟩) | (refine .inr ⟨_, rfl, fun K hK => hK true⟩) | (refine .inr ⟨_, rfl, fun K hK => hK 0 (by simp)⟩))) | exact ⟨_, rfl⟩ | (first | (with_reducible assumption) | (with_reducible exact trivial) | (first | ((with_reducible refine ⟨?_⟩); simp [e_s_0, E_s_0, e_s_1, E_s_1, e_s, tree_193, T.sayR, inK_i64_iff, RS.oks, RS.ok, CK.okD, X.den, O1.den, O2.den, O3.den, callD, XArg.ev, XArg.dat, Callee'.num, backs, DArg.back, Conds.den, cloArgs]; intro K hK; (try simp only [phi_193] at hK); intros; first | contradiction | ((with_reducible refine pd_115 _ _ _ ?ho); (case ho => exact hK)) | ((with_reducible refine pd_189 _ _ ?_ _ ?ho); (case ho => exact hK); all_goals (exact (by first | (with_reducible assumption) | omega | assumption | (simp; done) | (simp; omega) | (simp [*]; done) | exact smallE_of (n := 1048576) (by omega) (by omega) | (simp [*] at *; omega) | grind [szS]))) | ((with_reducible refine pd_199 _ _ _ ?ho); (case ho => exact hK)) | (exact pd_115 _ _ _ hK) | (exact pd_189 _ _ (by first | (with_reducible assumption) | omega | assumption | (simp; done) | (simp; omega) | (simp [*]; done) | exact smallE_of (n := 1048576) (by omega) (by omega) | (simp [*] at *; omega) | grind [szS]) _ hK) | (exact pd_199 _ _ _ hK)) | ((with_reducible show CallIn _ _ _ _ _); first | (refine .inr ⟨_, rfl, fun K hK => hK⟩) | (refine .inr ⟨_, rfl, fun K hK => hK true⟩) | (refine .inr ⟨_, rfl, fun K hK => hK 0 (by simp)⟩))) | omega | (simp only [IntKind.wrap_i64, maxL] at *; omega) | assumption | rfl | contradiction | grind) | skip
theorem pd_193 (c s : D) (Q : List D → Prop) (ho : ∀ (p : D), Q [p]) : PC Try.prog 193 [.cur c, .st [(.sl [(.int .i64), (.int .i64), (.int .i64), (.int .i64), (.int .i64), (.int .i64), (.int .i64), (.int .i64), (.int .i64), (.int .i64), (.int .i64), .bool, .bool]), (.sl [(.int .i64), (.int .i64), .bool]), (.int .i64), (.int .i64)] s] [.st [(.int .i64), (.int .i64), (.int .i64), (.int .i64), (.int .i64), (.int .i64), (.int .i64)]] Q := (pc_193 c s).mono (by rintro _ ⟨p, rfl⟩; exact ho p)
/- spec.l7Any -/
def phi_120 : Nat → List D → (List D → Prop) → Prop
  | 117, [c, n], K => ∀ (m : Int), (0 ≤ m ∧ m ≤ 16777215 ∧ (0 < n.toI → m < n.toI) ∧ (n.toI ≤ 0 → m = 0)) → K [.int m]
  | 133, [c], K => ∀ (m : Int), K [.int m]
  | 189, [c, l], K => ∀ (m : Int), (oneOf l m) → K [.int m]
  | 193, [c, s], K => ∀ (p : D), K [p]
  | _, _, _ => False
theorem pc_120 (c s : D) : PC Try.prog 120 [.cur c, .st [(.sl [(.int .i64), (.int .i64), (.int .i64), (.int .i64), (.int .i64), (.int .i64), (.int .i64), (.int .i64), (.int .i64), (.int .i64), (.int .i64), .bool, .bool]), (.sl [(.int .i64), (.int .i64), .bool]), (.int .i64), (.int .i64)] s] [.st [(.int .i64), (.int .i64), (.int .i64), (.int .i64), (.int .i64), (.int .i64), (.int .i64)]] fun o => ∃ (p : D), o = [p] := by
  refine PC.of_sigK mix sig_120 ⟨trivial, rfl, trivial⟩ rfl fun hok ci ch hci hcn hch => ?_
  have e_s : D.lst [s.fld 0, s.fld 1, s.fld 2, s.fld 3] = s := by simpa [List.range, List.range.loop] using okL_eta (hok _ (.head _))
  have k_s : okL [(.sl [(.int .i64), (.int .i64), (.int .i64), (.int .i64), (.int .i64), (.int .i64), (.int .i64), (.int .i64), (.int .i64), (.int .i64), (.int .i64), .bool, .bool]), (.sl [(.int .i64), (.int .i64), .bool]), (.int .i64), (.int .i64)] s := (hok _ (.head _))
  have e_s_0 : D.lst (s.fld 0).toL = s.fld 0 := sl_eta (okL_at k_s (i := 0) rfl)
  have l_s_0 := sl_len (okL_at k_s (i := 0) rfl)
  have k_s_0 := sl_all (okL_at k_s (i := 0) rfl)
  have E_s_0 : ∀ i, i < (s.fld 0).toL.length → D.lst [((s.fld 0).elem i).fld 0, ((s.fld 0).elem i).fld 1, ((s.fld 0).elem i).fld 2, ((s.fld 0).elem i).fld 3, ((s.fld 0).elem i).fld 4, ((s.fld 0).elem i).fld 5, ((s.fld 0).elem i).fld 6, ((s.fld 0).elem i).fld 7, ((s.fld 0).elem i).fld 8, ((s.fld 0).elem i).fld 9, ((s.fld 0).elem i).fld 10, ((s.fld 0).elem i).fld 11, ((s.fld 0).elem i).fld 12] = (s.fld 0).elem i := fun i hi => by simpa [List.range, List.range.loop] using okL_eta (k_s_0 _ (elem_mem hi))
  have e_s_1 : D.lst (s.fld 1).toL = s.fld 1 := sl_eta (okL_at k_s (i := 1) rfl)
  have l_s_1 := sl_len (okL_at k_s (i := 1) rfl)
  have k_s_1 := sl_all (okL_at k_s (i := 1) rfl)
  have E_s_1 : ∀ i, i < (s.fld 1).toL.length → D.lst [((s.fld 1).elem i).fld 0, ((s.fld 1).elem i).fld 1, ((s.fld 1).elem i).fld 2] = (s.fld 1).elem i := fun i hi => by simpa [List.range, List.range.loop] using okL_eta (k_s_1 _ (elem_mem hi))
  apply sayR_den (φ := (phi_120))
  simp [e_s_0, E_s_0, e_s_1, E_s_1, e_s, tree_120, T.sayR, inK_i64_iff, RS.oks, RS.ok, CK.okD, X.den, O1.den, O2.den, O3.den, callD, XArg.ev, XArg.dat, Callee'.num, backs, DArg.back, Conds.den, cloArgs, phi_120]
  (repeat' (first | (with_reducible apply And.intro) | intro _)) <;> first | (first | ((with_reducible refine ⟨?_⟩); simp [e_s_0, E_s_0, e_s_1, E_s_1, e_s, tree_120, T.sayR, inK_i64_iff, RS.oks, RS.ok, CK.okD, X.den, O1.den, O2.den, O3.den, callD, XArg.ev, XArg.dat, Callee'.num, backs, DArg.back, Conds.den, cloArgs]; intro K hK; (try simp only [phi_120] at hK); intros; first | contradiction | ((with_reducible refine pd_117 _ _ _ ?ho); (case ho => exact hK)) | ((with_reducible refine pd_133 _ _ ?ho); (case ho => exact hK)) | ((with_reducible refine pd_189 _ _ ?_ _ ?ho); (case ho => exact hK); all_goals (exact (by first | (with_reducible assumption) | omega | assumption | (simp; done) | (simp; omega) | (simp [*]; done) | exact smallE_of (n := 1048576) (by omega) (by omega) | (simp [*] at *; omega) | grind [szS]))) | ((with_reducible refine pd_193 _ _ _ ?ho); (case ho => exact hK)) | (exact pd_117 _ _ _ hK) | (exact pd_133 _ _ hK) | (exact pd_189 _ _ (by first | (with_reducible assumption) | omega | assumption | (simp; done) | (simp; omega) | (simp [*]; done) | exact smallE_of (n := 1048576) (by omega) (by omega) | (simp [*] at *; omega) | grind [szS]) _ hK) | (exact pd_193 _ _ _ hK)) | ((with_reducible show CallIn _ _ _ _ _); first | (refine .inr ⟨_, rfl, fun K hK => hK⟩) | (refine .inr ⟨_, rfl, fun K hK => hK true⟩) | (refine .inr ⟨_, rfl, fun K hK => hK 0 (by simp)⟩))) | exact ⟨_, rfl⟩ | (first | (with_reducible assumption) | (with_reducible exact trivial) | (first | ((with_reducible refine ⟨?_⟩); simp [e_s_0, E_s_0, e_s_1, E_s_1, e_s, tree_120, T.sayR, inK_i64_iff, RS.oks, RS.ok, CK.okD, X.den, O1.den, O2.den, O3.den, callD, XArg.ev, XArg.dat, Callee'.num, backs, DArg.back, Conds.den, cloArgs]; intro K hK; (try simp only [phi_120] at hK); intros; first | contradiction | ((with_reducible refine pd_117 _ _ _ ?ho); (case ho => exact hK)) | ((with_reducible refine pd_133 _ _ ?ho); (case ho => exact hK)) | ((with_reducible refine pd_189 _ _ ?_ _ ?ho); (case ho => exact hK); all_goals (exact (by first | (with_reducible assumption) | omega | assumption | (simp; done) | (simp; omega) | (simp [*]; done) | exact smallE_of (n := 1048576) (by omega) (by omega) | (simp [*] at *; omega) | grind [szS]))) | ((with_reducible refine pd_193 _ _ _ ?ho); (case ho => exact hK)) | (exact pd_117 _ _ _ hK) | (exact pd_133 _ _ hK) | (exact pd_189 _ _ (by first | (with_reducible assumption) | omega | assumption | (simp; done) | (simp; omega) | (simp [*]; done) | exact smallE_of (n := 1048576) (by omega) (by omega) | (simp [*] at *; omega) | grind [szS]) _ hK) | (exact pd_193 _ _ _ hK)) | ((with_reducible show CallIn _ _ _ _ _); first | (refine .inr ⟨_, rfl, fun K hK => hK⟩) | (refine .inr ⟨_, rfl, fun K hK => hK true⟩) | (refine .inr ⟨_, rfl, fun K hK => hK 0 (by simp)⟩))) | omega | (simp only [IntKind.wrap_i64, maxL] at *; omega) | assumption | rfl | contradiction | grind) | skip
theorem pd_120 (c s : D) (Q : List D → Prop) (ho : ∀ (p : D), Q [p]) : PC Try.prog 120 [.cur c, .st [(.sl [(.int .i64), (.int .i64), (.int .i64), (.int .i64), (.int .i64), (.int .i64), (.int .i64), (.int .i64), (.int .i64), (.int .i64), (.int .i64), .bool, .bool]), (.sl [(.int .i64), (.int .i64), .bool]), (.int .i64), (.int .i64)] s] [.st [(.int .i64), (.int .i64), (.int .i64), (.int .i64), (.int .i64), (.int .i64), (.int .i64)]] Q := (pc_120 c s).mono (by rintro _ ⟨p, rfl⟩; exact ho p)
/- spec.l8Draw -/
def phi_195 : Nat → List D → (List D → Prop) → Prop
  | 115, [c, n], K => ∀ (b : Bool), K [.bool b]
  | 117, [c, n], K => ∀ (m : Int), (0 ≤ m ∧ m ≤ 16777215 ∧ (0 < n.toI → m < n.toI) ∧ (n.toI ≤ 0 → m = 0)) → K [.int m]
  | 189, [c, l], K => ∀ (m : Int), (oneOf l m) → K [.int m]
  | _, _, _ => False
theorem pc_195 (c : D) : PC Try.prog 195 [.cur c] [.st [(.int .i64), (.int .i64)]] fun o => ∃ (g : D), o = [g] := by
  refine PC.of_sigK mix sig_195 ⟨trivial, trivial⟩ rfl fun hok ci ch hci hcn hch => ?_
  apply sayR_den (φ := (phi_195))
  simp [tree_195, T.sayR, inK_i64_iff, RS.oks, RS.ok, CK.okD, X.den, O1.den, O2.den, O3.den, callD, XArg.ev, XArg.dat, Callee'.num, backs, DArg.back, Conds.den, cloArgs, phi_195]
  (repeat' (first | (with_reducible apply And.intro) | intro _)) <;> first | (first | ((with_reducible refine ⟨?_⟩); simp [tree_195, T.sayR, inK_i64_iff, RS.oks, RS.ok, CK.okD, X.den, O1.den, O2.den, O3.den, callD, XArg.ev, XArg.dat, Callee'.num, backs, DArg.back, Conds.den, cloArgs]; intro K hK; (try simp only [phi_195] at hK); intros; first | contradiction | ((with_reducible refine pd_115 _ _ _ ?ho); (case ho => exact hK)) | ((with_reducible refine pd_117 _ _ _ ?ho); (case ho => exact hK)) | ((with_reducible refine pd_189 _ _ ?_ _ ?ho); (case ho => exact hK); all_goals (exact (by first | (with_reducible assumption) | omega | assumption | (simp; done) | (simp; omega) | (simp [*]; done) | exact smallE_of (n := 1048576) (by omega) (by omega) | (simp [*] at *; omega) | grind [szS]))) | (exact pd_115 _ _ _ hK) | (exact pd_117 _ _ _ hK) | (exact pd_189 _ _ (by first | (with_reducible assumption) | omega | assumption | (simp; done) | (simp; omega) | (simp [*]; done) | exact smallE_of (n := 1048576) (by omega) (by omega) | (simp [*] at *; omega) | grind [szS]) _ hK)) | ((with_reducible show CallIn _ _ _ _ _); first | (refine .inr ⟨_, rfl, fun K hK => hK⟩) | (refine .inr ⟨_, rfl, fun K hK => hK true⟩) | (refine .inr ⟨_, rfl, fun K hK => hK 0 (by simp)⟩))) | exact ⟨_, rfl⟩ | (first | (with_reducible assumption) | (with_reducible exact trivial) | (first | ((with_reducible refine ⟨?_⟩); simp [tree_195, T.sayR, inK_i64_iff, RS.oks, RS.ok, CK.okD, X.den, O1.den, O2.den, O3.den, callD, XArg.ev, XArg.dat, Callee'.num, backs, DArg.back, Conds.den, cloArgs]; intro K hK; (try simp only [phi_195] at hK); intros; first | contradiction | ((with_reducible refine pd_115 _ _ _ ?ho); (case ho => exact hK)) | ((with_reducible refine pd_117 _ _ _ ?ho); (case ho => exact hK)) | ((with_reducible refine pd_189 _ _ ?_ _ ?ho); (case ho => exact hK); all_goals (exact (by first | (with_reducible assumption) | omega | assumption | (simp; done) | (simp; omega) | (simp [*]; done) | exact smallE_of (n := 1048576) (by omega) (by omega) | (simp [*] at *; omega) | grind [szS]))) | (exact pd_115 _ _ _ hK) | (exact pd_117 _ _ _ hK) | (exact pd_189 _ _ (by first | (with_reducible assumption) | omega | assumption | (simp; done) | (simp; omega) | (simp [*]; done) | exact smallE_of (n := 1048576) (by omega) (by omega) | (simp [*] at *; omega) | grind [szS]) _ hK)) | ((with_reducible show CallIn _ _ _ _ _); first | (refine .inr ⟨_, rfl, fun K hK => hK⟩) | (refine .inr ⟨_, rfl, fun K hK => hK true⟩) | (refine .inr ⟨_, rfl, fun K hK => hK 0 (by simp)⟩))) | omega | (simp only [IntKind.wrap_i64, maxL] at *; omega) | assumption | rfl | contradiction | grind) | skip
theorem pd_195 (c : D) (Q : List D → Prop) (ho : ∀ (g : D), Q [g]) : PC Try.prog 195 [.cur c] [.st [(.int .i64), (.int .i64)]] Q := (pc_195 c).mono (by rintro _ ⟨g, rfl⟩; exact ho g)
/- spec.l8Any -/
def phi_128 : Nat → List D → (List D → Prop) → Prop
  | 117, [c, n], K => ∀ (m : Int), (0 ≤ m ∧ m ≤ 16777215 ∧ (0 < n.toI → m < n.toI) ∧ (n.toI ≤ 0 → m = 0)) → K [.int m]
  | 133, [c], K => ∀ (m : Int), K [.int m]
  | 189, [c, l], K => ∀ (m : Int), (oneOf l m) → K [.int m]
  | 195, [c], K => ∀ (g : D), K [g]
  | _, _, _ => False
theorem pc_128 (c : D) : PC Try.prog 128 [.cur c] [.st [(.int .i64), (.int .i64)]] fun o => ∃ (g : D), o = [g] := by
  refine PC.of_sigK mix sig_128 ⟨trivial, trivial⟩ rfl fun hok ci ch hci hcn hch => ?_
  apply sayR_den (φ := (phi_128))
  simp [tree_128, T.sayR, inK_i64_iff, RS.oks, RS.ok, CK.okD, X.den, O1.den, O2.den, O3.den, callD, XArg.ev, XArg.dat, Callee'.num, backs, DArg.back, Conds.den, cloArgs, phi_128]
  (repeat' (first | (with_reducible apply And.intro) | intro _)) <;> first | (first | ((with_reducible refine ⟨?_⟩); simp [tree_128, T.sayR, inK_i64_iff, RS.oks, RS.ok, CK.okD, X.den, O1.den, O2.den, O3.den, callD, XArg.ev, XArg.dat, Callee'.num, backs, DArg.back, Conds.den, cloArgs]; intro K hK; (try simp only [phi_128] at hK); intros; first | contradiction | ((with_reducible refine pd_117 _ _ _ ?ho); (case ho => exact hK)) | ((with_reducible refine pd_133 _ _ ?ho); (case ho => exact hK)) | ((with_reducible refine pd_189 _ _ ?_ _ ?ho); (case ho => exact hK); all_goals (exact (by first | (with_reducible assumption) | omega | assumption | (simp; done) | (simp; omega) | (simp [*]; done) | exact smallE_of (n := 1048576) (by omega) (by omega) | (simp [*] at *; omega) | grind [szS]))) | ((with_reducible refine pd_195 _ _ ?ho); (case ho => exact hK)) | (exact pd_117 _ _ _ hK) | (exact pd_133 _ _ hK) | (exact pd_189 _ _ (by first | (with_reducible assumption) | omega | assumption | (simp; done) | (simp; omega) | (simp [*]; done) | exact smallE_of (n := 1048576) (by omega) (by omega) | (simp [*] at *; omega) | grind [szS]) _ hK) | (exact pd_195 _ _ hK)) | ((with_reducible show CallIn _ _ _ _ _); first | (refine .inr ⟨_, rfl, fun K hK => hK⟩) | (refine .inr ⟨_, rfl, fun K hK => hK true⟩) | (refine .inr ⟨_, rfl, fun K hK => hK 0 (by simp)⟩))) | exact ⟨_, rfl⟩ | (first | (with_reducible assumption) | (with_reducible exact trivial) | (first | ((with_reducible refine ⟨?_⟩); simp [tree_128, T.sayR, inK_i64_iff, RS.oks, RS.ok, CK.okD, X.den, O1.den, O2.den, O3.den, callD, XArg.ev, XArg.dat, Callee'.num, backs, DArg.back, Conds.den, cloArgs]; intro K hK; (try simp only [phi_128] at hK); intros; first | contradiction | ((with_reducible refine pd_117 _ _ _ ?ho); (case ho => exact hK)) | ((with_reducible refine pd_133 _ _ ?ho); (case ho => exact hK)) | ((with_reducible refine pd_189 _ _ ?_ _ ?ho); (case ho => exact hK); all_goals (exact (by first | (with_reducible assumption) | omega | assumption | (simp; done) | (simp; omega) | (simp [*]; done) | exact smallE_of (n := 1048576) (by omega) (by omega) | (simp [*] at *; omega) | grind [szS]))) | ((with_reducible refine pd_195 _ _ ?ho); (case ho => exact hK)) | (exact pd_117 _ _ _ hK) | (exact pd_133 _ _ hK) | (exact pd_189 _ _ (by first | (with_reducible assumption) | omega | assumption | (simp; done) | (simp; omega) | (simp [*]; done) | exact smallE_of (n := 1048576) (by omega) (by omega) | (simp [*] at *; omega) | grind [szS]) _ hK) | (exact pd_195 _ _ hK)) | ((with_reducible show CallIn _ _ _ _ _); first | (refine .inr ⟨_, rfl, fun K hK => hK⟩) | (refine .inr ⟨_, rfl, fun K hK => hK true⟩) | (refine .inr ⟨_, rfl, fun K hK => hK 0 (by simp)⟩))) | omega | (simp only [IntKind.wrap_i64, maxL] at *; omega) | assumption | rfl | contradiction | grind) | skip
theorem pd_128 (c : D) (Q : List D → Prop) (ho : ∀ (g : D), Q [g]) : PC Try.prog 128 [.cur c] [.st [(.int .i64), (.int .i64)]] Q := (pc_128 c).mono (by rintro _ ⟨g, rfl⟩; exact ho g)
/- spec.l6Draw -/
def phi_149 : Nat → List D → (List D → Prop) → Prop
  | 115, [c, n], K => ∀ (b : Bool), K [.bool b]
  | 117, [c, n], K => ∀ (m : Int), (0 ≤ m ∧ m ≤ 16777215 ∧ (0 < n.toI → m < n.toI) ∧ (n.toI ≤ 0 → m = 0)) → K [.int m]
  | 189, [c, l], K => ∀ (m : Int), (oneOf l m) → K [.int m]
  | 199, [c, s], K => ∀ (m : Int), K [.int m]
  | _, _, _ => False
theorem pc_149 (c s : D) : PC Try.prog 149 [.cur c, .st [(.sl [(.int .i64), (.int .i64), (.int .i64), (.int .i64), (.int .i64), (.int .i64), (.int .i64), (.int .i64), (.int .i64), (.int .i64), (.int .i64), .bool, .bool]), (.sl [(.int .i64), (.int .i64), .bool]), (.int .i64), (.int .i64)] s] [.st [(.int .i64), (.int .i64), (.int .i64), (.int .i64), (.int .i64), (.int .i64), .bool]] fun o => ∃ (e : D), o = [e] := by
  refine PC.of_sigK mix sig_149 ⟨trivial, rfl, trivial⟩ rfl fun hok ci ch hci hcn hch => ?_
  have e_s : D.lst [s.fld 0, s.fld 1, s.fld 2, s.fld 3] = s := by simpa [List.range, List.range.loop] using okL_eta (hok _ (.head _))
  have k_s : okL [(.sl [(.int .i64), (.int .i64), (.int .i64), (.int .i64), (.int .i64), (.int .i64), (.int .i64), (.int .i64), (.int .i64), (.int .i64), (.int .i64), .bool, .bool]), (.sl [(.int .i64), (.int .i64), .bool]), (.int .i64), (.int .i64)] s := (hok _ (.head _))
  have e_s_0 : D.lst (s.fld 0).toL = s.fld 0 := sl_eta (okL_at k_s (i := 0) rfl)
  have l_s_0 := sl_len (okL_at k_s (i := 0) rfl)
  have k_s_0 := sl_all (okL_at k_s (i := 0) rfl)
  have E_s_0 : ∀ i, i < (s.fld 0).toL.length → D.lst [((s.fld 0).elem i).fld 0, ((s.fld 0).elem i).fld 1, ((s.fld 0).elem i).fld 2, ((s.fld 0).elem i).fld 3, ((s.fld 0).elem i).fld 4, ((s.fld 0).elem i).fld 5, ((s.fld 0).elem i).fld 6, ((s.fld 0).elem i).fld 7, ((s.fld 0).elem i).fld 8, ((s.fld 0).elem i).fld 9, ((s.fld 0).elem i).fld 10, ((s.fld 0).elem i).fld 11, ((s.fld 0).elem i).fld 12] = (s.fld 0).elem i := fun i hi => by simpa [List.range, List.range.loop] using okL_eta (k_s_0 _ (elem_mem hi))
  have e_s_1 : D.lst (s.fld 1).toL = s.fld 1 := sl_eta (okL_at k_s (i := 1) rfl)
  have l_s_1 := sl_len (okL_at k_s (i := 1) rfl)
  have k_s_1 := sl_all (okL_at k_s (i := 1) rfl)
  have E_s_1 : ∀ i, i < (s.fld 1).toL.length → D.lst [((s.fld 1).elem i).fld 0, ((s.fld 1).elem i).fld 1, ((s.fld 1).elem i).fld 2] = (s.fld 1).elem i := fun i hi => by simpa [List.range, List.range.loop] using okL_eta (k_s_1 _ (elem_mem hi))
  apply sayR_den (φ := (phi_149))
  simp [e_s_0, E_s_0, e_s_1, E_s_1, e_s, tree_149, T.sayR, inK_i64_iff, RS.oks, RS.ok, CK.okD, X.den, O1.den, O2.den, O3.den, callD, XArg.ev, XArg.dat, Callee'.num, backs, DArg.back, Conds.den, cloArgs, phi_149]
  (repeat' (first | (with_reducible apply And.intro) | intro _)) <;> first | (first | (with_reducible assumption) | (with_reducible exact trivial) | (first | ((with_reducible refine ⟨?_⟩); simp [e_s_0, E_s_0, e_s_1, E_s_1, e_s, tree_149, T.sayR, inK_i64_iff, RS.oks, RS.ok, CK.okD, X.den, O1.den, O2.den, O3.den, callD, XArg.ev, XArg.dat, Callee'.num, backs, DArg.back, Conds.den, cloArgs]; intro K hK; (try simp only [phi_149] at hK); intros; first | contradiction | ((with_reducible refine pd_115 _ _ _ ?ho); (case ho => exact hK)) | ((with_reducible refine pd_117 _ _ _ ?ho); (case ho => exact hK)) | ((with_reducible refine pd_189 _ _ ?_ _ ?ho); (case ho => exact hK); all_goals (exact (by first | (with_reducible assumption) | omega | assumption | (simp; done) | (simp; omega) | (simp [*]; done) | exact smallE_of (n := 1048576) (by omega) (by omega) | (simp [*] at *; omega) | grind [szS]))) | ((with_reducible refine pd_199 _ _ _ ?ho); (case ho => exact hK)) | (exact pd_115 _ _ _ hK) | (exact pd_117 _ _ _ hK) | (exact pd_189 _ _ (by first | (with_reducible assumption) | omega | assumption | (simp; done) | (simp; omega) | (simp [*]; done) | exact smallE_of (n := 1048576) (by omega) (by omega) | (simp [*] at *; omega) | grind [szS]) _ hK) | (exact pd_199 _ _ _ hK)) | ((with_reducible show CallIn _ _ _ _ _); first | (refine .inr ⟨_, rfl, fun K hK => hK⟩) | (refine .inr ⟨_, rfl, fun K hK => hK true⟩) | (refine .inr ⟨_, rfl, fun K hK => hK 0 (by simp)⟩))) | omega | (simp only [IntKind.wrap_i64, maxL] at *; omega) | assumption | rfl | contradiction | grind) | exact ⟨_, rfl⟩ | skip
theorem pd_149 (c s : D) (Q : List D → Prop) (ho : ∀ (e : D), Q [e]) : PC Try.prog 149 [.cur c, .st [(.sl [(.int .i64), (.int .i64), (.int .i64), (.int .i64), (.int .i64), (.int .i64), (.int .i64), (.int .i64), (.int .i64), (.int .i64), (.int .i64), .bool, .bool]), (.sl [(.int .i64), (.int .i64), .bool]), (.int .i64), (.int .i64)] s] [.st [(.int .i64), (.int .i64), (.int .i64), (.int .i64), (.int .i64), (.int .i64), .bool]] Q := (pc_149 c s).mono (by rintro _ ⟨e, rfl⟩; exact ho e)
/- spec.l6Any -/
def phi_148 : Nat → List D → (List D → Prop) → Prop
  | 117, [c, n], K => ∀ (m : Int), (0 ≤ m ∧ m ≤ 16777215 ∧ (0 < n.toI → m < n.toI) ∧ (n.toI ≤ 0 → m = 0)) → K [.int m]
  | 133, [c], K => ∀ (m : Int), K [.int m]
  | 149, [c, s], K => ∀ (e : D), K [e]
  | 189, [c, l], K => ∀ (m : Int), (oneOf l m) → K [.int m]
  | _, _, _ => False
theorem pc_148 (c s : D) : PC Try.prog 148 [.cur c, .st [(.sl [(.int .i64), (.int .i64), (.int .i64), (.int .i64), (.int .i64), (.int .i64), (.int .i64), (.int .i64), (.int .i64), (.int .i64), (.int .i64), .bool, .bool]), (.sl [(.int .i64), (.int .i64), .bool]), (.int .i64), (.int .i64)] s] [.st [(.int .i64), (.int .i64), (.int .i64), (.int .i64), (.int .i64), (.int .i64), .bool]] fun o => ∃ (e : D), o = [e] := by
  refine PC.of_sigK mix sig_148 ⟨trivial, rfl, trivial⟩ rfl fun hok ci ch hci hcn hch => ?_
  have e_s : D.lst [s.fld 0, s.fld 1, s.fld 2, s.fld 3] = s := by simpa [List.range, List.range.loop] using okL_eta (hok _ (.head _))
  have k_s : okL [(.sl [(.int .i64), (.int .i64), (.int .i64), (.int .i64), (.int .i64), (.int .i64), (.int .i64), (.int .i64), (.int .i64), (.int .i64), (.int .i64), .bool, .bool]), (.sl [(.int .i64), (.int .i64), .bool]), (.int .i64), (.int .i64)] s := (hok _ (.head _))
  have e_s_0 : D.lst (s.fld 0).toL = s.fld 0 := sl_eta (okL_at k_s (i := 0) rfl)
  have l_s_0 := sl_len (okL_at k_s (i := 0) rfl)
  have k_s_0 := sl_all (okL_at k_s (i := 0) rfl)
  have E_s_0 : ∀ i, i < (s.fld 0).toL.length → D.lst [((s.fld 0).elem i).fld 0, ((s.fld 0).elem i).fld 1, ((s.fld 0).elem i).fld 2, ((s.fld 0).elem i).fld 3, ((s.fld 0).elem i).fld 4, ((s.fld 0).elem i).fld 5, ((s.fld 0).elem i).fld 6, ((s.fld 0).elem i).fld 7, ((s.fld 0).elem i).fld 8, ((s.fld 0).elem i).fld 9, ((s.fld 0).elem i).fld 10, ((s.fld 0).elem i).fld 11, ((s.fld 0).elem i).fld 12] = (s.fld 0).elem i := fun i hi => by simpa [List.range, List.range.loop] using okL_eta (k_s_0 _ (elem_mem hi))
  have e_s_1 : D.lst (s.fld 1).toL = s.fld 1 := sl_eta (okL_at k_s (i := 1) rfl)
  have l_s_1 := sl_len (okL_at k_s (i := 1) rfl)
  have k_s_1 := sl_all (okL_at k_s (i := 1) rfl)
  have E_s_1 : ∀ i, i < (s.fld 1).toL.length → D.lst [((s.fld 1).elem i).fld 0, ((s.fld 1).elem i).fld 1, ((s.fld 1).elem i).fld 2] = (s.fld 1).elem i := fun i hi => by simpa [List.range, List.range.loop] using okL_eta (k_s_1 _ (elem_mem hi))
  apply sayR_den (φ := (phi_148))
  simp [e_s_0, E_s_0, e_s_1, E_s_1, e_s, tree_148, T.sayR, inK_i64_iff, RS.oks, RS.ok, CK.okD, X.den, O1.den, O2.den, O3.den, callD, XArg.ev, XArg.dat, Callee'.num, backs, DArg.back, Conds.den, cloArgs, phi_148]
  (repeat' (first | (with_reducible apply And.intro) | intro _)) <;> first | (first | (with_reducible assumption) | (with_reducible exact trivial) | (first | ((with_reducible refine ⟨?_⟩); simp [e_s_0, E_s_0, e_s_1, E_s_1, e_s, tree_148, T.sayR, inK_i64_iff, RS.oks, RS.ok, CK.okD, X.den, O1.den, O2.den, O3.den, callD, XArg.ev, XArg.dat, Callee'.num, backs, DArg.back, Conds.den, cloArgs]; intro K hK; (try simp only [phi_148] at hK); intros; first | contradiction | ((with_reducible refine pd_117 _ _ _ ?ho); (case ho => exact hK)) | ((with_reducible refine pd_133 _ _ ?ho); (case ho => exact hK)) | ((with_reducible refine pd_149 _ _ _ ?ho); (case ho => exact hK)) | ((with_reducible refine pd_189 _ _ ?_ _ ?ho); (case ho => exact hK); all_goals (exact (by first | (with_reducible assumption) | omega | assumption | (simp; done) | (simp; omega) | (simp [*]; done) | exact smallE_of (n := 1048576) (by omega) (by omega) | (simp [*] at *; omega) | grind [szS]))) | (exact pd_117 _ _ _ hK) | (exact pd_133 _ _ hK) | (exact pd_149 _ _ _ hK) | (exact pd_189 _ _ (by first | (with_reducible assumption) | omega | assumption | (simp; done) | (simp; omega) | (simp [*]; done) | exact smallE_of (n := 1048576) (by omega) (by omega) | (simp [*] at *; omega) | grind [szS]) _ hK)) | ((with_reducible show CallIn _ _ _ _ _); first | (refine .inr ⟨_, rfl, fun K hK => hK⟩) | (refine .inr ⟨_, rfl, fun K hK => hK true⟩) | (refine .inr ⟨_, rfl, fun K hK => hK 0 (by simp)⟩))) | omega | (simp only [IntKind.wrap_i64, maxL] at *; omega) | assumption | rfl | contradiction | grind) | exact ⟨_, rfl⟩ | skip
theorem pd_148 (c s : D) (Q : List D → Prop) (ho : ∀ (e : D), Q [e]) : PC Try.prog 148 [.cur c, .st [(.sl [(.int .i64), (.int .i64), (.int .i64), (.int .i64), (.int .i64), (.int .i64), (.int .i64), (.int .i64), (.int .i64), (.int .i64), (.int .i64), .bool, .bool]), (.sl [(.int .i64), (.int .i64), .bool]), (.int .i64), (.int .i64)] s] [.st [(.int .i64), (.int .i64), (.int .i64), (.int .i64), (.int .i64), (.int .i64), .bool]] Q := (pc_148 c s).mono (by rintro _ ⟨e, rfl⟩; exact ho e)
/- spec.l1In -/
theorem pc_126 (a b c : D) : PC Try.prog 126 [.sc (.int .i64) a, .sc (.int .i64) b, .sc (.int .i64) c] [.sc .bool] fun o => o = [.bool (inR a.toI b.toI c.toI)] := by
  refine PC.of_sig mix sig_126 ⟨rfl, rfl, rfl, trivial⟩ rfl fun hok => ?_
  have e_a := int_eta (hok _ (.head _))
  have b_a := int_range (hok _ (.head _))
  have e_b := int_eta (hok _ (.tail _ (.head _)))
  have b_b := int_range (hok _ (.tail _ (.head _)))
  have e_c := int_eta (hok _ (.tail _ (.tail _ (.head _))))
  have b_c := int_range (hok _ (.tail _ (.tail _ (.head _))))
  apply says_den (φ := fun _ _ => [])
  simp [e_a, e_b, e_c, tree_126, T.says, X.den, O1.den, O2.den, O3.den, callD, XArg.ev, XArg.dat, Callee'.num, backs, DArg.back, Conds.den, cloArgs, inR]
theorem pd_126 (a b c : D) (Q : List D → Prop) (ho : Q [.bool (inR a.toI b.toI c.toI)]) : PC Try.prog 126 [.sc (.int .i64) a, .sc (.int .i64) b, .sc (.int .i64) c] [.sc .bool] Q := (pc_126 a b c).mono fun _ h => h ▸ ho
/- spec.ActFits -/
def phi_73 : Nat → List D → List D
  | 126, [a, b, c] => [.bool (inR a.toI b.toI c.toI)]
  | _, _ => []
theorem pc_73 (a n : D) : PC Try.prog 73 [.st [(.int .i64), (.int .i64), (.int .i64), (.int .i64), (.int .i64), .bool, (.sl [(.int .i64), (.int .i64), (.int .i64), (.int .i64), (.int .i64), (.int .i64), .bool])] a, .sc (.int .i64) n] [.sc .bool] fun o => o = [.bool (actFits a n.toI)] := by
  refine PC.of_sig mix sig_73 ⟨rfl, rfl, trivial⟩ rfl fun hok => ?_
  have e_a : D.lst [a.fld 0, a.fld 1, a.fld 2, a.fld 3, a.fld 4, a.fld 5, a.fld 6] = a := by simpa [List.range, List.range.loop] using okL_eta (hok _ (.head _))
  have k_a : okL [(.int .i64), (.int .i64), (.int .i64), (.int .i64), (.int .i64), .bool, (.sl [(.int .i64), (.int .i64), (.int .i64), (.int .i64), (.int .i64), (.int .i64), .bool])] a := (hok _ (.head _))
  have e_a_6 : D.lst (a.fld 6).toL = a.fld 6 := sl_eta (okL_at k_a (i := 6) rfl)
  have l_a_6 := sl_len (okL_at k_a (i := 6) rfl)
  have k_a_6 := sl_all (okL_at k_a (i := 6) rfl)
  have E_a_6 : ∀ i, i < (a.fld 6).toL.length → D.lst [((a.fld 6).elem i).fld 0, ((a.fld 6).elem i).fld 1, ((a.fld 6).elem i).fld 2, ((a.fld 6).elem i).fld 3, ((a.fld 6).elem i).fld 4, ((a.fld 6).elem i).fld 5, ((a.fld 6).elem i).fld 6] = (a.fld 6).elem i := fun i hi => by simpa [List.range, List.range.loop] using okL_eta (k_a_6 _ (elem_mem hi))
  have e_n := int_eta (hok _ (.tail _ (.head _)))
  have b_n := int_range (hok _ (.tail _ (.head _)))
  apply says_den (φ := (phi_73))
  simp [e_a_6, E_a_6, e_a, e_n, tree_73, T.says, X.den, O1.den, O2.den, O3.den, callD, XArg.ev, XArg.dat, Callee'.num, backs, DArg.back, Conds.den, cloArgs, phi_73, pd_126]
  (repeat' (first | (with_reducible apply And.intro) | intro _)) <;> grind [actFits]
theorem pd_73 (a n : D) (Q : List D → Prop) (ho : Q [.bool (actFits a n.toI)]) : PC Try.prog 73 [.st [(.int .i64), (.int .i64), (.int .i64), (.int .i64), (.int .i64), .bool, (.sl [(.int .i64), (.int .i64), (.int .i64), (.int .i64), (.int .i64), (.int .i64), .bool])] a, .sc (.int .i64) n] [.sc .bool] Q := (pc_73 a n).mono fun _ h => h ▸ ho
/- spec.l9Draw -/
def phi_196 : Nat → List D → (List D → Prop) → Prop
  | 73, [a, n], K => K [.bool (actFits a n.toI)]
  | 115, [c, n], K => ∀ (b : Bool), K [.bool b]
  | 117, [c, n], K => ∀ (m : Int), (0 ≤ m ∧ m ≤ 16777215 ∧ (0 < n.toI → m < n.toI) ∧ (n.toI ≤ 0 → m = 0)) → K [.int m]
  | 149, [c, s], K => ∀ (e : D), K [e]
  | 189, [c, l], K => ∀ (m : Int), (oneOf l m) → K [.int m]
  | 199, [c, s], K => ∀ (m : Int), K [.int m]
  | _, _, _ => False
theorem pc_196 (c s k : D) : PC Try.prog 196 [.cur c, .st [(.sl [(.int .i64), (.int .i64), (.int .i64), (.int .i64), (.int .i64), (.int .i64), (.int .i64), (.int .i64), (.int .i64), (.int .i64), (.int .i64), .bool, .bool]), (.sl [(.int .i64), (.int .i64), .bool]), (.int .i64), (.int .i64)] s, .sc (.int .i64) k] [.st [(.int .i64), (.int .i64), (.int .i64), (.int .i64), (.int .i64), .bool, (.sl [(.int .i64), (.int .i64), (.int .i64), (.int .i64), (.int .i64), (.int .i64), .bool])]] fun o => ∃ (a : D), ((((a.fld 6).toL.length : Int) ≤ 2)) ∧ o = [a] := by
  refine PC.of_sigK mix sig_196 ⟨trivial, rfl, rfl, trivial⟩ rfl fun hok ci ch hci hcn hch => ?_
  have e_s : D.lst [s.fld 0, s.fld 1, s.fld 2, s.fld 3] = s := by simpa [List.range, List.range.loop] using okL_eta (hok _ (.head _))
  have k_s : okL [(.sl [(.int .i64), (.int .i64), (.int .i64), (.int .i64), (.int .i64), (.int .i64), (.int .i64), (.int .i64), (.int .i64), (.int .i64), (.int .i64), .bool, .bool]), (.sl [(.int .i64), (.int .i64), .bool]), (.int .i64), (.int .i64)] s := (hok _ (.head _))
  have e_s_0 : D.lst (s.fld 0).toL = s.fld 0 := sl_eta (okL_at k_s (i := 0) rfl)
  have l_s_0 := sl_len (okL_at k_s (i := 0) rfl)
  have k_s_0 := sl_all (okL_at k_s (i := 0) rfl)
  have E_s_0 : ∀ i, i < (s.fld 0).toL.length → D.lst [((s.fld 0).elem i).fld 0, ((s.fld 0).elem i).fld 1, ((s.fld 0).elem i).fld 2, ((s.fld 0).elem i).fld 3, ((s.fld 0).elem i).fld 4, ((s.fld 0).elem i).fld 5, ((s.fld 0).elem i).fld 6, ((s.fld 0).elem i).fld 7, ((s.fld 0).elem i).fld 8, ((s.fld 0).elem i).fld 9, ((s.fld 0).elem i).fld 10, ((s.fld 0).elem i).fld 11, ((s.fld 0).elem i).fld 12] = (s.fld 0).elem i := fun i hi => by simpa [List.range, List.range.loop] using okL_eta (k_s_0 _ (elem_mem hi))
  have e_s_1 : D.lst (s.fld 1).toL = s.fld 1 := sl_eta (okL_at k_s (i := 1) rfl)
  have l_s_1 := sl_len (okL_at k_s (i := 1) rfl)
  have k_s_1 := sl_all (okL_at k_s (i := 1) rfl)
  have E_s_1 : ∀ i, i < (s.fld 1).toL.length → D.lst [((s.fld 1).elem i).fld 0, ((s.fld 1).elem i).fld 1, ((s.fld 1).elem i).fld 2] = (s.fld 1).elem i := fun i hi => by simpa [List.range, List.range.loop] using okL_eta (k_s_1 _ (elem_mem hi))
  have e_k := int_eta (hok _ (.tail _ (.head _)))
  have b_k := int_range (hok _ (.tail _ (.head _)))
  apply sayR_den (φ := (phi_196))
  simp [e_s_0, E_s_0, e_s_1, E_s_1, e_s, e_k, tree_196, T.sayR, inK_i64_iff, RS.oks, RS.ok, CK.okD, X.den, O1.den, O2.den, O3.den, callD, XArg.ev, XArg.dat, Callee'.num, backs, DArg.back, Conds.den, cloArgs, phi_196]
  refine ⟨by (first | ((with_reducible refine ⟨?_⟩); simp [e_s_0, E_s_0, e_s_1, E_s_1, e_s, e_k, tree_196, T.sayR, inK_i64_iff, RS.oks, RS.ok, CK.okD, X.den, O1.den, O2.den, O3.den, callD, XArg.ev, XArg.dat, Callee'.num, backs, DArg.back, Conds.den, cloArgs]; intro K hK; (try simp only [phi_196] at hK); intros; first | contradiction | ((with_reducible refine pd_73 _ _ _ ?ho); (case ho => exact hK)) | ((with_reducible refine pd_115 _ _ _ ?ho); (case ho => exact hK)) | ((with_reducible refine pd_117 _ _ _ ?ho); (case ho => exact hK)) | ((with_reducible refine pd_149 _ _ _ ?ho); (case ho => exact hK)) | ((with_reducible refine pd_189 _ _ ?_ _ ?ho); (case ho => exact hK); all_goals (exact (by first | (with_reducible assumption) | omega | assumption | (simp; done) | (simp; omega) | (simp [*]; done) | exact smallE_of (n := 1048576) (by omega) (by omega) | (simp [*] at *; omega) | grind [szS]))) | ((with_reducible refine pd_199 _ _ _ ?ho); (case ho => exact hK)) | (exact pd_73 _ _ _ hK) | (exact pd_115 _ _ _ hK) | (exact pd_117 _ _ _ hK) | (exact pd_149 _ _ _ hK) | (exact pd_189 _ _ (by first | (with_reducible assumption) | omega | assumption | (simp; done) | (simp; omega) | (simp [*]; done) | exact smallE_of (n := 1048576) (by omega) (by omega) | (simp [*] at *; omega) | grind [szS]) _ hK) | (exact pd_199 _ _ _ hK)) | ((with_reducible show CallIn _ _ _ _ _); first | (refine .inr ⟨_, rfl, fun K hK => hK⟩) | (refine .inr ⟨_, rfl, fun K hK => hK true⟩) | (refine .inr ⟨_, rfl, fun K hK => hK 0 (by simp)⟩))), ?_⟩
  intro m0
  intros
  obtain ⟨I, hI⟩ : ∃ I : List D → Prop, ∀ vs, I vs ↔ ∃ (i : Int) (q : Int), vs = [.int i, .int q] ∧ 0 ≤ i ∧ i ≤ 6 := ⟨_, fun _ => Iff.rfl⟩
  obtain ⟨μ, hμ⟩ : ∃ μ : List D → Nat, ∀ vs, μ vs = (6 - (vs.getD 0 default).toI).toNat := ⟨_, fun _ => rfl⟩
  refine den_loop I μ ((hI _).2 ⟨0, m0, by simp [X.den], by omega, by omega⟩) ?_
  intro vs hvl hv
  obtain ⟨i, q, rfl, hinv⟩ := (hI _).1 hv
  clear hv
  apply sayR_den (φ := (phi_196))
  have hz : i < 6 → IntKind.i64.wrap (i + 1) = i + 1 := by intro h; (first | omega | (simp only [IntKind.wrap_i64, maxL] at *; omega) | (simp [IntKind.wrap_i64, maxL] at *; omega))
  simp (config := { maxSteps := 2000000 }) [e_s_0, E_s_0, e_s_1, E_s_1, e_s, e_k, tree_196, T.sayR, inK_i64_iff, RS.oks, RS.ok, CK.okD, X.den, O1.den, O2.den, O3.den, callD, XArg.ev, XArg.dat, Callee'.num, backs, DArg.back, Conds.den, cloArgs, phi_196, hz]
  (repeat' (first | (with_reducible apply And.intro) | intro _)) <;> first | (first | ((with_reducible refine ⟨?_⟩); simp [e_s_0, E_s_0, e_s_1, E_s_1, e_s, e_k, tree_196, T.sayR, inK_i64_iff, RS.oks, RS.ok, CK.okD, X.den, O1.den, O2.den, O3.den, callD, XArg.ev, XArg.dat, Callee'.num, backs, DArg.back, Conds.den, cloArgs]; intro K hK; (try simp only [phi_196] at hK); intros; first | contradiction | ((with_reducible refine pd_73 _ _ _ ?ho); (case ho => exact hK)) | ((with_reducible refine pd_115 _ _ _ ?ho); (case ho => exact hK)) | ((with_reducible refine pd_117 _ _ _ ?ho); (case ho => exact hK)) | ((with_reducible refine pd_149 _ _ _ ?ho); (case ho => exact hK)) | ((with_reducible refine pd_189 _ _ ?_ _ ?ho); (case ho => exact hK); all_goals (exact (by first | (with_reducible assumption) | omega | assumption | (simp; done) | (simp; omega) | (simp [*]; done) | exact smallE_of (n := 1048576) (by omega) (by omega) | (simp [*] at *; omega) | grind [szS]))) | ((with_reducible refine pd_199 _ _ _ ?ho); (case ho => exact hK)) | (exact pd_73 _ _ _ hK) | (exact pd_115 _ _ _ hK) | (exact pd_117 _ _ _ hK) | (exact pd_149 _ _ _ hK) | (exact pd_189 _ _ (by first | (with_reducible assumption) | omega | assumption | (simp; done) | (simp; omega) | (simp [*]; done) | exact smallE_of (n := 1048576) (by omega) (by omega) | (simp [*] at *; omega) | grind [szS]) _ hK) | (exact pd_199 _ _ _ hK)) | ((with_reducible show CallIn _ _ _ _ _); first | (refine .inr ⟨_, rfl, fun K hK => hK⟩) | (refine .inr ⟨_, rfl, fun K hK => hK true⟩) | (refine .inr ⟨_, rfl, fun K hK => hK 0 (by simp)⟩))) | exact ⟨_, by simp, rfl⟩ | skip
  · rw [hz (by omega)]
    exact (hI _).2 ⟨i + 1, _, rfl, by omega, by omega⟩
  · rw [hz (by omega), hμ, hμ]
    simp
    omega
  obtain ⟨I, hI⟩ : ∃ I : List D → Prop, ∀ vs, I vs ↔ ∃ (j : Int) (ps : List D), vs = [.int j, .lst ps] ∧ 0 ≤ j ∧ j ≤ 2 ∧ (ps.length : Int) ≤ 2 - j := ⟨_, fun _ => Iff.rfl⟩
  obtain ⟨μ, hμ⟩ : ∃ μ : List D → Nat, ∀ vs, μ vs = ((vs.getD 0 default).toI).toNat := ⟨_, fun _ => rfl⟩
  refine den_loop I μ ((hI _).2 ⟨_, [], by simp [X.den, O1.den, O2.den]; exact rfl, by (first | omega | (simp only [IntKind.wrap_i64, maxL] at *; omega) | (simp [IntKind.wrap_i64, maxL] at *; omega)), by (first | omega | (simp only [IntKind.wrap_i64, maxL] at *; omega) | (simp [IntKind.wrap_i64, maxL] at *; omega)), by simp; (first | omega | (simp only [IntKind.wrap_i64, maxL] at *; omega) | (simp [IntKind.wrap_i64, maxL] at *; omega))⟩) ?_
  intro vs hvl hv
  obtain ⟨j, ps, rfl, hinv⟩ := (hI _).1 hv
  clear hv
  apply sayR_den (φ := (phi_196))
  have hy : 0 < j → IntKind.i64.wrap (j - 1) = j - 1 := by intro h; (first | omega | (simp only [IntKind.wrap_i64, maxL] at *; omega) | (simp [IntKind.wrap_i64, maxL] at *; omega))
  simp (config := { maxSteps := 2000000 }) [e_s_0, E_s_0, e_s_1, E_s_1, e_s, e_k, tree_196, T.sayR, inK_i64_iff, RS.oks, RS.ok, CK.okD, X.den, O1.den, O2.den, O3.den, callD, XArg.ev, XArg.dat, Callee'.num, backs, DArg.back, Conds.den, cloArgs, phi_196, hy]
  (repeat' (first | (with_reducible apply And.intro) | intro _)) <;> first | (first | ((with_reducible refine ⟨?_⟩); simp [e_s_0, E_s_0, e_s_1, E_s_1, e_s, e_k, tree_196, T.sayR, inK_i64_iff, RS.oks, RS.ok, CK.okD, X.den, O1.den, O2.den, O3.den, callD, XArg.ev, XArg.dat, Callee'.num, backs, DArg.back, Conds.den, cloArgs]; intro K hK; (try simp only [phi_196] at hK); intros; first | contradiction | ((with_reducible refine pd_73 _ _ _ ?ho); (case ho => exact hK)) | ((with_reducible refine pd_115 _ _ _ ?ho); (case ho => exact hK)) | ((with_reducible refine pd_117 _ _ _ ?ho); (case ho => exact hK)) | ((with_reducible refine pd_149 _ _ _ ?ho); (case ho => exact hK)) | ((with_reducible refine pd_189 _ _ ?_ _ ?ho); (case ho => exact hK); all_goals (exact (by first | (with_reducible assumption) | omega | assumption | (simp; done) | (simp; omega) | (simp [*]; done) | exact smallE_of (n := 1048576) (by omega) (by omega) | (simp [*] at *; omega) | grind [szS]))) | ((with_reducible refine pd_199 _ _ _ ?ho); (case ho => exact hK)) | (exact pd_73 _ _ _ hK) | (exact pd_115 _ _ _ hK) | (exact pd_117 _ _ _ hK) | (exact pd_149 _ _ _ hK) | (exact pd_189 _ _ (by first | (with_reducible assumption) | omega | assumption | (simp; done) | (simp; omega) | (simp [*]; done) | exact smallE_of (n := 1048576) (by omega) (by omega) | (simp [*] at *; omega) | grind [szS]) _ hK) | (exact pd_199 _ _ _ hK)) | ((with_reducible show CallIn _ _ _ _ _); first | (refine .inr ⟨_, rfl, fun K hK => hK⟩) | (refine .inr ⟨_, rfl, fun K hK => hK true⟩) | (refine .inr ⟨_, rfl, fun K hK => hK 0 (by simp)⟩))) | exact ⟨_, by simp, rfl⟩ | omega | ((with_reducible refine (hI _).2 ?_); rw [hy (by omega)]; exact ⟨j - 1, _, rfl, by omega, by omega, by simp; omega⟩) | (rw [hy (by omega), hμ, hμ]; simp; omega) | (refine ⟨_, ?_, rfl⟩; simp; omega)
theorem pd_196 (c s k : D) (Q : List D → Prop) (ho : ∀ (a : D), ((((a.fld 6).toL.length : Int) ≤ 2)) → Q [a]) : PC Try.prog 196 [.cur c, .st [(.sl [(.int .i64), (.int .i64), (.int .i64), (.int .i64), (.int .i64), (.int .i64), (.int .i64), (.int .i64), (.int .i64), (.int .i64), (.int .i64), .bool, .bool]), (.sl [(.int .i64), (.int .i64), .bool]), (.int .i64), (.int .i64)] s, .sc (.int .i64) k] [.st [(.int .i64), (.int .i64), (.int .i64), (.int .i64), (.int .i64), .bool, (.sl [(.int .i64), (.int .i64), (.int .i64), (.int .i64), (.int .i64), (.int .i64), .bool])]] Q := (pc_196 c s k).mono (by rintro _ ⟨a, hc, rfl⟩; exact ho a hc)
/- spec.l9Any -/
def phi_132 : Nat → List D → (List D → Prop) → Prop
  | 117, [c, n], K => ∀ (m : Int), (0 ≤ m ∧ m ≤ 16777215 ∧ (0 < n.toI → m < n.toI) ∧ (n.toI ≤ 0 → m = 0)) → K [.int m]
  | 133, [c], K => ∀ (m : Int), K [.int m]
  | 148, [c, s], K => ∀ (e : D), K [e]
  | 149, [c, s], K => ∀ (e : D), K [e]
  | 189, [c, l], K => ∀ (m : Int), (oneOf l m) → K [.int m]
  | 196, [c, s, k], K => ∀ (a : D), ((((a.fld 6).toL.length : Int) ≤ 2)) → K [a]
  | _, _, _ => False
theorem pc_132 (c s : D) : PC Try.prog 132 [.cur c, .st [(.sl [(.int .i64), (.int .i64), (.int .i64), (.int .i64), (.int .i64), (.int .i64), (.int .i64), (.int .i64), (.int .i64), (.int .i64), (.int .i64), .bool, .bool]), (.sl [(.int .i64), (.int .i64), .bool]), (.int .i64), (.int .i64)] s] [.st [(.int .i64), (.int .i64), (.int .i64), (.int .i64), (.int .i64), .bool, (.sl [(.int .i64), (.int .i64), (.int .i64), (.int .i64), (.int .i64), (.int .i64), .bool])]] fun o => ∃ (a : D), ((((a.fld 6).toL.length : Int) ≤ 5)) ∧ o = [a] := by
  refine PC.of_sigK mix sig_132 ⟨trivial, rfl, trivial⟩ rfl fun hok ci ch hci hcn hch => ?_
  have e_s : D.lst [s.fld 0, s.fld 1, s.fld 2, s.fld 3] = s := by simpa [List.range, List.range.loop] using okL_eta (hok _ (.head _))
  have k_s : okL [(.sl [(.int .i64), (.int .i64), (.int .i64), (.int .i64), (.int .i64), (.int .i64), (.int .i64), (.int .i64), (.int .i64), (.int .i64), (.int .i64), .bool, .bool]), (.sl [(.int .i64), (.int .i64), .bool]), (.int .i64), (.int .i64)] s := (hok _ (.head _))
  have e_s_0 : D.lst (s.fld 0).toL = s.fld 0 := sl_eta (okL_at k_s (i := 0) rfl)
  have l_s_0 := sl_len (okL_at k_s (i := 0) rfl)
  have k_s_0 := sl_all (okL_at k_s (i := 0) rfl)
  have E_s_0 : ∀ i, i < (s.fld 0).toL.length → D.lst [((s.fld 0).elem i).fld 0, ((s.fld 0).elem i).fld 1, ((s.fld 0).elem i).fld 2, ((s.fld 0).elem i).fld 3, ((s.fld 0).elem i).fld 4, ((s.fld 0).elem i).fld 5, ((s.fld 0).elem i).fld 6, ((s.fld 0).elem i).fld 7, ((s.fld 0).elem i).fld 8, ((s.fld 0).elem i).fld 9, ((s.fld 0).elem i).fld 10, ((s.fld 0).elem i).fld 11, ((s.fld 0).elem i).fld 12] = (s.fld 0).elem i := fun i hi => by simpa [List.range, List.range.loop] using okL_eta (k_s_0 _ (elem_mem hi))
  have e_s_1 : D.lst (s.fld 1).toL = s.fld 1 := sl_eta (okL_at k_s (i := 1) rfl)
  have l_s_1 := sl_len (okL_at k_s (i := 1) rfl)
  have k_s_1 := sl_all (okL_at k_s (i := 1) rfl)
  have E_s_1 : ∀ i, i < (s.fld 1).toL.length → D.lst [((s.fld 1).elem i).fld 0, ((s.fld 1).elem i).fld 1, ((s.fld 1).elem i).fld 2] = (s.fld 1).elem i := fun i hi => by simpa [List.range, List.range.loop] using okL_eta (k_s_1 _ (elem_mem hi))
  apply sayR_den (φ := (phi_132))
  simp (config := { maxSteps := 2000000 }) [e_s_0, E_s_0, e_s_1, E_s_1, e_s, tree_132, T.sayR, inK_i64_iff, RS.oks, RS.ok, CK.okD, X.den, O1.den, O2.den, O3.den, callD, XArg.ev, XArg.dat, Callee'.num, backs, DArg.back, Conds.den, cloArgs, phi_132]
  (repeat' (first | (with_reducible apply And.intro) | intro _)) <;> first | (first | ((with_reducible refine ⟨?_⟩); simp [e_s_0, E_s_0, e_s_1, E_s_1, e_s, tree_132, T.sayR, inK_i64_iff, RS.oks, RS.ok, CK.okD, X.den, O1.den, O2.den, O3.den, callD, XArg.ev, XArg.dat, Callee'.num, backs, DArg.back, Conds.den, cloArgs]; intro K hK; (try simp only [phi_132] at hK); intros; first | contradiction | ((with_reducible refine pd_117 _ _ _ ?ho); (case ho => exact hK)) | ((with_reducible refine pd_133 _ _ ?ho); (case ho => exact hK)) | ((with_reducible refine pd_148 _ _ _ ?ho); (case ho => exact hK)) | ((with_reducible refine pd_149 _ _ _ ?ho); (case ho => exact hK)) | ((with_reducible refine pd_189 _ _ ?_ _ ?ho); (case ho => exact hK); all_goals (exact (by first | (with_reducible assumption) | omega | assumption | (simp; done) | (simp; omega) | (simp [*]; done) | exact smallE_of (n := 1048576) (by omega) (by omega) | (simp [*] at *; omega) | grind [szS]))) | ((with_reducible refine pd_196 _ _ _ _ ?ho); (case ho => exact hK)) | (exact pd_117 _ _ _ hK) | (exact pd_133 _ _ hK) | (exact pd_148 _ _ _ hK) | (exact pd_149 _ _ _ hK) | (exact pd_189 _ _ (by first | (with_reducible assumption) | omega | assumption | (simp; done) | (simp; omega) | (simp [*]; done) | exact smallE_of (n := 1048576) (by omega) (by omega) | (simp [*] at *; omega) | grind [szS]) _ hK) | (exact pd_196 _ _ _ _ hK)) | ((with_reducible show CallIn _ _ _ _ _); first | (refine .inr ⟨_, rfl, fun K hK => hK⟩) | (refine .inr ⟨_, rfl, fun K hK => hK true⟩) | (refine .inr ⟨_, rfl, fun K hK => hK 0 (by simp)⟩))) | omega | (refine ⟨_, ?_, rfl⟩; simp; omega) | skip
theorem pd_132 (c s : D) (Q : List D → Prop) (ho : ∀ (a : D), ((((a.fld 6).toL.length : Int) ≤ 5)) → Q [a]) : PC Try.prog 132 [.cur c, .st [(.sl [(.int .i64), (.int .i64), (.int .i64), (.int .i64), (.int .i64), (.int .i64), (.int .i64), (.int .i64), (.int .i64), (.int .i64), (.int .i64), .bool, .bool]), (.sl [(.int .i64), (.int .i64), .bool]), (.int .i64), (.int .i64)] s] [.st [(.int .i64), (.int .i64), (.int .i64), (.int .i64), (.int .i64), .bool, (.sl [(.int .i64), (.int .i64), (.int .i64), (.int .i64), (.int .i64), (.int .i64), .bool])]] Q := (pc_132 c s).mono (by rintro _ ⟨a, hc, rfl⟩; exact ho a hc)
/- spec.l10Draw -/
def phi_204 : Nat → List D → (List D → Prop) → Prop
  | 115, [c, n], K => ∀ (b : Bool), K [.bool b]
  | 117, [c, n], K => ∀ (m : Int), (0 ≤ m ∧ m ≤ 16777215 ∧ (0 < n.toI → m < n.toI) ∧ (n.toI ≤ 0 → m = 0)) → K [.int m]
  | 189, [c, l], K => ∀ (m : Int), (oneOf l m) → K [.int m]
  | 193, [c, s], K => ∀ (p : D), K [p]
  | 195, [c], K => ∀ (g : D), K [g]
  | 196, [c, s, k], K => ∀ (a : D), ((((a.fld 6).toL.length : Int) ≤ 2)) → K [a]
  | 199, [c, s], K => ∀ (m : Int), K [.int m]
  | _, _, _ => False
theorem pc_204 (c s i : D) : PC Try.prog 204 [.cur c, .st [(.sl [(.int .i64), (.int .i64), (.int .i64), (.int .i64), (.int .i64), (.int .i64), (.int .i64), (.int .i64), (.int .i64), (.int .i64), (.int .i64), .bool, .bool]), (.sl [(.int .i64), (.int .i64), .bool]), (.int .i64), (.int .i64)] s, .sc (.int .i64) i] [.st [(.int .i64), (.int .i64), (.int .i64), (.int .i64), (.int .i64), (.int .i64), (.int .i64), (.int .i64), (.int .i64), (.int .i64), (.int .i64), (.int .i64), (.int .i64), (.int .i64), (.int .i64), (.int .i64), (.int .i64), (.int .i64), .bool, (.sl [(.int .i64), (.int .i64), (.int .i64), (.int .i64), (.int .i64), (.int .i64), .bool]), (.int .i64), (.int .i64)]] fun o => ∃ (e : D), (effB e) ∧ o = [e] := by
  refine PC.of_sigK mix sig_204 ⟨trivial, rfl, rfl, trivial⟩ rfl fun hok ci ch hci hcn hch => ?_
  have e_s : D.lst [s.fld 0, s.fld 1, s.fld 2, s.fld 3] = s := by simpa [List.range, List.range.loop] using okL_eta (hok _ (.head _))
  have k_s : okL [(.sl [(.int .i64), (.int .i64), (.int .i64), (.int .i64), (.int .i64), (.int .i64), (.int .i64), (.int .i64), (.int .i64), (.int .i64), (.int .i64), .bool, .bool]), (.sl [(.int .i64), (.int .i64), .bool]), (.int .i64), (.int .i64)] s := (hok _ (.head _))
  have e_s_0 : D.lst (s.fld 0).toL = s.fld 0 := sl_eta (okL_at k_s (i := 0) rfl)
  have l_s_0 := sl_len (okL_at k_s (i := 0) rfl)
  have k_s_0 := sl_all (okL_at k_s (i := 0) rfl)
  have E_s_0 : ∀ i, i < (s.fld 0).toL.length → D.lst [((s.fld 0).elem i).fld 0, ((s.fld 0).elem i).fld 1, ((s.fld 0).elem i).fld 2, ((s.fld 0).elem i).fld 3, ((s.fld 0).elem i).fld 4, ((s.fld 0).elem i).fld 5, ((s.fld 0).elem i).fld 6, ((s.fld 0).elem i).fld 7, ((s.fld 0).elem i).fld 8, ((s.fld 0).elem i).fld 9, ((s.fld 0).elem i).fld 10, ((s.fld 0).elem i).fld 11, ((s.fld 0).elem i).fld 12] = (s.fld 0).elem i := fun i hi => by simpa [List.range, List.range.loop] using okL_eta (k_s_0 _ (elem_mem hi))
  have e_s_1 : D.lst (s.fld 1).toL = s.fld 1 := sl_eta (okL_at k_s (i := 1) rfl)
  have l_s_1 := sl_len (okL_at k_s (i := 1) rfl)
  have k_s_1 := sl_all (okL_at k_s (i := 1) rfl)
  have E_s_1 : ∀ i, i < (s.fld 1).toL.length → D.lst [((s.fld 1).elem i).fld 0, ((s.fld 1).elem i).fld 1, ((s.fld 1).elem i).fld 2] = (s.fld 1).elem i := fun i hi => by simpa [List.range, List.range.loop] using okL_eta (k_s_1 _ (elem_mem hi))
  have e_i := int_eta (hok _ (.tail _ (.head _)))
  have b_i := int_range (hok _ (.tail _ (.head _)))
  apply sayR_den (φ := (phi_204))
  simp (config := { maxSteps := 2000000 }) [e_s_0, E_s_0, e_s_1, E_s_1, e_s, e_i, tree_204, T.sayR, inK_i64_iff, RS.oks, RS.ok, CK.okD, X.den, O1.den, O2.den, O3.den, callD, XArg.ev, XArg.dat, Callee'.num, backs, DArg.back, Conds.den, cloArgs, phi_204]
  (repeat' (first | (with_reducible apply And.intro) | intro _)) <;> first | (first | ((with_reducible refine ⟨?_⟩); simp [e_s_0, E_s_0, e_s_1, E_s_1, e_s, e_i, tree_204, T.sayR, inK_i64_iff, RS.oks, RS.ok, CK.okD, X.den, O1.den, O2.den, O3.den, callD, XArg.ev, XArg.dat, Callee'.num, backs, DArg.back, Conds.den, cloArgs]; intro K hK; (try simp only [phi_204] at hK); intros; first | contradiction | ((with_reducible refine pd_115 _ _ _ ?ho); (case ho => exact hK)) | ((with_reducible refine pd_117 _ _ _ ?ho); (case ho => exact hK)) | ((with_reducible refine pd_189 _ _ ?_ _ ?ho); (case ho => exact hK); all_goals (exact (by first | (with_reducible assumption) | omega | assumption | (simp; done) | (simp; omega) | (simp [*]; done) | exact smallE_of (n := 1048576) (by omega) (by omega) | (simp [*] at *; omega) | grind [szS]))) | ((with_reducible refine pd_193 _ _ _ ?ho); (case ho => exact hK)) | ((with_reducible refine pd_195 _ _ ?ho); (case ho => exact hK)) | ((with_reducible refine pd_196 _ _ _ _ ?ho); (case ho => exact hK)) | ((with_reducible refine pd_199 _ _ _ ?ho); (case ho => exact hK)) | (exact pd_115 _ _ _ hK) | (exact pd_117 _ _ _ hK) | (exact pd_189 _ _ (by first | (with_reducible assumption) | omega | assumption | (simp; done) | (simp; omega) | (simp [*]; done) | exact smallE_of (n := 1048576) (by omega) (by omega) | (simp [*] at *; omega) | grind [szS]) _ hK) | (exact pd_193 _ _ _ hK) | (exact pd_195 _ _ hK) | (exact pd_196 _ _ _ _ hK) | (exact pd_199 _ _ _ hK)) | ((with_reducible show CallIn _ _ _ _ _); first | (refine .inr ⟨_, rfl, fun K hK => hK⟩) | (refine .inr ⟨_, rfl, fun K hK => hK true⟩) | (refine .inr ⟨_, rfl, fun K hK => hK 0 (by simp)⟩))) | (simp [effB]; omega) | omega | (first | (with_reducible assumption) | (with_reducible exact trivial) | (first | ((with_reducible refine ⟨?_⟩); simp [e_s_0, E_s_0, e_s_1, E_s_1, e_s, e_i, tree_204, T.sayR, inK_i64_iff, RS.oks, RS.ok, CK.okD, X.den, O1.den, O2.den, O3.den, callD, XArg.ev, XArg.dat, Callee'.num, backs, DArg.back, Conds.den, cloArgs]; intro K hK; (try simp only [phi_204] at hK); intros; first | contradiction | ((with_reducible refine pd_115 _ _ _ ?ho); (case ho => exact hK)) | ((with_reducible refine pd_117 _ _ _ ?ho); (case ho => exact hK)) | ((with_reducible refine pd_189 _ _ ?_ _ ?ho); (case ho => exact hK); all_goals (exact (by first | (with_reducible assumption) | omega | assumption | (simp; done) | (simp; omega) | (simp [*]; done) | exact smallE_of (n := 1048576) (by omega) (by omega) | (simp [*] at *; omega) | grind [szS]))) | ((with_reducible refine pd_193 _ _ _ ?ho); (case ho => exact hK)) | ((with_reducible refine pd_195 _ _ ?ho); (case ho => exact hK)) | ((with_reducible refine pd_196 _ _ _ _ ?ho); (case ho => exact hK)) | ((with_reducible refine pd_199 _ _ _ ?ho); (case ho => exact hK)) | (exact pd_115 _ _ _ hK) | (exact pd_117 _ _ _ hK) | (exact pd_189 _ _ (by first | (with_reducible assumption) | omega | assumption | (simp; done) | (simp; omega) | (simp [*]; done) | exact smallE_of (n := 1048576) (by omega) (by omega) | (simp [*] at *; omega) | grind [szS]) _ hK) | (exact pd_193 _ _ _ hK) | (exact pd_195 _ _ hK) | (exact pd_196 _ _ _ _ hK) | (exact pd_199 _ _ _ hK)) | ((with_reducible show CallIn _ _ _ _ _); first | (refine .inr ⟨_, rfl, fun K hK => hK⟩) | (refine .inr ⟨_, rfl, fun K hK => hK true⟩) | (refine .inr ⟨_, rfl, fun K hK => hK 0 (by simp)⟩))) | omega | (simp only [IntKind.wrap_i64, maxL] at *; omega) | assumption | rfl | contradiction | grind)
theorem pd_204 (c s i : D) (Q : List D → Prop) (ho : ∀ (e : D), (effB e) → Q [e]) : PC Try.prog 204 [.cur c, .st [(.sl [(.int .i64), (.int .i64), (.int .i64), (.int .i64), (.int .i64), (.int .i64), (.int .i64), (.int .i64), (.int .i64), (.int .i64), (.int .i64), .bool, .bool]), (.sl [(.int .i64), (.int .i64), .bool]), (.int .i64), (.int .i64)] s, .sc (.int .i64) i] [.st [(.int .i64), (.int .i64), (.int .i64), (.int .i64), (.int .i64), (.int .i64), (.int .i64), (.int .i64), (.int .i64), (.int .i64), (.int .i64), (.int .i64), (.int .i64), (.int .i64), (.int .i64), (.int .i64), (.int .i64), (.int .i64), .bool, (.sl [(.int .i64), (.int .i64), (.int .i64), (.int .i64), (.int .i64), (.int .i64), .bool]), (.int .i64), (.int .i64)]] Q := (pc_204 c s i).mono (by rintro _ ⟨e, hc, rfl⟩; exact ho e hc)
/- spec.l10Any -/
def phi_164 : Nat → List D → (List D → Prop) → Prop
  | 117, [c, n], K => ∀ (m : Int), (0 ≤ m ∧ m ≤ 16777215 ∧ (0 < n.toI → m < n.toI) ∧ (n.toI ≤ 0 → m = 0)) → K [.int m]
  | 120, [c, s], K => ∀ (p : D), K [p]
  | 128, [c], K => ∀ (g : D), K [g]
  | 132, [c, s], K => ∀ (a : D), ((((a.fld 6).toL.length : Int) ≤ 5)) → K [a]
  | 189, [c, l], K => ∀ (m : Int), (oneOf l m) → K [.int m]
  | 204, [c, s, i], K => ∀ (e : D), (effB e) → K [e]
  | _, _, _ => False
theorem pc_164 (c s : D) : PC Try.prog 164 [.cur c, .st [(.sl [(.int .i64), (.int .i64), (.int .i64), (.int .i64), (.int .i64), (.int .i64), (.int .i64), (.int .i64), (.int .i64), (.int .i64), (.int .i64), .bool, .bool]), (.sl [(.int .i64), (.int .i64), .bool]), (.int .i64), (.int .i64)] s] [.st [(.int .i64), (.int .i64), (.int .i64), (.int .i64), (.int .i64), (.int .i64), (.int .i64), (.int .i64), (.int .i64), (.int .i64), (.int .i64), (.int .i64), (.int .i64), (.int .i64), (.int .i64), (.int .i64), (.int .i64), (.int .i64), .bool, (.sl [(.int .i64), (.int .i64), (.int .i64), (.int .i64), (.int .i64), (.int .i64), .bool]), (.int .i64), (.int .i64)]] fun o => ∃ (e : D), (effB e) ∧ o = [e] := by
  refine PC.of_sigK mix sig_164 ⟨trivial, rfl, trivial⟩ rfl fun hok ci ch hci hcn hch => ?_
  have e_s : D.lst [s.fld 0, s.fld 1, s.fld 2, s.fld 3] = s := by simpa [List.range, List.range.loop] using okL_eta (hok _ (.head _))
  have k_s : okL [(.sl [(.int .i64), (.int .i64), (.int .i64), (.int .i64), (.int .i64), (.int .i64), (.int .i64), (.int .i64), (.int .i64), (.int .i64), (.int .i64), .bool, .bool]), (.sl [(.int .i64), (.int .i64), .bool]), (.int .i64), (.int .i64)] s := (hok _ (.head _))
  have e_s_0 : D.lst (s.fld 0).toL = s.fld 0 := sl_eta (okL_at k_s (i := 0) rfl)
  have l_s_0 := sl_len (okL_at k_s (i := 0) rfl)
  have k_s_0 := sl_all (okL_at k_s (i := 0) rfl)
  have E_s_0 : ∀ i, i < (s.fld 0).toL.length → D.lst [((s.fld 0).elem i).fld 0, ((s.fld 0).elem i).fld 1, ((s.fld 0).elem i).fld 2, ((s.fld 0).elem i).fld 3, ((s.fld 0).elem i).fld 4, ((s.fld 0).elem i).fld 5, ((s.fld 0).elem i).fld 6, ((s.fld 0).elem i).fld 7, ((s.fld 0).elem i).fld 8, ((s.fld 0).elem i).fld 9, ((s.fld 0).elem i).fld 10, ((s.fld 0).elem i).fld 11, ((s.fld 0).elem i).fld 12] = (s.fld 0).elem i := fun i hi => by simpa [List.range, List.range.loop] using okL_eta (k_s_0 _ (elem_mem hi))
  have e_s_1 : D.lst (s.fld 1).toL = s.fld 1 := sl_eta (okL_at k_s (i := 1) rfl)
  have l_s_1 := sl_len (okL_at k_s (i := 1) rfl)
  have k_s_1 := sl_all (okL_at k_s (i := 1) rfl)
  have E_s_1 : ∀ i, i < (s.fld 1).toL.length → D.lst [((s.fld 1).elem i).fld 0, ((s.fld 1).elem i).fld 1, ((s.fld 1).elem i).fld 2] = (s.fld 1).elem i := fun i hi => by simpa [List.range, List.range.loop] using okL_eta (k_s_1 _ (elem_mem hi))
  apply sayR_den (φ := (phi_164))
  simp (config := { maxSteps := 2000000 }) [e_s_0, E_s_0, e_s_1, E_s_1, e_s, tree_164, T.sayR, inK_i64_iff, RS.oks, RS.ok, CK.okD, X.den, O1.den, O2.den, O3.den, callD, XArg.ev, XArg.dat, Callee'.num, backs, DArg.back, Conds.den, cloArgs, phi_164]
  refine ⟨by (first | ((with_reducible refine ⟨?_⟩); simp [e_s_0, E_s_0, e_s_1, E_s_1, e_s, tree_164, T.sayR, inK_i64_iff, RS.oks, RS.ok, CK.okD, X.den, O1.den, O2.den, O3.den, callD, XArg.ev, XArg.dat, Callee'.num, backs, DArg.back, Conds.den, cloArgs]; intro K hK; (try simp only [phi_164] at hK); intros; first | contradiction | ((with_reducible refine pd_117 _ _ _ ?ho); (case ho => exact hK)) | ((with_reducible refine pd_120 _ _ _ ?ho); (case ho => exact hK)) | ((with_reducible refine pd_128 _ _ ?ho); (case ho => exact hK)) | ((with_reducible refine pd_132 _ _ _ ?ho); (case ho => exact hK)) | ((with_reducible refine pd_189 _ _ ?_ _ ?ho); (case ho => exact hK); all_goals (exact (by first | (with_reducible assumption) | omega | assumption | (simp; done) | (simp; omega) | (simp [*]; done) | exact smallE_of (n := 1048576) (by omega) (by omega) | (simp [*] at *; omega) | grind [szS]))) | ((with_reducible refine pd_204 _ _ _ _ ?ho); (case ho => exact hK)) | (exact pd_117 _ _ _ hK) | (exact pd_120 _ _ _ hK) | (exact pd_128 _ _ hK) | (exact pd_132 _ _ _ hK) | (exact pd_189 _ _ (by first | (with_reducible assumption) | omega | assumption | (simp; done) | (simp; omega) | (simp [*]; done) | exact smallE_of (n := 1048576) (by omega) (by omega) | (simp [*] at *; omega) | grind [szS]) _ hK) | (exact pd_204 _ _ _ _ hK)) | ((with_reducible show CallIn _ _ _ _ _); first | (refine .inr ⟨_, rfl, fun K hK => hK⟩) | (refine .inr ⟨_, rfl, fun K hK => hK true⟩) | (refine .inr ⟨_, rfl, fun K hK => hK 0 (by simp)⟩))), ?_⟩
  intro m0
  intros
  refine ⟨by (first | ((with_reducible refine ⟨?_⟩); simp [e_s_0, E_s_0, e_s_1, E_s_1, e_s, tree_164, T.sayR, inK_i64_iff, RS.oks, RS.ok, CK.okD, X.den, O1.den, O2.den, O3.den, callD, XArg.ev, XArg.dat, Callee'.num, backs, DArg.back, Conds.den, cloArgs]; intro K hK; (try simp only [phi_164] at hK); intros; first | contradiction | ((with_reducible refine pd_117 _ _ _ ?ho); (case ho => exact hK)) | ((with_reducible refine pd_120 _ _ _ ?ho); (case ho => exact hK)) | ((with_reducible refine pd_128 _ _ ?ho); (case ho => exact hK)) | ((with_reducible refine pd_132 _ _ _ ?ho); (case ho => exact hK)) | ((with_reducible refine pd_189 _ _ ?_ _ ?ho); (case ho => exact hK); all_goals (exact (by first | (with_reducible assumption) | omega | assumption | (simp; done) | (simp; omega) | (simp [*]; done) | exact smallE_of (n := 1048576) (by omega) (by omega) | (simp [*] at *; omega) | grind [szS]))) | ((with_reducible refine pd_204 _ _ _ _ ?ho); (case ho => exact hK)) | (exact pd_117 _ _ _ hK) | (exact pd_120 _ _ _ hK) | (exact pd_128 _ _ hK) | (exact pd_132 _ _ _ hK) | (exact pd_189 _ _ (by first | (with_reducible assumption) | omega | assumption | (simp; done) | (simp; omega) | (simp [*]; done) | exact smallE_of (n := 1048576) (by omega) (by omega) | (simp [*] at *; omega) | grind [szS]) _ hK) | (exact pd_204 _ _ _ _ hK)) | ((with_reducible show CallIn _ _ _ _ _); first | (refine .inr ⟨_, rfl, fun K hK => hK⟩) | (refine .inr ⟨_, rfl, fun K hK => hK true⟩) | (refine .inr ⟨_, rfl, fun K hK => hK 0 (by simp)⟩))), fun e he hk => ?_⟩
  (repeat' (first | (with_reducible apply And.intro) | intro _)) <;> first | (first | ((with_reducible refine ⟨?_⟩); simp [e_s_0, E_s_0, e_s_1, E_s_1, e_s, tree_164, T.sayR, inK_i64_iff, RS.oks, RS.ok, CK.okD, X.den, O1.den, O2.den, O3.den, callD, XArg.ev, XArg.dat, Callee'.num, backs, DArg.back, Conds.den, cloArgs]; intro K hK; (try simp only [phi_164] at hK); intros; first | contradiction | ((with_reducible refine pd_117 _ _ _ ?ho); (case ho => exact hK)) | ((with_reducible refine pd_120 _ _ _ ?ho); (case ho => exact hK)) | ((with_reducible refine pd_128 _ _ ?ho); (case ho => exact hK)) | ((with_reducible refine pd_132 _ _ _ ?ho); (case ho => exact hK)) | ((with_reducible refine pd_189 _ _ ?_ _ ?ho); (case ho => exact hK); all_goals (exact (by first | (with_reducible assumption) | omega | assumption | (simp; done) | (simp; omega) | (simp [*]; done) | exact smallE_of (n := 1048576) (by omega) (by omega) | (simp [*] at *; omega) | grind [szS]))) | ((with_reducible refine pd_204 _ _ _ _ ?ho); (case ho => exact hK)) | (exact pd_117 _ _ _ hK) | (exact pd_120 _ _ _ hK) | (exact pd_128 _ _ hK) | (exact pd_132 _ _ _ hK) | (exact pd_189 _ _ (by first | (with_reducible assumption) | omega | assumption | (simp; done) | (simp; omega) | (simp [*]; done) | exact smallE_of (n := 1048576) (by omega) (by omega) | (simp [*] at *; omega) | grind [szS]) _ hK) | (exact pd_204 _ _ _ _ hK)) | ((with_reducible show CallIn _ _ _ _ _); first | (refine .inr ⟨_, rfl, fun K hK => hK⟩) | (refine .inr ⟨_, rfl, fun K hK => hK true⟩) | (refine .inr ⟨_, rfl, fun K hK => hK 0 (by simp)⟩))) | (exact he) | (simp [effB]; omega) | omega | (first | (with_reducible assumption) | (with_reducible exact trivial) | (first | ((with_reducible refine ⟨?_⟩); simp [e_s_0, E_s_0, e_s_1, E_s_1, e_s, tree_164, T.sayR, inK_i64_iff, RS.oks, RS.ok, CK.okD, X.den, O1.den, O2.den, O3.den, callD, XArg.ev, XArg.dat, Callee'.num, backs, DArg.back, Conds.den, cloArgs]; intro K hK; (try simp only [phi_164] at hK); intros; first | contradiction | ((with_reducible refine pd_117 _ _ _ ?ho); (case ho => exact hK)) | ((with_reducible refine pd_120 _ _ _ ?ho); (case ho => exact hK)) | ((with_reducible refine pd_128 _ _ ?ho); (case ho => exact hK)) | ((with_reducible refine pd_132 _ _ _ ?ho); (case ho => exact hK)) | ((with_reducible refine pd_189 _ _ ?_ _ ?ho); (case ho => exact hK); all_goals (exact (by first | (with_reducible assumption) | omega | assumption | (simp; done) | (simp; omega) | (simp [*]; done) | exact smallE_of (n := 1048576) (by omega) (by omega) | (simp [*] at *; omega) | grind [szS]))) | ((with_reducible refine pd_204 _ _ _ _ ?ho); (case ho => exact hK)) | (exact pd_117 _ _ _ hK) | (exact pd_120 _ _ _ hK) | (exact pd_128 _ _ hK) | (exact pd_132 _ _ _ hK) | (exact pd_189 _ _ (by first | (with_reducible assumption) | omega | assumption | (simp; done) | (simp; omega) | (simp [*]; done) | exact smallE_of (n := 1048576) (by omega) (by omega) | (simp [*] at *; omega) | grind [szS]) _ hK) | (exact pd_204 _ _ _ _ hK)) | ((with_reducible show CallIn _ _ _ _ _); first | (refine .inr ⟨_, rfl, fun K hK => hK⟩) | (refine .inr ⟨_, rfl, fun K hK => hK true⟩) | (refine .inr ⟨_, rfl, fun K hK => hK 0 (by simp)⟩))) | omega | (simp only [IntKind.wrap_i64, maxL] at *; omega) | assumption | rfl | contradiction | grind)
theorem pd_164 (c s : D) (Q : List D → Prop) (ho : ∀ (e : D), (effB e) → Q [e]) : PC Try.prog 164 [.cur c, .st [(.sl [(.int .i64), (.int .i64), (.int .i64), (.int .i64), (.int .i64), (.int .i64), (.int .i64), (.int .i64), (.int .i64), (.int .i64), (.int .i64), .bool, .bool]), (.sl [(.int .i64), (.int .i64), .bool]), (.int .i64), (.int .i64)] s] [.st [(.int .i64), (.int .i64), (.int .i64), (.int .i64), (.int .i64), (.int .i64), (.int .i64), (.int .i64), (.int .i64), (.int .i64), (.int .i64), (.int .i64), (.int .i64), (.int .i64), (.int .i64), (.int .i64), (.int .i64), (.int .i64), .bool, (.sl [(.int .i64), (.int .i64), (.int .i64), (.int .i64), (.int .i64), (.int .i64), .bool]), (.int .i64), (.int .i64)]] Q := (pc_164 c s).mono (by rintro _ ⟨e, hc, rfl⟩; exact ho e hc)
/- spec.DrawSpent -/
def phi_78 : Nat → List D → (List D → Prop) → Prop
  | 113, [a], K => K [a]
  | 115, [c, n], K => ∀ (b : Bool), K [.bool b]
  | 119, [c], K => ∀ (s : D), (stateN 5 3 s) → K [s]
  | 133, [c], K => ∀ (m : Int), K [.int m]
  | 134, [c], K => ∀ (m : Int), (0 ≤ m ∧ m ≤ 2147483647) → K [.int m]
  | 164, [c, s], K => ∀ (e : D), (effB e) → K [e]
  | _, _, _ => False
theorem pc_78 (code : D) : PC Try.prog 78 [.sc (.sl [(.int .u8)]) code] [.st [(.int .i64), (.int .i64), (.int .i64), (.int .i64), (.int .i64), (.int .i64), (.int .i64), (.int .i64), (.int .i64), (.int .i64), (.int .i64), (.int .i64), (.int .i64), (.int .i64), (.int .i64), (.int .i64), (.int .i64), (.int .i64), .bool, (.sl [(.int .i64), (.int .i64), (.int .i64), (.int .i64), (.int .i64), (.int .i64), .bool]), (.int .i64), (.int .i64)], .sc (.int .i64)] fun o => ∃ (e : D) (n : Int), (effB e) ∧ o = [e, .int n] := by
  refine PC.of_sig mix sig_78 ⟨rfl, trivial⟩ rfl fun hok => ?_
  have e_code := sl_eta (hok _ (.head _))
  have l_code := sl_len (hok _ (.head _))
  have k_code := sl_all (hok _ (.head _))
  apply sayR_den (φ := (phi_78))
  simp (config := { maxSteps := 2000000 }) [e_code, tree_78, T.sayR, inK_i64_iff, RS.oks, RS.ok, okD_int, okD_bool, X.den, O1.den, O2.den, O3.den, callD, XArg.ev, XArg.dat, Callee'.num, backs, DArg.back, Conds.den, cloArgs, phi_78]
  (repeat' (first | (with_reducible apply And.intro) | intro _)) <;> first | (first | ((with_reducible refine ⟨?_⟩); simp [e_code, tree_78, T.sayR, inK_i64_iff, RS.oks, RS.ok, okD_int, okD_bool, X.den, O1.den, O2.den, O3.den, callD, XArg.ev, XArg.dat, Callee'.num, backs, DArg.back, Conds.den, cloArgs]; intro K hK; (try simp only [phi_78] at hK); intros; first | contradiction | ((with_reducible refine pd_113 _ _ ?ho); (case ho => exact hK)) | ((with_reducible refine pd_115 _ _ _ ?ho); (case ho => exact hK)) | ((with_reducible refine pd_119 _ _ ?ho); (case ho => exact hK)) | ((with_reducible refine pd_133 _ _ ?ho); (case ho => exact hK)) | ((with_reducible refine pd_134 _ _ ?ho); (case ho => exact hK)) | ((with_reducible refine pd_164 _ _ _ ?ho); (case ho => exact hK)) | (exact pd_113 _ _ hK) | (exact pd_115 _ _ _ hK) | (exact pd_119 _ _ hK) | (exact pd_133 _ _ hK) | (exact pd_134 _ _ hK) | (exact pd_164 _ _ _ hK)) | ((with_reducible show CallIn _ _ _ _ _); first | (refine .inr ⟨_, rfl, fun K hK => hK⟩) | (refine .inr ⟨_, rfl, fun K hK => hK true⟩) | (refine .inr ⟨_, rfl, fun K hK => hK 0 (by simp)⟩))) | omega | assumption | (refine ⟨_, _, ?_, rfl⟩; assumption)
theorem pd_78 (code : D) (Q : List D → Prop) (ho : ∀ (e : D) (n : Int), (effB e) → Q [e, .int n]) : PC Try.prog 78 [.sc (.sl [(.int .u8)]) code] [.st [(.int .i64), (.int .i64), (.int .i64), (.int .i64), (.int .i64), (.int .i64), (.int .i64), (.int .i64), (.int .i64), (.int .i64), (.int .i64), (.int .i64), (.int .i64), (.int .i64), (.int .i64), (.int .i64), (.int .i64), (.int .i64), .bool, (.sl [(.int .i64), (.int .i64), (.int .i64), (.int .i64), (.int .i64), (.int .i64), .bool]), (.int .i64), (.int .i64)], .sc (.int .i64)] Q := (pc_78 code).mono (by rintro _ ⟨e, n, hc, rfl⟩; exact ho e n hc)
/- slices.Clone[[]impl.Event,impl.Event] -/
theorem pc_205 (d : D) (h : (d.toL.length : Int) ≤ 1048576) : PC Try.prog 205 [.sc (.sl [(.int .i64), (.int .i64), (.int .i64), (.int .i64), (.int .i64), (.int .i64), .bool]) d] [.sc (.sl [(.int .i64), (.int .i64), (.int .i64), (.int .i64), (.int .i64), (.int .i64), .bool])] fun o => o = [d] := by
  refine PC.of_sig mix sig_205 ⟨rfl, trivial⟩ rfl fun hok => ?_
  have e_d := sl_eta (hok _ (.head _))
  have l_d := sl_len (hok _ (.head _))
  have k_d := sl_all (hok _ (.head _))
  have E_d : ∀ i, i < d.toL.length → D.lst [(d.elem i).fld 0, (d.elem i).fld 1, (d.elem i).fld 2, (d.elem i).fld 3, (d.elem i).fld 4, (d.elem i).fld 5, (d.elem i).fld 6] = d.elem i := fun i hi => by simpa [List.range, List.range.loop] using okL_eta (k_d _ (elem_mem hi))
  apply says_den (φ := fun _ _ => [])
  simp [e_d, E_d, tree_205, T.says, X.den, O1.den, O2.den, O3.den, callD, XArg.ev, XArg.dat, Callee'.num, backs, DArg.back, Conds.den, cloArgs] at h ⊢
  (repeat' (first | (with_reducible apply And.intro) | intro _))
  · omega
  · have e0 := e_d; rw [‹d.toL = []›] at e0; exact e0
theorem pd_205 (d : D) (h : (d.toL.length : Int) ≤ 1048576) (Q : List D → Prop) (ho : Q [d]) : PC Try.prog 205 [.sc (.sl [(.int .i64), (.int .i64), (.int .i64), (.int .i64), (.int .i64), (.int .i64), .bool]) d] [.sc (.sl [(.int .i64), (.int .i64), (.int .i64), (.int .i64), (.int .i64), (.int .i64), .bool])] Q := (pc_205 d h).mono fun _ h => h ▸ ho
/- impl.copyEffect -/
def phi_165 : Nat → List D → List D
  | 205, [d] => [d]
  | _, _ => []
theorem pc_165 (e : D) (h : ((e.fld 19).toL.length : Int) ≤ 1048576) : PC Try.prog 165 [.st [(.int .i64), (.int .i64), (.int .i64), (.int .i64), (.int .i64), (.int .i64), (.int .i64), (.int .i64), (.int .i64), (.int .i64), (.int .i64), (.int .i64), (.int .i64), (.int .i64), (.int .i64), (.int .i64), (.int .i64), (.int .i64), .bool, (.sl [(.int .i64), (.int .i64), (.int .i64), (.int .i64), (.int .i64), (.int .i64), .bool]), (.int .i64), (.int .i64)] e] [.st [(.int .i64), (.int .i64), (.int .i64), (.int .i64), (.int .i64), (.int .i64), (.int .i64), (.int .i64), (.int .i64), (.int .i64), (.int .i64), (.int .i64), (.int .i64), (.int .i64), (.int .i64), (.int .i64), (.int .i64), (.int .i64), .bool, (.sl [(.int .i64), (.int .i64), (.int .i64), (.int .i64), (.int .i64), (.int .i64), .bool]), (.int .i64), (.int .i64)]] fun o => o = [e] := by
  refine PC.of_sig mix sig_165 ⟨rfl, trivial⟩ rfl fun hok => ?_
  have e_e : D.lst [e.fld 0, e.fld 1, e.fld 2, e.fld 3, e.fld 4, e.fld 5, e.fld 6, e.fld 7, e.fld 8, e.fld 9, e.fld 10, e.fld 11, e.fld 12, e.fld 13, e.fld 14, e.fld 15, e.fld 16, e.fld 17, e.fld 18, e.fld 19, e.fld 20, e.fld 21] = e := by simpa [List.range, List.range.loop] using okL_eta (hok _ (.head _))
  have k_e : okL [(.int .i64), (.int .i64), (.int .i64), (.int .i64), (.int .i64), (.int .i64), (.int .i64), (.int .i64), (.int .i64), (.int .i64), (.int .i64), (.int .i64), (.int .i64), (.int .i64), (.int .i64), (.int .i64), (.int .i64), (.int .i64), .bool, (.sl [(.int .i64), (.int .i64), (.int .i64), (.int .i64), (.int .i64), (.int .i64), .bool]), (.int .i64), (.int .i64)] e := (hok _ (.head _))
  have e_e_19 : D.lst (e.fld 19).toL = e.fld 19 := sl_eta (okL_at k_e (i := 19) rfl)
  have l_e_19 := sl_len (okL_at k_e (i := 19) rfl)
  have k_e_19 := sl_all (okL_at k_e (i := 19) rfl)
  have E_e_19 : ∀ i, i < (e.fld 19).toL.length → D.lst [((e.fld 19).elem i).fld 0, ((e.fld 19).elem i).fld 1, ((e.fld 19).elem i).fld 2, ((e.fld 19).elem i).fld 3, ((e.fld 19).elem i).fld 4, ((e.fld 19).elem i).fld 5, ((e.fld 19).elem i).fld 6] = (e.fld 19).elem i := fun i hi => by simpa [List.range, List.range.loop] using okL_eta (k_e_19 _ (elem_mem hi))
  apply says_den (φ := (phi_165))
  simp [e_e_19, E_e_19, e_e, tree_165, T.says, X.den, O1.den, O2.den, O3.den, callD, XArg.ev, XArg.dat, Callee'.num, backs, DArg.back, Conds.den, cloArgs, phi_165, pd_205, h]
theorem pd_165 (e : D) (h : ((e.fld 19).toL.length : Int) ≤ 1048576) (Q : List D → Prop) (ho : Q [e]) : PC Try.prog 165 [.st [(.int .i64), (.int .i64), (.int .i64), (.int .i64), (.int .i64), (.int .i64), (.int .i64), (.int .i64), (.int .i64), (.int .i64), (.int .i64), (.int .i64), (.int .i64), (.int .i64), (.int .i64), (.int .i64), (.int .i64), (.int .i64), .bool, (.sl [(.int .i64), (.int .i64), (.int .i64), (.int .i64), (.int .i64), (.int .i64), .bool]), (.int .i64), (.int .i64)] e] [.st [(.int .i64), (.int .i64), (.int .i64), (.int .i64), (.int .i64), (.int .i64), (.int .i64), (.int .i64), (.int .i64), (.int .i64), (.int .i64), (.int .i64), (.int .i64), (.int .i64), (.int .i64), (.int .i64), (.int .i64), (.int .i64), .bool, (.sl [(.int .i64), (.int .i64), (.int .i64), (.int .i64), (.int .i64), (.int .i64), .bool]), (.int .i64), (.int .i64)]] Q := (pc_165 e h).mono fun _ h => h ▸ ho
/- impl.Bound -/
theorem pc_131 (a : D) : PC Try.prog 131 [.sc (.int .i64) a] [.sc (.int .i64)] fun o => o = [.int (bound a.toI)] := by
  refine PC.of_sig mix sig_131 ⟨rfl, trivial⟩ rfl fun hok => ?_
  have e_a := int_eta (hok _ (.head _))
  have b_a := int_range (hok _ (.head _))
  apply says_den (φ := fun _ _ => [])
  simp [e_a, tree_131, T.says, X.den, O1.den, O2.den, O3.den, callD, XArg.ev, XArg.dat, Callee'.num, backs, DArg.back, Conds.den, cloArgs]
  (repeat' (first | (with_reducible apply And.intro) | intro _)) <;> grind [bound]
theorem pd_131 (a : D) (Q : List D → Prop) (ho : Q [.int (bound a.toI)]) : PC Try.prog 131 [.sc (.int .i64) a] [.sc (.int .i64)] Q := (pc_131 a).mono fun _ h => h ▸ ho
/- impl.Less -/
def phi_166 : Nat → List D → List D
  | 131, [a] => [.int (bound a.toI)]
  | _, _ => []
theorem pc_166 (a b : D) : PC Try.prog 166 [.sc (.int .i64) a, .sc (.int .i64) b] [.sc (.int .i64)] fun o => o = [.int (less a.toI b.toI)] := by
  refine PC.of_sig mix sig_166 ⟨rfl, rfl, trivial⟩ rfl fun hok => ?_
  have e_a := int_eta (hok _ (.head _))
  have b_a := int_range (hok _ (.head _))
  have e_b := int_eta (hok _ (.tail _ (.head _)))
  have b_b := int_range (hok _ (.tail _ (.head _)))
  apply says_den (φ := (phi_166))
  simp [e_a, e_b, tree_166, T.says, X.den, O1.den, O2.den, O3.den, callD, XArg.ev, XArg.dat, Callee'.num, backs, DArg.back, Conds.den, cloArgs, phi_166, pd_131, less]
theorem pd_166 (a b : D) (Q : List D → Prop) (ho : Q [.int (less a.toI b.toI)]) : PC Try.prog 166 [.sc (.int .i64) a, .sc (.int .i64) b] [.sc (.int .i64)] Q := (pc_166 a b).mono fun _ h => h ▸ ho
/- impl.Spent -/
def phi_79 : Nat → List D → List D
  | 44, [a, b] => [.int (upto a.toI b.toI)]
  | 165, [e] => [e]
  | 166, [a, b] => [.int (less a.toI b.toI)]
  | _, _ => []
theorem pc_79 (e n : D) (h : ((e.fld 19).toL.length : Int) ≤ 1048576) : PC Try.prog 79 [.st [(.int .i64), (.int .i64), (.int .i64), (.int .i64), (.int .i64), (.int .i64), (.int .i64), (.int .i64), (.int .i64), (.int .i64), (.int .i64), (.int .i64), (.int .i64), (.int .i64), (.int .i64), (.int .i64), (.int .i64), (.int .i64), .bool, (.sl [(.int .i64), (.int .i64), (.int .i64), (.int .i64), (.int .i64), (.int .i64), .bool]), (.int .i64), (.int .i64)] e, .sc (.int .i64) n] [.st [(.int .i64), (.int .i64), (.int .i64), (.int .i64), (.int .i64), (.int .i64), (.int .i64), (.int .i64), (.int .i64), (.int .i64), (.int .i64), (.int .i64), (.int .i64), (.int .i64), (.int .i64), (.int .i64), (.int .i64), (.int .i64), .bool, (.sl [(.int .i64), (.int .i64), (.int .i64), (.int .i64), (.int .i64), (.int .i64), .bool]), (.int .i64), (.int .i64)]] fun o => o = [spent e n.toI] := by
  refine PC.of_sig mix sig_79 ⟨rfl, rfl, trivial⟩ rfl fun hok => ?_
  have e_e : D.lst [e.fld 0, e.fld 1, e.fld 2, e.fld 3, e.fld 4, e.fld 5, e.fld 6, e.fld 7, e.fld 8, e.fld 9, e.fld 10, e.fld 11, e.fld 12, e.fld 13, e.fld 14, e.fld 15, e.fld 16, e.fld 17, e.fld 18, e.fld 19, e.fld 20, e.fld 21] = e := by simpa [List.range, List.range.loop] using okL_eta (hok _ (.head _))
  have k_e : okL [(.int .i64), (.int .i64), (.int .i64), (.int .i64), (.int .i64), (.int .i64), (.int .i64), (.int .i64), (.int .i64), (.int .i64), (.int .i64), (.int .i64), (.int .i64), (.int .i64), (.int .i64), (.int .i64), (.int .i64), (.int .i64), .bool, (.sl [(.int .i64), (.int .i64), (.int .i64), (.int .i64), (.int .i64), (.int .i64), .bool]), (.int .i64), (.int .i64)] e := (hok _ (.head _))
  have e_e_19 : D.lst (e.fld 19).toL = e.fld 19 := sl_eta (okL_at k_e (i := 19) rfl)
  have l_e_19 := sl_len (okL_at k_e (i := 19) rfl)
  have k_e_19 := sl_all (okL_at k_e (i := 19) rfl)
  have E_e_19 : ∀ i, i < (e.fld 19).toL.length → D.lst [((e.fld 19).elem i).fld 0, ((e.fld 19).elem i).fld 1, ((e.fld 19).elem i).fld 2, ((e.fld 19).elem i).fld 3, ((e.fld 19).elem i).fld 4, ((e.fld 19).elem i).fld 5, ((e.fld 19).elem i).fld 6] = (e.fld 19).elem i := fun i hi => by simpa [List.range, List.range.loop] using okL_eta (k_e_19 _ (elem_mem hi))
  have e_n := int_eta (hok _ (.tail _ (.head _)))
  have b_n := int_range (hok _ (.tail _ (.head _)))
  apply says_den (φ := (phi_79))
  simp [e_e_19, E_e_19, e_e, e_n, tree_79, T.says, X.den, O1.den, O2.den, O3.den, callD, XArg.ev, XArg.dat, Callee'.num, backs, DArg.back, Conds.den, cloArgs, phi_79, pd_44, pd_165, pd_166, h, spent]
  all_goals grind
theorem pd_79 (e n : D) (h : ((e.fld 19).toL.length : Int) ≤ 1048576) (Q : List D → Prop) (ho : Q [spent e n.toI]) : PC Try.prog 79 [.st [(.int .i64), (.int .i64), (.int .i64), (.int .i64), (.int .i64), (.int .i64), (.int .i64), (.int .i64), (.int .i64), (.int .i64), (.int .i64), (.int .i64), (.int .i64), (.int .i64), (.int .i64), (.int .i64), (.int .i64), (.int .i64), .bool, (.sl [(.int .i64), (.int .i64), (.int .i64), (.int .i64), (.int .i64), (.int .i64), .bool]), (.int .i64), (.int .i64)] e, .sc (.int .i64) n] [.st [(.int .i64), (.int .i64), (.int .i64), (.int .i64), (.int .i64), (.int .i64), (.int .i64), (.int .i64), (.int .i64), (.int .i64), (.int .i64), (.int .i64), (.int .i64), (.int .i64), (.int .i64), (.int .i64), (.int .i64), (.int .i64), .bool, (.sl [(.int .i64), (.int .i64), (.int .i64), (.int .i64), (.int .i64), (.int .i64), .bool]), (.int .i64), (.int .i64)]] Q := (pc_79 e n h).mono fun _ h => h ▸ ho
/- slices.Equal[[]impl.Event,impl.Event] -/
theorem pc_173 (a b : D) : PC Try.prog 173 [.sc (.sl [(.int .i64), (.int .i64), (.int .i64), (.int .i64), (.int .i64), (.int .i64), .bool]) a, .sc (.sl [(.int .i64), (.int .i64), (.int .i64), (.int .i64), (.int .i64), (.int .i64), .bool]) b] [.sc .bool] fun o => o = [.bool (sameEvs a b)] := by
  refine PC.of_sig mix sig_173 ⟨rfl, rfl, trivial⟩ rfl fun hok => ?_
  have e_a := sl_eta (hok _ (.head _))
  have l_a := sl_len (hok _ (.head _))
  have k_a := sl_all (hok _ (.head _))
  have E_a : ∀ i, i < a.toL.length → D.lst [(a.elem i).fld 0, (a.elem i).fld 1, (a.elem i).fld 2, (a.elem i).fld 3, (a.elem i).fld 4, (a.elem i).fld 5, (a.elem i).fld 6] = a.elem i := fun i hi => by simpa [List.range, List.range.loop] using okL_eta (k_a _ (elem_mem hi))
  have e_b := sl_eta (hok _ (.tail _ (.head _)))
  have l_b := sl_len (hok _ (.tail _ (.head _)))
  have k_b := sl_all (hok _ (.tail _ (.head _)))
  have E_b : ∀ i, i < b.toL.length → D.lst [(b.elem i).fld 0, (b.elem i).fld 1, (b.elem i).fld 2, (b.elem i).fld 3, (b.elem i).fld 4, (b.elem i).fld 5, (b.elem i).fld 6] = b.elem i := fun i hi => by simpa [List.range, List.range.loop] using okL_eta (k_b _ (elem_mem hi))
  apply says_den (φ := fun _ _ => [])
  simp [e_a, e_b, E_a, E_b, tree_173, T.says, X.den, O1.den, O2.den, O3.den, callD, XArg.ev, XArg.dat, Callee'.num, backs, DArg.back, Conds.den, cloArgs]
  (repeat' (first | (with_reducible apply And.intro) | intro _))
  · grind [sameEvs]
  refine den_for a.toL.length 0 (fun i => [.int i]) (fun i => ∀ j, j < i → sameEv (a.elem j) (b.elem j) = true) (by simp) (by simp [X.den]) (by simp) fun i hi hR => ?_
  apply says_den (φ := fun _ _ => [])
  simp [e_a, e_b, E_a, E_b, tree_173, T.says, X.den, O1.den, O2.den, O3.den, callD, XArg.ev, XArg.dat, Callee'.num, backs, DArg.back, Conds.den, cloArgs]
  (repeat' (first | (with_reducible apply And.intro) | intro _))
  · omega
  · omega
  · have : sameEv (a.elem i) (b.elem i) = false := by grind [sameEv]
    simp [sameEvs, allR_false (p := fun i => sameEv (a.elem i) (b.elem i)) (i := i) ‹_› this]
  · omega
  · (first | omega | (simp only [IntKind.wrap_i64, maxL] at *; omega) | (simp [IntKind.wrap_i64, maxL] at *; omega))
  · rename_i j hj
    by_cases hji : j = i
    · subst hji; grind [sameEv]
    · exact hR j (by omega)
  · have := allR_true (p := fun i => sameEv (a.elem i) (b.elem i)) (n := a.toL.length) (fun j hj => hR j (by omega))
    simp only [sameEvs, this, Bool.and_true, decide_eq_true_eq]
    omega
theorem pd_173 (a b : D) (Q : List D → Prop) (ho : Q [.bool (sameEvs a b)]) : PC Try.prog 173 [.sc (.sl [(.int .i64), (.int .i64), (.int .i64), (.int .i64), (.int .i64), (.int .i64), .bool]) a, .sc (.sl [(.int .i64), (.int .i64), (.int .i64), (.int .i64), (.int .i64), (.int .i64), .bool]) b] [.sc .bool] Q := (pc_173 a b).mono fun _ h => h ▸ ho
/- impl.sameAct -/
def phi_167 : Nat → List D → List D
  | 173, [a, b] => [.bool (sameEvs a b)]
  | _, _ => []
theorem pc_167 (a b : D) : PC Try.prog 167 [.st [(.int .i64), (.int .i64), (.int .i64), (.int .i64), (.int .i64), .bool, (.sl [(.int .i64), (.int .i64), (.int .i64), (.int .i64), (.int .i64), (.int .i64), .bool])] a, .st [(.int .i64), (.int .i64), (.int .i64), (.int .i64), (.int .i64), .bool, (.sl [(.int .i64), (.int .i64), (.int .i64), (.int .i64), (.int .i64), (.int .i64), .bool])] b] [.sc .bool] fun o => o = [.bool (sameAct a b)] := by
  refine PC.of_sig mix sig_167 ⟨rfl, rfl, trivial⟩ rfl fun hok => ?_
  have e_a : D.lst [a.fld 0, a.fld 1, a.fld 2, a.fld 3, a.fld 4, a.fld 5, a.fld 6] = a := by simpa [List.range, List.range.loop] using okL_eta (hok _ (.head _))
  have k_a : okL [(.int .i64), (.int .i64), (.int .i64), (.int .i64), (.int .i64), .bool, (.sl [(.int .i64), (.int .i64), (.int .i64), (.int .i64), (.int .i64), (.int .i64), .bool])] a := (hok _ (.head _))
  have e_a_6 : D.lst (a.fld 6).toL = a.fld 6 := sl_eta (okL_at k_a (i := 6) rfl)
  have l_a_6 := sl_len (okL_at k_a (i := 6) rfl)
  have k_a_6 := sl_all (okL_at k_a (i := 6) rfl)
  have E_a_6 : ∀ i, i < (a.fld 6).toL.length → D.lst [((a.fld 6).elem i).fld 0, ((a.fld 6).elem i).fld 1, ((a.fld 6).elem i).fld 2, ((a.fld 6).elem i).fld 3, ((a.fld 6).elem i).fld 4, ((a.fld 6).elem i).fld 5, ((a.fld 6).elem i).fld 6] = (a.fld 6).elem i := fun i hi => by simpa [List.range, List.range.loop] using okL_eta (k_a_6 _ (elem_mem hi))
  have e_b : D.lst [b.fld 0, b.fld 1, b.fld 2, b.fld 3, b.fld 4, b.fld 5, b.fld 6] = b := by simpa [List.range, List.range.loop] using okL_eta (hok _ (.tail _ (.head _)))
  have k_b : okL [(.int .i64), (.int .i64), (.int .i64), (.int .i64), (.int .i64), .bool, (.sl [(.int .i64), (.int .i64), (.int .i64), (.int .i64), (.int .i64), (.int .i64), .bool])] b := (hok _ (.tail _ (.head _)))
  have e_b_6 : D.lst (b.fld 6).toL = b.fld 6 := sl_eta (okL_at k_b (i := 6) rfl)
  have l_b_6 := sl_len (okL_at k_b (i := 6) rfl)
  have k_b_6 := sl_all (okL_at k_b (i := 6) rfl)
  have E_b_6 : ∀ i, i < (b.fld 6).toL.length → D.lst [((b.fld 6).elem i).fld 0, ((b.fld 6).elem i).fld 1, ((b.fld 6).elem i).fld 2, ((b.fld 6).elem i).fld 3, ((b.fld 6).elem i).fld 4, ((b.fld 6).elem i).fld 5, ((b.fld 6).elem i).fld 6] = (b.fld 6).elem i := fun i hi => by simpa [List.range, List.range.loop] using okL_eta (k_b_6 _ (elem_mem hi))
  apply says_den (φ := (phi_167))
  simp [e_a_6, E_a_6, e_b_6, E_b_6, e_a, e_b, tree_167, T.says, X.den, O1.den, O2.den, O3.den, callD, XArg.ev, XArg.dat, Callee'.num, backs, DArg.back, Conds.den, cloArgs, phi_167, pd_173, sameAct]
  all_goals grind
theorem pd_167 (a b : D) (Q : List D → Prop) (ho : Q [.bool (sameAct a b)]) : PC Try.prog 167 [.st [(.int .i64), (.int .i64), (.int .i64), (.int .i64), (.int .i64), .bool, (.sl [(.int .i64), (.int .i64), (.int .i64), (.int .i64), (.int .i64), (.int .i64), .bool])] a, .st [(.int .i64), (.int .i64), (.int .i64), (.int .i64), (.int .i64), .bool, (.sl [(.int .i64), (.int .i64), (.int .i64), (.int .i64), (.int .i64), (.int .i64), .bool])] b] [.sc .bool] Q := (pc_167 a b).mono fun _ h => h ▸ ho
/- impl.SameEffect -/
def phi_80 : Nat → List D → List D
  | 167, [a, b] => [.bool (sameAct a b)]
  | _, _ => []
theorem pc_80 (a b : D) : PC Try.prog 80 [.st [(.int .i64), (.int .i64), (.int .i64), (.int .i64), (.int .i64), (.int .i64), (.int .i64), (.int .i64), (.int .i64), (.int .i64), (.int .i64), (.int .i64), (.int .i64), (.int .i64), (.int .i64), (.int .i64), (.int .i64), (.int .i64), .bool, (.sl [(.int .i64), (.int .i64), (.int .i64), (.int .i64), (.int .i64), (.int .i64), .bool]), (.int .i64), (.int .i64)] a, .st [(.int .i64), (.int .i64), (.int .i64), (.int .i64), (.int .i64), (.int .i64), (.int .i64), (.int .i64), (.int .i64), (.int .i64), (.int .i64), (.int .i64), (.int .i64), (.int .i64), (.int .i64), (.int .i64), (.int .i64), (.int .i64), .bool, (.sl [(.int .i64), (.int .i64), (.int .i64), (.int .i64), (.int .i64), (.int .i64), .bool]), (.int .i64), (.int .i64)] b] [.sc .bool] fun o => o = [.bool (sameEffect a b)] := by
  refine PC.of_sig mix sig_80 ⟨rfl, rfl, trivial⟩ rfl fun hok => ?_
  have e_a : D.lst [a.fld 0, a.fld 1, a.fld 2, a.fld 3, a.fld 4, a.fld 5, a.fld 6, a.fld 7, a.fld 8, a.fld 9, a.fld 10, a.fld 11, a.fld 12, a.fld 13, a.fld 14, a.fld 15, a.fld 16, a.fld 17, a.fld 18, a.fld 19, a.fld 20, a.fld 21] = a := by simpa [List.range, List.range.loop] using okL_eta (hok _ (.head _))
  have k_a : okL [(.int .i64), (.int .i64), (.int .i64), (.int .i64), (.int .i64), (.int .i64), (.int .i64), (.int .i64), (.int .i64), (.int .i64), (.int .i64), (.int .i64), (.int .i64), (.int .i64), (.int .i64), (.int .i64), (.int .i64), (.int .i64), .bool, (.sl [(.int .i64), (.int .i64), (.int .i64), (.int .i64), (.int .i64), (.int .i64), .bool]), (.int .i64), (.int .i64)] a := (hok _ (.head _))
  have e_a_19 : D.lst (a.fld 19).toL = a.fld 19 := sl_eta (okL_at k_a (i := 19) rfl)
  have l_a_19 := sl_len (okL_at k_a (i := 19) rfl)
  have k_a_19 := sl_all (okL_at k_a (i := 19) rfl)
  have E_a_19 : ∀ i, i < (a.fld 19).toL.length → D.lst [((a.fld 19).elem i).fld 0, ((a.fld 19).elem i).fld 1, ((a.fld 19).elem i).fld 2, ((a.fld 19).elem i).fld 3, ((a.fld 19).elem i).fld 4, ((a.fld 19).elem i).fld 5, ((a.fld 19).elem i).fld 6] = (a.fld 19).elem i := fun i hi => by simpa [List.range, List.range.loop] using okL_eta (k_a_19 _ (elem_mem hi))
  have e_b : D.lst [b.fld 0, b.fld 1, b.fld 2, b.fld 3, b.fld 4, b.fld 5, b.fld 6, b.fld 7, b.fld 8, b.fld 9, b.fld 10, b.fld 11, b.fld 12, b.fld 13, b.fld 14, b.fld 15, b.fld 16, b.fld 17, b.fld 18, b.fld 19, b.fld 20, b.fld 21] = b := by simpa [List.range, List.range.loop] using okL_eta (hok _ (.tail _ (.head _)))
  have k_b : okL [(.int .i64), (.int .i64), (.int .i64), (.int .i64), (.int .i64), (.int .i64), (.int .i64), (.int .i64), (.int .i64), (.int .i64), (.int .i64), (.int .i64), (.int .i64), (.int .i64), (.int .i64), (.int .i64), (.int .i64), (.int .i64), .bool, (.sl [(.int .i64), (.int .i64), (.int .i64), (.int .i64), (.int .i64), (.int .i64), .bool]), (.int .i64), (.int .i64)] b := (hok _ (.tail _ (.head _)))
  have e_b_19 : D.lst (b.fld 19).toL = b.fld 19 := sl_eta (okL_at k_b (i := 19) rfl)
  have l_b_19 := sl_len (okL_at k_b (i := 19) rfl)
  have k_b_19 := sl_all (okL_at k_b (i := 19) rfl)
  have E_b_19 : ∀ i, i < (b.fld 19).toL.length → D.lst [((b.fld 19).elem i).fld 0, ((b.fld 19).elem i).fld 1, ((b.fld 19).elem i).fld 2, ((b.fld 19).elem i).fld 3, ((b.fld 19).elem i).fld 4, ((b.fld 19).elem i).fld 5, ((b.fld 19).elem i).fld 6] = (b.fld 19).elem i := fun i hi => by simpa [List.range, List.range.loop] using okL_eta (k_b_19 _ (elem_mem hi))
  apply says_den (φ := (phi_80))
  simp [e_a_19, E_a_19, e_b_19, E_b_19, e_a, e_b, tree_80, T.says, X.den, O1.den, O2.den, O3.den, callD, XArg.ev, XArg.dat, Callee'.num, backs, DArg.back, Conds.den, cloArgs, phi_80, pd_167, sameEffect, sameAct]
  all_goals grind
theorem pd_80 (a b : D) (Q : List D → Prop) (ho : Q [.bool (sameEffect a b)]) : PC Try.prog 80 [.st [(.int .i64), (.int .i64), (.int .i64), (.int .i64), (.int .i64), (.int .i64), (.int .i64), (.int .i64), (.int .i64), (.int .i64), (.int .i64), (.int .i64), (.int .i64), (.int .i64), (.int .i64), (.int .i64), (.int .i64), (.int .i64), .bool, (.sl [(.int .i64), (.int .i64), (.int .i64), (.int .i64), (.int .i64), (.int .i64), .bool]), (.int .i64), (.int .i64)] a, .st [(.int .i64), (.int .i64), (.int .i64), (.int .i64), (.int .i64), (.int .i64), (.int .i64), (.int .i64), (.int .i64), (.int .i64), (.int .i64), (.int .i64), (.int .i64), (.int .i64), (.int .i64), (.int .i64), (.int .i64), (.int .i64), .bool, (.sl [(.int .i64), (.int .i64), (.int .i64), (.int .i64), (.int .i64), (.int .i64), .bool]), (.int .i64), (.int .i64)] b] [.sc .bool] Q := (pc_80 a b).mono fun _ h => h ▸ ho
/- spec.Upto -/
theorem pc_138 (a b : D) : PC Try.prog 138 [.sc (.int .i64) a, .sc (.int .i64) b] [.sc (.int .i64)] fun o => o = [.int (upto a.toI b.toI)] := by
  refine PC.of_sig mix sig_138 ⟨rfl, rfl, trivial⟩ rfl fun hok => ?_
  have e_a := int_eta (hok _ (.head _))
  have b_a := int_range (hok _ (.head _))
  have e_b := int_eta (hok _ (.tail _ (.head _)))
  have b_b := int_range (hok _ (.tail _ (.head _)))
  apply says_den (φ := fun _ _ => [])
  simp [e_a, e_b, tree_138, T.says, X.den, O1.den, O2.den, O3.den, callD, XArg.ev, XArg.dat, Callee'.num, backs, DArg.back, Conds.den, cloArgs]
  grind [upto]
theorem pd_138 (a b : D) (Q : List D → Prop) (ho : Q [.int (upto a.toI b.toI)]) : PC Try.prog 138 [.sc (.int .i64) a, .sc (.int .i64) b] [.sc (.int .i64)] Q := (pc_138 a b).mono fun _ h => h ▸ ho
/- spec.l9Copy -/
theorem pc_206 (a : D) (h : ((a.fld 6).toL.length : Int) ≤ 1048576) : PC Try.prog 206 [.st [(.int .i64), (.int .i64), (.int .i64), (.int .i64), (.int .i64), .bool, (.sl [(.int .i64), (.int .i64), (.int .i64), (.int .i64), (.int .i64), (.int .i64), .bool])] a] [.st [(.int .i64), (.int .i64), (.int .i64), (.int .i64), (.int .i64), .bool, (.sl [(.int .i64), (.int .i64), (.int .i64), (.int .i64), (.int .i64), (.int .i64), .bool])]] fun o => o = [a] := by
  refine PC.of_sig mix sig_206 ⟨rfl, trivial⟩ rfl fun hok => ?_
  have e_a : D.lst [a.fld 0, a.fld 1, a.fld 2, a.fld 3, a.fld 4, a.fld 5, a.fld 6] = a := by simpa [List.range, List.range.loop] using okL_eta (hok _ (.head _))
  have k_a : okL [(.int .i64), (.int .i64), (.int .i64), (.int .i64), (.int .i64), .bool, (.sl [(.int .i64), (.int .i64), (.int .i64), (.int .i64), (.int .i64), (.int .i64), .bool])] a := (hok _ (.head _))
  have e_a_6 : D.lst (a.fld 6).toL = a.fld 6 := sl_eta (okL_at k_a (i := 6) rfl)
  have l_a_6 := sl_len (okL_at k_a (i := 6) rfl)
  have k_a_6 := sl_all (okL_at k_a (i := 6) rfl)
  have E_a_6 : ∀ i, i < (a.fld 6).toL.length → D.lst [((a.fld 6).elem i).fld 0, ((a.fld 6).elem i).fld 1, ((a.fld 6).elem i).fld 2, ((a.fld 6).elem i).fld 3, ((a.fld 6).elem i).fld 4, ((a.fld 6).elem i).fld 5, ((a.fld 6).elem i).fld 6] = (a.fld 6).elem i := fun i hi => by simpa [List.range, List.range.loop] using okL_eta (k_a_6 _ (elem_mem hi))
  apply says_den (φ := fun _ _ => [])
  simp [e_a_6, E_a_6, e_a, tree_206, T.says, X.den, O1.den, O2.den, O3.den, callD, XArg.ev, XArg.dat, Callee'.num, backs, DArg.back, Conds.den, cloArgs]
  all_goals omega
theorem pd_206 (a : D) (h : ((a.fld 6).toL.length : Int) ≤ 1048576) (Q : List D → Prop) (ho : Q [a]) : PC Try.prog 206 [.st [(.int .i64), (.int .i64), (.int .i64), (.int .i64), (.int .i64), .bool, (.sl [(.int .i64), (.int .i64), (.int .i64), (.int .i64), (.int .i64), (.int .i64), .bool])] a] [.st [(.int .i64), (.int .i64), (.int .i64), (.int .i64), (.int .i64), .bool, (.sl [(.int .i64), (.int .i64), (.int .i64), (.int .i64), (.int .i64), (.int .i64), .bool])]] Q := (pc_206 a h).mono fun _ h => h ▸ ho
/- spec.l10Copy -/
def phi_168 : Nat → List D → List D
  | 206, [a] => [a]
  | _, _ => []
theorem pc_168 (e : D) (h : ((e.fld 19).toL.length : Int) ≤ 1048576) : PC Try.prog 168 [.st [(.int .i64), (.int .i64), (.int .i64), (.int .i64), (.int .i64), (.int .i64), (.int .i64), (.int .i64), (.int .i64), (.int .i64), (.int .i64), (.int .i64), (.int .i64), (.int .i64), (.int .i64), (.int .i64), (.int .i64), (.int .i64), .bool, (.sl [(.int .i64), (.int .i64), (.int .i64), (.int .i64), (.int .i64), (.int .i64), .bool]), (.int .i64), (.int .i64)] e] [.st [(.int .i64), (.int .i64), (.int .i64), (.int .i64), (.int .i64), (.int .i64), (.int .i64), (.int .i64), (.int .i64), (.int .i64), (.int .i64), (.int .i64), (.int .i64), (.int .i64), (.int .i64), (.int .i64), (.int .i64), (.int .i64), .bool, (.sl [(.int .i64), (.int .i64), (.int .i64), (.int .i64), (.int .i64), (.int .i64), .bool]), (.int .i64), (.int .i64)]] fun o => o = [e] := by
  refine PC.of_sig mix sig_168 ⟨rfl, trivial⟩ rfl fun hok => ?_
  have e_e : D.lst [e.fld 0, e.fld 1, e.fld 2, e.fld 3, e.fld 4, e.fld 5, e.fld 6, e.fld 7, e.fld 8, e.fld 9, e.fld 10, e.fld 11, e.fld 12, e.fld 13, e.fld 14, e.fld 15, e.fld 16, e.fld 17, e.fld 18, e.fld 19, e.fld 20, e.fld 21] = e := by simpa [List.range, List.range.loop] using okL_eta (hok _ (.head _))
  have k_e : okL [(.int .i64), (.int .i64), (.int .i64), (.int .i64), (.int .i64), (.int .i64), (.int .i64), (.int .i64), (.int .i64), (.int .i64), (.int .i64), (.int .i64), (.int .i64), (.int .i64), (.int .i64), (.int .i64), (.int .i64), (.int .i64), .bool, (.sl [(.int .i64), (.int .i64), (.int .i64), (.int .i64), (.int .i64), (.int .i64), .bool]), (.int .i64), (.int .i64)] e := (hok _ (.head _))
  have e_e_19 : D.lst (e.fld 19).toL = e.fld 19 := sl_eta (okL_at k_e (i := 19) rfl)
  have l_e_19 := sl_len (okL_at k_e (i := 19) rfl)
  have k_e_19 := sl_all (okL_at k_e (i := 19) rfl)
  have E_e_19 : ∀ i, i < (e.fld 19).toL.length → D.lst [((e.fld 19).elem i).fld 0, ((e.fld 19).elem i).fld 1, ((e.fld 19).elem i).fld 2, ((e.fld 19).elem i).fld 3, ((e.fld 19).elem i).fld 4, ((e.fld 19).elem i).fld 5, ((e.fld 19).elem i).fld 6] = (e.fld 19).elem i := fun i hi => by simpa [List.range, List.range.loop] using okL_eta (k_e_19 _ (elem_mem hi))
  apply says_den (φ := (phi_168))
  simp [e_e_19, E_e_19, e_e, tree_168, T.says, X.den, O1.den, O2.den, O3.den, callD, XArg.ev, XArg.dat, Callee'.num, backs, DArg.back, Conds.den, cloArgs, phi_168, pd_206, h]
theorem pd_168 (e : D) (h : ((e.fld 19).toL.length : Int) ≤ 1048576) (Q : List D → Prop) (ho : Q [e]) : PC Try.prog 168 [.st [(.int .i64), (.int .i64), (.int .i64), (.int .i64), (.int .i64), (.int .i64), (.int .i64), (.int .i64), (.int .i64), (.int .i64), (.int .i64), (.int .i64), (.int .i64), (.int .i64), (.int .i64), (.int .i64), (.int .i64), (.int .i64), .bool, (.sl [(.int .i64), (.int .i64), (.int .i64), (.int .i64), (.int .i64), (.int .i64), .bool]), (.int .i64), (.int .i64)] e] [.st [(.int .i64), (.int .i64), (.int .i64), (.int .i64), (.int .i64), (.int .i64), (.int .i64), (.int .i64), (.int .i64), (.int .i64), (.int .i64), (.int .i64), (.int .i64), (.int .i64), (.int .i64), (.int .i64), (.int .i64), (.int .i64), .bool, (.sl [(.int .i64), (.int .i64), (.int .i64), (.int .i64), (.int .i64), (.int .i64), .bool]), (.int .i64), (.int .i64)]] Q := (pc_168 e h).mono fun _ h => h ▸ ho
/- spec.Bound -/
theorem pc_197 (a : D) : PC Try.prog 197 [.sc (.int .i64) a] [.sc (.int .i64)] fun o => o = [.int (bound a.toI)] := by
  refine PC.of_sig mix sig_197 ⟨rfl, trivial⟩ rfl fun hok => ?_
  have e_a := int_eta (hok _ (.head _))
  have b_a := int_range (hok _ (.head _))
  apply says_den (φ := fun _ _ => [])
  simp [e_a, tree_197, T.says, X.den, O1.den, O2.den, O3.den, callD, XArg.ev, XArg.dat, Callee'.num, backs, DArg.back, Conds.den, cloArgs]
  (repeat' (first | (with_reducible apply And.intro) | intro _)) <;> grind [bound]
theorem pd_197 (a : D) (Q : List D → Prop) (ho : Q [.int (bound a.toI)]) : PC Try.prog 197 [.sc (.int .i64) a] [.sc (.int .i64)] Q := (pc_197 a).mono fun _ h => h ▸ ho
/- spec.Less -/
def phi_169 : Nat → List D → List D
  | 197, [a] => [.int (bound a.toI)]
  | _, _ => []
theorem pc_169 (a b : D) : PC Try.prog 169 [.sc (.int .i64) a, .sc (.int .i64) b] [.sc (.int .i64)] fun o => o = [.int (less a.toI b.toI)] := by
  refine PC.of_sig mix sig_169 ⟨rfl, rfl, trivial⟩ rfl fun hok => ?_
  have e_a := int_eta (hok _ (.head _))
  have b_a := int_range (hok _ (.head _))
  have e_b := int_eta (hok _ (.tail _ (.head _)))
  have b_b := int_range (hok _ (.tail _ (.head _)))
  apply says_den (φ := (phi_169))
  simp [e_a, e_b, tree_169, T.says, X.den, O1.den, O2.den, O3.den, callD, XArg.ev, XArg.dat, Callee'.num, backs, DArg.back, Conds.den, cloArgs, phi_169, pd_197, less]
theorem pd_169 (a b : D) (Q : List D → Prop) (ho : Q [.int (less a.toI b.toI)]) : PC Try.prog 169 [.sc (.int .i64) a, .sc (.int .i64) b] [.sc (.int .i64)] Q := (pc_169 a b).mono fun _ h => h ▸ ho
/- spec.Spent -/
def phi_81 : Nat → List D → List D
  | 138, [a, b] => [.int (upto a.toI b.toI)]
  | 168, [e] => [e]
  | 169, [a, b] => [.int (less a.toI b.toI)]
  | _, _ => []
theorem pc_81 (e n : D) (h : ((e.fld 19).toL.length : Int) ≤ 1048576) : PC Try.prog 81 [.st [(.int .i64), (.int .i64), (.int .i64), (.int .i64), (.int .i64), (.int .i64), (.int .i64), (.int .i64), (.int .i64), (.int .i64), (.int .i64), (.int .i64), (.int .i64), (.int .i64), (.int .i64), (.int .i64), (.int .i64), (.int .i64), .bool, (.sl [(.int .i64), (.int .i64), (.int .i64), (.int .i64), (.int .i64), (.int .i64), .bool]), (.int .i64), (.int .i64)] e, .sc (.int .i64) n] [.st [(.int .i64), (.int .i64), (.int .i64), (.int .i64), (.int .i64), (.int .i64), (.int .i64), (.int .i64), (.int .i64), (.int .i64), (.int .i64), (.int .i64), (.int .i64), (.int .i64), (.int .i64), (.int .i64), (.int .i64), (.int .i64), .bool, (.sl [(.int .i64), (.int .i64), (.int .i64), (.int .i64), (.int .i64), (.int .i64), .bool]), (.int .i64), (.int .i64)]] fun o => o = [spent e n.toI] := by
  refine PC.of_sig mix sig_81 ⟨rfl, rfl, trivial⟩ rfl fun hok => ?_
  have e_e : D.lst [e.fld 0, e.fld 1, e.fld 2, e.fld 3, e.fld 4, e.fld 5, e.fld 6, e.fld 7, e.fld 8, e.fld 9, e.fld 10, e.fld 11, e.fld 12, e.fld 13, e.fld 14, e.fld 15, e.fld 16, e.fld 17, e.fld 18, e.fld 19, e.fld 20, e.fld 21] = e := by simpa [List.range, List.range.loop] using okL_eta (hok _ (.head _))
  have k_e : okL [(.int .i64), (.int .i64), (.int .i64), (.int .i64), (.int .i64), (.int .i64), (.int .i64), (.int .i64), (.int .i64), (.int .i64), (.int .i64), (.int .i64), (.int .i64), (.int .i64), (.int .i64), (.int .i64), (.int .i64), (.int .i64), .bool, (.sl [(.int .i64), (.int .i64), (.int .i64), (.int .i64), (.int .i64), (.int .i64), .bool]), (.int .i64), (.int .i64)] e := (hok _ (.head _))
  have e_e_19 : D.lst (e.fld 19).toL = e.fld 19 := sl_eta (okL_at k_e (i := 19) rfl)
  have l_e_19 := sl_len (okL_at k_e (i := 19) rfl)
  have k_e_19 := sl_all (okL_at k_e (i := 19) rfl)
  have E_e_19 : ∀ i, i < (e.fld 19).toL.length → D.lst [((e.fld 19).elem i).fld 0, ((e.fld 19).elem i).fld 1, ((e.fld 19).elem i).fld 2, ((e.fld 19).elem i).fld 3, ((e.fld 19).elem i).fld 4, ((e.fld 19).elem i).fld 5, ((e.fld 19).elem i).fld 6] = (e.fld 19).elem i := fun i hi => by simpa [List.range, List.range.loop] using okL_eta (k_e_19 _ (elem_mem hi))
  have e_n := int_eta (hok _ (.tail _ (.head _)))
  have b_n := int_range (hok _ (.tail _ (.head _)))
  apply says_den (φ := (phi_81))
  simp [e_e_19, E_e_19, e_e, e_n, tree_81, T.says, X.den, O1.den, O2.den, O3.den, callD, XArg.ev, XArg.dat, Callee'.num, backs, DArg.back, Conds.den, cloArgs, phi_81, pd_138, pd_168, pd_169, h, spent]
  all_goals grind
theorem pd_81 (e n : D) (h : ((e.fld 19).toL.length : Int) ≤ 1048576) (Q : List D → Prop) (ho : Q [spent e n.toI]) : PC Try.prog 81 [.st [(.int .i64), (.int .i64), (.int .i64), (.int .i64), (.int .i64), (.int .i64), (.int .i64), (.int .i64), (.int .i64), (.int .i64), (.int .i64), (.int .i64), (.int .i64), (.int .i64), (.int .i64), (.int .i64), (.int .i64), (.int .i64), .bool, (.sl [(.int .i64), (.int .i64), (.int .i64), (.int .i64), (.int .i64), (.int .i64), .bool]), (.int .i64), (.int .i64)] e, .sc (.int .i64) n] [.st [(.int .i64), (.int .i64), (.int .i64), (.int .i64), (.int .i64), (.int .i64), (.int .i64), (.int .i64), (.int .i64), (.int .i64), (.int .i64), (.int .i64), (.int .i64), (.int .i64), (.int .i64), (.int .i64), (.int .i64), (.int .i64), .bool, (.sl [(.int .i64), (.int .i64), (.int .i64), (.int .i64), (.int .i64), (.int .i64), .bool]), (.int .i64), (.int .i64)]] Q := (pc_81 e n h).mono fun _ h => h ▸ ho
/- impl.from -/
theorem pc_123 (a b c : D) : PC Try.prog 123 [.sc (.int .i64) a, .sc (.int .i64) b, .sc (.int .i64) c] [.sc .bool] fun o => o = [.bool (inR a.toI b.toI c.toI)] := by
  refine PC.of_sig mix sig_123 ⟨rfl, rfl, rfl, trivial⟩ rfl fun hok => ?_
  have e_a := int_eta (hok _ (.head _))
  have b_a := int_range (hok _ (.head _))
  have e_b := int_eta (hok _ (.tail _ (.head _)))
  have b_b := int_range (hok _ (.tail _ (.head _)))
  have e_c := int_eta (hok _ (.tail _ (.tail _ (.head _))))
  have b_c := int_range (hok _ (.tail _ (.tail _ (.head _))))
  apply says_den (φ := fun _ _ => [])
  simp [e_a, e_b, e_c, tree_123, T.says, X.den, O1.den, O2.den, O3.den, callD, XArg.ev, XArg.dat, Callee'.num, backs, DArg.back, Conds.den, cloArgs, inR]
theorem pd_123 (a b c : D) (Q : List D → Prop) (ho : Q [.bool (inR a.toI b.toI c.toI)]) : PC Try.prog 123 [.sc (.int .i64) a, .sc (.int .i64) b, .sc (.int .i64) c] [.sc .bool] Q := (pc_123 a b c).mono fun _ h => h ▸ ho
/- impl.isKind -/
def phi_122 : Nat → List D → List D
  | 123, [a, b, c] => [.bool (inR a.toI b.toI c.toI)]
  | _, _ => []
theorem pc_122 (a : D) : PC Try.prog 122 [.sc (.int .i64) a] [.sc .bool] fun o => o = [.bool (inR a.toI 1 6)] := by
  refine PC.of_sig mix sig_122 ⟨rfl, trivial⟩ rfl fun hok => ?_
  have e_a := int_eta (hok _ (.head _))
  have b_a := int_range (hok _ (.head _))
  apply says_den (φ := (phi_122))
  simp [e_a, tree_122, T.says, X.den, O1.den, O2.den, O3.den, callD, XArg.ev, XArg.dat, Callee'.num, backs, DArg.back, Conds.den, cloArgs, phi_122, pd_123]
theorem pd_122 (a : D) (Q : List D → Prop) (ho : Q [.bool (inR a.toI 1 6)]) : PC Try.prog 122 [.sc (.int .i64) a] [.sc .bool] Q := (pc_122 a).mono fun _ h => h ▸ ho
/- impl.isTraits -/
def phi_124 : Nat → List D → List D
  | 123, [a, b, c] => [.bool (inR a.toI b.toI c.toI)]
  | _, _ => []
theorem pc_124 (a : D) : PC Try.prog 124 [.sc (.int .i64) a] [.sc .bool] fun o => o = [.bool (inR a.toI 0 63)] := by
  refine PC.of_sig mix sig_124 ⟨rfl, trivial⟩ rfl fun hok => ?_
  have e_a := int_eta (hok _ (.head _))
  have b_a := int_range (hok _ (.head _))
  apply says_den (φ := (phi_124))
  simp [e_a, tree_124, T.says, X.den, O1.den, O2.den, O3.den, callD, XArg.ev, XArg.dat, Callee'.num, backs, DArg.back, Conds.den, cloArgs, phi_124, pd_123]
theorem pd_124 (a : D) (Q : List D → Prop) (ho : Q [.bool (inR a.toI 0 63)]) : PC Try.prog 124 [.sc (.int .i64) a] [.sc .bool] Q := (pc_124 a).mono fun _ h => h ▸ ho
/- impl.isAmount -/
def phi_125 : Nat → List D → List D
  | 123, [a, b, c] => [.bool (inR a.toI b.toI c.toI)]
  | _, _ => []
theorem pc_125 (a : D) : PC Try.prog 125 [.sc (.int .i64) a] [.sc .bool] fun o => o = [.bool (inR a.toI 0 2147483647)] := by
  refine PC.of_sig mix sig_125 ⟨rfl, trivial⟩ rfl fun hok => ?_
  have e_a := int_eta (hok _ (.head _))
  have b_a := int_range (hok _ (.head _))
  apply says_den (φ := (phi_125))
  simp [e_a, tree_125, T.says, X.den, O1.den, O2.den, O3.den, callD, XArg.ev, XArg.dat, Callee'.num, backs, DArg.back, Conds.den, cloArgs, phi_125, pd_123]
theorem pd_125 (a : D) (Q : List D → Prop) (ho : Q [.bool (inR a.toI 0 2147483647)]) : PC Try.prog 125 [.sc (.int .i64) a] [.sc .bool] Q := (pc_125 a).mono fun _ h => h ▸ ho
/- impl.PatOk -/
def phi_26 : Nat → List D → List D
  | 122, [a] => [.bool (inR a.toI 1 6)]
  | 123, [a, b, c] => [.bool (inR a.toI b.toI c.toI)]
  | 124, [a] => [.bool (inR a.toI 0 63)]
  | 125, [a] => [.bool (inR a.toI 0 2147483647)]
  | _, _ => []
theorem pc_26 (d : D) : PC Try.prog 26 [.st [(.int .i64), (.int .i64), (.int .i64), (.int .i64), (.int .i64), (.int .i64), (.int .i64)] d] [.sc .bool] fun o => o = [.bool (patOk d)] := by
  refine PC.of_sig mix sig_26 ⟨rfl, trivial⟩ rfl fun hok => ?_
  have e_d : D.lst [d.fld 0, d.fld 1, d.fld 2, d.fld 3, d.fld 4, d.fld 5, d.fld 6] = d := by simpa [List.range, List.range.loop] using okL_eta (hok _ (.head _))
  have k_d : okL [(.int .i64), (.int .i64), (.int .i64), (.int .i64), (.int .i64), (.int .i64), (.int .i64)] d := (hok _ (.head _))
  apply says_den (φ := (phi_26))
  simp [e_d, tree_26, T.says, X.den, O1.den, O2.den, O3.den, callD, XArg.ev, XArg.dat, Callee'.num, backs, DArg.back, Conds.den, cloArgs, phi_26, pd_122, pd_123, pd_124, pd_125]
  (repeat' (first | (with_reducible apply And.intro) | intro _)) <;> grind [patOk]
theorem pd_26 (d : D) (Q : List D → Prop) (ho : Q [.bool (patOk d)]) : PC Try.prog 26 [.st [(.int .i64), (.int .i64), (.int .i64), (.int .i64), (.int .i64), (.int .i64), (.int .i64)] d] [.sc .bool] Q := (pc_26 d).mono fun _ h => h ▸ ho
/- impl.GuardOk -/
def phi_34 : Nat → List D → List D
  | 123, [a, b, c] => [.bool (inR a.toI b.toI c.toI)]
  | 131, [a] => [.int (bound a.toI)]
  | _, _ => []
theorem pc_34 (d : D) : PC Try.prog 34 [.st [(.int .i64), (.int .i64)] d] [.sc .bool] fun o => o = [.bool (guardOk d)] := by
  refine PC.of_sig mix sig_34 ⟨rfl, trivial⟩ rfl fun hok => ?_
  have e_d : D.lst [d.fld 0, d.fld 1] = d := by simpa [List.range, List.range.loop] using okL_eta (hok _ (.head _))
  have k_d : okL [(.int .i64), (.int .i64)] d := (hok _ (.head _))
  apply says_den (φ := (phi_34))
  simp [e_d, tree_34, T.says, X.den, O1.den, O2.den, O3.den, callD, XArg.ev, XArg.dat, Callee'.num, backs, DArg.back, Conds.den, cloArgs, phi_34, pd_123, pd_131]
  (repeat' (first | (with_reducible apply And.intro) | intro _)) <;> grind [guardOk, inR, bound]
theorem pd_34 (d : D) (Q : List D → Prop) (ho : Q [.bool (guardOk d)]) : PC Try.prog 34 [.st [(.int .i64), (.int .i64)] d] [.sc .bool] Q := (pc_34 d).mono fun _ h => h ▸ ho
/- impl.isId -/
def phi_142 : Nat → List D → List D
  | 123, [a, b, c] => [.bool (inR a.toI b.toI c.toI)]
  | _, _ => []
theorem pc_142 (a : D) : PC Try.prog 142 [.sc (.int .i64) a] [.sc .bool] fun o => o = [.bool (inR a.toI 1 99)] := by
  refine PC.of_sig mix sig_142 ⟨rfl, trivial⟩ rfl fun hok => ?_
  have e_a := int_eta (hok _ (.head _))
  have b_a := int_range (hok _ (.head _))
  apply says_den (φ := (phi_142))
  simp [e_a, tree_142, T.says, X.den, O1.den, O2.den, O3.den, callD, XArg.ev, XArg.dat, Callee'.num, backs, DArg.back, Conds.den, cloArgs, phi_142, pd_123]
theorem pd_142 (a : D) (Q : List D → Prop) (ho : Q [.bool (inR a.toI 1 99)]) : PC Try.prog 142 [.sc (.int .i64) a] [.sc .bool] Q := (pc_142 a).mono fun _ h => h ▸ ho
/- impl.isPlayer -/
def phi_143 : Nat → List D → List D
  | 123, [a, b, c] => [.bool (inR a.toI b.toI c.toI)]
  | _, _ => []
theorem pc_143 (a : D) : PC Try.prog 143 [.sc (.int .i64) a] [.sc .bool] fun o => o = [.bool (inR a.toI 0 2)] := by
  refine PC.of_sig mix sig_143 ⟨rfl, trivial⟩ rfl fun hok => ?_
  have e_a := int_eta (hok _ (.head _))
  have b_a := int_range (hok _ (.head _))
  apply says_den (φ := (phi_143))
  simp [e_a, tree_143, T.says, X.den, O1.den, O2.den, O3.den, callD, XArg.ev, XArg.dat, Callee'.num, backs, DArg.back, Conds.den, cloArgs, phi_143, pd_123]
theorem pd_143 (a : D) (Q : List D → Prop) (ho : Q [.bool (inR a.toI 0 2)]) : PC Try.prog 143 [.sc (.int .i64) a] [.sc .bool] Q := (pc_143 a).mono fun _ h => h ▸ ho
/- impl.isZone -/
def phi_144 : Nat → List D → List D
  | 123, [a, b, c] => [.bool (inR a.toI b.toI c.toI)]
  | _, _ => []
theorem pc_144 (a : D) : PC Try.prog 144 [.sc (.int .i64) a] [.sc .bool] fun o => o = [.bool (inR a.toI 1 4)] := by
  refine PC.of_sig mix sig_144 ⟨rfl, trivial⟩ rfl fun hok => ?_
  have e_a := int_eta (hok _ (.head _))
  have b_a := int_range (hok _ (.head _))
  apply says_den (φ := (phi_144))
  simp [e_a, tree_144, T.says, X.den, O1.den, O2.den, O3.den, callD, XArg.ev, XArg.dat, Callee'.num, backs, DArg.back, Conds.den, cloArgs, phi_144, pd_123]
theorem pd_144 (a : D) (Q : List D → Prop) (ho : Q [.bool (inR a.toI 1 4)]) : PC Try.prog 144 [.sc (.int .i64) a] [.sc .bool] Q := (pc_144 a).mono fun _ h => h ▸ ho
/- impl.onPiece -/
def phi_150 : Nat → List D → List D
  | 142, [a] => [.bool (inR a.toI 1 99)]
  | _, _ => []
theorem pc_150 (e : D) : PC Try.prog 150 [.st [(.int .i64), (.int .i64), (.int .i64), (.int .i64), (.int .i64), (.int .i64), .bool] e] [.sc .bool] fun o => o = [.bool (onPiece e)] := by
  refine PC.of_sig mix sig_150 ⟨rfl, trivial⟩ rfl fun hok => ?_
  have e_e : D.lst [e.fld 0, e.fld 1, e.fld 2, e.fld 3, e.fld 4, e.fld 5, e.fld 6] = e := by simpa [List.range, List.range.loop] using okL_eta (hok _ (.head _))
  have k_e : okL [(.int .i64), (.int .i64), (.int .i64), (.int .i64), (.int .i64), (.int .i64), .bool] e := (hok _ (.head _))
  apply says_den (φ := (phi_150))
  simp [e_e, tree_150, T.says, X.den, O1.den, O2.den, O3.den, callD, XArg.ev, XArg.dat, Callee'.num, backs, DArg.back, Conds.den, cloArgs, phi_150, pd_142, onPiece]
theorem pd_150 (e : D) (Q : List D → Prop) (ho : Q [.bool (onPiece e)]) : PC Try.prog 150 [.st [(.int .i64), (.int .i64), (.int .i64), (.int .i64), (.int .i64), (.int .i64), .bool] e] [.sc .bool] Q := (pc_150 e).mono fun _ h => h ▸ ho
/- impl.onPlayer -/
def phi_151 : Nat → List D → List D
  | 143, [a] => [.bool (inR a.toI 0 2)]
  | _, _ => []
theorem pc_151 (e : D) : PC Try.prog 151 [.st [(.int .i64), (.int .i64), (.int .i64), (.int .i64), (.int .i64), (.int .i64), .bool] e] [.sc .bool] fun o => o = [.bool (onPlayer e)] := by
  refine PC.of_sig mix sig_151 ⟨rfl, trivial⟩ rfl fun hok => ?_
  have e_e : D.lst [e.fld 0, e.fld 1, e.fld 2, e.fld 3, e.fld 4, e.fld 5, e.fld 6] = e := by simpa [List.range, List.range.loop] using okL_eta (hok _ (.head _))
  have k_e : okL [(.int .i64), (.int .i64), (.int .i64), (.int .i64), (.int .i64), (.int .i64), .bool] e := (hok _ (.head _))
  apply says_den (φ := (phi_151))
  simp [e_e, tree_151, T.says, X.den, O1.den, O2.den, O3.den, callD, XArg.ev, XArg.dat, Callee'.num, backs, DArg.back, Conds.den, cloArgs, phi_151, pd_143, onPlayer]
theorem pd_151 (e : D) (Q : List D → Prop) (ho : Q [.bool (onPlayer e)]) : PC Try.prog 151 [.st [(.int .i64), (.int .i64), (.int .i64), (.int .i64), (.int .i64), (.int .i64), .bool] e] [.sc .bool] Q := (pc_151 e).mono fun _ h => h ▸ ho
/- impl.EventOk -/
def phi_58 : Nat → List D → List D
  | 125, [a] => [.bool (inR a.toI 0 2147483647)]
  | 142, [a] => [.bool (inR a.toI 1 99)]
  | 144, [a] => [.bool (inR a.toI 1 4)]
  | 150, [e] => [.bool (onPiece e)]
  | 151, [e] => [.bool (onPlayer e)]
  | _, _ => []
theorem pc_58 (e : D) : PC Try.prog 58 [.st [(.int .i64), (.int .i64), (.int .i64), (.int .i64), (.int .i64), (.int .i64), .bool] e] [.sc .bool] fun o => o = [.bool (eventOk e)] := by
  refine PC.of_sig mix sig_58 ⟨rfl, trivial⟩ rfl fun hok => ?_
  have e_e : D.lst [e.fld 0, e.fld 1, e.fld 2, e.fld 3, e.fld 4, e.fld 5, e.fld 6] = e := by simpa [List.range, List.range.loop] using okL_eta (hok _ (.head _))
  have k_e : okL [(.int .i64), (.int .i64), (.int .i64), (.int .i64), (.int .i64), (.int .i64), .bool] e := (hok _ (.head _))
  apply says_den (φ := (phi_58))
  simp [e_e, tree_58, T.says, X.den, O1.den, O2.den, O3.den, callD, XArg.ev, XArg.dat, Callee'.num, backs, DArg.back, Conds.den, cloArgs, phi_58, pd_125, pd_142, pd_144, pd_150, pd_151]
  (repeat' (first | (with_reducible apply And.intro) | intro _)) <;> grind [eventOk, inR]
theorem pd_58 (e : D) (Q : List D → Prop) (ho : Q [.bool (eventOk e)]) : PC Try.prog 58 [.st [(.int .i64), (.int .i64), (.int .i64), (.int .i64), (.int .i64), (.int .i64), .bool] e] [.sc .bool] Q := (pc_58 e).mono fun _ h => h ▸ ho
/- impl.partOk -/
def phi_147 : Nat → List D → List D
  | 58, [e] => [.bool (eventOk e)]
  | _, _ => []
theorem pc_147 (e : D) : PC Try.prog 147 [.st [(.int .i64), (.int .i64), (.int .i64), (.int .i64), (.int .i64), (.int .i64), .bool] e] [.sc .bool] fun o => o = [.bool (partOk e)] := by
  refine PC.of_sig mix sig_147 ⟨rfl, trivial⟩ rfl fun hok => ?_
  have e_e : D.lst [e.fld 0, e.fld 1, e.fld 2, e.fld 3, e.fld 4, e.fld 5, e.fld 6] = e := by simpa [List.range, List.range.loop] using okL_eta (hok _ (.head _))
  have k_e : okL [(.int .i64), (.int .i64), (.int .i64), (.int .i64), (.int .i64), (.int .i64), .bool] e := (hok _ (.head _))
  apply says_den (φ := (phi_147))
  have hneg : (e.fld 4).toI = -1 → eventOk e = false := by intro h; simp [eventOk, inR, h]
  simp [e_e, tree_147, T.says, X.den, O1.den, O2.den, O3.den, callD, XArg.ev, XArg.dat, Callee'.num, backs, DArg.back, Conds.den, cloArgs, phi_147, pd_58, partOk, ev0]
  all_goals grind
theorem pd_147 (e : D) (Q : List D → Prop) (ho : Q [.bool (partOk e)]) : PC Try.prog 147 [.st [(.int .i64), (.int .i64), (.int .i64), (.int .i64), (.int .i64), (.int .i64), .bool] e] [.sc .bool] Q := (pc_147 e).mono fun _ h => h ▸ ho
/- impl.ActOk$1 -/
def phi_146 : Nat → List D → List D
  | 147, [e] => [.bool (partOk e)]
  | _, _ => []
theorem pc_146 (e : D) : PC Try.prog 146 [.st [(.int .i64), (.int .i64), (.int .i64), (.int .i64), (.int .i64), (.int .i64), .bool] e] [.sc .bool] fun o => o = [.bool (!partOk e)] := by
  refine PC.of_sig mix sig_146 ⟨rfl, trivial⟩ rfl fun hok => ?_
  have e_e : D.lst [e.fld 0, e.fld 1, e.fld 2, e.fld 3, e.fld 4, e.fld 5, e.fld 6] = e := by simpa [List.range, List.range.loop] using okL_eta (hok _ (.head _))
  have k_e : okL [(.int .i64), (.int .i64), (.int .i64), (.int .i64), (.int .i64), (.int .i64), .bool] e := (hok _ (.head _))
  apply says_den (φ := (phi_146))
  simp [e_e, tree_146, T.says, X.den, O1.den, O2.den, O3.den, callD, XArg.ev, XArg.dat, Callee'.num, backs, DArg.back, Conds.den, cloArgs, phi_146, pd_147]
theorem pd_146 (e : D) (Q : List D → Prop) (ho : Q [.bool (!partOk e)]) : PC Try.prog 146 [.st [(.int .i64), (.int .i64), (.int .i64), (.int .i64), (.int .i64), (.int .i64), .bool] e] [.sc .bool] Q := (pc_146 e).mono fun _ h => h ▸ ho
/- slices.IndexFunc[[]impl.Event,impl.Event] -/
def phi_198 : Nat → List D → List D
  | 146, [e] => [.bool (!partOk e)]
  | 0, [e] => [.bool (!partOk e)]
  | _, _ => []
theorem pc_198 (a : D) : PC Try.prog 198 [.sc (.sl [(.int .i64), (.int .i64), (.int .i64), (.int .i64), (.int .i64), (.int .i64), .bool]) a, .clo 146 []] [.sc (.int .i64)] fun o => o = [.int (findR (fun i => !partOk (a.elem i)) a.toL.length)] := by
  refine PC.of_sig mix sig_198 ⟨rfl, trivial, trivial⟩ rfl fun hok => ?_
  have e_a := sl_eta (hok _ (.head _))
  have l_a := sl_len (hok _ (.head _))
  have k_a := sl_all (hok _ (.head _))
  have E_a : ∀ i, i < a.toL.length → D.lst [(a.elem i).fld 0, (a.elem i).fld 1, (a.elem i).fld 2, (a.elem i).fld 3, (a.elem i).fld 4, (a.elem i).fld 5, (a.elem i).fld 6] = a.elem i := fun i hi => by simpa [List.range, List.range.loop] using okL_eta (k_a _ (elem_mem hi))
  apply says_den (φ := (phi_198))
  simp [e_a, E_a, tree_198, T.says, X.den, O1.den, O2.den, O3.den, callD, XArg.ev, XArg.dat, Callee'.num, backs, DArg.back, Conds.den, cloArgs, phi_198, pd_146]
  refine fun _ => ?_
  refine den_for a.toL.length 0 (fun i => [.int i]) (fun i => ∀ j, j < i → (!partOk (a.elem j)) = false) (by simp) (by simp [X.den]) (by simp) fun i hi hR => ?_
  apply says_den (φ := (phi_198))
  by_cases hlt : i < a.toL.length
  · simp [e_a, E_a, tree_198, T.says, X.den, O1.den, O2.den, O3.den, callD, XArg.ev, XArg.dat, Callee'.num, backs, DArg.back, Conds.den, cloArgs, phi_198, pd_146, hlt]
    (repeat' (first | (with_reducible apply And.intro) | intro _))
    · exact (findR_some (p := fun i => !partOk (a.elem i)) hlt (by simp_all) hR).symm
    · (first | omega | (simp only [IntKind.wrap_i64, maxL] at *; omega) | (simp [IntKind.wrap_i64, maxL] at *; omega))
    · grind
  · simp [e_a, E_a, tree_198, T.says, X.den, O1.den, O2.den, O3.den, callD, XArg.ev, XArg.dat, Callee'.num, backs, DArg.back, Conds.den, cloArgs, phi_198, pd_146, hlt]
    (repeat' (first | (with_reducible apply And.intro) | intro _))
    · exact (findR_none fun j hj => hR j (by omega)).symm
theorem pd_198 (a : D) (Q : List D → Prop) (ho : Q [.int (findR (fun i => !partOk (a.elem i)) a.toL.length)]) : PC Try.prog 198 [.sc (.sl [(.int .i64), (.int .i64), (.int .i64), (.int .i64), (.int .i64), (.int .i64), .bool]) a, .clo 146 []] [.sc (.int .i64)] Q := (pc_198 a).mono fun _ h => h ▸ ho
/- slices.ContainsFunc[[]impl.Event,impl.Event] -/
def phi_145 : Nat → List D → List D
  | 146, [e] => [.bool (!partOk e)]
  | 198, [a, _] => [.int (findR (fun i => !partOk (a.elem i)) a.toL.length)]
  | 0, [e] => [.bool (!partOk e)]
  | _, _ => []
theorem pc_145 (a : D) : PC Try.prog 145 [.sc (.sl [(.int .i64), (.int .i64), (.int .i64), (.int .i64), (.int .i64), (.int .i64), .bool]) a, .clo 146 []] [.sc .bool] fun o => o = [.bool (!allR (fun i => partOk (a.elem i)) a.toL.length)] := by
  refine PC.of_sig mix sig_145 ⟨rfl, trivial, trivial⟩ rfl fun hok => ?_
  have e_a := sl_eta (hok _ (.head _))
  have l_a := sl_len (hok _ (.head _))
  have k_a := sl_all (hok _ (.head _))
  have E_a : ∀ i, i < a.toL.length → D.lst [(a.elem i).fld 0, (a.elem i).fld 1, (a.elem i).fld 2, (a.elem i).fld 3, (a.elem i).fld 4, (a.elem i).fld 5, (a.elem i).fld 6] = a.elem i := fun i hi => by simpa [List.range, List.range.loop] using okL_eta (k_a _ (elem_mem hi))
  apply says_den (φ := (phi_145))
  simp [e_a, E_a, tree_145, T.says, X.den, O1.den, O2.den, O3.den, callD, XArg.ev, XArg.dat, Callee'.num, backs, DArg.back, Conds.den, cloArgs, phi_145, pd_146, pd_198, findR_nn]
theorem pd_145 (a : D) (Q : List D → Prop) (ho : Q [.bool (!allR (fun i => partOk (a.elem i)) a.toL.length)]) : PC Try.prog 145 [.sc (.sl [(.int .i64), (.int .i64), (.int .i64), (.int .i64), (.int .i64), (.int .i64), .bool]) a, .clo 146 []] [.sc .bool] Q := (pc_145 a).mono fun _ h => h ▸ ho
/- impl.ActOk -/
def phi_43 : Nat → List D → List D
  | 123, [a, b, c] => [.bool (inR a.toI b.toI c.toI)]
  | 142, [a] => [.bool (inR a.toI 1 99)]
  | 143, [a] => [.bool (inR a.toI 0 2)]
  | 144, [a] => [.bool (inR a.toI 1 4)]
  | 145, [a, _] => [.bool (!allR (fun i => partOk (a.elem i)) a.toL.length)]
  | 146, [e] => [.bool (!partOk e)]
  | _, _ => []
theorem pc_43 (a : D) : PC Try.prog 43 [.st [(.int .i64), (.int .i64), (.int .i64), (.int .i64), (.int .i64), .bool, (.sl [(.int .i64), (.int .i64), (.int .i64), (.int .i64), (.int .i64), (.int .i64), .bool])] a] [.sc .bool] fun o => o = [.bool (actOk a)] := by
  refine PC.of_sig mix sig_43 ⟨rfl, trivial⟩ rfl fun hok => ?_
  have e_a : D.lst [a.fld 0, a.fld 1, a.fld 2, a.fld 3, a.fld 4, a.fld 5, a.fld 6] = a := by simpa [List.range, List.range.loop] using okL_eta (hok _ (.head _))
  have k_a : okL [(.int .i64), (.int .i64), (.int .i64), (.int .i64), (.int .i64), .bool, (.sl [(.int .i64), (.int .i64), (.int .i64), (.int .i64), (.int .i64), (.int .i64), .bool])] a := (hok _ (.head _))
  have e_a_6 : D.lst (a.fld 6).toL = a.fld 6 := sl_eta (okL_at k_a (i := 6) rfl)
  have l_a_6 := sl_len (okL_at k_a (i := 6) rfl)
  have k_a_6 := sl_all (okL_at k_a (i := 6) rfl)
  have E_a_6 : ∀ i, i < (a.fld 6).toL.length → D.lst [((a.fld 6).elem i).fld 0, ((a.fld 6).elem i).fld 1, ((a.fld 6).elem i).fld 2, ((a.fld 6).elem i).fld 3, ((a.fld 6).elem i).fld 4, ((a.fld 6).elem i).fld 5, ((a.fld 6).elem i).fld 6] = (a.fld 6).elem i := fun i hi => by simpa [List.range, List.range.loop] using okL_eta (k_a_6 _ (elem_mem hi))
  apply says_den (φ := (phi_43))
  simp [e_a_6, E_a_6, e_a, tree_43, T.says, X.den, O1.den, O2.den, O3.den, callD, XArg.ev, XArg.dat, Callee'.num, backs, DArg.back, Conds.den, cloArgs, phi_43, pd_123, pd_142, pd_143, pd_144, pd_145, pd_146]
  (repeat' (first | (with_reducible apply And.intro) | intro _))
  all_goals first | (exfalso; omega) | (grind [actOk, plain, inR]) | skip
theorem pd_43 (a : D) (Q : List D → Prop) (ho : Q [.bool (actOk a)]) : PC Try.prog 43 [.st [(.int .i64), (.int .i64), (.int .i64), (.int .i64), (.int .i64), .bool, (.sl [(.int .i64), (.int .i64), (.int .i64), (.int .i64), (.int .i64), (.int .i64), .bool])] a] [.sc .bool] Q := (pc_43 a).mono fun _ h => h ▸ ho
/- impl.ActFits -/
def phi_72 : Nat → List D → List D
  | 122, [a] => [.bool (inR a.toI 1 6)]
  | _, _ => []
theorem pc_72 (a n : D) : PC Try.prog 72 [.st [(.int .i64), (.int .i64), (.int .i64), (.int .i64), (.int .i64), .bool, (.sl [(.int .i64), (.int .i64), (.int .i64), (.int .i64), (.int .i64), (.int .i64), .bool])] a, .sc (.int .i64) n] [.sc .bool] fun o => o = [.bool (actFits a n.toI)] := by
  refine PC.of_sig mix sig_72 ⟨rfl, rfl, trivial⟩ rfl fun hok => ?_
  have e_a : D.lst [a.fld 0, a.fld 1, a.fld 2, a.fld 3, a.fld 4, a.fld 5, a.fld 6] = a := by simpa [List.range, List.range.loop] using okL_eta (hok _ (.head _))
  have k_a : okL [(.int .i64), (.int .i64), (.int .i64), (.int .i64), (.int .i64), .bool, (.sl [(.int .i64), (.int .i64), (.int .i64), (.int .i64), (.int .i64), (.int .i64), .bool])] a := (hok _ (.head _))
  have e_a_6 : D.lst (a.fld 6).toL = a.fld 6 := sl_eta (okL_at k_a (i := 6) rfl)
  have l_a_6 := sl_len (okL_at k_a (i := 6) rfl)
  have k_a_6 := sl_all (okL_at k_a (i := 6) rfl)
  have E_a_6 : ∀ i, i < (a.fld 6).toL.length → D.lst [((a.fld 6).elem i).fld 0, ((a.fld 6).elem i).fld 1, ((a.fld 6).elem i).fld 2, ((a.fld 6).elem i).fld 3, ((a.fld 6).elem i).fld 4, ((a.fld 6).elem i).fld 5, ((a.fld 6).elem i).fld 6] = (a.fld 6).elem i := fun i hi => by simpa [List.range, List.range.loop] using okL_eta (k_a_6 _ (elem_mem hi))
  have e_n := int_eta (hok _ (.tail _ (.head _)))
  have b_n := int_range (hok _ (.tail _ (.head _)))
  apply says_den (φ := (phi_72))
  simp [e_a_6, E_a_6, e_a, e_n, tree_72, T.says, X.den, O1.den, O2.den, O3.den, callD, XArg.ev, XArg.dat, Callee'.num, backs, DArg.back, Conds.den, cloArgs, phi_72, pd_122]
  (repeat' (first | (with_reducible apply And.intro) | intro _)) <;> grind [actFits]
theorem pd_72 (a n : D) (Q : List D → Prop) (ho : Q [.bool (actFits a n.toI)]) : PC Try.prog 72 [.st [(.int .i64), (.int .i64), (.int .i64), (.int .i64), (.int .i64), .bool, (.sl [(.int .i64), (.int .i64), (.int .i64), (.int .i64), (.int .i64), (.int .i64), .bool])] a, .sc (.int .i64) n] [.sc .bool] Q := (pc_72 a n).mono fun _ h => h ▸ ho
/- impl.EffectOk -/
def phi_82 : Nat → List D → List D
  | 26, [d] => [.bool (patOk d)]
  | 34, [d] => [.bool (guardOk d)]
  | 43, [a] => [.bool (actOk a)]
  | 72, [a, n] => [.bool (actFits a n.toI)]
  | 123, [a, b, c] => [.bool (inR a.toI b.toI c.toI)]
  | 142, [a] => [.bool (inR a.toI 1 99)]
  | 143, [a] => [.bool (inR a.toI 0 2)]
  | _, _ => []
theorem pc_82 (e : D) : PC Try.prog 82 [.st [(.int .i64), (.int .i64), (.int .i64), (.int .i64), (.int .i64), (.int .i64), (.int .i64), (.int .i64), (.int .i64), (.int .i64), (.int .i64), (.int .i64), (.int .i64), (.int .i64), (.int .i64), (.int .i64), (.int .i64), (.int .i64), .bool, (.sl [(.int .i64), (.int .i64), (.int .i64), (.int .i64), (.int .i64), (.int .i64), .bool]), (.int .i64), (.int .i64)] e] [.sc .bool] fun o => o = [.bool (effectOk e)] := by
  refine PC.of_sig mix sig_82 ⟨rfl, trivial⟩ rfl fun hok => ?_
  have e_e : D.lst [e.fld 0, e.fld 1, e.fld 2, e.fld 3, e.fld 4, e.fld 5, e.fld 6, e.fld 7, e.fld 8, e.fld 9, e.fld 10, e.fld 11, e.fld 12, e.fld 13, e.fld 14, e.fld 15, e.fld 16, e.fld 17, e.fld 18, e.fld 19, e.fld 20, e.fld 21] = e := by simpa [List.range, List.range.loop] using okL_eta (hok _ (.head _))
  have k_e : okL [(.int .i64), (.int .i64), (.int .i64), (.int .i64), (.int .i64), (.int .i64), (.int .i64), (.int .i64), (.int .i64), (.int .i64), (.int .i64), (.int .i64), (.int .i64), (.int .i64), (.int .i64), (.int .i64), (.int .i64), (.int .i64), .bool, (.sl [(.int .i64), (.int .i64), (.int .i64), (.int .i64), (.int .i64), (.int .i64), .bool]), (.int .i64), (.int .i64)] e := (hok _ (.head _))
  have e_e_19 : D.lst (e.fld 19).toL = e.fld 19 := sl_eta (okL_at k_e (i := 19) rfl)
  have l_e_19 := sl_len (okL_at k_e (i := 19) rfl)
  have k_e_19 := sl_all (okL_at k_e (i := 19) rfl)
  have E_e_19 : ∀ i, i < (e.fld 19).toL.length → D.lst [((e.fld 19).elem i).fld 0, ((e.fld 19).elem i).fld 1, ((e.fld 19).elem i).fld 2, ((e.fld 19).elem i).fld 3, ((e.fld 19).elem i).fld 4, ((e.fld 19).elem i).fld 5, ((e.fld 19).elem i).fld 6] = (e.fld 19).elem i := fun i hi => by simpa [List.range, List.range.loop] using okL_eta (k_e_19 _ (elem_mem hi))
  apply says_den (φ := (phi_82))
  simp [e_e_19, E_e_19, e_e, tree_82, T.says, X.den, O1.den, O2.den, O3.den, callD, XArg.ev, XArg.dat, Callee'.num, backs, DArg.back, Conds.den, cloArgs, phi_82, pd_26, pd_34, pd_43, pd_72, pd_123, pd_142, pd_143, effectOk, patOf, grdOf, actOf]
  all_goals grind [inR]
theorem pd_82 (e : D) (Q : List D → Prop) (ho : Q [.bool (effectOk e)]) : PC Try.prog 82 [.st [(.int .i64), (.int .i64), (.int .i64), (.int .i64), (.int .i64), (.int .i64), (.int .i64), (.int .i64), (.int .i64), (.int .i64), (.int .i64), (.int .i64), (.int .i64), (.int .i64), (.int .i64), (.int .i64), (.int .i64), (.int .i64), .bool, (.sl [(.int .i64), (.int .i64), (.int .i64), (.int .i64), (.int .i64), (.int .i64), .bool]), (.int .i64), (.int .i64)] e] [.sc .bool] Q := (pc_82 e).mono fun _ h => h ▸ ho
end Go.Proofs.Ytammagpahfmenaa
