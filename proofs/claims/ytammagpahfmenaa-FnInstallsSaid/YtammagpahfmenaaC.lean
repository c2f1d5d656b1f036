/- The contracts of the functions that this claim reaches: what each hands back, for all data. -/
import Derived.Test.YtammagpahfmenaaCA
import Derived.Test.YtammagpahfmenaaT
import Derived.Test.YtammagpahfmenaaS
import Derived.Deep.LoopGhost
import Derived.Deep.RegionLaw
import Derived.Lib.AppendZerosOnto
import Derived.Lib.Overlaps
import Derived.Lib.SliceRun
import Derived.Lib.Walk
import Derived.ProofKit
import Derived.Shelf.RegionOpenPlain
import Derived.Shelf.Spec.SlicesInsert
import Derived.WalkKit
namespace Go.Proofs.Ytammagpahfmenaa
open Go.Proofs.Ytammagpahfmenaa.Eng
set_option maxRecDepth 100000
set_option maxHeartbeats 2000000
set_option linter.unusedSimpArgs false
set_option linter.unusedVariables false
/- spec.l11Copy -/
def phi_175 : Nat → List D → List D
  | 168, [e] => [e]
  | _, _ => []
theorem pc_175 (d : D) (h : smallE d) : PC Try.prog 175 [.sc (.sl [(.int .i64), (.int .i64), (.int .i64), (.int .i64), (.int .i64), (.int .i64), (.int .i64), (.int .i64), (.int .i64), (.int .i64), (.int .i64), (.int .i64), (.int .i64), (.int .i64), (.int .i64), (.int .i64), (.int .i64), (.int .i64), .bool, (.sl [(.int .i64), (.int .i64), (.int .i64), (.int .i64), (.int .i64), (.int .i64), .bool]), (.int .i64), (.int .i64)]) d] [.sc (.sl [(.int .i64), (.int .i64), (.int .i64), (.int .i64), (.int .i64), (.int .i64), (.int .i64), (.int .i64), (.int .i64), (.int .i64), (.int .i64), (.int .i64), (.int .i64), (.int .i64), (.int .i64), (.int .i64), (.int .i64), (.int .i64), .bool, (.sl [(.int .i64), (.int .i64), (.int .i64), (.int .i64), (.int .i64), (.int .i64), .bool]), (.int .i64), (.int .i64)])] fun o => o = [d] := by
  refine PC.of_sig mix sig_175 ⟨rfl, trivial⟩ rfl fun hok => ?_
  have e_d := sl_eta (hok _ (.head _))
  have l_d := sl_len (hok _ (.head _))
  have k_d := sl_all (hok _ (.head _))
  have E_d : ∀ i, i < d.toL.length → D.lst [(d.elem i).fld 0, (d.elem i).fld 1, (d.elem i).fld 2, (d.elem i).fld 3, (d.elem i).fld 4, (d.elem i).fld 5, (d.elem i).fld 6, (d.elem i).fld 7, (d.elem i).fld 8, (d.elem i).fld 9, (d.elem i).fld 10, (d.elem i).fld 11, (d.elem i).fld 12, (d.elem i).fld 13, (d.elem i).fld 14, (d.elem i).fld 15, (d.elem i).fld 16, (d.elem i).fld 17, (d.elem i).fld 18, (d.elem i).fld 19, (d.elem i).fld 20, (d.elem i).fld 21] = d.elem i := fun i hi => by simpa [List.range, List.range.loop] using okL_eta (k_d _ (elem_mem hi))
  have h1 := h.1
  apply says_den (φ := (phi_175))
  simp [e_d, E_d, tree_175, T.says, X.den, O1.den, O2.den, O3.den, callD, XArg.ev, XArg.dat, Callee'.num, backs, DArg.back, Conds.den, cloArgs, phi_175, pd_168]
  refine den_for d.toL.length 0 (fun i => [.int i, .lst (d.toL.take i)]) (fun _ => True) (by simp) (by simp [X.den]) trivial fun i hi _ => ?_
  apply says_den (φ := (phi_175))
  by_cases hlt : i < d.toL.length
  · have h2 := h.2 i hlt
    simp [e_d, E_d, tree_175, T.says, X.den, O1.den, O2.den, O3.den, callD, XArg.ev, XArg.dat, Callee'.num, backs, DArg.back, Conds.den, cloArgs, phi_175, pd_168, hlt, h2, take_elem hlt]
    (repeat' (first | (with_reducible apply And.intro) | intro _)) <;> first | omega | (first | omega | (simp only [IntKind.wrap_i64, maxL] at *; omega) | (simp [IntKind.wrap_i64, maxL] at *; omega)) | (first | assumption | (exact pd_168 _ (by first | (with_reducible assumption) | omega | assumption | (simp; done) | (simp; omega) | (simp [*]; done) | exact smallE_of (n := 1048576) (by omega) (by omega) | (simp [*] at *; omega) | grind [szS]) _ (by first | rfl | simp | (simp; omega))) | (first | omega | (simp only [IntKind.wrap_i64, maxL] at *; omega) | (simp [IntKind.wrap_i64, maxL] at *; omega)) | rfl | contradiction | grind) | skip
  · simp [e_d, E_d, tree_175, T.says, X.den, O1.den, O2.den, O3.den, callD, XArg.ev, XArg.dat, Callee'.num, backs, DArg.back, Conds.den, cloArgs, phi_175, pd_168, hlt]
    (repeat' (first | (with_reducible apply And.intro) | intro _)) <;> first | omega | (rw [List.take_of_length_le (by omega), e_d]) | skip
theorem pd_175 (d : D) (h : smallE d) (Q : List D → Prop) (ho : Q [d]) : PC Try.prog 175 [.sc (.sl [(.int .i64), (.int .i64), (.int .i64), (.int .i64), (.int .i64), (.int .i64), (.int .i64), (.int .i64), (.int .i64), (.int .i64), (.int .i64), (.int .i64), (.int .i64), (.int .i64), (.int .i64), (.int .i64), (.int .i64), (.int .i64), .bool, (.sl [(.int .i64), (.int .i64), (.int .i64), (.int .i64), (.int .i64), (.int .i64), .bool]), (.int .i64), (.int .i64)]) d] [.sc (.sl [(.int .i64), (.int .i64), (.int .i64), (.int .i64), (.int .i64), (.int .i64), (.int .i64), (.int .i64), (.int .i64), (.int .i64), (.int .i64), (.int .i64), (.int .i64), (.int .i64), (.int .i64), (.int .i64), (.int .i64), (.int .i64), .bool, (.sl [(.int .i64), (.int .i64), (.int .i64), (.int .i64), (.int .i64), (.int .i64), .bool]), (.int .i64), (.int .i64)])] Q := (pc_175 d h).mono fun _ h => h ▸ ho
/- spec.EffectAt -/
theorem pc_183 (d n : D) : PC Try.prog 183 [.sc (.sl [(.int .i64), (.int .i64), (.int .i64), (.int .i64), (.int .i64), (.int .i64), (.int .i64), (.int .i64), (.int .i64), (.int .i64), (.int .i64), (.int .i64), (.int .i64), (.int .i64), (.int .i64), (.int .i64), (.int .i64), (.int .i64), .bool, (.sl [(.int .i64), (.int .i64), (.int .i64), (.int .i64), (.int .i64), (.int .i64), .bool]), (.int .i64), (.int .i64)]) d, .sc (.int .i64) n] [.sc (.int .i64)] fun o => o = [.int (effAt d n.toI)] := by
  refine PC.of_sig mix sig_183 ⟨rfl, rfl, trivial⟩ rfl fun hok => ?_
  have e_d := sl_eta (hok _ (.head _))
  have l_d := sl_len (hok _ (.head _))
  have k_d := sl_all (hok _ (.head _))
  have E_d : ∀ i, i < d.toL.length → D.lst [(d.elem i).fld 0, (d.elem i).fld 1, (d.elem i).fld 2, (d.elem i).fld 3, (d.elem i).fld 4, (d.elem i).fld 5, (d.elem i).fld 6, (d.elem i).fld 7, (d.elem i).fld 8, (d.elem i).fld 9, (d.elem i).fld 10, (d.elem i).fld 11, (d.elem i).fld 12, (d.elem i).fld 13, (d.elem i).fld 14, (d.elem i).fld 15, (d.elem i).fld 16, (d.elem i).fld 17, (d.elem i).fld 18, (d.elem i).fld 19, (d.elem i).fld 20, (d.elem i).fld 21] = d.elem i := fun i hi => by simpa [List.range, List.range.loop] using okL_eta (k_d _ (elem_mem hi))
  have e_n := int_eta (hok _ (.tail _ (.head _)))
  have b_n := int_range (hok _ (.tail _ (.head _)))
  apply says_den (φ := fun _ _ => [])
  simp [e_d, e_n, E_d, tree_183, T.says, X.den, O1.den, O2.den, O3.den, callD, XArg.ev, XArg.dat, Callee'.num, backs, DArg.back, Conds.den, cloArgs, effAt]
  refine den_for d.toL.length 0 (fun i => [.int i]) (fun i => ∀ j, j < i → (((d.elem j).fld 0).toI == n.toI) = false) (by simp) (by simp [X.den]) (by simp) fun i hi hR => ?_
  apply says_den (φ := fun _ _ => [])
  by_cases hlt : i < d.toL.length
  · simp [e_d, e_n, E_d, tree_183, T.says, X.den, O1.den, O2.den, O3.den, callD, XArg.ev, XArg.dat, Callee'.num, backs, DArg.back, Conds.den, cloArgs, hlt]
    (repeat' (first | (with_reducible apply And.intro) | intro _))
    · exact (findR_some (p := fun i => ((d.elem i).fld 0).toI == n.toI) hlt (by simp_all) hR).symm
    · (first | omega | (simp only [IntKind.wrap_i64, maxL] at *; omega) | (simp [IntKind.wrap_i64, maxL] at *; omega))
    · grind
  · simp [e_d, e_n, E_d, tree_183, T.says, X.den, O1.den, O2.den, O3.den, callD, XArg.ev, XArg.dat, Callee'.num, backs, DArg.back, Conds.den, cloArgs, hlt]
    (repeat' (first | (with_reducible apply And.intro) | intro _))
    · exact (findR_none fun j hj => hR j (by omega)).symm
theorem pd_183 (d n : D) (Q : List D → Prop) (ho : Q [.int (effAt d n.toI)]) : PC Try.prog 183 [.sc (.sl [(.int .i64), (.int .i64), (.int .i64), (.int .i64), (.int .i64), (.int .i64), (.int .i64), (.int .i64), (.int .i64), (.int .i64), (.int .i64), (.int .i64), (.int .i64), (.int .i64), (.int .i64), (.int .i64), (.int .i64), (.int .i64), .bool, (.sl [(.int .i64), (.int .i64), (.int .i64), (.int .i64), (.int .i64), (.int .i64), .bool]), (.int .i64), (.int .i64)]) d, .sc (.int .i64) n] [.sc (.int .i64)] Q := (pc_183 d n).mono fun _ h => h ▸ ho
/- spec.Install -/
def phi_109 : Nat → List D → List D
  | 100, [d] => [.bool (tableOk d)]
  | 168, [e] => [e]
  | 175, [d] => [d]
  | 183, [d, n] => [.int (effAt d n.toI)]
  | _, _ => []
theorem pc_109 (d e : D) (h : smallE d) (he : ((e.fld 19).toL.length : Int) ≤ 1048576) : PC Try.prog 109 [.sc (.sl [(.int .i64), (.int .i64), (.int .i64), (.int .i64), (.int .i64), (.int .i64), (.int .i64), (.int .i64), (.int .i64), (.int .i64), (.int .i64), (.int .i64), (.int .i64), (.int .i64), (.int .i64), (.int .i64), (.int .i64), (.int .i64), .bool, (.sl [(.int .i64), (.int .i64), (.int .i64), (.int .i64), (.int .i64), (.int .i64), .bool]), (.int .i64), (.int .i64)]) d, .st [(.int .i64), (.int .i64), (.int .i64), (.int .i64), (.int .i64), (.int .i64), (.int .i64), (.int .i64), (.int .i64), (.int .i64), (.int .i64), (.int .i64), (.int .i64), (.int .i64), (.int .i64), (.int .i64), (.int .i64), (.int .i64), .bool, (.sl [(.int .i64), (.int .i64), (.int .i64), (.int .i64), (.int .i64), (.int .i64), .bool]), (.int .i64), (.int .i64)] e] [.sc (.sl [(.int .i64), (.int .i64), (.int .i64), (.int .i64), (.int .i64), (.int .i64), (.int .i64), (.int .i64), (.int .i64), (.int .i64), (.int .i64), (.int .i64), (.int .i64), (.int .i64), (.int .i64), (.int .i64), (.int .i64), (.int .i64), .bool, (.sl [(.int .i64), (.int .i64), (.int .i64), (.int .i64), (.int .i64), (.int .i64), .bool]), (.int .i64), (.int .i64)]), .sc .bool] fun o => o = [(if insOk d e then insT d e else d), .bool (insOk d e)] := by
  refine PC.of_sig mix sig_109 ⟨rfl, rfl, trivial⟩ rfl fun hok => ?_
  have e_d := sl_eta (hok _ (.head _))
  have l_d := sl_len (hok _ (.head _))
  have k_d := sl_all (hok _ (.head _))
  have E_d : ∀ i, i < d.toL.length → D.lst [(d.elem i).fld 0, (d.elem i).fld 1, (d.elem i).fld 2, (d.elem i).fld 3, (d.elem i).fld 4, (d.elem i).fld 5, (d.elem i).fld 6, (d.elem i).fld 7, (d.elem i).fld 8, (d.elem i).fld 9, (d.elem i).fld 10, (d.elem i).fld 11, (d.elem i).fld 12, (d.elem i).fld 13, (d.elem i).fld 14, (d.elem i).fld 15, (d.elem i).fld 16, (d.elem i).fld 17, (d.elem i).fld 18, (d.elem i).fld 19, (d.elem i).fld 20, (d.elem i).fld 21] = d.elem i := fun i hi => by simpa [List.range, List.range.loop] using okL_eta (k_d _ (elem_mem hi))
  have e_e : D.lst [e.fld 0, e.fld 1, e.fld 2, e.fld 3, e.fld 4, e.fld 5, e.fld 6, e.fld 7, e.fld 8, e.fld 9, e.fld 10, e.fld 11, e.fld 12, e.fld 13, e.fld 14, e.fld 15, e.fld 16, e.fld 17, e.fld 18, e.fld 19, e.fld 20, e.fld 21] = e := by simpa [List.range, List.range.loop] using okL_eta (hok _ (.tail _ (.head _)))
  have k_e : okL [(.int .i64), (.int .i64), (.int .i64), (.int .i64), (.int .i64), (.int .i64), (.int .i64), (.int .i64), (.int .i64), (.int .i64), (.int .i64), (.int .i64), (.int .i64), (.int .i64), (.int .i64), (.int .i64), (.int .i64), (.int .i64), .bool, (.sl [(.int .i64), (.int .i64), (.int .i64), (.int .i64), (.int .i64), (.int .i64), .bool]), (.int .i64), (.int .i64)] e := (hok _ (.tail _ (.head _)))
  have e_e_19 : D.lst (e.fld 19).toL = e.fld 19 := sl_eta (okL_at k_e (i := 19) rfl)
  have l_e_19 := sl_len (okL_at k_e (i := 19) rfl)
  have k_e_19 := sl_all (okL_at k_e (i := 19) rfl)
  have E_e_19 : ∀ i, i < (e.fld 19).toL.length → D.lst [((e.fld 19).elem i).fld 0, ((e.fld 19).elem i).fld 1, ((e.fld 19).elem i).fld 2, ((e.fld 19).elem i).fld 3, ((e.fld 19).elem i).fld 4, ((e.fld 19).elem i).fld 5, ((e.fld 19).elem i).fld 6] = (e.fld 19).elem i := fun i hi => by simpa [List.range, List.range.loop] using okL_eta (k_e_19 _ (elem_mem hi))
  have h1 := h.1
  have hr := effAt_range d (e.fld 0).toI
  have hle := insAt_le d (e.fld 0).toI
  have s1 := smallE_take h (insAt d (e.fld 0).toI)
  have s2 := smallE_drop h (insAt d (e.fld 0).toI)
  have hfin : ∀ T : D, insT d e = T → (0 ≤ effAt d (e.fld 0).toI ∨ tableOk T = false → (insOk d e = true → d = insT d e) ∧ insOk d e = false) ∧ (effAt d (e.fld 0).toI < 0 → tableOk T = true → (T = if insOk d e = true then insT d e else d) ∧ insOk d e = true) := fun T hT => by
    refine ⟨fun hc => ?_, fun hc1 hc2 => ?_⟩
    · have : insOk d e = false := by
        rw [insOk, hT]
        rcases hc with hc | hc
        · simp; omega
        · simp [hc]
      exact ⟨fun hh => by (rw [this] at hh; cases hh), this⟩
    · have : insOk d e = true := by
        rw [insOk, hT, hc2]
        simpa using hc1
      exact ⟨by rw [if_pos this, hT], this⟩
  apply says_den (φ := (phi_109))
  refine den_for (insAt d (e.fld 0).toI) 0 (fun i => [.int i]) (fun _ => True) (by simp) (by simp [X.den]) trivial fun i hi _ => ?_
  apply says_den (φ := (phi_109))
  by_cases hlt : i < insAt d (e.fld 0).toI
  · have hb := insAt_before hlt
    have hl2 : i < d.toL.length := by omega
    simp [e_e_19, E_e_19, e_d, e_e, E_d, tree_109, T.says, X.den, O1.den, O2.den, O3.den, callD, XArg.ev, XArg.dat, Callee'.num, backs, DArg.back, Conds.den, cloArgs, phi_109, pd_100, pd_168, pd_175, pd_183, hlt, hb, hl2]
    (repeat' (first | (with_reducible apply And.intro) | intro _)) <;> first | omega | (first | omega | (simp only [IntKind.wrap_i64, maxL] at *; omega) | (simp [IntKind.wrap_i64, maxL] at *; omega)) | (first | assumption | (exact pd_100 _ _ (by first | rfl | simp | (simp; omega))) | (exact pd_168 _ (by first | (with_reducible assumption) | omega | assumption | (simp; done) | (simp; omega) | (simp [*]; done) | exact smallE_of (n := 1048576) (by omega) (by omega) | (simp [*] at *; omega) | grind [szS]) _ (by first | rfl | simp | (simp; omega))) | (exact pd_175 _ (by first | (with_reducible assumption) | omega | assumption | (simp; done) | (simp; omega) | (simp [*]; done) | exact smallE_of (n := 1048576) (by omega) (by omega) | (simp [*] at *; omega) | grind [szS]) _ (by first | rfl | simp | (simp; omega))) | (exact pd_183 _ _ _ (by first | rfl | simp | (simp; omega))) | (first | omega | (simp only [IntKind.wrap_i64, maxL] at *; omega) | (simp [IntKind.wrap_i64, maxL] at *; omega)) | rfl | contradiction | grind)
  · have hie : i = insAt d (e.fld 0).toI := by omega
    subst hie
    have hnb := insAt_stop (d := d) (n := (e.fld 0).toI)
    simp [e_e_19, E_e_19, e_d, e_e, E_d, tree_109, T.says, X.den, O1.den, O2.den, O3.den, callD, XArg.ev, XArg.dat, Callee'.num, backs, DArg.back, Conds.den, cloArgs, phi_109, pd_100, pd_168, pd_175, pd_183]
    (repeat' (first | (with_reducible apply And.intro) | intro _)) <;> first | omega | (exact ((hfin _ rfl).1 (by assumption)).2) | (exact ((hfin _ rfl).1 (by assumption)).1 (by assumption)) | (exact ((hfin _ rfl).2 (by assumption) (by assumption)).1) | (exact ((hfin _ rfl).2 (by assumption) (by assumption)).2) | (first | assumption | (exact pd_100 _ _ (by first | rfl | simp | (simp; omega))) | (exact pd_168 _ (by first | (with_reducible assumption) | omega | assumption | (simp; done) | (simp; omega) | (simp [*]; done) | exact smallE_of (n := 1048576) (by omega) (by omega) | (simp [*] at *; omega) | grind [szS]) _ (by first | rfl | simp | (simp; omega))) | (exact pd_175 _ (by first | (with_reducible assumption) | omega | assumption | (simp; done) | (simp; omega) | (simp [*]; done) | exact smallE_of (n := 1048576) (by omega) (by omega) | (simp [*] at *; omega) | grind [szS]) _ (by first | rfl | simp | (simp; omega))) | (exact pd_183 _ _ _ (by first | rfl | simp | (simp; omega))) | (first | omega | (simp only [IntKind.wrap_i64, maxL] at *; omega) | (simp [IntKind.wrap_i64, maxL] at *; omega)) | rfl | contradiction | grind)
theorem pd_109 (d e : D) (h : smallE d) (he : ((e.fld 19).toL.length : Int) ≤ 1048576) (Q : List D → Prop) (ho : Q [(if insOk d e then insT d e else d), .bool (insOk d e)]) : PC Try.prog 109 [.sc (.sl [(.int .i64), (.int .i64), (.int .i64), (.int .i64), (.int .i64), (.int .i64), (.int .i64), (.int .i64), (.int .i64), (.int .i64), (.int .i64), (.int .i64), (.int .i64), (.int .i64), (.int .i64), (.int .i64), (.int .i64), (.int .i64), .bool, (.sl [(.int .i64), (.int .i64), (.int .i64), (.int .i64), (.int .i64), (.int .i64), .bool]), (.int .i64), (.int .i64)]) d, .st [(.int .i64), (.int .i64), (.int .i64), (.int .i64), (.int .i64), (.int .i64), (.int .i64), (.int .i64), (.int .i64), (.int .i64), (.int .i64), (.int .i64), (.int .i64), (.int .i64), (.int .i64), (.int .i64), (.int .i64), (.int .i64), .bool, (.sl [(.int .i64), (.int .i64), (.int .i64), (.int .i64), (.int .i64), (.int .i64), .bool]), (.int .i64), (.int .i64)] e] [.sc (.sl [(.int .i64), (.int .i64), (.int .i64), (.int .i64), (.int .i64), (.int .i64), (.int .i64), (.int .i64), (.int .i64), (.int .i64), (.int .i64), (.int .i64), (.int .i64), (.int .i64), (.int .i64), (.int .i64), (.int .i64), (.int .i64), .bool, (.sl [(.int .i64), (.int .i64), (.int .i64), (.int .i64), (.int .i64), (.int .i64), .bool]), (.int .i64), (.int .i64)]), .sc .bool] Q := (pc_109 d e h he).mono fun _ h => h ▸ ho
/- spec.DrawDrop -/
def phi_110 : Nat → List D → (List D → Prop) → Prop
  | 113, [a], K => K [a]
  | 117, [c, n], K => ∀ (m : Int), (0 ≤ m ∧ m ≤ 16777215 ∧ (0 < n.toI → m < n.toI) ∧ (n.toI ≤ 0 → m = 0)) → K [.int m]
  | 119, [c], K => ∀ (s : D), (stateN 5 3 s) → K [s]
  | 174, [c, s], K => ∀ (l : D), (tabB l) → K [l]
  | _, _, _ => False
theorem pc_110 (code : D) : PC Try.prog 110 [.sc (.sl [(.int .u8)]) code] [.sc (.sl [(.int .i64), (.int .i64), (.int .i64), (.int .i64), (.int .i64), (.int .i64), (.int .i64), (.int .i64), (.int .i64), (.int .i64), (.int .i64), (.int .i64), (.int .i64), (.int .i64), (.int .i64), (.int .i64), (.int .i64), (.int .i64), .bool, (.sl [(.int .i64), (.int .i64), (.int .i64), (.int .i64), (.int .i64), (.int .i64), .bool]), (.int .i64), (.int .i64)]), .sc (.int .i64)] fun o => ∃ (l : D) (n : Int), (tabB l) ∧ o = [l, .int n] := by
  refine PC.of_sig mix sig_110 ⟨rfl, trivial⟩ rfl fun hok => ?_
  have e_code := sl_eta (hok _ (.head _))
  have l_code := sl_len (hok _ (.head _))
  have k_code := sl_all (hok _ (.head _))
  apply sayR_den (φ := (phi_110))
  simp (config := { maxSteps := 2000000 }) [e_code, tree_110, T.sayR, inK_i64_iff, RS.oks, RS.ok, okD_int, okD_bool, X.den, O1.den, O2.den, O3.den, callD, XArg.ev, XArg.dat, Callee'.num, backs, DArg.back, Conds.den, cloArgs, phi_110]
  (repeat' (first | (with_reducible apply And.intro) | intro _)) <;> first | (first | ((with_reducible refine ⟨?_⟩); simp [e_code, tree_110, T.sayR, inK_i64_iff, RS.oks, RS.ok, okD_int, okD_bool, X.den, O1.den, O2.den, O3.den, callD, XArg.ev, XArg.dat, Callee'.num, backs, DArg.back, Conds.den, cloArgs]; intro K hK; (try simp only [phi_110] at hK); intros; first | contradiction | ((with_reducible refine pd_113 _ _ ?ho); (case ho => exact hK)) | ((with_reducible refine pd_117 _ _ _ ?ho); (case ho => exact hK)) | ((with_reducible refine pd_119 _ _ ?ho); (case ho => exact hK)) | ((with_reducible refine pd_174 _ _ _ ?ho); (case ho => exact hK)) | (exact pd_113 _ _ hK) | (exact pd_117 _ _ _ hK) | (exact pd_119 _ _ hK) | (exact pd_174 _ _ _ hK)) | ((with_reducible show CallIn _ _ _ _ _); first | (refine .inr ⟨_, rfl, fun K hK => hK⟩) | (refine .inr ⟨_, rfl, fun K hK => hK true⟩) | (refine .inr ⟨_, rfl, fun K hK => hK 0 (by simp)⟩))) | omega | assumption
theorem pd_110 (code : D) (Q : List D → Prop) (ho : ∀ (l : D) (n : Int), (tabB l) → Q [l, .int n]) : PC Try.prog 110 [.sc (.sl [(.int .u8)]) code] [.sc (.sl [(.int .i64), (.int .i64), (.int .i64), (.int .i64), (.int .i64), (.int .i64), (.int .i64), (.int .i64), (.int .i64), (.int .i64), (.int .i64), (.int .i64), (.int .i64), (.int .i64), (.int .i64), (.int .i64), (.int .i64), (.int .i64), .bool, (.sl [(.int .i64), (.int .i64), (.int .i64), (.int .i64), (.int .i64), (.int .i64), .bool]), (.int .i64), (.int .i64)]), .sc (.int .i64)] Q := (pc_110 code).mono (by rintro _ ⟨l, n, hc, rfl⟩; exact ho l n hc)
/- slices.Delete[[]impl.Effect,impl.Effect] -/
namespace L188
open Go.RowKit
theorem setCells_row {w : World} {b off : Nat} {vs : List Value} {cur : Array Value} {T : TypeId} (hh : w.heap[b]? = some (.cells cur T (0, 0))) (hle : off + vs.length ≤ cur.size) (h1 : ∀ v ∈ vs, v.oneCell' = true) : w.setCells b off vs = w.setRow b (spl cur.toList off vs).toArray := by
  have h2 := run_storeCells_at Try.prog b off T vs 0 cur w hh (by simpa using hle) h1
  have hc : ∀ j, j < vs.length → (w.cell? ⟨b, off + j, none⟩).isSome = true := fun j hj => by
    simp only [World.cell?, hh, Option.isSome_none, Bool.false_eq_true, if_false]
    rw [Array.getElem?_eq_getElem (by omega)]
    rfl
  have hf : ∀ j, j < vs.length → w.frozen? ⟨b, off + j, none⟩ = false := fun j hj => by
    simp [World.frozen?, hh]
  have h3 := run_storeCells_cells (P := Try.prog) b off vs 0 w (by simpa using hc) (by simpa using hf) h1
  rw [h2] at h3
  injection h3 with _ h4
  simpa [spl] using h4.symm
theorem setRow_setRow (w : World) (b : Nat) (c1 c2 : Array Value) : (w.setRow b c1).setRow b c2 = w.setRow b c2 := by
  unfold World.setRow
  congr 1
  apply Array.ext_getElem?
  intro i
  simp only [Array.getElem?_modify]
  split
  · cases w.heap[i]? with
    | none => rfl
    | some o => cases o <;> rfl
  · rfl
theorem drew_heap (w : World) : w.drew.heap = w.heap := rfl
theorem zc_size (z : Array Value) (n : Nat) : (Builtin.zeroCells z n).size = n * z.size := by simp [Builtin.zeroCells]
theorem zc_one (z : Array Value) (h : ∀ v ∈ z.toList, v.oneCell' = true) (n : Nat) : ∀ v ∈ (Builtin.zeroCells z n).toList, v.oneCell' = true := by
  intro v hv
  simp only [Builtin.zeroCells, Array.toList_map, List.mem_map, Array.mem_toList_iff, Array.mem_range] at hv
  obtain ⟨i, hi, rfl⟩ := hv
  have hlt : i % z.size < z.size := Nat.mod_lt _ (by rcases Nat.eq_zero_or_pos z.size with h0 | h0; (rw [h0] at hi; simp at hi); exact h0)
  rw [getElem!_pos z _ hlt]
  exact h _ (by simp)
def zeroV : Value := .agg #[.int .i64 0, .int .i64 0, .int .i64 0, .int .i64 0, .int .i64 0, .int .i64 0, .int .i64 0, .int .i64 0, .int .i64 0, .int .i64 0, .int .i64 0, .int .i64 0, .int .i64 0, .int .i64 0, .int .i64 0, .int .i64 0, .int .i64 0, .int .i64 0, .bool false, .slice none 0 0, .int .i64 0, .int .i64 0]
theorem zero_size : zeroV.cells.size = 22 := rfl
theorem zero_one : ∀ v ∈ zeroV.cells.toList, v.oneCell' = true := by
  intro v hv
  have : zeroV.cells.toList.all Value.oneCell' = true := by kernel_rfl
  exact List.all_eq_true.1 this v hv
theorem clear_run {w : World} {b off n c : Nat} {cur : Array Value} {T : TypeId} (ty : TypeId) (hn : 0 < n) (hh : w.heap[b]? = some (.cells cur T (0, 0))) (hle : off + n * 22 ≤ cur.size) :
    (Builtin.clear_ #[105] ty #[.slice (some ⟨b, off, none⟩) n c]).run Try.prog w = .ok (.tuple #[]) (w.setRow b (spl cur.toList off (Builtin.zeroCells zeroV.cells n).toList).toArray) := by
  have h2 := run_storeCells_at Try.prog b off T (Builtin.zeroCells zeroV.cells n).toList 0 cur w hh (by rw [Array.length_toList, zc_size, zero_size]; simpa using hle) (zc_one _ zero_one n)
  obtain ⟨m, rfl⟩ : ∃ m, n = m + 1 := ⟨n - 1, by omega⟩
  simp only [Builtin.clear_, List.getElem?_toArray, List.getElem?_cons_zero, Sem.run_bind, Sem.run_pure, Result.andThen_ok, run_underlying Try.underlying105]
  simp only [Nat.add_zero] at h2
  simp only [spl]
  have hz : ∀ w, (zeroValue 89).run Try.prog w = .ok zeroV w := Try.zeroValue89
  simp [hz, h2]
section
variable {P : Program} {ops : Array Oper} {rest : List Oper} {a : Act} {w : World} {Q : Exit → Act → World → Prop}
theorem wpList_loadE {dst : Option Tmp} {t ty : TypeId} {x : Operand} {pos : String} {after : Array Edge} (A : Addr) (v : Value) (hx : a.eval x = .pointer (some A)) (hr : (Instr.loadAt t (.pointer (some A))).run P w = .ok v w) (h : wpList P ops Q rest (a.put dst v) w) :
    wpList P ops Q ({ dst := dst, op := .load t x, type := ty, pos := pos, after := after, guard := none } :: rest) a w := by
  refine wpList_plain rfl fun K hK => ?_
  unfold Oper.wp
  have he : (execOp a.eval { dst := dst, op := .load t x, type := ty, pos := pos, after := after, guard := none }).run P w = .ok (.value v) w := by simp [execOp, hx, hr]
  rw [he, Oper.upon_value]
  exact hK _ _ h
theorem wpList_storeE {t ty : TypeId} {x y : Operand} {pos : String} {after : Array Edge} {w' : World} (A : Addr) (v : Value) (hx : a.eval x = .pointer (some A)) (hy : a.eval y = v) (hr : (Instr.storeAt t (.pointer (some A)) v).run P w = .ok () w') (h : wpList P ops Q rest a w') :
    wpList P ops Q ({ dst := none, op := .store t x y, type := ty, pos := pos, after := after, guard := none } :: rest) a w := by
  refine wpList_plain rfl fun K hK => ?_
  unfold Oper.wp
  have he : (execOp a.eval { dst := none, op := .store t x y, type := ty, pos := pos, after := after, guard := none }).run P w = .ok .skip w' := by simp only [execOp, hx, hy, Sem.run_bind, hr, Result.andThen_ok, Sem.run_pure]
  rw [he, Oper.upon_skip]
  exact hK _ _ h
end
theorem loadAt_var {P : Program} {t : TypeId} {A : Addr} {v : Value} {w : World} (h : (loadVar t A).run P w = .ok v w) : (Instr.loadAt t (.pointer (some A))).run P w = .ok v w := by
  simp [Instr.loadAt, Instr.sureAddr, h]
/-- An element of a block of cells, read. -/
theorem load_elem {w : World} {b q : Nat} {dk : Array Value} {T : TypeId} (hb : w.heap[b]? = some (.cells dk T (0, 0))) (hq : q + 22 ≤ dk.size) : (Instr.loadAt 89 (.pointer (some ⟨b, q, none⟩))).run Try.prog w = .ok (.agg ((List.range 22).map fun c => dk.getD (q + c) undef).toArray) w := by
  refine loadAt_var (run_loadVar_agg (n := 22) (by kernel_rfl) (by kernel_rfl) b q (fun c => dk.getD (q + c) undef) fun c hc => ?_)
  simp only [World.cell?, hb, Option.isSome_none, Bool.false_eq_true, if_false]
  rw [Array.getD_eq_getD_getElem?, Array.getElem?_eq_getElem (by omega)]
  rfl
/-- The world has grown: what was there is there still. -/
structure Keep (w w' : World) : Prop where
  os : w'.os = w.os
  tape : w'.tape = w.tape
  output : w'.output = w.output
  size : w.heap.size ≤ w'.heap.size
  block : ∀ b, b < w.heap.size → w'.heap[b]? = w.heap[b]?
/-- .. but for one block. -/
structure KeepBut (b : Nat) (w w' : World) : Prop where
  os : w'.os = w.os
  tape : w'.tape = w.tape
  output : w'.output = w.output
  size : w.heap.size ≤ w'.heap.size
  block : ∀ b', b' < w.heap.size → b' ≠ b → w'.heap[b']? = w.heap[b']?
theorem flatIdx {k q n : Nat} (hk : 0 < k) (h : q < n * k) : q / k < n ∧ q % k < k ∧ q / k * k + q % k = q := ⟨Nat.div_lt_of_lt_mul (by rwa [Nat.mul_comm]), Nat.mod_lt _ hk, by rw [Nat.mul_comm]; exact Nat.div_add_mod q k⟩
theorem fp_mono {n m k : Nat} {fps fpq : Nat → Nat → List Nat} (p : Nat → Nat) (hp : ∀ i, i < n → p i < m) (hinj : ∀ i j, i < n → j < n → p i = p j → i = j) (he : ∀ i c, i < n → fpq i c = fps (p i) c) (h : (fpAll m k fps).Nodup) : (fpAll n k fpq).Nodup ∧ ∀ b ∈ fpAll n k fpq, b ∈ fpAll m k fps := by
  obtain ⟨a1, a2⟩ := fpAll_inv h
  refine ⟨fpAll_nodup (fun i c hi hc => ?_) (fun i c i' c' hi hc hi' hc' hne b hb hb' => ?_), fun b hb => ?_⟩
  · rw [he i c hi]; exact a1 _ c (hp i hi) hc
  · rw [he i c hi] at hb
    rw [he i' c' hi'] at hb'
    refine a2 _ c _ c' (hp i hi) hc (hp i' hi') hc' (fun e => hne ?_) b hb hb'
    injection e with e1 e2
    rw [hinj i i' hi hi' e1, e2]
  · obtain ⟨i, c, hi, hc, hm⟩ := fpAll_mem hb
    rw [he i c hi] at hm
    exact mem_fpAll (hp i hi) hc hm
/-- A list whose elements are some of an owned list's, at their places now. -/
theorem own_pick {w w' : World} {ks : List CK} {xs : List D} {b cap m : Nat} {cs cs' : Array Value} {T : TypeId} {fps : Nat → Nat → List Nat} (hk : 0 < ks.length) (hh' : w'.heap[b]? = some (.cells cs' T (0, 0))) (hsz : cap * ks.length ≤ cs'.size) (hmc : m ≤ cap) (hmax : xs.length ≤ maxL)
    (hsh : ∀ i, i < xs.length → Shp ks.length (xs.getD i default)) (hown : ∀ i c, i < xs.length → c < ks.length → Own w (ks.getD c default) ((xs.getD i default).fld c) (cs.getD (i * ks.length + c) undef) (fps i c))
    (hnd : (b :: fpAll xs.length ks.length fps).Nodup) (hold : ∀ b', b' ≠ b → w'.heap[b']? = w.heap[b']?) (ys : List D) (hym : ys.length = m) (p : Nat → Nat) (hp : ∀ i, i < m → p i < xs.length) (hinj : ∀ i j, i < m → j < m → p i = p j → i = j) (hml : m ≤ xs.length)
    (hy : ∀ i, i < m → ys.getD i default = xs.getD (p i) default) (hc : ∀ i c, i < m → c < ks.length → cs'.getD (i * ks.length + c) undef = cs.getD (p i * ks.length + c) undef) :
    ∃ fp', Own w' (.sl ks) (.lst ys) (.slice (some ⟨b, 0, none⟩) m cap) fp' ∧ fp'.Nodup ∧ ∀ b' ∈ fp', b' ∈ b :: fpAll xs.length ks.length fps := by
  obtain ⟨n1, n2⟩ := List.nodup_cons.1 hnd
  obtain ⟨f1, f2⟩ := fp_mono (fpq := fun i c => fps (p i) c) p hp hinj (fun _ _ _ => rfl) n2
  subst hym
  refine ⟨b :: fpAll ys.length ks.length (fun i c => fps (p i) c), ?_, List.nodup_cons.2 ⟨fun h => n1 (f2 b h), f1⟩, fun b' hb' => ?_⟩
  · refine .sl b cap cs' T ys _ hh' hsz hmc (by omega) (fun i hi => ?_) (fun i c hi hc' => ?_)
    · rw [hy i hi]; exact hsh _ (hp i hi)
    · rw [hy i hi, hc i c hi hc']
      exact (hown _ c (hp i hi) hc').frame fun b' hb' => hold b' fun e => n1 (e ▸ mem_fpAll (hp i hi) hc' hb')
  · rcases List.mem_cons.1 hb' with rfl | hb'
    · simp
    · exact List.mem_cons_of_mem _ (f2 b' hb')
/-- A list whose elements are some of an owned list's, at their places now. -/
theorem own_pick2 {w w' : World} {ks : List CK} {xs : List D} {b cap m : Nat} {cs cs' : Array Value} {T : TypeId} {fps : Nat → Nat → List Nat} (hk : 0 < ks.length) (hh' : w'.heap[b]? = some (.cells cs' T (0, 0))) (hsz : cap * ks.length ≤ cs'.size) (hmc : m ≤ cap) (hmax : xs.length ≤ maxL)
    (hsh : ∀ i, i < xs.length → Shp ks.length (xs.getD i default)) (hown : ∀ i c, i < xs.length → c < ks.length → Own w (ks.getD c default) ((xs.getD i default).fld c) (cs.getD (i * ks.length + c) undef) (fps i c))
    (hnd : (b :: fpAll xs.length ks.length fps).Nodup) (hbl : b < w.heap.size) (hold : ∀ b', b' < w.heap.size → b' ≠ b → w'.heap[b']? = w.heap[b']?) (ys : List D) (hym : ys.length = m) (p : Nat → Nat) (hp : ∀ i, i < m → p i < xs.length) (hinj : ∀ i j, i < m → j < m → p i = p j → i = j) (hml : m ≤ xs.length)
    (hy : ∀ i, i < m → ys.getD i default = xs.getD (p i) default) (hc : ∀ i c, i < m → c < ks.length → cs'.getD (i * ks.length + c) undef = cs.getD (p i * ks.length + c) undef) :
    ∃ fp', Own w' (.sl ks) (.lst ys) (.slice (some ⟨b, 0, none⟩) m cap) fp' ∧ fp'.Nodup ∧ ∀ b' ∈ fp', b' ∈ b :: fpAll xs.length ks.length fps := by
  obtain ⟨n1, n2⟩ := List.nodup_cons.1 hnd
  obtain ⟨f1, f2⟩ := fp_mono (fpq := fun i c => fps (p i) c) p hp hinj (fun _ _ _ => rfl) n2
  subst hym
  refine ⟨b :: fpAll ys.length ks.length (fun i c => fps (p i) c), ?_, List.nodup_cons.2 ⟨fun h => n1 (f2 b h), f1⟩, fun b' hb' => ?_⟩
  · refine .sl b cap cs' T ys _ hh' hsz hmc (by omega) (fun i hi => ?_) (fun i c hi hc' => ?_)
    · rw [hy i hi]; exact hsh _ (hp i hi)
    · rw [hy i hi, hc i c hi hc']
      exact (hown _ c (hp i hi) hc').frame fun b' hb' => hold b' ((hown _ c (hp i hi) hc').lt b' hb') fun e => n1 (e ▸ mem_fpAll (hp i hi) hc' hb')
  · rcases List.mem_cons.1 hb' with rfl | hb'
    · simp
    · exact List.mem_cons_of_mem _ (f2 b' hb')
theorem int_arg {w : World} {S G : Nat → Prop} {i : D} {v : Value} {fp : List Nat} (h : ArgR w S G (.sc (.int .i64) i) v fp) : ∃ n : Int, i = .int n ∧ v = .int .i64 n ∧ fp = [] ∧ inK .i64 n = true := by
  cases h with
  | sc h => cases h with
    | flat h => cases h with
      | int h => exact ⟨_, rfl, rfl, rfl, h⟩
theorem del_calls {w : World} {b cap i j n : Nat} {cs : Array Value} {T : TypeId} (hh : w.heap[b]? = some (.cells cs T (0, 0))) (hcs : cap * 22 ≤ cs.size) (hn : n ≤ cap) (hij : i ≤ j) (hj : j ≤ n) (hone : ∀ q, q < n * 22 → (cs.getD q undef).oneCell' = true) :
    Calls Try.prog 188 #[.slice (some ⟨b, 0, none⟩) n cap, .int .i64 i, .int .i64 j] w fun e w' => e = .returned (.slice (some ⟨b, 0, none⟩) (n - (j - i)) cap) ∧
      ∃ (w1 : World) (cs' : Array Value), w1.heap = w.heap ∧ w1.os = w.os ∧ w1.tape = w.tape ∧ w1.output = w.output ∧ w' = w1.setRow b cs' ∧ cs'.size = cs.size ∧ ∀ q, q < (n - (j - i)) * 22 → cs'.getD q undef = if q < i * 22 then cs.getD q undef else cs.getD (q + (j - i) * 22) undef := by
  by_cases heq : i = j
  · subst heq
    have h0 : Calls Try.prog 188 #[.slice (some ⟨b, 0, none⟩) n cap, .int .i64 i, .int .i64 i] w fun e w' => e = .returned (.slice (some ⟨b, 0, none⟩) n cap) ∧ w' = w := by
      clear hone
      go_enter Try.func188, Try.ntmps188
      go_wp2
      all_goals (go_ret; exact ⟨rfl, rfl⟩)
    refine h0.mono ?_
    rintro e w' ⟨rfl, rfl⟩
    refine ⟨by simp, w', cs, rfl, rfl, rfl, rfl, (setRow_self w' b cs T (0, 0) hh).symm, rfl, fun q hq => by simp⟩
  · have hlt : i < j := by omega
    have hic : i ≤ cap := by omega
    have hjc : j ≤ cap := by omega
    have hsz : sizeT Try.prog 89 = some 22 := by kernel_rfl
    simp only [sizeT, Option.map_eq_some_iff] at hsz
    obtain ⟨i0, hi0, hz1⟩ := hsz
    obtain ⟨news, hnews⟩ : ∃ news, news = (cs.toList.drop (j * 22)).take ((n - j) * 22) := ⟨_, rfl⟩
    have hlen : news.length = (n - j) * 22 := by
      rw [hnews, List.length_take, List.length_drop, Array.length_toList]
      omega
    have hget : ∀ t, t < (n - j) * 22 → news[t]? = some (cs.getD (j * 22 + t) undef) := by
      intro t ht
      rw [hnews, List.getElem?_take, if_pos ht, List.getElem?_drop, Array.getElem?_toList, Array.getD_eq_getD_getElem?, Array.getElem?_eq_getElem (show j * 22 + t < cs.size by omega)]
      rfl
    have hcell : ∀ q, q < cs.size → w.drew.cell? ⟨b, q, none⟩ = some (cs.getD q undef) := fun q hq => by
      simp only [World.cell?, drew_heap, hh, Option.isSome_none, Bool.false_eq_true, if_false]
      rw [Array.getD_eq_getD_getElem?, Array.getElem?_eq_getElem hq]
      rfl
    obtain ⟨A, hA, hsrc⟩ : ∃ A : Addr, (if cap = j then some (⟨b, 0, none⟩ : Addr) else some ⟨b, j * 22, none⟩) = some A ∧ Hid (∀ t u, news[t]? = some u → w.drew.cell? (A.add t) = some u) := by
      by_cases h : cap = j
      · refine ⟨⟨b, 0, none⟩, by simp [h], fun t u hu => ?_⟩
        have h0 : news.length = 0 := by rw [hlen]; omega
        rw [List.length_eq_zero_iff.1 h0] at hu
        simp at hu
      · refine ⟨⟨b, j * 22, none⟩, by simp [h], fun t u hu => ?_⟩
        have ht : t < (n - j) * 22 := by
          have := (List.getElem?_eq_some_iff.1 hu).1
          rwa [hlen] at this
        rw [hget t ht] at hu
        rw [Addr.add_lit, hcell _ (by omega)]
        exact hu
    have s1 : Hid (news.length = (n - j) * 22) := hlen
    have s2 : Hid (∀ u ∈ news, u.oneCell' = true) := by
      intro u hu
      obtain ⟨t, ht, rfl⟩ := List.getElem_of_mem hu
      have := hget t (by rw [← hlen]; exact ht)
      rw [List.getElem?_eq_getElem ht] at this
      injection this with this
      rw [this]
      exact hone _ (by omega)
    have s3 : Hid (∀ t, t < news.length → (w.drew.cell? ⟨b, 0 + i * 22 + t, none⟩).isSome = true ∧ w.drew.frozen? ⟨b, 0 + i * 22 + t, none⟩ = false) := by
      intro t ht
      rw [hlen] at ht
      refine ⟨?_, ?_⟩
      · rw [hcell _ (by omega)]; rfl
      · simp [World.frozen?, drew_heap, hh]
    obtain ⟨W1, hW1⟩ : ∃ W1, W1 = w.drew.setCells b (0 + i * 22) news := ⟨_, rfl⟩
    have hW1' : W1 = w.drew.setRow b (spl cs.toList (0 + i * 22) news).toArray := by
      rw [hW1]
      exact setCells_row (w := w.drew) hh (by rw [hlen]; omega) s2
    have hW : Hid (W1 = w.drew.setCells b (0 + i * 22) news) := hW1
    have X : Aside (W1 = w.drew.setRow b (spl cs.toList (0 + i * 22) news).toArray) := hW1'
    obtain ⟨c2, hc2⟩ : ∃ c2 : Array Value, c2 = (spl (spl cs.toList (0 + i * 22) news).toArray.toList ((i + (n - j)) * 22) (Builtin.zeroCells zeroV.cells (n - (i + (n - j)))).toList).toArray := ⟨_, rfl⟩
    have hcl : ∀ ty, (Builtin.clear_ #[105] ty #[.slice (some ⟨b, (i + (n - j)) * 22, none⟩) (n - (i + (n - j))) (cap - (i + (n - j)))]).run Try.prog W1 = .ok (.tuple #[]) (W1.setRow b c2) := fun ty => by
      rw [hc2]
      exact clear_run (T := T) ty (by omega) (by rw [hW1']; exact setRow_heap _ _ _ _ T _ hh) (by rw [List.size_toArray, spl_length (by rw [hlen, Array.length_toList]; omega), Array.length_toList]; omega)
    have hh0 : Aside (w.heap[b]? = some (.cells cs T (0, 0))) := hh
    have hg0 : Aside (∀ t, t < (n - j) * 22 → news[t]? = some (cs.getD (j * 22 + t) undef)) := hget
    have hc0 : Aside (c2 = (spl (spl cs.toList (0 + i * 22) news).toArray.toList ((i + (n - j)) * 22) (Builtin.zeroCells zeroV.cells (n - (i + (n - j)))).toList).toArray) := hc2
    clear hh hone hcell hget hlen hnews hW1 hW1' hc2
    have mixed := mix
    go_enter Try.func188, Try.ntmps188
    go_wp2_with fail
    go_region_law_o (refine step_append_room rfl (.tmp 22) (.tmp 25) 105 rfl 89 i0 22 Try.underlying105 hi0 hz1 b 0 i cap (by simp [Act.eval, Act.put]) A (n - j) (cap - j) news (by simp [Act.eval, Act.put]) s1.out hsrc.out s2.out (by omega) s3.out ?_; rw [← hW.out])
    go_wp2
    go_ret
    have hh := hh0.out
    have e1 := s1.out
    have hl1 : (spl cs.toList (0 + i * 22) news).length = cs.size := by rw [spl_length (by rw [e1, Array.length_toList]; omega), Array.length_toList]
    have hl2 : (spl (spl cs.toList (0 + i * 22) news) ((i + (n - j)) * 22) (Builtin.zeroCells zeroV.cells (n - (i + (n - j)))).toList).length = cs.size := by
      rw [spl_length (by rw [hl1, Array.length_toList, zc_size, zero_size]; omega), hl1]
    refine ⟨by rw [show n - (j - i) = i + (n - j) by omega]; rfl, w.drew, c2, rfl, rfl, rfl, rfl, ?_, by rw [hc0.out, List.size_toArray, hl2], fun q hq => ?_⟩
    · rw [X.out, setRow_setRow]
    · rw [hc0.out, Array.getD_eq_getD_getElem?, List.getElem?_toArray, ← List.getD_eq_getElem?_getD, spl_getD (by rw [hl1, Array.length_toList, zc_size, zero_size]; omega), if_neg (by omega), spl_getD (by rw [e1, Array.length_toList]; omega)]
      by_cases hq2 : q < i * 22
      · rw [if_neg (by omega), if_pos hq2, List.getD_eq_getElem?_getD, Array.getElem?_toList, ← Array.getD_eq_getD_getElem?]
      · rw [if_pos (by omega), if_neg hq2, List.getD_eq_getElem?_getD, hg0.out _ (by omega)]
        show cs.getD _ _ = _
        congr 1
        omega
def effK' : List CK := [(.int .i64), (.int .i64), (.int .i64), (.int .i64), (.int .i64), (.int .i64), (.int .i64), (.int .i64), (.int .i64), (.int .i64), (.int .i64), (.int .i64), (.int .i64), (.int .i64), (.int .i64), (.int .i64), (.int .i64), (.int .i64), .bool, (.sl [(.int .i64), (.int .i64), (.int .i64), (.int .i64), (.int .i64), (.int .i64), .bool]), (.int .i64), (.int .i64)]
theorem del_nil {w : World} : Calls Try.prog 188 #[.slice none 0 0, .int .i64 0, .int .i64 0] w fun e w' => e = .returned (.slice none 0 0) ∧ w' = w := by
  go_enter Try.func188, Try.ntmps188
  go_wp2
  all_goals (go_ret; exact ⟨rfl, rfl⟩)
theorem lib_pc (d i j : D) (h : 0 ≤ i.toI ∧ i.toI ≤ j.toI ∧ j.toI ≤ d.toL.length) : PC Try.prog 188 [.take [(.int .i64), (.int .i64), (.int .i64), (.int .i64), (.int .i64), (.int .i64), (.int .i64), (.int .i64), (.int .i64), (.int .i64), (.int .i64), (.int .i64), (.int .i64), (.int .i64), (.int .i64), (.int .i64), (.int .i64), (.int .i64), .bool, (.sl [(.int .i64), (.int .i64), (.int .i64), (.int .i64), (.int .i64), (.int .i64), .bool]), (.int .i64), (.int .i64)] d, .sc (.int .i64) i, .sc (.int .i64) j] [.sc (.sl [(.int .i64), (.int .i64), (.int .i64), (.int .i64), (.int .i64), (.int .i64), (.int .i64), (.int .i64), (.int .i64), (.int .i64), (.int .i64), (.int .i64), (.int .i64), (.int .i64), (.int .i64), (.int .i64), (.int .i64), (.int .i64), .bool, (.sl [(.int .i64), (.int .i64), (.int .i64), (.int .i64), (.int .i64), (.int .i64), .bool]), (.int .i64), (.int .i64)])] fun o => o = [.lst (d.toL.take i.toI.toNat ++ d.toL.drop j.toI.toNat)] := by
  refine ⟨⟨Try.f188, Try.func188, by kernel_rfl, by kernel_rfl⟩, fun w vs F G hF hG ha => ?_⟩
  cases ha with
  | cons h1 h2 =>
    cases h2 with
    | cons h2 h3 =>
      cases h3 with
      | cons h3 h4 =>
        cases h4
        obtain ⟨n1, rfl, rfl, rfl, _⟩ := int_arg h2
        obtain ⟨n2, rfl, rfl, rfl, _⟩ := int_arg h3
        simp only [D.toI] at h ⊢
        cases h1 with
        | take h1 =>
          simp only [List.append_nil] at hF hG ⊢
          obtain ⟨a, rfl⟩ := Int.eq_ofNat_of_zero_le h.1
          obtain ⟨c, rfl⟩ := Int.eq_ofNat_of_zero_le (Int.le_trans h.1 h.2.1)
          simp only [Int.toNat_natCast]
          cases h1 with
          | flat h => cases h
          | nil =>
            simp only [D.toL, List.length_nil] at h
            have e1 : a = 0 := by omega
            have e2 : c = 0 := by omega
            subst e1 e2
            refine del_nil.mono ?_
            rintro e w' ⟨rfl, rfl⟩
            refine ⟨_, rfl, [.slice none 0 0], [.lst []], [], [], [], rfl, .cons (.sc .nil) .nil, .skip trivial (.skip trivial (.skip trivial .nil)), rfl, by simp, by simp, ⟨rfl, rfl, rfl, Nat.le_refl _, fun _ _ => rfl⟩⟩
          | sl b cap cs T xs fps hb hsz hcap hmax hsh hown =>
            simp only [D.toL] at h ⊢
            have hij : a ≤ c := by omega
            have hj : c ≤ xs.length := by omega
            have hK : ([(.int .i64), (.int .i64), (.int .i64), (.int .i64), (.int .i64), (.int .i64), (.int .i64), (.int .i64), (.int .i64), (.int .i64), (.int .i64), (.int .i64), (.int .i64), (.int .i64), (.int .i64), (.int .i64), (.int .i64), (.int .i64), .bool, (.sl [(.int .i64), (.int .i64), (.int .i64), (.int .i64), (.int .i64), (.int .i64), .bool]), (.int .i64), (.int .i64)] : List CK).length = 22 := rfl
            rw [hK] at hsz
            refine (del_calls hb hsz hcap hij hj fun q hq => ?_).mono ?_
            · obtain ⟨q1, q2, q3⟩ := flatIdx (k := 22) (by decide) hq
              have := (hown (q / 22) (q % 22) q1 q2).one
              rwa [hK, q3] at this
            rintro e w' ⟨rfl, w1, cs', g1, g2, g3, g4, rfl, g5, g6⟩
            have hold : ∀ b', b' ≠ b → (w1.setRow b cs').heap[b']? = w.heap[b']? := fun b' hne => by rw [setRow_old w1 cs' hne, g1]
            obtain ⟨fp', o1, o2, o3⟩ := own_pick (w' := w1.setRow b cs') (m := xs.length - (c - a)) (by decide) (setRow_heap w1 b cs cs' T (0, 0) (by rw [g1]; exact hb)) (by rw [hK, g5]; exact hsz) (by omega) hmax hsh hown hF hold (xs.take a ++ xs.drop c) (by simp; omega) (fun q => if q < a then q else q + (c - a))
              (fun q hq => by split <;> omega) (fun q q' hq hq' e => by split at e <;> split at e <;> omega) (by omega)
              (fun q hq => by
                by_cases hqa : q < a
                · rw [if_pos hqa, List.getD_eq_getElem?_getD, List.getElem?_append_left (by simp; omega), List.getElem?_take, if_pos hqa, ← List.getD_eq_getElem?_getD]
                · rw [if_neg hqa, List.getD_eq_getElem?_getD, List.getElem?_append_right (by simp; omega), List.getElem?_drop, List.length_take, ← List.getD_eq_getElem?_getD]
                  congr 1
                  omega)
              (fun q c' hq hc' => by
                rw [hK] at hc' ⊢
                have := g6 (q * 22 + c') (by have := idx_lt hq hc'; exact this)
                rw [this]
                by_cases hqa : q < a
                · rw [if_pos hqa, if_pos (by have := idx_lt hqa hc'; exact this)]
                · rw [if_neg hqa, if_neg (by omega)]
                  congr 1
                  omega)
            refine ⟨_, rfl, [_], [_], [], fp', [], rfl, ?_, .skip trivial (.skip trivial (.skip trivial .nil)), rfl, by simpa using o2, fun b' hb' => .inl (o3 b' (by simpa using hb')), ⟨by rw [setRow_os, g2], by rw [setRow_tape, g3], by rw [setRow_output, g4], by rw [setRow_size, g1]; exact Nat.le_refl _, fun b' hb' => hold b' fun e => hb'.2 (by rw [e]; simp)⟩⟩
            have := RetsR.cons (r := .sc (.sl [(.int .i64), (.int .i64), (.int .i64), (.int .i64), (.int .i64), (.int .i64), (.int .i64), (.int .i64), (.int .i64), (.int .i64), (.int .i64), (.int .i64), (.int .i64), (.int .i64), (.int .i64), (.int .i64), (.int .i64), (.int .i64), .bool, (.sl [(.int .i64), (.int .i64), (.int .i64), (.int .i64), (.int .i64), (.int .i64), .bool]), (.int .i64), (.int .i64)])) (w := w1.setRow b cs') (G := G) (.sc o1) .nil
            simpa using this
end L188
theorem pc_188 (d i j : D) (h : 0 ≤ i.toI ∧ i.toI ≤ j.toI ∧ j.toI ≤ d.toL.length) : PC Try.prog 188 [.take [(.int .i64), (.int .i64), (.int .i64), (.int .i64), (.int .i64), (.int .i64), (.int .i64), (.int .i64), (.int .i64), (.int .i64), (.int .i64), (.int .i64), (.int .i64), (.int .i64), (.int .i64), (.int .i64), (.int .i64), (.int .i64), .bool, (.sl [(.int .i64), (.int .i64), (.int .i64), (.int .i64), (.int .i64), (.int .i64), .bool]), (.int .i64), (.int .i64)] d, .sc (.int .i64) i, .sc (.int .i64) j] [.sc (.sl [(.int .i64), (.int .i64), (.int .i64), (.int .i64), (.int .i64), (.int .i64), (.int .i64), (.int .i64), (.int .i64), (.int .i64), (.int .i64), (.int .i64), (.int .i64), (.int .i64), (.int .i64), (.int .i64), (.int .i64), (.int .i64), .bool, (.sl [(.int .i64), (.int .i64), (.int .i64), (.int .i64), (.int .i64), (.int .i64), .bool]), (.int .i64), (.int .i64)])] fun o => o = [.lst (d.toL.take i.toI.toNat ++ d.toL.drop j.toI.toNat)] := L188.lib_pc d i j h
theorem pd_188 (d i j : D) (h : 0 ≤ i.toI ∧ i.toI ≤ j.toI ∧ j.toI ≤ d.toL.length) (Q : List D → Prop) (ho : Q [.lst (d.toL.take i.toI.toNat ++ d.toL.drop j.toI.toNat)]) : PC Try.prog 188 [.take [(.int .i64), (.int .i64), (.int .i64), (.int .i64), (.int .i64), (.int .i64), (.int .i64), (.int .i64), (.int .i64), (.int .i64), (.int .i64), (.int .i64), (.int .i64), (.int .i64), (.int .i64), (.int .i64), (.int .i64), (.int .i64), .bool, (.sl [(.int .i64), (.int .i64), (.int .i64), (.int .i64), (.int .i64), (.int .i64), .bool]), (.int .i64), (.int .i64)] d, .sc (.int .i64) i, .sc (.int .i64) j] [.sc (.sl [(.int .i64), (.int .i64), (.int .i64), (.int .i64), (.int .i64), (.int .i64), (.int .i64), (.int .i64), (.int .i64), (.int .i64), (.int .i64), (.int .i64), (.int .i64), (.int .i64), (.int .i64), (.int .i64), (.int .i64), (.int .i64), .bool, (.sl [(.int .i64), (.int .i64), (.int .i64), (.int .i64), (.int .i64), (.int .i64), .bool]), (.int .i64), (.int .i64)])] Q := (pc_188 d i j h).mono fun _ h => h ▸ ho
/- impl.Drop -/
def phi_111 : Nat → List D → List D
  | 106, [d, n] => [.int (effAt d n.toI)]
  | 177, [d] => [d]
  | 188, [d, i, j] => [.lst (d.toL.take i.toI.toNat ++ d.toL.drop j.toI.toNat)]
  | _, _ => []
theorem pc_111 (d n : D) (h : smallE d) : PC Try.prog 111 [.sc (.sl [(.int .i64), (.int .i64), (.int .i64), (.int .i64), (.int .i64), (.int .i64), (.int .i64), (.int .i64), (.int .i64), (.int .i64), (.int .i64), (.int .i64), (.int .i64), (.int .i64), (.int .i64), (.int .i64), (.int .i64), (.int .i64), .bool, (.sl [(.int .i64), (.int .i64), (.int .i64), (.int .i64), (.int .i64), (.int .i64), .bool]), (.int .i64), (.int .i64)]) d, .sc (.int .i64) n] [.sc (.sl [(.int .i64), (.int .i64), (.int .i64), (.int .i64), (.int .i64), (.int .i64), (.int .i64), (.int .i64), (.int .i64), (.int .i64), (.int .i64), (.int .i64), (.int .i64), (.int .i64), (.int .i64), (.int .i64), (.int .i64), (.int .i64), .bool, (.sl [(.int .i64), (.int .i64), (.int .i64), (.int .i64), (.int .i64), (.int .i64), .bool]), (.int .i64), (.int .i64)]), .sc .bool] fun o => o = [dropT d n.toI, .bool (decide (0 ≤ effAt d n.toI))] := by
  refine PC.of_sig mix sig_111 ⟨rfl, rfl, trivial⟩ rfl fun hok => ?_
  have e_d := sl_eta (hok _ (.head _))
  have l_d := sl_len (hok _ (.head _))
  have k_d := sl_all (hok _ (.head _))
  have E_d : ∀ i, i < d.toL.length → D.lst [(d.elem i).fld 0, (d.elem i).fld 1, (d.elem i).fld 2, (d.elem i).fld 3, (d.elem i).fld 4, (d.elem i).fld 5, (d.elem i).fld 6, (d.elem i).fld 7, (d.elem i).fld 8, (d.elem i).fld 9, (d.elem i).fld 10, (d.elem i).fld 11, (d.elem i).fld 12, (d.elem i).fld 13, (d.elem i).fld 14, (d.elem i).fld 15, (d.elem i).fld 16, (d.elem i).fld 17, (d.elem i).fld 18, (d.elem i).fld 19, (d.elem i).fld 20, (d.elem i).fld 21] = d.elem i := fun i hi => by simpa [List.range, List.range.loop] using okL_eta (k_d _ (elem_mem hi))
  have e_n := int_eta (hok _ (.tail _ (.head _)))
  have b_n := int_range (hok _ (.tail _ (.head _)))
  apply says_den (φ := (phi_111))
  have hr := effAt_range d n.toI
  have h1 := h.1
  by_cases hk : 0 ≤ effAt d n.toI
  · have hw : IntKind.i64.wrap (effAt d n.toI + 1) = effAt d n.toI + 1 := by (first | omega | (simp only [IntKind.wrap_i64, maxL] at *; omega) | (simp [IntKind.wrap_i64, maxL] at *; omega))
    have ht : (effAt d n.toI + 1).toNat = (effAt d n.toI).toNat + 1 := by omega
    simp [e_d, e_n, E_d, tree_111, T.says, X.den, O1.den, O2.den, O3.den, callD, XArg.ev, XArg.dat, Callee'.num, backs, DArg.back, Conds.den, cloArgs, phi_111, pd_106, pd_177, pd_188, h, hw, hk, dropT]
    (repeat' (first | (with_reducible apply And.intro) | intro _)) <;> first | (rw [ht]; done) | omega | (first | assumption | (exact pd_106 _ _ _ (by first | rfl | simp | (simp; omega))) | (exact pd_177 _ (by first | (with_reducible assumption) | omega | assumption | (simp; done) | (simp; omega) | (simp [*]; done) | exact smallE_of (n := 1048576) (by omega) (by omega) | (simp [*] at *; omega) | grind [szS]) _ (by first | rfl | simp | (simp; omega))) | (exact pd_188 _ _ _ (by first | (with_reducible assumption) | omega | assumption | (simp; done) | (simp; omega) | (simp [*]; done) | exact smallE_of (n := 1048576) (by omega) (by omega) | (simp [*] at *; omega) | grind [szS]) _ (by first | rfl | simp | (simp; omega))) | (first | omega | (simp only [IntKind.wrap_i64, maxL] at *; omega) | (simp [IntKind.wrap_i64, maxL] at *; omega)) | rfl | contradiction | grind)
  · simp [e_d, e_n, E_d, tree_111, T.says, X.den, O1.den, O2.den, O3.den, callD, XArg.ev, XArg.dat, Callee'.num, backs, DArg.back, Conds.den, cloArgs, phi_111, pd_106, pd_177, pd_188, h, hk, dropT]
    all_goals ((repeat' (first | (with_reducible apply And.intro) | intro _)) <;> first | omega | (first | assumption | (exact pd_106 _ _ _ (by first | rfl | simp | (simp; omega))) | (exact pd_177 _ (by first | (with_reducible assumption) | omega | assumption | (simp; done) | (simp; omega) | (simp [*]; done) | exact smallE_of (n := 1048576) (by omega) (by omega) | (simp [*] at *; omega) | grind [szS]) _ (by first | rfl | simp | (simp; omega))) | (exact pd_188 _ _ _ (by first | (with_reducible assumption) | omega | assumption | (simp; done) | (simp; omega) | (simp [*]; done) | exact smallE_of (n := 1048576) (by omega) (by omega) | (simp [*] at *; omega) | grind [szS]) _ (by first | rfl | simp | (simp; omega))) | (first | omega | (simp only [IntKind.wrap_i64, maxL] at *; omega) | (simp [IntKind.wrap_i64, maxL] at *; omega)) | rfl | contradiction | grind))
theorem pd_111 (d n : D) (h : smallE d) (Q : List D → Prop) (ho : Q [dropT d n.toI, .bool (decide (0 ≤ effAt d n.toI))]) : PC Try.prog 111 [.sc (.sl [(.int .i64), (.int .i64), (.int .i64), (.int .i64), (.int .i64), (.int .i64), (.int .i64), (.int .i64), (.int .i64), (.int .i64), (.int .i64), (.int .i64), (.int .i64), (.int .i64), (.int .i64), (.int .i64), (.int .i64), (.int .i64), .bool, (.sl [(.int .i64), (.int .i64), (.int .i64), (.int .i64), (.int .i64), (.int .i64), .bool]), (.int .i64), (.int .i64)]) d, .sc (.int .i64) n] [.sc (.sl [(.int .i64), (.int .i64), (.int .i64), (.int .i64), (.int .i64), (.int .i64), (.int .i64), (.int .i64), (.int .i64), (.int .i64), (.int .i64), (.int .i64), (.int .i64), (.int .i64), (.int .i64), (.int .i64), (.int .i64), (.int .i64), .bool, (.sl [(.int .i64), (.int .i64), (.int .i64), (.int .i64), (.int .i64), (.int .i64), .bool]), (.int .i64), (.int .i64)]), .sc .bool] Q := (pc_111 d n h).mono fun _ h => h ▸ ho
/- spec.Drop -/
def phi_112 : Nat → List D → List D
  | 175, [d] => [d]
  | 183, [d, n] => [.int (effAt d n.toI)]
  | _, _ => []
theorem pc_112 (d n : D) (h : smallE d) : PC Try.prog 112 [.sc (.sl [(.int .i64), (.int .i64), (.int .i64), (.int .i64), (.int .i64), (.int .i64), (.int .i64), (.int .i64), (.int .i64), (.int .i64), (.int .i64), (.int .i64), (.int .i64), (.int .i64), (.int .i64), (.int .i64), (.int .i64), (.int .i64), .bool, (.sl [(.int .i64), (.int .i64), (.int .i64), (.int .i64), (.int .i64), (.int .i64), .bool]), (.int .i64), (.int .i64)]) d, .sc (.int .i64) n] [.sc (.sl [(.int .i64), (.int .i64), (.int .i64), (.int .i64), (.int .i64), (.int .i64), (.int .i64), (.int .i64), (.int .i64), (.int .i64), (.int .i64), (.int .i64), (.int .i64), (.int .i64), (.int .i64), (.int .i64), (.int .i64), (.int .i64), .bool, (.sl [(.int .i64), (.int .i64), (.int .i64), (.int .i64), (.int .i64), (.int .i64), .bool]), (.int .i64), (.int .i64)]), .sc .bool] fun o => o = [dropT d n.toI, .bool (decide (0 ≤ effAt d n.toI))] := by
  refine PC.of_sig mix sig_112 ⟨rfl, rfl, trivial⟩ rfl fun hok => ?_
  have e_d := sl_eta (hok _ (.head _))
  have l_d := sl_len (hok _ (.head _))
  have k_d := sl_all (hok _ (.head _))
  have E_d : ∀ i, i < d.toL.length → D.lst [(d.elem i).fld 0, (d.elem i).fld 1, (d.elem i).fld 2, (d.elem i).fld 3, (d.elem i).fld 4, (d.elem i).fld 5, (d.elem i).fld 6, (d.elem i).fld 7, (d.elem i).fld 8, (d.elem i).fld 9, (d.elem i).fld 10, (d.elem i).fld 11, (d.elem i).fld 12, (d.elem i).fld 13, (d.elem i).fld 14, (d.elem i).fld 15, (d.elem i).fld 16, (d.elem i).fld 17, (d.elem i).fld 18, (d.elem i).fld 19, (d.elem i).fld 20, (d.elem i).fld 21] = d.elem i := fun i hi => by simpa [List.range, List.range.loop] using okL_eta (k_d _ (elem_mem hi))
  have e_n := int_eta (hok _ (.tail _ (.head _)))
  have b_n := int_range (hok _ (.tail _ (.head _)))
  apply says_den (φ := (phi_112))
  have hr := effAt_range d n.toI
  have h1 := h.1
  by_cases hk : 0 ≤ effAt d n.toI
  · have hw : IntKind.i64.wrap (effAt d n.toI + 1) = effAt d n.toI + 1 := by (first | omega | (simp only [IntKind.wrap_i64, maxL] at *; omega) | (simp [IntKind.wrap_i64, maxL] at *; omega))
    have ht : (effAt d n.toI + 1).toNat = (effAt d n.toI).toNat + 1 := by omega
    have s1 := smallE_take h (effAt d n.toI).toNat
    have s2 := smallE_drop h ((effAt d n.toI).toNat + 1)
    simp [e_d, e_n, E_d, tree_112, T.says, X.den, O1.den, O2.den, O3.den, callD, XArg.ev, XArg.dat, Callee'.num, backs, DArg.back, Conds.den, cloArgs, phi_112, pd_175, pd_183, h, hw, hk, ht, dropT]
    all_goals ((repeat' (first | (with_reducible apply And.intro) | intro _)) <;> first | omega | (first | assumption | (exact pd_175 _ (by first | (with_reducible assumption) | omega | assumption | (simp; done) | (simp; omega) | (simp [*]; done) | exact smallE_of (n := 1048576) (by omega) (by omega) | (simp [*] at *; omega) | grind [szS]) _ (by first | rfl | simp | (simp; omega))) | (exact pd_183 _ _ _ (by first | rfl | simp | (simp; omega))) | (first | omega | (simp only [IntKind.wrap_i64, maxL] at *; omega) | (simp [IntKind.wrap_i64, maxL] at *; omega)) | rfl | contradiction | grind))
  · simp [e_d, e_n, E_d, tree_112, T.says, X.den, O1.den, O2.den, O3.den, callD, XArg.ev, XArg.dat, Callee'.num, backs, DArg.back, Conds.den, cloArgs, phi_112, pd_175, pd_183, h, hk, dropT]
    all_goals ((repeat' (first | (with_reducible apply And.intro) | intro _)) <;> first | omega | (first | assumption | (exact pd_175 _ (by first | (with_reducible assumption) | omega | assumption | (simp; done) | (simp; omega) | (simp [*]; done) | exact smallE_of (n := 1048576) (by omega) (by omega) | (simp [*] at *; omega) | grind [szS]) _ (by first | rfl | simp | (simp; omega))) | (exact pd_183 _ _ _ (by first | rfl | simp | (simp; omega))) | (first | omega | (simp only [IntKind.wrap_i64, maxL] at *; omega) | (simp [IntKind.wrap_i64, maxL] at *; omega)) | rfl | contradiction | grind))
theorem pd_112 (d n : D) (h : smallE d) (Q : List D → Prop) (ho : Q [dropT d n.toI, .bool (decide (0 ≤ effAt d n.toI))]) : PC Try.prog 112 [.sc (.sl [(.int .i64), (.int .i64), (.int .i64), (.int .i64), (.int .i64), (.int .i64), (.int .i64), (.int .i64), (.int .i64), (.int .i64), (.int .i64), (.int .i64), (.int .i64), (.int .i64), (.int .i64), (.int .i64), (.int .i64), (.int .i64), .bool, (.sl [(.int .i64), (.int .i64), (.int .i64), (.int .i64), (.int .i64), (.int .i64), .bool]), (.int .i64), (.int .i64)]) d, .sc (.int .i64) n] [.sc (.sl [(.int .i64), (.int .i64), (.int .i64), (.int .i64), (.int .i64), (.int .i64), (.int .i64), (.int .i64), (.int .i64), (.int .i64), (.int .i64), (.int .i64), (.int .i64), (.int .i64), (.int .i64), (.int .i64), (.int .i64), (.int .i64), .bool, (.sl [(.int .i64), (.int .i64), (.int .i64), (.int .i64), (.int .i64), (.int .i64), .bool]), (.int .i64), (.int .i64)]), .sc .bool] Q := (pc_112 d n h).mono fun _ h => h ▸ ho
end Go.Proofs.Ytammagpahfmenaa
