/- The engine of this claim: a symbolic executor over the model and the proof that what it says of a function is so. Part E4. -/
import Derived.Test.YtfbahdalemajcaaE3
/-
  The engine: arguments of a call.
-/
namespace Go.Proofs.Ytfbahdalemajcaa.Eng
/-- A cell of a struct whose slices the callee writes: the row that it is (if it is one), and the blocks. -/
inductive CellL (w : World) (ρ : RowM) (rows : List (Nat × Conds × Row)) : CK → D → Value → List Nat → Option Nat → Prop
  | flat {ck : CK} {d : D} {v : Value} : Flat ck d v → CellL w ρ rows ck d v [] none
  | nil {ks : List CK} : CellL w ρ rows (.sl ks) (.lst []) (.slice none 0 0) [] none
  | row {ks : List CK} {id : Nat} {rc : RowC} : ρ id = some rc → rc.k = ks.length → (∀ c r, look rows id = some (c, r) → r.ks = ks) → Own w (.sl ks) (.lst rc.xs) (.slice rc.addr rc.xs.length rc.cap) rc.fp → CellL w ρ rows (.sl ks) (.lst rc.xs) (.slice rc.addr rc.xs.length rc.cap) rc.fp (some id)
inductive CellsL (w : World) (ρ : RowM) (rows : List (Nat × Conds × Row)) : Nat → List CK → List D → List Value → List Nat → List (Nat × Nat) → Prop
  | nil {c : Nat} : CellsL w ρ rows c [] [] [] [] []
  | none {c : Nat} {ck : CK} {d : D} {v : Value} {ks : List CK} {ds : List D} {vs : List Value} {fps : List Nat} {ids : List (Nat × Nat)} : CellL w ρ rows ck d v [] none → CellsL w ρ rows (c + 1) ks ds vs fps ids → CellsL w ρ rows c (ck :: ks) (d :: ds) (v :: vs) fps ids
  | some {c id : Nat} {ck : CK} {d : D} {v : Value} {fp : List Nat} {ks : List CK} {ds : List D} {vs : List Value} {fps : List Nat} {ids : List (Nat × Nat)} : CellL w ρ rows ck d v fp (some id) → CellsL w ρ rows (c + 1) ks ds vs fps ids →
      CellsL w ρ rows c (ck :: ks) (d :: ds) (v :: vs) (fp ++ fps) ((id, c) :: ids)
/-- An argument: what the callee may write, by rows, taken rows and cursors. -/
inductive ArgL (cx : Cx) (w : World) (m : BoxM) (ρ : RowM) (rows : List (Nat × Conds × Row)) (env : List D) (S : Nat → Prop) : DArg → Value → List Nat → List Wr → List Nat → List Nat → Prop
  | read {a : DArg} {v : Value} : (match a with | .row _ _ | .stw _ _ | .take _ _ | .cur _ => False | _ => True) → ArgR w S cx.G a v [] → ArgL cx w m ρ rows env S a v [] [] [] []
  | row {ks : List CK} {id : Nat} {rc : RowC} : ρ id = some rc → rc.k = ks.length → (∀ c r, look rows id = some (c, r) → r.ks = ks) → Own w (.sl ks) (.lst rc.xs) (.slice rc.addr rc.xs.length rc.cap) rc.fp → ArgL cx w m ρ rows env S (.row ks (.lst rc.xs)) (.slice rc.addr rc.xs.length rc.cap) rc.fp [.row id] [] []
  | nest {ks kr : List CK} {id b cap c j : Nat} {cs : Array Value} {T : TypeId} {xs : List D} {fps : Nat → Nat → List Nat} {i : X} {rc : RowC} : ρ id = some rc → rc = ⟨xs, some ⟨b, 0, none⟩, cap, kr.length, b :: fpAll xs.length kr.length fps⟩ →
      w.heap[b]? = some (.cells cs T (0, 0)) → cap * kr.length ≤ cs.size → xs.length ≤ cap → xs.length ≤ maxL → (∀ i, i < xs.length → Shp kr.length (xs.getD i default)) →
      (∀ i c, i < xs.length → c < kr.length → Own w (kr.getD c default) ((xs.getD i default).fld c) (cs.getD (i * kr.length + c) undef) (fps i c)) → (∀ c r, look rows id = some (c, r) → r.ks = kr) → i.lt env.length = true → i.den env = .int j → j < xs.length → c < kr.length → kr.getD c default = .sl ks →
      ArgL cx w m ρ rows env S (.row ks ((xs.getD j default).fld c)) (cs.getD (j * kr.length + c) undef) (fps j c) [.nest id i c] [] []
  | stw {cks : List CK} {ds : List D} {vs : List Value} {fp : List Nat} {ids : List (Nat × Nat)} : CellsL w ρ rows 0 cks ds vs fp ids → ArgL cx w m ρ rows env S (.stw cks (.lst ds)) (.agg vs.toArray) fp [.cells ids] [] []
  | take {ks : List CK} {id : Nat} {rc : RowC} : ρ id = some rc → Own w (.sl ks) (.lst rc.xs) (.slice rc.addr rc.xs.length rc.cap) rc.fp → ArgL cx w m ρ rows env S (.take ks (.lst rc.xs)) (.slice rc.addr rc.xs.length rc.cap) rc.fp [] [id] []
  | cur {d : D} {id b : Nat} : m id = some b → curVal w cx.G d b → ArgL cx w m ρ rows env S (.cur d) (.pointer (some ⟨b, 0, none⟩)) [b] [] [] [id]
inductive ArgsL (cx : Cx) (w : World) (m : BoxM) (ρ : RowM) (rows : List (Nat × Conds × Row)) (env : List D) (S : Nat → Prop) : List DArg → List Value → List Nat → List Wr → List Nat → List Nat → Prop
  | nil : ArgsL cx w m ρ rows env S [] [] [] [] [] []
  | cons {a : DArg} {v : Value} {fp : List Nat} {wr : List Wr} {tk cu : List Nat} {as : List DArg} {vs : List Value} {fps : List Nat} {wrs : List Wr} {tks cus : List Nat} : ArgL cx w m ρ rows env S a v fp wr tk cu → ArgsL cx w m ρ rows env S as vs fps wrs tks cus →
      ArgsL cx w m ρ rows env S (a :: as) (v :: vs) (fp ++ fps) (wr ++ wrs) (tk ++ tks) (cu ++ cus)
section
variable {rows : List (Nat × Conds × Row)} {P : Program} {cx : Cx} {w0 w w' : World} {m m' : BoxM} {ρ ρ' : RowM} {env : List D} {st : St} {g : Conds} {a : Act} {o : Oper} {ops : Array Oper} {clo : Nat → CloD}
theorem CellL.own {ck : CK} {d : D} {v : Value} {fp : List Nat} {q : Option Nat} (h : CellL w ρ rows ck d v fp q) : Own w ck d v fp := by
  cases h with
  | flat h => exact .flat h
  | nil => exact .nil
  | row _ _ _ h => exact h
theorem CellsL.own {c : Nat} {cks : List CK} {ds : List D} {vs : List Value} {fp : List Nat} {ids : List (Nat × Nat)} (h : CellsL w ρ rows c cks ds vs fp ids) : ds.length = cks.length ∧ vs.length = cks.length ∧ ∃ fps : Nat → List Nat, fp = fpRow cks.length fps ∧
    ∀ i, i < cks.length → Own w (cks.getD i default) (ds.getD i default) (vs.getD i undef) (fps i) := by
  induction h with
  | nil => exact ⟨rfl, rfl, fun _ => [], by simp [fpRow], by simp⟩
  | none h1 _ ih =>
    obtain ⟨a1, a2, fps, a3, a4⟩ := ih
    refine ⟨by simp [a1], by simp [a2], fun i => match i with | 0 => [] | i + 1 => fps i, ?_, fun i hi => ?_⟩
    · rw [a3, List.length_cons, fpRow, fpRow, List.range_succ_eq_map]; simp [List.flatMap_map]
    · cases i with
      | zero => exact h1.own
      | succ i => simpa using a4 i (by simpa using hi)
  | @some c id ck d v fp ks ds vs fps' ids h1 _ ih =>
    obtain ⟨a1, a2, fps, a3, a4⟩ := ih
    refine ⟨by simp [a1], by simp [a2], fun i => match i with | 0 => fp | i + 1 => fps i, ?_, fun i hi => ?_⟩
    · rw [a3, List.length_cons, fpRow, fpRow, List.range_succ_eq_map]; simp [List.flatMap_map]
    · cases i with
      | zero => exact h1.own
      | succ i => simpa using a4 i (by simpa using hi)
theorem ArgL.argR {S : Nat → Prop} {d : DArg} {v : Value} {fp : List Nat} {wr : List Wr} {tk cu : List Nat} (h : ArgL cx w m ρ rows env S d v fp wr tk cu) : ArgR w S cx.G d v fp := by
  cases h with
  | read _ h => exact h
  | row _ _ _ h => exact .row h
  | nest h1 h2 h3 h4 h5 h6 h7 h8 _ _ h9 h10 h11 h12 =>
    have := h8 _ _ h10 h11
    rw [h12] at this
    exact .row this
  | stw h =>
    obtain ⟨a1, a2, fps, a3, a4⟩ := h.own
    subst a3
    exact .stw ⟨_, rfl, a1⟩ a2 fun c hc => a4 c hc
  | take _ h => exact .take h
  | cur _ h => exact .cur h
theorem ArgsL.argsR {S : Nat → Prop} {ds : List DArg} {vs : List Value} {fp : List Nat} {wr : List Wr} {tk cu : List Nat} (h : ArgsL cx w m ρ rows env S ds vs fp wr tk cu) : ArgsR w S cx.G ds vs fp := by
  induction h with
  | nil => exact .nil
  | cons h1 _ ih => exact .cons h1.argR ih
theorem argS_mono {S S' G : Nat → Prop} (h : ∀ b, S b → S' b) {ck : CK} : ∀ b, argS S G ck b → argS S' G ck b := by
  intro b hb
  cases ck with
  | sl ks =>
    simp only [argS] at hb ⊢
    cases hk : CK.glob ks with
    | true => rw [hk] at hb; exact hb
    | false => rw [hk] at hb; exact h b hb
  | int k => exact h b hb
  | bool => exact h b hb
  | str => exact h b hb
theorem ElemAt.mono {S S' : Nat → Prop} (h : ∀ b, S b → S' b) {ks : List CK} {d : D} {b o : Nat} (he : ElemAt w S ks d b o) : ElemAt w S' ks d b o := by
  obtain ⟨u, h1, h2⟩ := he
  exact ⟨u, h b h1, fun c hc => ⟨(h2 c hc).1, (h2 c hc).2.mono h⟩⟩
theorem ArgR.mono {S S' G : Nat → Prop} (h : ∀ b, S b → S' b) {d : DArg} {v : Value} {fp : List Nat} (ha : ArgR w S G d v fp) : ArgR w S' G d v fp := by
  cases ha with
  | sc h1 => exact .sc (h1.mono (argS_mono h))
  | st h0 h1 h2 => exact .st h0 h1 fun c hc => (h2 c hc).mono h
  | bx h1 => exact .bx (h1.mono h)
  | clo h1 h2 => exact .clo h1 fun i hi => by obtain ⟨b, o, e1, e2⟩ := h2 i hi; exact ⟨b, o, e1, e2.mono h⟩
  | row h1 => exact .row h1
  | stw h0 h1 h2 => exact .stw h0 h1 h2
  | take h1 => exact .take h1
  | cur h1 => exact .cur h1
theorem ArgsR.mono {S S' G : Nat → Prop} (h : ∀ b, S b → S' b) {ds : List DArg} {vs : List Value} {fp : List Nat} (ha : ArgsR w S G ds vs fp) : ArgsR w S' G ds vs fp := by
  induction ha with
  | nil => exact .nil
  | cons h1 _ ih => exact .cons (h1.mono h) ih
end
end Go.Proofs.Ytfbahdalemajcaa.Eng

/-
  The engine: arguments of a call, one by one.
-/
namespace Go.Proofs.Ytfbahdalemajcaa.Eng
/-- The blocks of which the caller lends none. -/
def loanS (w : World) (m : BoxM) (ρ : RowM) (js cu : List Nat) (b : Nat) : Prop := b < w.heap.size ∧ (∀ id rc, id ∈ js → ρ id = some rc → b ∉ rc.fp) ∧ ∀ id, id ∈ cu → m id ≠ some b
section
variable {P : Program} {cx : Cx} {w0 w w' : World} {m m' : BoxM} {ρ ρ' : RowM} {env : List D} {st : St} {g : Conds} {a : Act} {o : Oper} {ops : Array Oper} {clo : Nat → CloD} {js cu : List Nat}
theorem loan_S (hc : CxOk cx w0) (hk : Kept cx w0 w) (hS : Sep cx w m ρ) : ∀ b, cx.S b → loanS w m ρ js cu b :=
  fun b hb => ⟨Nat.lt_of_lt_of_le (hc.lt b hb) hk.size, fun id rc _ hi hm => (hS.rowOwn id rc b hi hm).1 hb, fun id _ hi => (hS.boxOwn id b hi).1 hb⟩
theorem loan_row (hS : Sep cx w m ρ) {id : Nat} {rc : RowC} (hi : ρ id = some rc) (hn : id ∉ js) : ∀ b, b ∈ rc.fp → loanS w m ρ js cu b :=
  fun b hb => ⟨(hS.rowOwn id rc b hi hb).2.2, fun id' rc' hj hi' hb' => hn (hS.rows id id' rc rc' b hi hi' hb hb' ▸ hj), fun id' _ hm => hS.apart id' id rc b hm hi hb⟩
theorem loan_box (hS : Sep cx w m ρ) {id b : Nat} (hi : m id = some b) (hn : id ∉ cu) : loanS w m ρ js cu b :=
  ⟨(hS.boxOwn id b hi).2.2, fun id' rc' _ hi' hb' => hS.apart id id' rc' b hi hi' hb', fun id' hj hm => hn (hS.boxes id id' b hi hm ▸ hj)⟩
theorem argX_ok (hc : CxOk cx w0) (hk : Kept cx w0 w) (H : HeapR cx w m ρ env st.boxes st.rows) (hg : g.den env) {ck : CK} {sv : SV} {v : Value} {x : X} (h : argX st g ck sv = some x) (hv : SVR cx w m ρ env sv v) (hf : sv.free js = true) :
    Snap w (argS (loanS w m ρ js cu) cx.G ck) ck (x.den env) v := by
  have hS := H.sep
  have ng : ∀ {ks : List CK}, CK.glob ks = false → argS (loanS w m ρ js cu) cx.G (.sl ks) = loanS w m ρ js cu := fun h => by simp [argS, h]
  unfold argX at h
  split at h
  · split at h
    · rename_i hkk
      simp only [beq_iff_eq] at hkk
      subst hkk
      cases h
      obtain ⟨n, n1, n2, n3⟩ := hv.num_inv
      exact .flat (by rw [n1, n3]; exact .int n2)
    · cases h
  · cases h
    obtain ⟨b, b1, b2⟩ := hv.boo_inv
    exact .flat (by rw [b1, b2]; exact .bool)
  · cases h
    obtain ⟨s, s1, s2⟩ := hv.txt_inv
    have := hv.txt_bd s2
    exact .flat (by rw [s1, s2]; exact .str this)
  · rename_i ks src ks' y
    split at h
    · rename_i hcd
      cases h
      simp only [Bool.and_eq_true, Bool.or_eq_true, Bool.not_eq_true', beq_iff_eq] at hcd
      have := CK.beqs_eq _ _ hcd.1.1
      subst this
      cases hv with
      | sl h1 h2 =>
        cases hgl : CK.glob ks with
        | true =>
          have hsrc : src = .st true := by
            rcases hcd.2 with h | h
            · rw [hgl] at h; cases h
            · exact h
          subst hsrc
          simp only [srcS, Cx.at, Option.some.injEq] at h1
          subst h1
          simp only [argS, hgl]
          exact h2
        | false =>
          rw [ng hgl]
          cases src with
          | st gl =>
            simp only [srcS, Option.some.injEq] at h1
            subst h1
            cases gl
            · exact h2.mono (loan_S hc hk hS)
            · exact h2.mono fun b hb => loan_S hc hk hS b (hc.gs b hb)
          | row id =>
            simp only [srcS, Option.map_eq_some_iff] at h1
            obtain ⟨rc, r1, r2⟩ := h1
            subst r2
            simp only [SV.free, Bool.not_eq_true', memN_false] at hf
            exact h2.mono (loan_row hS r1 hf)
    · cases h
  · rename_i ks id pre
    split at h
    · rename_i r hr
      split at h
      · rename_i hcd
        cases h
        simp only [Bool.and_eq_true, Bool.not_eq_true'] at hcd
        have := CK.beqs_eq _ _ hcd.1
        subst this
        obtain ⟨rc, r1, r2⟩ := ov_snap H hg hr hv
        rw [ng hcd.2]
        simp only [SV.free, Bool.not_eq_true', memN_false] at hf
        exact r2.mono (loan_row hS r1 hf)
      · cases h
    · cases h
  · rename_i ks id lo hi
    split at h
    · rename_i r hr
      split at h
      · rename_i hcd
        cases h
        simp only [Bool.and_eq_true, Bool.not_eq_true'] at hcd
        have := CK.beqs_eq _ _ hcd.1
        subst this
        obtain ⟨rc, r1, r2⟩ := ow_snap H hg hr hv
        rw [ng hcd.2]
        simp only [SV.free, Bool.not_eq_true', memN_false] at hf
        exact r2.mono (loan_row hS r1 hf)
      · cases h
    · cases h
  · rename_i ks id i c
    split at h
    · rename_i ks' y hy
      split at h
      · rename_i hcd
        cases h
        simp only [Bool.and_eq_true, Bool.not_eq_true'] at hcd
        have := CK.beqs_eq _ _ hcd.1
        subst this
        obtain ⟨rc, fp, h1, h2, h3⟩ := nest_own H hg hy hv
        rw [ng hcd.2]
        simp only [SV.free, Bool.not_eq_true', memN_false] at hf
        exact (h2.snap h3).mono (loan_row hS h1 hf)
      · cases h
    · cases h
  · split at h
    · cases h
    · cases h
      cases hv
      exact .nil _ _
  · cases h
theorem argsX_ok (hc : CxOk cx w0) (hk : Kept cx w0 w) (H : HeapR cx w m ρ env st.boxes st.rows) (hg : g.den env) : ∀ (ks : List CK) (svs : List SV) (vs : List Value) (xs : List X), argsX st g ks svs = some xs → SVRs cx w m ρ env svs vs → SV.frees js svs = true →
    xs.length = ks.length ∧ vs.length = ks.length ∧ svs.length = ks.length ∧ ∀ c, c < ks.length → Snap w (loanS w m ρ js cu) (ks.getD c default) ((xs.map (X.den env)).getD c default) (vs.getD c undef)
  | [], [], vs, xs, h, hv, _ => by
    cases h
    have : vs = [] := List.eq_nil_of_length_eq_zero hv.1
    subst this
    exact ⟨rfl, rfl, rfl, by simp⟩
  | [], _ :: _, vs, xs, h, _, _ => by simp [argsX] at h
  | _ :: _, [], vs, xs, h, _, _ => by simp [argsX] at h
  | k :: ks, sv :: svs, vs, xs, h, hv, hf => by
    simp only [argsX] at h
    split at h
    · rename_i x xs' h1 h2
      cases h
      simp only [SV.frees, Bool.and_eq_true] at hf
      cases vs with
      | nil => exact absurd hv.1 (by simp)
      | cons v vs =>
        have hv0 : SVR cx w m ρ env sv v := hv.2 0 (by simp)
        have hvr : SVRs cx w m ρ env svs vs := ⟨by simpa using hv.1, fun i hi => by simpa using hv.2 (i + 1) (by simpa using hi)⟩
        obtain ⟨a1, a2, a3, a4⟩ := argsX_ok hc hk H hg ks svs vs xs' h2 hvr hf.2
        refine ⟨by simp [a1], by simp [a2], by simp [a3], fun c hcc => ?_⟩
        cases c with
        | zero =>
          have := argX_ok (cu := cu) hc hk H hg h1 hv0 hf.1
          refine this.mono fun b hb => ?_
          cases k with
          | sl ks' =>
            simp only [argS] at hb
            cases hgl : CK.glob ks' with
            | true => rw [hgl] at hb; exact loan_S hc hk H.sep b (hc.gs b hb)
            | false => rw [hgl] at hb; exact hb
          | int _ => exact hb
          | bool => exact hb
          | str => exact hb
        | succ c => simpa using a4 c (by simpa using hcc)
    · cases h
theorem capX_ok (hc : CxOk cx w0) (hk : Kept cx w0 w) (H : HeapR cx w m ρ env st.boxes st.rows) (hg : g.den env) : ∀ (svs : List SV) (vs : List Value) (caps : List (List CK × X)), capX st g svs = some caps → SVRs cx w m ρ env svs vs → argFree st g js cu (.clo 0 svs) = true →
    vs.length = caps.length ∧ ∀ i, i < caps.length → ∃ b o, vs.getD i undef = .pointer (some ⟨b, o, none⟩) ∧ ElemAt w (loanS w m ρ js cu) ((caps.map fun p => (p.1, p.2.den env)).getD i default).1 ((caps.map fun p => (p.1, p.2.den env)).getD i default).2 b o
  | [], vs, caps, h, hv, _ => by
    cases h
    have : vs = [] := List.eq_nil_of_length_eq_zero hv.1
    subst this
    exact ⟨rfl, by simp⟩
  | sv :: svs, vs, caps, h, hv, hf => by
    unfold capX at h
    split at h
    · rename_i heq; cases heq
    · rename_i id l heq
      cases heq
      split at h
      · rename_i cells r hb hr
        split at h
        · rename_i ks hks
          split at h
          · rename_i xs hxs
            cases h
            simp only [argFree, List.all_cons, Bool.and_eq_true, Bool.not_eq_true', memN_false, hb] at hf
            cases vs with
            | nil => exact absurd hv.1 (by simp)
            | cons v vs =>
              have hv0 : SVR cx w m ρ env (.bp id 0) v := hv.2 0 (by simp)
              have hvr : SVRs cx w m ρ env svs vs := ⟨by simpa using hv.1, fun i hi => by simpa using hv.2 (i + 1) (by simpa using hi)⟩
              obtain ⟨a1, a2⟩ := capX_ok hc hk H hg svs vs r hr hvr (by simpa [argFree] using hf.2)
              obtain ⟨b, b1, b2⟩ := hv0.bp_inv
              obtain ⟨us, T, u1, u2⟩ := box_get H hg hb b1
              obtain ⟨x1, x2, x3, x4⟩ := argsX_ok (js := js) (cu := cu) hc hk H hg ks cells us xs hxs u2 hf.1.2
              refine ⟨by simp [a1], fun i hi => ?_⟩
              cases i with
              | zero =>
                refine ⟨b, 0, b2, fun c => us.getD c undef, loan_box H.sep b1 hf.1.1, fun c hcc => ⟨?_, ?_⟩⟩
                · rw [Nat.zero_add]
                  exact cell_of_cells u1 (by rw [x2]; exact hcc)
                · have := x4 c hcc
                  simpa [many_den, D.fld, D.toL] using this
              | succ i => simpa using a2 i (by simpa using hi)
          · cases h
        · cases h
      · cases h
    · cases h
end
end Go.Proofs.Ytfbahdalemajcaa.Eng

/-
  The engine: all arguments of a call.
-/
namespace Go.Proofs.Ytfbahdalemajcaa.Eng
/-- The function values that came in are what the tree takes them for. -/
def CloOk (cx : Cx) (w : World) (clo : Nat → CloD) : Prop := ∀ j, ArgR w cx.S cx.G (.clo (clo j).1 (clo j).2) (cx.clo j) []
section
variable {P : Program} {cx : Cx} {w0 w w' : World} {m m' : BoxM} {ρ ρ' : RowM} {env : List D} {st : St} {g : Conds} {a : Act} {o : Oper} {ops : Array Oper} {clo : Nat → CloD} {js cu : List Nat}
theorem ElemAt.frame {S : Nat → Prop} (h : ∀ b, S b → w'.heap[b]? = w.heap[b]?) {ks : List CK} {d : D} {b o : Nat} (he : ElemAt w S ks d b o) : ElemAt w' S ks d b o := by
  obtain ⟨u, h1, h2⟩ := he
  exact ⟨u, h1, fun c hc => ⟨(cell?_eq (h b h1)).trans (h2 c hc).1, (h2 c hc).2.frame h⟩⟩
theorem CloOk.kept (h : CloOk cx w0 clo) (hk : Kept cx w0 w) : CloOk cx w clo := fun j => by
  have := h j
  generalize hd : DArg.clo (clo j).1 (clo j).2 = d at this
  generalize hv : cx.clo j = v at this
  generalize hfp : ([] : List Nat) = fp at this ⊢
  cases this with
  | clo h1 h2 =>
    exact .clo h1 fun i hi => by obtain ⟨b, o, e1, e2⟩ := h2 i hi; exact ⟨b, o, e1, e2.frame hk.block⟩
  | _ => cases hd
theorem row_look {id : Nat} {r : Row} (hr : st.row g id = some r) : ∀ c r', look st.rows id = some (c, r') → r'.ks = r.ks := by
  intro c r' hl
  simp only [St.row, hl] at hr
  split at hr
  · cases hr; rfl
  · cases hr
theorem whole_row (H : HeapR cx w m ρ env st.boxes st.rows) (hg : g.den env) {id : Nat} {r : Row} (hr : st.row g id = some r) {v : Value} (hv : SVR cx w m ρ env (.ov id none) v) :
    ∃ rc, ρ id = some rc ∧ v = .slice rc.addr rc.xs.length rc.cap ∧ r.c.den env = .lst rc.xs ∧ rc.k = r.ks.length ∧ Own w (.sl r.ks) (.lst rc.xs) (.slice rc.addr rc.xs.length rc.cap) rc.fp := by
  cases hv with
  | ov h1 h2 h3 h4 =>
    obtain ⟨r1, r2, r3⟩ := row_get H hg hr h1
    exact ⟨_, h1, by rw [h3 rfl], r1, r2, r3⟩
theorem ovCells_ok (H : HeapR cx w m ρ env st.boxes st.rows) (hg : g.den env) : ∀ (ks : List CK) (c : Nat) (svs : List SV) (vs : List Value) (xs : List X) (ids : List (Nat × Nat)), ovCells st g c ks svs = some (xs, ids) → SVRs cx w m ρ env svs vs →
    ∃ fp, CellsL w ρ st.rows c ks (xs.map (X.den env)) vs fp ids
  | [], c, svs, vs, xs, ids, h, hv => by
    cases svs with
    | nil =>
      simp only [ovCells] at h
      cases h
      have : vs = [] := List.eq_nil_of_length_eq_zero hv.1
      subst this
      exact ⟨[], .nil⟩
    | cons _ _ => simp [ovCells] at h
  | k :: ks, c, [], vs, xs, ids, h, hv => by
    cases k <;> simp [ovCells] at h
  | k :: ks, c, sv :: svs, vs, xs, ids, h, hv => by
    cases vs with
    | nil => exact absurd hv.1 (by simp)
    | cons v vs =>
    have hv0 : SVR cx w m ρ env sv v := hv.2 0 (by simp)
    have hvr : SVRs cx w m ρ env svs vs := ⟨by simpa using hv.1, fun i hi => by simpa using hv.2 (i + 1) (by simpa using hi)⟩
    have third : ∀ x0 : Option X, ovFlat k x0 (ovCells st g (c + 1) ks svs) = some (xs, ids) → (∀ x, x0 = some x → k.flat = true → Flat k (x.den env) v) →
        ∃ fp, CellsL w ρ st.rows c (k :: ks) (xs.map (X.den env)) (v :: vs) fp ids := by
      intro x0 h hfl
      unfold ovFlat at h
      split at h
      · rename_i x xs' ids' hrest
        split at h
        · rename_i hf
          cases h
          obtain ⟨fp, hL⟩ := ovCells_ok H hg ks (c + 1) svs vs xs' ids hrest hvr
          exact ⟨fp, .none (.flat (hfl x rfl hf)) hL⟩
        · cases h
      · cases h
    cases k with
    | sl ks' =>
      have third' : ∀ x0 : Option X, ovFlat (.sl ks') x0 (ovCells st g (c + 1) ks svs) = some (xs, ids) → ∃ fp, CellsL w ρ st.rows c (.sl ks' :: ks) (xs.map (X.den env)) (v :: vs) fp ids :=
        fun x0 h => third x0 h fun _ _ hf => by simp [CK.flat] at hf
      cases sv with
      | ov id pre =>
        cases pre with
        | none =>
          simp only [ovCells] at h
          split at h
          · rename_i r xs' ids' hr hrest
            split at h
            · rename_i hk
              cases h
              have := CK.beqs_eq _ _ hk
              subst this
              obtain ⟨fp, hL⟩ := ovCells_ok H hg ks (c + 1) svs vs xs' ids' hrest hvr
              obtain ⟨rc, r1, r2, r3, r4, r5⟩ := whole_row H hg hr hv0
              subst r2
              refine ⟨rc.fp ++ fp, ?_⟩
              rw [List.map_cons, r3]
              exact .some (.row r1 r4 (row_look hr) r5) hL
            · cases h
          · cases h
        | some p => simp only [ovCells] at h; exact third' _ h
      | nilsl =>
        simp only [ovCells] at h
        split at h
        · rename_i xs' ids' hrest
          cases h
          obtain ⟨fp, hL⟩ := ovCells_ok H hg ks (c + 1) svs vs xs' ids hrest hvr
          cases hv0
          exact ⟨fp, .none .nil hL⟩
        · cases h
      | _ => simp only [ovCells] at h; exact third' _ h
    | int k =>
      simp only [ovCells] at h
      refine third _ h fun x hx _ => ?_
      cases sv <;> simp only [argX] at hx
      all_goals first | (cases hx; done) | skip
      split at hx
      · rename_i hkk
        simp only [beq_iff_eq] at hkk
        subst hkk
        cases hx
        obtain ⟨n, n1, n2, n3⟩ := hv0.num_inv
        rw [n1, n3]; exact .int n2
      · cases hx
    | bool =>
      simp only [ovCells] at h
      refine third _ h fun x hx _ => ?_
      cases sv <;> simp only [argX] at hx
      all_goals first | (cases hx; done) | skip
      cases hx
      obtain ⟨b, b1, b2⟩ := hv0.boo_inv
      rw [b1, b2]; exact .bool
    | str =>
      simp only [ovCells] at h
      refine third _ h fun x hx _ => ?_
      cases sv <;> simp only [argX] at hx
      all_goals first | (cases hx; done) | skip
      cases hx
      obtain ⟨s, s1, s2⟩ := hv0.txt_inv
      have := hv0.txt_bd s2
      rw [s1, s2]; exact .str this
theorem curBox_ok (H : HeapR cx w m ρ env st.boxes st.rows) (hg : g.den env) {id b : Nat} {cells : List SV} {x : X} (hb : st.box g id = some cells) (hx : curBox cells = some x) (hm : m id = some b) : curVal w cx.G (x.den env) b := by
  obtain ⟨vs, T, h1, h2⟩ := box_get H hg hb hm
  have key : ∀ s0 s1 s2, cells = [s0, s1, s2] → s0 = .sl (.st true) [.int .u8] x → (∀ v, SVR cx w m ρ env s1 v → ∃ i, v = .int .i64 i ∧ inK .i64 i = true ∧ 0 ≤ i) → (∀ v, SVR cx w m ρ env s2 v → ∃ i, v = .int .i64 i ∧ inK .i64 i = true) → curVal w cx.G (x.den env) b := by
    intro s0 s1 s2 hcs hs0 hs1 hs2
    subst hcs hs0
    match vs, h2 with
    | [v0, v1, v2], h2 =>
      obtain ⟨i, rfl, i2, i3⟩ := hs1 v1 (h2.2 1 (by simp))
      obtain ⟨j, rfl, j2⟩ := hs2 v2 (h2.2 2 (by simp))
      have h0 : SVR cx w m ρ env (.sl (.st true) [.int .u8] x) v0 := h2.2 0 (by simp)
      cases h0 with
      | sl e1 e2 =>
        simp only [srcS, Cx.at, Option.some.injEq] at e1
        subst e1
        exact ⟨v0, i, j, T, h1, e2, i2, i3, j2⟩
    | [], h2 => exact absurd h2.1 (by simp)
    | [_], h2 => exact absurd h2.1 (by simp)
    | [_, _], h2 => exact absurd h2.1 (by simp)
    | _ :: _ :: _ :: _ :: _, h2 => exact absurd h2.1 (by simp)
  have ai : ∀ v, SVR cx w m ρ env (.ai .i64) v → ∃ i, v = .int .i64 i ∧ inK .i64 i = true := fun v h => by cases h; exact ⟨_, rfl, ‹_›⟩
  have nm : ∀ y v, SVR cx w m ρ env (.num .i64 y) v → ∃ i, v = .int .i64 i ∧ inK .i64 i = true := fun y v h => by cases h; exact ⟨_, rfl, ‹_›⟩
  have an : ∀ v, SVR cx w m ρ env .an v → ∃ i, v = .int .i64 i ∧ inK .i64 i = true ∧ 0 ≤ i := fun v h => by cases h; exact ⟨_, rfl, ‹_›, ‹_›⟩
  have nn : ∀ n v, SVR cx w m ρ env (.num .i64 (.int (.ofNat n))) v → ∃ i, v = .int .i64 i ∧ inK .i64 i = true ∧ 0 ≤ i := fun n v h => by
    obtain ⟨q, q0, q1, rfl⟩ := h.num_inv
    simp only [X.den, D.int.injEq] at q0
    exact ⟨q, rfl, q1, by rw [← q0]; exact Int.natCast_nonneg _⟩
  unfold curBox at hx
  split at hx
  · cases hx; exact key _ _ _ rfl rfl an ai
  · cases hx; exact key _ _ _ rfl rfl (nn _) (nm _)
  · cases hx
theorem curBoxR_ok (H : HeapR cx w m ρ env st.boxes st.rows) (hg : g.den env) {id b : Nat} {cells : List SV} {x : X} {i : Option X} (hb : st.box g id = some cells) (hx : curBoxR cells = some (x, i)) (hi : ∀ y, i = some y → 0 ≤ (y.den env).toI) (hm : m id = some b) : curVal w cx.G (x.den env) b := by
  unfold curBoxR at hx
  split at hx
  · cases hx
    exact curBox_ok H hg hb rfl hm
  · cases hx
    obtain ⟨vs, T, h1, h2⟩ := box_get H hg hb hm
    match vs, h2 with
    | [v0, v1, v2], h2 =>
      obtain ⟨q, q0, q1, hq⟩ := (h2.2 1 (by simp)).num_inv
      obtain ⟨p, p0, p1, hp⟩ := (h2.2 2 (by simp)).num_inv
      have hv1 : v1 = .int .i64 q := hq
      have hv2 : v2 = .int .i64 p := hp
      subst hv1 hv2
      have h0 : SVR cx w m ρ env (.sl (.st true) [.int .u8] x) v0 := h2.2 0 (by simp)
      have hn := hi _ rfl
      rw [q0] at hn
      cases h0 with
      | sl e1 e2 =>
        simp only [srcS, Cx.at, Option.some.injEq] at e1
        subst e1
        exact ⟨v0, q, p, T, h1, e2, q1, hn, p1⟩
    | [], h2 => exact absurd h2.1 (by simp)
    | [_], h2 => exact absurd h2.1 (by simp)
    | [_, _], h2 => exact absurd h2.1 (by simp)
    | _ :: _ :: _ :: _ :: _, h2 => exact absurd h2.1 (by simp)
  · cases hx
theorem nest_full (H : HeapR cx w m ρ env st.boxes st.rows) (hg : g.den env) {id c : Nat} {i : X} {ks : List CK} {x : X} (hn : st.nest g id i c = some (ks, x)) {v : Value} (hv : SVR cx w m ρ env (.nv id i c) v) (hlt : i.lt env.length = true) (S : Nat → Prop) :
    ∃ fp, ArgL cx w m ρ st.rows env S (.row ks (x.den env)) v fp [.nest id i c] [] [] := by
  unfold St.nest at hn
  split at hn
  · rename_i r hr
    split at hn
    · rename_i ks' hk
      cases hn
      cases hv with
      | nv h1 h2 h3 h4 h5 h6 h7 =>
        rename_i rc j b
        have hrr := row_get H hg hr h1
        obtain ⟨xs, addr, cap, k, fp⟩ := rc
        obtain ⟨e1, e2, e3⟩ := hrr
        simp only at e1 e2 e3 h3 h4 h5
        subst h5
        cases e3 with
        | flat h => cases h
        | sl b' cap' cs T xs' fps hh hsz hcap hmax hsh hown =>
          subst e2
          have e4 := idx_lt h3 h4
          have e5 := Nat.mul_le_mul_right r.ks.length hcap
          have hcell : w.cell? ⟨b, j * r.ks.length + c, none⟩ = some (cs.getD (j * r.ks.length + c) undef) := by
            simp only [World.cell?, hh, Option.isSome_none, Bool.false_eq_true, if_false]
            rw [Array.getD_eq_getD_getElem?, Array.getElem?_eq_getElem (by omega)]
            rfl
          rw [hcell] at h6
          have hks : r.ks.getD c default = .sl ks := by rw [List.getD_eq_getElem?_getD, hk]; rfl
          have hd : (X.fld c (.o2 .idx r.c i)).den env = (xs.getD j default).fld c := by
            simp [X.fld, X.den, O1.den, O2.den, e1, h2, D.elem, D.toL, D.toI]
          rw [hd, ← Option.some.inj h6]
          exact ⟨fps j c, .nest h1 rfl hh hsz hcap hmax hsh hown (row_look hr) hlt h2 h3 h4 hks⟩
    · cases hn
  · cases hn
theorem argOf_ok {md : Modes} {f : Callee'} {j : Nat} {t : TypeId} {sv : SV} {v : Value} {xa : XArg} {wr : List Wr} {tk cs : List Nat} (hc : CxOk cx w0) (hk : Kept cx w0 w) (hclo : CloOk cx w clo) (H : HeapR cx w m ρ env st.boxes st.rows) (hg : g.den env)
    (h : argOf P md f j st g t sv = some (xa, wr, tk, cs)) (hv : SVR cx w m ρ env sv v) (hlt : sv.lt env.length = true) (hf : (xa.lends || argFree st g js cu sv) = true) :
    ∃ fp, ArgL cx w m ρ st.rows env (loanS w m ρ js cu) (xa.ev clo env) v fp wr tk cs := by
  have sc : ∀ ck x, argX st g ck sv = some x → argFree st g js cu sv = true → ArgL cx w m ρ st.rows env (loanS w m ρ js cu) (.sc ck (x.den env)) v [] [] [] [] := by
    intro ck x hx hfree
    refine .read trivial (.sc (argX_ok hc hk H hg hx hv ?_))
    cases sv with
    | clo f cs => cases ck <;> simp [argX] at hx
    | _ => exact hfree
  unfold argOf at h
  split at h
  · split at h
    · rename_i ks hks
      split at h
      · rename_i cells
        split at h
        · split at h
          · rename_i xs ids hov
            cases h
            obtain ⟨us, u1, u2⟩ := hv.agg_inv
            subst u1
            obtain ⟨fp, hL⟩ := ovCells_ok H hg ks 0 cells us xs ids hov u2
            refine ⟨fp, ?_⟩
            simp only [XArg.ev, many_den]
            exact .stw hL
          · cases h
        · split at h
          · rename_i xs hxs
            cases h
            obtain ⟨us, u1, u2⟩ := hv.agg_inv
            subst u1
            obtain ⟨x1, x2, x3, x4⟩ := argsX_ok (js := js) (cu := cu) hc hk H hg ks cells us xs hxs u2 hf
            refine ⟨[], .read trivial (.st ⟨xs.map (X.den env), many_den xs, by simp [x1]⟩ x2 fun c hcc => ?_)⟩
            have := x4 c hcc
            rwa [many_den]
          · cases h
      · cases h
    · cases h
  · split at h
    · rename_i ks hks
      split at h
      · split at h
        · rename_i id
          split at h
          · rename_i r hr
            split at h
            · rename_i hkk
              have := CK.beqs_eq _ _ hkk
              subst this
              obtain ⟨rc, r1, r2, r3, r4, r5⟩ := whole_row H hg hr hv
              subst r2
              split at h
              · cases h
                refine ⟨rc.fp, ?_⟩
                simp only [XArg.ev, r3]
                exact .row r1 r4 (row_look hr) r5
              · cases h
                refine ⟨rc.fp, ?_⟩
                simp only [XArg.ev, r3]
                exact .take r1 r5
            · cases h
          · cases h
        · rename_i id i c
          split at h
          · rename_i ks' x hx
            split at h
            · rename_i hkk
              simp only [Bool.and_eq_true] at hkk
              have := CK.beqs_eq _ _ hkk.1.1
              subst this
              cases h
              exact nest_full H hg hx hv hlt _
            · cases h
          · cases h
        · cases h
      · split at h
        · rename_i x hx
          cases h
          exact ⟨[], sc _ x hx hf⟩
        · cases h
    · cases h
  · split at h
    · rename_i id
      split at h
      · rename_i cells hb
        split at h
        · rename_i x hx
          cases h
          obtain ⟨b, b1, b2⟩ := hv.bp_inv
          subst b2
          exact ⟨[b], .cur b1 (curBox_ok H hg hb hx b1)⟩
        · cases h
      · cases h
    · cases h
  · split at h
    · rename_i f' cs'
      split at h
      · rename_i caps hcaps
        cases h
        generalize hsv : SV.clo f' cs' = svv at hv
        cases hv with
        | clo h1 h2 =>
          cases hsv
          obtain ⟨a1, a2⟩ := capX_ok (js := js) (cu := cu) hc hk H hg _ _ caps hcaps ⟨h1, h2⟩ (by simpa [argFree, XArg.lends] using hf)
          refine ⟨[], .read trivial (.clo (by simpa using a1) fun i hi => ?_)⟩
          exact a2 i (by simpa using hi)
        | _ => cases hsv
      · cases h
    · rename_i j'
      cases h
      generalize hsv : SV.clop j' = svv at hv
      cases hv with
      | clop =>
        cases hsv
        exact ⟨[], .read trivial ((hclo j').mono (loan_S hc hk H.sep))⟩
      | _ => cases hsv
    · cases h
  · split at h
    · rename_i ck hck
      split at h
      · rename_i x hx
        cases h
        exact ⟨[], sc _ x hx hf⟩
      · cases h
    · cases h
  · cases h
theorem argsOf_ok {md : Modes} {f : Callee'} (hc : CxOk cx w0) (hk : Kept cx w0 w) (hclo : CloOk cx w clo) (H : HeapR cx w m ρ env st.boxes st.rows) (hg : g.den env) : ∀ (ts : List TypeId) (j : Nat) (svs : List SV) (vs : List Value) (xas : List XArg) (wr : List Wr) (tk cs : List Nat),
    argsOf P md f st g j ts svs = some (xas, wr, tk, cs) → SVRs cx w m ρ env svs vs → SV.lts env.length svs = true → argsFree st g js cu svs xas = true → ∃ fp, ArgsL cx w m ρ st.rows env (loanS w m ρ js cu) (xas.map (XArg.ev clo env)) vs fp wr tk cs
  | [], j, svs, vs, xas, wr, tk, cs, h, hv, _, _ => by
    cases svs with
    | nil =>
      simp only [argsOf] at h
      cases h
      have : vs = [] := List.eq_nil_of_length_eq_zero hv.1
      subst this
      exact ⟨[], .nil⟩
    | cons _ _ => simp [argsOf] at h
  | t :: ts, j, [], vs, xas, wr, tk, cs, h, hv, _, _ => by simp [argsOf] at h
  | t :: ts, j, sv :: svs, vs, xas, wr, tk, cs, h, hv, hlt, hf => by
    cases vs with
    | nil => exact absurd hv.1 (by simp)
    | cons v vs =>
    have hv0 : SVR cx w m ρ env sv v := hv.2 0 (by simp)
    have hvr : SVRs cx w m ρ env svs vs := ⟨by simpa using hv.1, fun i hi => by simpa using hv.2 (i + 1) (by simpa using hi)⟩
    simp only [argsOf] at h
    split at h
    · rename_i xa wr1 tk1 cs1 xas' wrs tks css h1 h2
      cases h
      simp only [argsFree, Bool.and_eq_true] at hf
      simp only [SV.lts, Bool.and_eq_true] at hlt
      obtain ⟨fp, a1⟩ := argOf_ok hc hk hclo H hg h1 hv0 hlt.1 hf.1
      obtain ⟨fps, a2⟩ := argsOf_ok hc hk hclo H hg ts (j + 1) svs vs xas' wrs tks css h2 hvr hlt.2 hf.2
      exact ⟨fp ++ fps, .cons a1 a2⟩
    · cases h
end
end Go.Proofs.Ytfbahdalemajcaa.Eng

/-
  The engine: what a call's arguments lend.
-/
namespace Go.Proofs.Ytfbahdalemajcaa.Eng
section
variable {rows : List (Nat × Conds × Row)} {P : Program} {cx : Cx} {w0 w w' : World} {m m' : BoxM} {ρ ρ' : RowM} {env : List D} {S : Nat → Prop}
/-- The blocks of what is lent. -/
def lentB (m : BoxM) (ρ : RowM) (js cu : List Nat) (b : Nat) : Prop := (∃ id ∈ js, ∃ rc, ρ id = some rc ∧ b ∈ rc.fp) ∨ ∃ id ∈ cu, m id = some b
theorem lentB.mono {js js' cu cu' : List Nat} {b : Nat} (h : lentB m ρ js cu b) (h1 : ∀ i ∈ js, i ∈ js') (h2 : ∀ i ∈ cu, i ∈ cu') : lentB m ρ js' cu' b := by
  rcases h with ⟨id, a, r⟩ | ⟨id, a, r⟩
  · exact .inl ⟨id, h1 id a, r⟩
  · exact .inr ⟨id, h2 id a, r⟩
theorem lentB.apart {js js' cu cu' : List Nat} {b : Nat} (hS : Sep cx w m ρ) (h : lentB m ρ js cu b) (h' : lentB m ρ js' cu' b) (h1 : ∀ i ∈ js, i ∉ js') (h2 : ∀ i ∈ cu, i ∉ cu') : False := by
  rcases h with ⟨id, a, rc, r1, r2⟩ | ⟨id, a, r⟩ <;> rcases h' with ⟨id', a', rc', r1', r2'⟩ | ⟨id', a', r'⟩
  · have := hS.rows id id' rc rc' b r1 r1' r2 r2'; exact h1 id a (this ▸ a')
  · exact hS.apart id' id rc b r' r1 r2
  · exact hS.apart id id' rc' b r r1' r2'
  · have := hS.boxes id id' b r r'; exact h2 id a (this ▸ a')
theorem CellsL.lent {c : Nat} {cks : List CK} {ds : List D} {vs : List Value} {fp : List Nat} {ids : List (Nat × Nat)} (hS : Sep cx w m ρ) (h : CellsL w ρ rows c cks ds vs fp ids) : (∀ b ∈ fp, lentB m ρ (ids.map (·.1)) [] b) ∧ ((ids.map (·.1)).Nodup → fp.Nodup) := by
  induction h with
  | nil => exact ⟨by simp, by simp⟩
  | none _ _ ih => exact ih
  | @some c id ck d v fp ks ds vs fps ids h1 h2 ih =>
    cases h1 with
    | @row ks id rc r1 r2 r3 r4 =>
    refine ⟨fun b hb => ?_, fun hnd => ?_⟩
    · rcases List.mem_append.1 hb with hb | hb
      · exact .inl ⟨id, by simp, rc, r1, hb⟩
      · exact (ih.1 b hb).mono (fun i hi => by simp only [List.map_cons, List.mem_cons]; exact .inr hi) (fun i hi => hi)
    · simp only [List.map_cons, List.nodup_cons] at hnd
      refine List.nodup_append.2 ⟨hS.nodup id rc r1, ih.2 hnd.2, fun x hx y hy hxy => ?_⟩
      subst hxy
      have l1 : lentB m ρ [id] [] x := .inl ⟨id, by simp, rc, r1, hx⟩
      exact l1.apart hS (ih.1 x hy) (fun i hi => by simp only [List.mem_singleton] at hi; subst hi; exact hnd.1) (by simp)
theorem ArgL.lent {a : DArg} {v : Value} {fp : List Nat} {wr : List Wr} {tk cu : List Nat} (hS : Sep cx w m ρ) (h : ArgL cx w m ρ rows env S a v fp wr tk cu) : (∀ b ∈ fp, lentB m ρ (wrIds wr ++ tk) cu b) ∧ ((wrIds wr ++ tk).Nodup → cu.Nodup → fp.Nodup) := by
  cases h with
  | read => exact ⟨by simp, by simp⟩
  | @row ks id rc h1 _ _ _ => exact ⟨fun b hb => .inl ⟨id, by simp [wrIds, Wr.ids], rc, h1, hb⟩, fun _ _ => hS.nodup id rc h1⟩
  | @nest ks kr id b cap c j cs T xs fps i rc h1 h2 h3 h4 h5 h6 h7 h8 _ _ h9 h10 h11 h12 =>
    subst h2
    refine ⟨fun b' hb => .inl ⟨id, by simp [wrIds, Wr.ids], _, h1, List.mem_cons_of_mem _ (mem_fpAll h10 h11 hb)⟩, fun _ _ => ?_⟩
    exact (fpAll_inv (List.nodup_cons.1 (hS.nodup id _ h1)).2).1 j c h10 h11
  | stw h =>
    have := h.lent hS
    exact ⟨fun b hb => (this.1 b hb).mono (fun i hi => by simpa [wrIds, Wr.ids] using hi) (by simp), fun hnd _ => this.2 (by simpa [wrIds, Wr.ids] using hnd)⟩
  | @take ks id rc h1 _ => exact ⟨fun b hb => .inl ⟨id, by simp, rc, h1, hb⟩, fun _ _ => hS.nodup id rc h1⟩
  | @cur d id b h1 _ => exact ⟨fun b' hb => by simp only [List.mem_singleton] at hb; subst hb; exact .inr ⟨id, by simp, h1⟩, fun _ _ => by simp⟩
theorem wrIds_append (a b : List Wr) : wrIds (a ++ b) = wrIds a ++ wrIds b := by simp [wrIds]
theorem nodup_split {a b c d : List Nat} (h : ((a ++ b) ++ (c ++ d)).Nodup) : (a ++ c).Nodup ∧ (b ++ d).Nodup ∧ ∀ i ∈ a ++ c, i ∉ b ++ d := by
  have h1 : ((a ++ b) ++ (c ++ d)).Perm ((a ++ c) ++ (b ++ d)) := by
    rw [List.append_assoc, List.append_assoc]
    refine List.Perm.append_left a ?_
    rw [← List.append_assoc, ← List.append_assoc]
    exact List.Perm.append_right d List.perm_append_comm
  have h2 := h1.nodup_iff.1 h
  rw [List.nodup_append] at h2
  exact ⟨h2.1, h2.2.1, fun i hi hi' => h2.2.2 i hi i hi' rfl⟩
theorem ArgsL.lent {as : List DArg} {vs : List Value} {fp : List Nat} {wr : List Wr} {tk cu : List Nat} (hS : Sep cx w m ρ) (h : ArgsL cx w m ρ rows env S as vs fp wr tk cu) : (∀ b ∈ fp, lentB m ρ (wrIds wr ++ tk) cu b) ∧ ((wrIds wr ++ tk).Nodup → cu.Nodup → fp.Nodup) := by
  induction h with
  | nil => exact ⟨by simp, by simp⟩
  | @cons a v fp wr tk cu as vs fps wrs tks cus h1 h2 ih =>
    have l1 := h1.lent hS
    refine ⟨fun b hb => ?_, fun hnd hcu => ?_⟩
    · rw [wrIds_append]
      rcases List.mem_append.1 hb with hb | hb
      · exact (l1.1 b hb).mono (fun i hi => by simp only [List.mem_append] at hi ⊢; rcases hi with h | h <;> simp [h]) (fun i hi => by simp [hi])
      · exact (ih.1 b hb).mono (fun i hi => by simp only [List.mem_append] at hi ⊢; rcases hi with h | h <;> simp [h]) (fun i hi => by simp [hi])
    · rw [wrIds_append] at hnd
      obtain ⟨n1, n2, n3⟩ := nodup_split hnd
      rw [List.nodup_append] at hcu
      refine List.nodup_append.2 ⟨l1.2 n1 hcu.1, ih.2 n2 hcu.2.1, fun x hx y hy hxy => ?_⟩
      subst hxy
      exact (l1.1 x hx).apart hS (ih.1 x hy) n3 fun i hi hi' => hcu.2.2 i hi i hi' rfl
theorem loan_outside {F : List Nat} {js cu : List Nat} (hF : ∀ b ∈ F, lentB m ρ js cu b) : ∀ b, loanS w m ρ js cu b → outside w F b := by
  rintro b ⟨h1, h2, h3⟩
  refine ⟨h1, fun hb => ?_⟩
  rcases hF b hb with ⟨id, hi, rc, r1, r2⟩ | ⟨id, hi, r⟩
  · exact h2 id rc hi r1 r2
  · exact h3 id hi r
end
end Go.Proofs.Ytfbahdalemajcaa.Eng

/-
  The engine: what comes back from a call.
-/
namespace Go.Proofs.Ytfbahdalemajcaa.Eng
structure Restored (w w' : World) (ρ : RowM) (env : List D) (rows rows' : List (Nat × Conds × Row)) (ids : List Nat) (F fb : List Nat) (ρ1 : RowM) : Prop where
  other : ∀ id, id ∉ ids → look rows' id = look rows id
  row : ∀ id, id ∈ ids → ∀ rc, ρ id = some rc → ∃ rc', ρ1 id = some rc' ∧ rc'.alike rc ∧ rc'.fp.Nodup ∧ (∀ b, rc'.addr = some ⟨b, 0, none⟩ → b ∈ rc'.fp) ∧ (∀ b ∈ rc'.fp, (b ∈ rc.fp ∧ b ∉ F) ∨ b ∈ fb) ∧
    ∀ c r, look rows id = some (c, r) → RowR w env r rc → ∃ r', look rows' id = some (c, r') ∧ RowR w' env r' rc'
  dom : ∀ id r1, id ∈ ids → ρ1 id = some r1 → ∃ rc, ρ id = some rc
  back : ∀ id c r', id ∈ ids → look rows' id = some (c, r') → ∃ r, look rows id = some (c, r)
  apart : ∀ i j r1 r2 b, i ∈ ids → j ∈ ids → ρ1 i = some r1 → ρ1 j = some r2 → b ∈ r1.fp → b ∈ r2.fp → i = j
section
variable {rows : List (Nat × Conds × Row)} {P : Program} {cx : Cx} {w0 w w' : World} {m m' : BoxM} {ρ ρ' : RowM} {env : List D} {S : Nat → Prop}
theorem Restored.nil {F fb : List Nat} : Restored w w' ρ env rows rows [] F fb (fun _ => none) :=
  ⟨fun _ _ => rfl, fun _ h => by simp at h, fun _ _ h => by simp at h, fun _ _ _ h => by simp at h, fun _ _ _ _ _ h => by simp at h⟩
theorem Restored.comp {rows1 rows2 : List (Nat × Conds × Row)} {i1 i2 F f1 f2 : List Nat} {ρ1 ρ2 : RowM} (hS : Sep cx w m ρ) (h1 : Restored w w' ρ env rows rows1 i1 F f1 ρ1) (h2 : Restored w w' ρ env rows1 rows2 i2 F f2 ρ2) (hd : ∀ i ∈ i1, i ∉ i2)
    (hf : ∀ b ∈ f1, b ∉ f2) (hF : ∀ b, b ∈ f1 ++ f2 → b ∈ F ∨ w.heap.size ≤ b) : Restored w w' ρ env rows rows2 (i1 ++ i2) F (f1 ++ f2) (fun i => if i ∈ i1 then ρ1 i else ρ2 i) := by
  have old : ∀ {i rc b}, ρ i = some rc → b ∈ rc.fp → b ∉ F → b ∉ f1 ++ f2 := fun hi hb hn hm => by
    rcases hF _ hm with h | h
    · exact hn h
    · have := (hS.rowOwn _ _ _ hi hb).2.2; omega
  refine ⟨fun id hid => ?_, fun id hid rc hrc => ?_, fun id r1 hid hr => ?_, fun id c r' hid hl => ?_, fun i j r1 r2 b hi hj hr1 hr2 hb1 hb2 => ?_⟩
  · simp only [List.mem_append, not_or] at hid
    rw [h2.other id hid.2, h1.other id hid.1]
  · by_cases hm : id ∈ i1
    · obtain ⟨rc', a1, a2, a3, a4, a5, a6⟩ := h1.row id hm rc hrc
      refine ⟨rc', by simp [hm, a1], a2, a3, a4, fun b hb => ?_, fun c r hl hr => ?_⟩
      · rcases a5 b hb with h | h
        · exact .inl h
        · exact .inr (List.mem_append_left _ h)
      · obtain ⟨r', b1, b2⟩ := a6 c r hl hr
        exact ⟨r', by rw [h2.other id (hd id hm)]; exact b1, b2⟩
    · have hm2 : id ∈ i2 := by
        rcases List.mem_append.1 hid with h | h
        · exact absurd h hm
        · exact h
      obtain ⟨rc', a1, a2, a3, a4, a5, a6⟩ := h2.row id hm2 rc hrc
      refine ⟨rc', by simp [hm, a1], a2, a3, a4, fun b hb => ?_, fun c r hl hr => ?_⟩
      · rcases a5 b hb with h | h
        · exact .inl h
        · exact .inr (List.mem_append_right _ h)
      · exact a6 c r (by rw [h1.other id hm]; exact hl) hr
  · by_cases hm : id ∈ i1
    · simp only [hm, if_true] at hr; exact h1.dom id r1 hm hr
    · simp only [hm, if_false] at hr
      rcases List.mem_append.1 hid with h | h
      · exact absurd h hm
      · exact h2.dom id r1 h hr
  · by_cases hm : id ∈ i1
    · exact h1.back id c r' hm (by rw [← h2.other id (hd id hm)]; exact hl)
    · obtain ⟨r0, e⟩ := h2.back id c r' ((List.mem_append.1 hid).resolve_left hm) hl
      exact ⟨r0, by rw [← h1.other id hm]; exact e⟩
  · have cross : ∀ {i j r1 r2}, i ∈ i1 → j ∈ i2 → ρ1 i = some r1 → ρ2 j = some r2 → b ∈ r1.fp → b ∈ r2.fp → False := fun {i j r1 r2} hi hj e1 e2 q1 q2 => by
      obtain ⟨rc, hrc⟩ := h1.dom i r1 hi e1
      obtain ⟨rd, hrd⟩ := h2.dom j r2 hj e2
      obtain ⟨_, a1, _, _, _, a5, _⟩ := h1.row i hi rc hrc
      obtain ⟨_, b1, _, _, _, b5, _⟩ := h2.row j hj rd hrd
      rw [e1] at a1; cases a1
      rw [e2] at b1; cases b1
      rcases a5 b q1 with ⟨x1, x2⟩ | x <;> rcases b5 b q2 with ⟨y1, y2⟩ | y
      · exact hd i hi (hS.rows i j rc rd b hrc hrd x1 y1 ▸ hj)
      · exact old hrc x1 x2 (List.mem_append_right _ y)
      · exact old hrd y1 y2 (List.mem_append_left _ x)
      · exact hf b x y
    by_cases hm1 : i ∈ i1 <;> by_cases hm2 : j ∈ i1
    · simp only [hm1, if_true] at hr1; simp only [hm2, if_true] at hr2
      exact h1.apart i j r1 r2 b hm1 hm2 hr1 hr2 hb1 hb2
    · simp only [hm1, if_true] at hr1; simp only [hm2, if_false] at hr2
      have hj2 : j ∈ i2 := (List.mem_append.1 hj).resolve_left hm2
      exact (cross hm1 hj2 hr1 hr2 hb1 hb2).elim
    · simp only [hm1, if_false] at hr1; simp only [hm2, if_true] at hr2
      have hi2 : i ∈ i2 := (List.mem_append.1 hi).resolve_left hm1
      exact (cross hm2 hi2 hr2 hr1 hb2 hb1).elim
    · simp only [hm1, if_false] at hr1; simp only [hm2, if_false] at hr2
      exact h2.apart i j r1 r2 b ((List.mem_append.1 hi).resolve_left hm1) ((List.mem_append.1 hj).resolve_left hm2) hr1 hr2 hb1 hb2
theorem own_len {ks : List CK} {d : D} {ad : Option Addr} {n cap : Nat} {fp : List Nat} (h : Own w (.sl ks) d (.slice ad n cap) fp) : ∃ xs, d = .lst xs ∧ xs.length = n := by
  cases h with
  | flat h => cases h
  | nil => exact ⟨[], rfl, rfl⟩
  | sl b cap cs T xs => exact ⟨xs, rfl, rfl⟩
/-- A whole row comes back with another content. -/
theorem restore_row {id : Nat} {rc : RowC} {ks : List CK} {c : Conds} {r : Row} {x : X} {d' : D} {F fp' : List Nat} (hrc : ρ id = some rc) (hk : rc.k = ks.length) (hl : look rows id = some (c, r)) (hks : r.ks = ks) (hx : x.den env = d') (hown : Own w' (.sl ks) d' (.slice rc.addr rc.xs.length rc.cap) fp') (hnd : fp'.Nodup) :
    ∃ ρ1, Restored w w' ρ env rows (upd rows id (c, { r with c := x })) [id] F fp' ρ1 := by
  obtain ⟨xs', rfl, hlen⟩ := own_len hown
  refine ⟨fun i => if i = id then some ⟨xs', rc.addr, rc.cap, rc.k, fp'⟩ else none, fun i hi => ?_, fun i hi rc1 hrc1 => ?_, fun i r1 hi hr => ?_, fun i c' r' hi hl' => ?_, fun i j r1 r2 b hi hj _ _ _ _ => ?_⟩
  · rw [look_upd, if_neg (by simpa using Ne.symm (by simpa using hi))]
  · have : i = id := by simpa using hi
    subst this
    rw [hrc] at hrc1
    cases hrc1
    refine ⟨⟨xs', rc.addr, rc.cap, rc.k, fp'⟩, by simp, ⟨rfl, rfl, rfl, hlen⟩, hnd, fun b hb => own_addr hown hb, fun b hb => .inr hb, fun c' r' hl' _ => ?_⟩
    rw [hl] at hl'
    cases hl'
    subst hks
    exact ⟨{ r with c := x }, by rw [look_upd, if_pos rfl], hx, hk, by simpa [hlen] using hown⟩
  · have : i = id := by simpa using hi
    subst this
    exact ⟨rc, hrc⟩
  · have : i = id := by simpa using hi
    subst this
    rw [look_upd, if_pos rfl] at hl'
    cases hl'
    exact ⟨r, hl⟩
  · have h1 : i = id := by simpa using hi
    have h2 : j = id := by simpa using hj
    rw [h1, h2]
theorem wrCells_cons {x : X} {id c : Nat} {l : List (Nat × Nat)} {rows rows' : List (Nat × Conds × Row)} (h : wrCells x ((id, c) :: l) rows = some rows') : ∃ cd r, look rows id = some (cd, r) ∧ wrCells x l (upd rows id (cd, { r with c := X.fld c x })) = some rows' := by
  simp only [wrCells] at h
  split at h
  · rename_i cd r hl; exact ⟨cd, r, hl, h⟩
  · cases h
theorem restore_cells {x : X} {d' : D} (hS : Sep cx w m ρ) (hx : x.den env = d') {F : List Nat} {c : Nat} {cks : List CK} {ds : List D} {vs : List Value} {fp : List Nat} {ids : List (Nat × Nat)} (h : CellsL w ρ rows c cks ds vs fp ids) :
    ∀ (rows0 rows' : List (Nat × Conds × Row)) (fps : Nat → List Nat), wrCells x ids rows0 = some rows' → (∀ id ∈ ids.map (·.1), look rows0 id = look rows id) → (ids.map (·.1)).Nodup →
      (∀ i, i < cks.length → Own w' (cks.getD i default) (d'.fld (c + i)) (vs.getD i undef) (fps i)) → (fpRow cks.length fps).Nodup → (∀ b ∈ fpRow cks.length fps, b ∈ F ∨ w.heap.size ≤ b) → ∃ ρ1, Restored w w' ρ env rows0 rows' (ids.map (·.1)) F (fpRow cks.length fps) ρ1 := by
  have row_succ : ∀ n (fps : Nat → List Nat), fpRow (n + 1) fps = fps 0 ++ fpRow n fun i => fps (i + 1) := fun n fps => by
    rw [fpRow, fpRow, List.range_succ_eq_map]; simp [List.flatMap_map]
  induction h with
  | nil =>
    intro rows0 rows' fps hw _ _ _ _ _
    simp only [wrCells] at hw
    cases hw
    exact ⟨_, Restored.nil⟩
  | @none c ck d v ks ds vs fps' ids h1 h2 ih =>
    intro rows0 rows' fps hw hl hnd hown hn2 hF
    rw [List.length_cons, row_succ] at hn2 hF ⊢
    obtain ⟨ρ1, R⟩ := ih rows0 rows' (fun i => fps (i + 1)) hw hl hnd (fun i hi => by
      have := hown (i + 1) (by simpa using hi)
      simp only [List.getD_cons_succ] at this
      rwa [show c + (i + 1) = c + 1 + i by omega] at this) (List.nodup_append.1 hn2).2.1 (fun b hb => hF b (List.mem_append_right _ hb))
    refine ⟨ρ1, R.other, fun id hid rc hrc => ?_, R.dom, R.back, R.apart⟩
    obtain ⟨rc', a1, a2, a3, a4, a5, a6⟩ := R.row id hid rc hrc
    exact ⟨rc', a1, a2, a3, a4, fun b hb => (a5 b hb).imp (fun h => h) (List.mem_append_right _), a6⟩
  | @some c id ck d v fp ks ds vs fps' ids h1 h2 ih =>
    intro rows0 rows' fps hw hl hnd hown hn2 hF
    rw [List.length_cons, row_succ] at hn2 hF ⊢
    simp only [List.map_cons] at hl hnd ⊢
    obtain ⟨cd, r, e1, e2⟩ := wrCells_cons hw
    have hnd' := List.nodup_cons.1 hnd
    cases h1 with
    | @row ks' id rc r1 r2 r3 r4 =>
    have hn3 := List.nodup_append.1 hn2
    have h0 := hown 0 (by simp)
    simp only [List.getD_cons_zero, Nat.add_zero] at h0
    have hden : (X.fld c x).den env = d'.fld c := by simp [X.fld, X.den, O1.den, hx]
    obtain ⟨ρa, Ra⟩ := restore_row (w := w) (rows := rows0) (F := F) (x := X.fld c x) r1 r2 e1 (r3 cd r (by rw [← hl id (by simp)]; exact e1)) hden h0 hn3.1
    obtain ⟨ρb, Rb⟩ := ih (upd rows0 id (cd, { r with c := X.fld c x })) rows' (fun i => fps (i + 1)) e2 (fun j hj => by
      rw [look_upd, if_neg (fun he : id = j => hnd'.1 (he ▸ hj))]
      exact hl j (List.mem_cons_of_mem _ hj)) hnd'.2 (fun i hi => by
      have := hown (i + 1) (by simpa using hi)
      simp only [List.getD_cons_succ] at this
      rwa [show c + (i + 1) = c + 1 + i by omega] at this) hn3.2.1 (fun b hb => hF b (List.mem_append_right _ hb))
    exact ⟨_, Ra.comp hS Rb (fun i hi => by simp only [List.mem_singleton] at hi; subst hi; exact hnd'.1) (fun b hb hb' => hn3.2.2 b hb b hb' rfl) hF⟩
end
end Go.Proofs.Ytfbahdalemajcaa.Eng

/-
  The engine: all that comes back from a call.
-/
namespace Go.Proofs.Ytfbahdalemajcaa.Eng
section
variable {rows : List (Nat × Conds × Row)} {P : Program} {cx : Cx} {w0 w w' : World} {m m' : BoxM} {ρ ρ' : RowM} {env : List D} {S : Nat → Prop} {st : St} {g : Conds} {clo : Nat → CloD}
theorem restore_nest {ks kr : List CK} {id b cap c j : Nat} {cs : Array Value} {T : TypeId} {xs : List D} {fps : Nat → Nat → List Nat} {i x : X} {d' : D} {F fp' : List Nat} {cd : Conds} {r : Row} (hS : Sep cx w m ρ) (hrc : ρ id = some ⟨xs, some ⟨b, 0, none⟩, cap, kr.length, b :: fpAll xs.length kr.length fps⟩)
    (hh : w.heap[b]? = some (.cells cs T (0, 0))) (hsz : cap * kr.length ≤ cs.size) (hcap : xs.length ≤ cap) (hmax : xs.length ≤ maxL) (hsh : ∀ i, i < xs.length → Shp kr.length (xs.getD i default))
    (hown : ∀ i c, i < xs.length → c < kr.length → Own w (kr.getD c default) ((xs.getD i default).fld c) (cs.getD (i * kr.length + c) undef) (fps i c)) (hl : look rows id = some (cd, r)) (hks : r.ks = kr) (hi : i.den env = .int j) (hj : j < xs.length) (hc : c < kr.length) (hck : kr.getD c default = .sl ks)
    (hx : x.den env = d') (hback : Own w' (.sl ks) d' (cs.getD (j * kr.length + c) undef) fp') (hnd : fp'.Nodup) (hw : ∀ b, b < w.heap.size → b ∉ F → w'.heap[b]? = w.heap[b]?) (hF : ∀ b' ∈ F, b' ∈ b :: fpAll xs.length kr.length fps → b' ∈ fps j c) (hF' : ∀ b ∈ fp', b ∈ F ∨ w.heap.size ≤ b) :
    ∃ ρ1, Restored w w' ρ env rows (upd rows id (cd, { r with c := .o3 (.setC c) r.c i x })) [id] F fp' ρ1 := by
  subst hks
  obtain ⟨es, he, hes⟩ := hsh j hj
  have hfp := hS.nodup id _ hrc
  simp only at hfp
  have hbn := List.nodup_cons.1 hfp
  obtain ⟨nd1, nd2⟩ := fpAll_inv hbn.2
  have hbF : b ∉ F := fun h => hbn.1 (mem_fpAll hj hc (hF b h (by simp)))
  have hlt : ∀ b' ∈ b :: fpAll xs.length r.ks.length fps, b' < w.heap.size := fun b' hb' => (hS.rowOwn id _ b' hrc hb').2.2
  have hoF : ∀ i' c', i' < xs.length → c' < r.ks.length → (i', c') ≠ (j, c) → ∀ b' ∈ fps i' c', b' ∉ F := fun i' c' h1 h2 hne b' hb' hF0 =>
    nd2 i' c' j c h1 h2 hj hc hne b' hb' (hF b' hF0 (List.mem_cons_of_mem _ (mem_fpAll h1 h2 hb')))
  have hfr : ∀ b', b' ∈ b :: fpAll xs.length r.ks.length fps → b' ∉ F → b' ∉ fp' := fun b' h1 h2 h3 => by
    rcases hF' b' h3 with h | h
    · exact h2 h
    · have := hlt b' h1; omega
  let fps' : Nat → Nat → List Nat := fun i' c' => if (i', c') = (j, c) then fp' else fps i' c'
  let xs' := xs.set j (.lst (es.set c d'))
  have hOwn : Own w' (.sl r.ks) (.lst xs') (.slice (some ⟨b, 0, none⟩) xs.length cap) (b :: fpAll xs.length r.ks.length fps') := by
    have := Own.sl (w := w') (ks := r.ks) b cap cs T xs' fps' ((hw b (hlt b (by simp)) hbF).trans hh) hsz (by simpa [xs'] using hcap) (by simpa [xs'] using hmax) (fun q hq => ?_) (fun q c' hq hc' => ?_)
    · simpa [xs'] using this
    · rw [List.length_set] at hq
      by_cases hqj : q = j
      · subst hqj
        exact ⟨es.set c d', by simp [xs', List.getD_eq_getElem?_getD, hq], by simp [hes]⟩
      · have : xs'.getD q default = xs.getD q default := by simp [xs', List.getD_eq_getElem?_getD, Ne.symm hqj]
        rw [this]; exact hsh q hq
    · rw [List.length_set] at hq
      by_cases hqj : q = j
      · subst hqj
        have g1 : xs'.getD q default = .lst (es.set c d') := by simp [xs', List.getD_eq_getElem?_getD, hq]
        rw [g1]
        by_cases hcc : c' = c
        · subst hcc
          have g2 : (D.lst (es.set c' d')).fld c' = d' := by simp [D.fld, D.toL, List.getD_eq_getElem?_getD, hes, hc']
          have g3 : fps' q c' = fp' := by simp [fps']
          rw [g2, hck, g3]
          exact hback
        · have g2 : (D.lst (es.set c d')).fld c' = (xs.getD q default).fld c' := by rw [he]; simp [D.fld, D.toL, List.getD_eq_getElem?_getD, Ne.symm hcc]
          have g3 : fps' q c' = fps q c' := by simp [fps', hcc]
          rw [g2, g3]
          exact (hown q c' hq hc').frame fun b' hb' => hw b' (hlt b' (List.mem_cons_of_mem _ (mem_fpAll hq hc' hb'))) (hoF q c' hq hc' (by simp [hcc]) b' hb')
      · have g1 : xs'.getD q default = xs.getD q default := by simp [xs', List.getD_eq_getElem?_getD, Ne.symm hqj]
        have g3 : fps' q c' = fps q c' := by simp [fps', hqj]
        rw [g1, g3]
        exact (hown q c' hq hc').frame fun b' hb' => hw b' (hlt b' (List.mem_cons_of_mem _ (mem_fpAll hq hc' hb'))) (hoF q c' hq hc' (by simp [hqj]) b' hb')
  have hmem : ∀ b' ∈ b :: fpAll xs.length r.ks.length fps', (b' ∈ b :: fpAll xs.length r.ks.length fps ∧ b' ∉ F) ∨ b' ∈ fp' := by
    intro b' hb'
    rcases List.mem_cons.1 hb' with rfl | hb'
    · exact .inl ⟨by simp, hbF⟩
    · obtain ⟨q, c', hq, hc', hm⟩ := fpAll_mem hb'
      simp only [fps'] at hm
      split at hm
      · exact .inr hm
      · rename_i hne
        exact .inl ⟨List.mem_cons_of_mem _ (mem_fpAll hq hc' hm), hoF q c' hq hc' hne b' hm⟩
  have hnd' : (b :: fpAll xs.length r.ks.length fps').Nodup := by
    refine List.nodup_cons.2 ⟨fun hm => ?_, fpAll_nodup (fun q c' hq hc' => ?_) (fun q c' q' c'' hq hc' hq' hc'' hne b' hb' hb'' => ?_)⟩
    · obtain ⟨q, c', hq, hc', hm⟩ := fpAll_mem hm
      simp only [fps'] at hm
      split at hm
      · exact hfr b (by simp) hbF hm
      · exact hbn.1 (mem_fpAll hq hc' hm)
    · simp only [fps']
      split
      · exact hnd
      · exact nd1 q c' hq hc'
    · simp only [fps'] at hb' hb''
      split at hb' <;> split at hb''
      · rename_i e1 e2; exact hne (e1.trans e2.symm)
      · rename_i e1 e2
        exact hfr b' (List.mem_cons_of_mem _ (mem_fpAll hq' hc'' hb'')) (hoF q' c'' hq' hc'' e2 b' hb'') hb'
      · rename_i e1 e2
        exact hfr b' (List.mem_cons_of_mem _ (mem_fpAll hq hc' hb')) (hoF q c' hq hc' e1 b' hb') hb''
      · exact nd2 q c' q' c'' hq hc' hq' hc'' hne b' hb' hb''
  refine ⟨fun q => if q = id then some ⟨xs', some ⟨b, 0, none⟩, cap, r.ks.length, b :: fpAll xs.length r.ks.length fps'⟩ else none, fun q hq => ?_, fun q hq rc1 hrc1 => ?_, fun q r1 hq hr => ?_, fun q c' r' hq hl' => ?_, fun q q' r1 r2 b' hq hq' _ _ _ _ => ?_⟩
  · rw [look_upd, if_neg (by simpa using Ne.symm (by simpa using hq))]
  · have : q = id := by simpa using hq
    subst this
    rw [hrc] at hrc1
    cases hrc1
    refine ⟨⟨xs', some ⟨b, 0, none⟩, cap, r.ks.length, b :: fpAll xs.length r.ks.length fps'⟩, by simp only [if_true], ⟨rfl, rfl, rfl, by simp [xs']⟩, hnd', fun b' hb' => by cases hb'; simp, hmem, fun c' r' hl' hR => ?_⟩
    rw [hl] at hl'
    cases hl'
    refine ⟨{ r with c := .o3 (.setC c) r.c i x }, by rw [look_upd, if_pos rfl], ?_, rfl, by simpa [xs'] using hOwn⟩
    have := hR.1
    simp only at this
    simp only [X.den, O3.den, this, hi, hx, D.toL, D.toI, Int.toNat_natCast, D.elem]
    rw [he]
  · have : q = id := by simpa using hq
    subst this
    exact ⟨_, hrc⟩
  · have : q = id := by simpa using hq
    subst this
    rw [look_upd, if_pos rfl] at hl'
    cases hl'
    exact ⟨r, hl⟩
  · have h1 : q = id := by simpa using hq
    have h2 : q' = id := by simpa using hq'
    rw [h1, h2]
theorem wrRows_row {v id : Nat} {l : List Wr} {rows rows' : List (Nat × Conds × Row)} (h : wrRows v (.row id :: l) rows = some rows') : ∃ cd r, look rows id = some (cd, r) ∧ wrRows (v + 1) l (upd rows id (cd, { r with c := .var v })) = some rows' := by
  simp only [wrRows] at h
  split at h
  · rename_i cd r hl; exact ⟨cd, r, hl, h⟩
  · cases h
theorem wrRows_nest {v id c : Nat} {i : X} {l : List Wr} {rows rows' : List (Nat × Conds × Row)} (h : wrRows v (.nest id i c :: l) rows = some rows') : ∃ cd r, look rows id = some (cd, r) ∧ wrRows (v + 1) l (upd rows id (cd, { r with c := .o3 (.setC c) r.c i (.var v) })) = some rows' := by
  simp only [wrRows] at h
  split at h
  · rename_i cd r hl; exact ⟨cd, r, hl, h⟩
  · cases h
theorem wrRows_cells {v : Nat} {ids : List (Nat × Nat)} {l : List Wr} {rows rows' : List (Nat × Conds × Row)} (h : wrRows v (.cells ids :: l) rows = some rows') : ∃ rows1, wrCells (.var v) ids rows = some rows1 ∧ wrRows (v + 1) l rows1 = some rows' := by
  simp only [wrRows] at h
  split at h
  · rename_i rows1 hl; exact ⟨rows1, hl, h⟩
  · cases h
theorem back_ok (hS : Sep cx w m ρ) {G : Nat → Prop} {env' : List D} {F : List Nat} (hext : ∀ x : X, x.lt env.length = true → x.den env' = x.den env) (hw : ∀ b, b < w.heap.size → b ∉ F → w'.heap[b]? = w.heap[b]?) {as : List DArg} {vs : List Value} {fp : List Nat} {wr : List Wr} {tk cu : List Nat}
    (h : ArgsL cx w m ρ rows env S as vs fp wr tk cu) : ∀ (bs : List D) (fb : List Nat) (v : Nat) (rows0 rows' : List (Nat × Conds × Row)), BackR w' G as vs bs fb → wrRows v wr rows0 = some rows' → (∀ id ∈ wrIds wr, look rows0 id = look rows id) → (wrIds wr).Nodup →
      (∀ i, i < bs.length → (X.var (v + i)).den env' = bs.getD i default) → fb.Nodup → (∀ b ∈ fb, b ∈ F ∨ w.heap.size ≤ b) → (∀ id ∈ wrIds wr, ∀ rc, ρ id = some rc → ∀ b ∈ F, b ∈ rc.fp → b ∈ fp) → (∀ b ∈ fp, lentB m ρ (wrIds wr ++ tk) cu b) → (wrIds wr ++ tk).Nodup →
      ∃ ρ1, Restored w w' ρ env' rows0 rows' (wrIds wr) F fb ρ1 := by
  induction h with
  | nil =>
    intro bs fb v rows0 rows' hb hr _ _ _ _ _ _ _ _
    simp only [wrRows] at hr
    cases hr
    exact ⟨_, Restored.nil⟩
  | @cons a v0 fp0 wr0 tk0 cu0 as vs fps wrs tks cus h1 h2 ih =>
    intro bs fb v rows0 rows' hb hr hl hnd hbs hfb hfF hFr hlent hall
    have l2 := h2.lent hS
    have l1 := h1.lent hS
    rw [wrIds_append] at hl hnd hFr hall
    obtain ⟨n1, n2, n3⟩ := nodup_split hall
    -- blocks of the rest's rows that are lent are lent by the rest
    have hFr2 : ∀ id ∈ wrIds wrs, ∀ rc, ρ id = some rc → ∀ b ∈ F, b ∈ rc.fp → b ∈ fps := by
      intro id hid rc hrc b hbF hbr
      rcases List.mem_append.1 (hFr id (List.mem_append_right _ hid) rc hrc b hbF hbr) with h | h
      · exfalso
        rcases l1.1 b h with ⟨q, hq, rq, q1, q2⟩ | ⟨q, hq, q1⟩
        · have := hS.rows id q rc rq b hrc q1 hbr q2
          subst this
          exact n3 id hq (List.mem_append_left _ hid)
        · exact hS.apart q id rc b q1 hrc hbr
      · exact h
    have hFr1 : ∀ id ∈ wrIds wr0, ∀ rc, ρ id = some rc → ∀ b ∈ F, b ∈ rc.fp → b ∈ fp0 := by
      intro id hid rc hrc b hbF hbr
      rcases List.mem_append.1 (hFr id (List.mem_append_left _ hid) rc hrc b hbF hbr) with h | h
      · exact h
      · exfalso
        rcases l2.1 b h with ⟨q, hq, rq, q1, q2⟩ | ⟨q, hq, q1⟩
        · have := hS.rows id q rc rq b hrc q1 hbr q2
          subst this
          exact n3 id (List.mem_append_left _ hid) hq
        · exact hS.apart q id rc b q1 hrc hbr
    have hnd2 : (wrIds wrs).Nodup := (List.nodup_append.1 n2).1
    have hl2 : ∀ id ∈ wrIds wrs, look rows0 id = look rows id := fun id hid => hl id (List.mem_append_right _ hid)
    have hdis : ∀ i ∈ wrIds wr0, i ∉ wrIds wrs := fun i hi hi' => n3 i (List.mem_append_left _ hi) (List.mem_append_left _ hi')
    -- the rest
    have rest : ∀ (bs2 : List D) (fb2 : List Nat) (v2 : Nat) (rows1 : List (Nat × Conds × Row)), BackR w' G as vs bs2 fb2 → wrRows v2 wrs rows1 = some rows' → (∀ id, id ∉ wrIds wr0 → look rows1 id = look rows0 id) → (∀ i, i < bs2.length → (X.var (v2 + i)).den env' = bs2.getD i default) →
        fb2.Nodup → (∀ b ∈ fb2, b ∈ F ∨ w.heap.size ≤ b) → ∃ ρ2, Restored w w' ρ env' rows1 rows' (wrIds wrs) F fb2 ρ2 := by
      intro bs2 fb2 v2 rows1 hb2 hr2 hlk hbs2 hn hF2
      exact ih bs2 fb2 v2 rows1 rows' hb2 hr2 (fun id hid => (hlk id fun h => hdis id h hid).trans (hl2 id hid)) hnd2 hbs2 hn hF2 hFr2 l2.1 n2
    have tailbs : ∀ (d' : D) (bs2 : List D), bs = d' :: bs2 → (X.var v).den env' = d' ∧ ∀ i, i < bs2.length → (X.var (v + 1 + i)).den env' = bs2.getD i default := by
      rintro d' bs2 rfl
      refine ⟨by simpa using hbs 0 (by simp), fun i hi => ?_⟩
      have := hbs (i + 1) (by simpa using hi)
      rw [show v + 1 + i = v + (i + 1) by omega]
      simpa using this
    have skipTo : wr0 = [] → ∀ fb2, BackR w' G as vs bs fb2 → fb2.Nodup → (∀ b ∈ fb2, b ∈ F ∨ w.heap.size ≤ b) → ∃ ρ2, Restored w w' ρ env' rows0 rows' (wrIds wrs) F fb2 ρ2 := by
      rintro rfl fb2 hb2 hn hF2
      exact rest bs fb2 v rows0 hb2 (by simpa using hr) (fun _ _ => rfl) hbs hn hF2
    cases h1 with
    | read hne hR =>
      cases hb with
      | skip _ hb2 =>
        obtain ⟨ρ2, R2⟩ := skipTo rfl fb hb2 hfb hfF
        exact ⟨ρ2, by simpa [wrIds] using R2⟩
      | row => exact hne.elim
      | stw => exact hne.elim
      | cur => exact hne.elim
    | @take ks id rc _ _ =>
      cases hb with
      | skip _ hb2 =>
        obtain ⟨ρ2, R2⟩ := skipTo rfl fb hb2 hfb hfF
        exact ⟨ρ2, by simpa [wrIds] using R2⟩
    | @cur d id b h1 h2' =>
      cases hb with
      | skip hf _ => exact hf.elim
      | @cur _ _ _ _ _ fps2 _ hb2 =>
        have hn := List.nodup_cons.1 hfb
        obtain ⟨ρ2, R2⟩ := skipTo rfl fps2 hb2 hn.2 (fun b hb => hfF b (List.mem_cons_of_mem _ hb))
        refine ⟨ρ2, ?_⟩
        have R3 : Restored w w' ρ env' rows0 rows' (wrIds wrs) F (b :: fps2) ρ2 :=
          ⟨R2.other, fun id hid rc hrc => by
            obtain ⟨rc', a1, a2, a3, a4, a5, a6⟩ := R2.row id hid rc hrc
            exact ⟨rc', a1, a2, a3, a4, fun b hb => (a5 b hb).imp (fun h => h) (List.mem_cons_of_mem _), a6⟩, R2.dom, R2.back, R2.apart⟩
        simpa [wrIds] using R3
    | @row ks id rc r1 r2 r3 r4 =>
      cases hb with
      | skip hf _ => exact hf.elim
      | @row _ _ d' _ fp' _ _ bs2 fps2 ho hb2 =>
        obtain ⟨cd, r, e1, e2⟩ := wrRows_row hr
        obtain ⟨t1, t2⟩ := tailbs d' bs2 rfl
        have hn := List.nodup_append.1 hfb
        obtain ⟨ρ1, R1⟩ := restore_row (w := w) (rows := rows0) (F := F) (x := .var v) r1 r2 e1 (r3 cd r (by rw [← hl id (by simp [wrIds, Wr.ids])]; exact e1)) t1 ho hn.1
        obtain ⟨ρ2, R2⟩ := rest bs2 fps2 (v + 1) _ hb2 e2 (fun q hq => by rw [look_upd, if_neg (by simpa [wrIds, Wr.ids] using Ne.symm (by simpa [wrIds, Wr.ids] using hq))]) t2 hn.2.1 (fun b hb => hfF b (List.mem_append_right _ hb))
        exact ⟨_, by simpa [wrIds, Wr.ids] using R1.comp hS R2 (by simpa [wrIds, Wr.ids] using hdis) (fun b hb hb' => hn.2.2 b hb b hb' rfl) hfF⟩
    | @nest ks kr id b cap c j cs T xs fpq i rc r1 r2 r3 r4 r5 r6 r7 r8 r9 r10 r11 r12 r13 r14 =>
      subst r2
      cases hb with
      | skip hf _ => exact hf.elim
      | @row _ _ d' _ fp' _ _ bs2 fps2 ho hb2 =>
        obtain ⟨cd, r, e1, e2⟩ := wrRows_nest hr
        obtain ⟨t1, t2⟩ := tailbs d' bs2 rfl
        have hn := List.nodup_append.1 hfb
        obtain ⟨ρ1, R1⟩ := restore_nest (w' := w') (rows := rows0) (F := F) (x := .var v) (env := env') hS r1 r3 r4 r5 r6 r7 r8 e1 (r9 cd r (by rw [← hl id (by simp [wrIds, Wr.ids])]; exact e1)) (by rw [hext _ r10]; exact r11) r12 r13 r14 t1 ho hn.1 hw
          (fun b' hb' hm => hFr1 id (by simp [wrIds, Wr.ids]) _ r1 b' hb' hm) (fun b' hb' => hfF b' (List.mem_append_left _ hb'))
        obtain ⟨ρ2, R2⟩ := rest bs2 fps2 (v + 1) _ hb2 e2 (fun q hq => by rw [look_upd, if_neg (by simpa [wrIds, Wr.ids] using Ne.symm (by simpa [wrIds, Wr.ids] using hq))]) t2 hn.2.1 (fun b hb => hfF b (List.mem_append_right _ hb))
        exact ⟨_, by simpa [wrIds, Wr.ids] using R1.comp hS R2 (by simpa [wrIds, Wr.ids] using hdis) (fun b hb hb' => hn.2.2 b hb b hb' rfl) hfF⟩
    | @stw cks ds vsq fpq ids hL =>
      generalize hvq : Value.agg vsq.toArray = vq at hb
      cases hb with
      | skip hf _ => exact hf.elim
      | @stw _ _ d' us fpsq _ _ bs2 fps2 hsh hlen ho hb2 =>
        obtain ⟨rows1, e1, e2⟩ := wrRows_cells hr
        obtain ⟨t1, t2⟩ := tailbs d' bs2 rfl
        have hn := List.nodup_append.1 hfb
        have huv : us = vsq := by
          injection hvq with h
          simpa using (congrArg Array.toList h).symm
        subst huv
        obtain ⟨ρ1, R1⟩ := restore_cells (w := w) (w' := w') (x := .var v) (d' := d') (F := F) hS t1 hL rows0 rows1 fpsq e1 (fun q hq => hl q (by simp only [List.mem_append]; exact .inl (by simpa [wrIds, Wr.ids] using hq))) (by
          have := (List.nodup_append.1 hnd).1
          simpa [wrIds, Wr.ids] using this) (fun i hi => by simpa using ho i hi) hn.1 (fun b hb => hfF b (List.mem_append_left _ hb))
        obtain ⟨ρ2, R2⟩ := rest bs2 fps2 (v + 1) rows1 hb2 e2 (fun q hq => R1.other q (by simpa [wrIds, Wr.ids] using hq)) t2 hn.2.1 (fun b hb => hfF b (List.mem_append_right _ hb))
        exact ⟨_, by simpa [wrIds, Wr.ids] using R1.comp hS R2 (by simpa [wrIds, Wr.ids] using hdis) (fun b hb hb' => hn.2.2 b hb b hb' rfl) hfF⟩
end
end Go.Proofs.Ytfbahdalemajcaa.Eng

/-
  The engine: the results of a call as new boxes and rows.
-/
namespace Go.Proofs.Ytfbahdalemajcaa.Eng
structure NewOk (cx : Cx) (w : World) (env : List D) (g : Conds) (svs : List SV) (us : List Value) (rows : List (Nat × Conds × Row)) (boxes : List (Nat × Conds × List SV)) (lo hi : Nat) (fr : List Nat) (mr : BoxM) (ρr : RowM) : Prop where
  sv : SVRs cx w mr ρr env svs us
  row : ∀ p ∈ rows, p.2.1 = g ∧ ∃ rc, ρr p.1 = some rc ∧ RowR w env p.2.2 rc
  box : ∀ p ∈ boxes, p.2.1 = g ∧ ∃ b, mr p.1 = some b ∧ BoxR cx w mr ρr env p.2.2 b
  domr : ∀ id rc, ρr id = some rc → id ∈ rows.map (·.1) ∧ lo ≤ id ∧ id < hi ∧ (∀ b ∈ rc.fp, b ∈ fr) ∧ rc.fp.Nodup ∧ ∀ b, rc.addr = some ⟨b, 0, none⟩ → b ∈ rc.fp
  domm : ∀ id b, mr id = some b → id ∈ boxes.map (·.1) ∧ lo ≤ id ∧ id < hi ∧ b ∈ fr
  rr : ∀ i j a c b, ρr i = some a → ρr j = some c → b ∈ a.fp → b ∈ c.fp → i = j
  mm : ∀ i j b, mr i = some b → mr j = some b → i = j
  rm : ∀ i j a b, mr i = some b → ρr j = some a → b ∉ a.fp
section
variable {cx : Cx} {w : World} {env : List D} {g : Conds}
theorem NewOk.nil {lo : Nat} : NewOk cx w env g [] [] [] [] lo lo [] (fun _ => none) (fun _ => none) :=
  ⟨⟨rfl, by simp⟩, by simp, by simp, by simp, by simp, by simp, by simp, by simp⟩
theorem SVRs.append {m : BoxM} {ρ : RowM} {a b : List SV} {us vs : List Value} (h : SVRs cx w m ρ env a us) (h' : SVRs cx w m ρ env b vs) : SVRs cx w m ρ env (a ++ b) (us ++ vs) := by
  refine ⟨by simp [h.1, h'.1], fun i hi => ?_⟩
  rw [List.length_append] at hi
  have hl := h.1
  by_cases hlt : i < a.length
  · have e1 : (a ++ b).getD i default = a.getD i default := by simp [List.getD_eq_getElem?_getD, List.getElem?_append_left hlt]
    have e2 : (us ++ vs).getD i undef = us.getD i undef := by simp [List.getD_eq_getElem?_getD, List.getElem?_append_left (show i < us.length by omega)]
    rw [e1, e2]; exact h.2 i hlt
  · have e1 : (a ++ b).getD i default = b.getD (i - a.length) default := by simp [List.getD_eq_getElem?_getD, List.getElem?_append_right (Nat.le_of_not_lt hlt)]
    have e2 : (us ++ vs).getD i undef = vs.getD (i - a.length) undef := by
      rw [List.getD_eq_getElem?_getD, List.getElem?_append_right (by omega), hl, List.getD_eq_getElem?_getD]
    rw [e1, e2]; exact h'.2 _ (by omega)
theorem NewOk.append {s1 s2 : List SV} {u1 u2 : List Value} {r1 r2 : List (Nat × Conds × Row)} {b1 b2 : List (Nat × Conds × List SV)} {lo mid hi : Nat} {f1 f2 : List Nat} {m1 m2 : BoxM} {ρ1 ρ2 : RowM}
    (h1 : NewOk cx w env g s1 u1 r1 b1 lo mid f1 m1 ρ1) (h2 : NewOk cx w env g s2 u2 r2 b2 mid hi f2 m2 ρ2) (hlm : lo ≤ mid) (hmh : mid ≤ hi) (hf : ∀ b ∈ f1, b ∉ f2) :
    NewOk cx w env g (s1 ++ s2) (u1 ++ u2) (r1 ++ r2) (b1 ++ b2) lo hi (f1 ++ f2) (fun i => if i < mid then m1 i else m2 i) (fun i => if i < mid then ρ1 i else ρ2 i) := by
  have ma : ∀ i b, m1 i = some b → (if i < mid then m1 i else m2 i) = some b := fun i b h => by rw [if_pos (h1.domm i b h).2.2.1]; exact h
  have mb : ∀ i b, m2 i = some b → (if i < mid then m1 i else m2 i) = some b := fun i b h => by rw [if_neg (Nat.not_lt.2 (h2.domm i b h).2.1)]; exact h
  have ra : ∀ i b, ρ1 i = some b → (if i < mid then ρ1 i else ρ2 i) = some b := fun i b h => by rw [if_pos (h1.domr i b h).2.2.1]; exact h
  have rb : ∀ i b, ρ2 i = some b → (if i < mid then ρ1 i else ρ2 i) = some b := fun i b h => by rw [if_neg (Nat.not_lt.2 (h2.domr i b h).2.1)]; exact h
  have box : ∀ (s : List SV) b, (BoxR cx w m1 ρ1 env s b → BoxR cx w (fun i => if i < mid then m1 i else m2 i) (fun i => if i < mid then ρ1 i else ρ2 i) env s b) ∧ (BoxR cx w m2 ρ2 env s b → BoxR cx w (fun i => if i < mid then m1 i else m2 i) (fun i => if i < mid then ρ1 i else ρ2 i) env s b) := by
    intro s b
    constructor
    · rintro ⟨vs, T, e1, e2⟩; exact ⟨vs, T, e1, e2.map fun i hi v hv => hv.more ma ra⟩
    · rintro ⟨vs, T, e1, e2⟩; exact ⟨vs, T, e1, e2.map fun i hi v hv => hv.more mb rb⟩
  refine ⟨(h1.sv.map fun i hi v hv => hv.more ma ra).append (h2.sv.map fun i hi v hv => hv.more mb rb), fun p hp => ?_, fun p hp => ?_, fun id rc h => ?_, fun id b h => ?_, fun i j a c b hi hj hb hb' => ?_, fun i j b hi hj => ?_, fun i j a b hi hj hb => ?_⟩
  · rcases List.mem_append.1 hp with hp | hp
    · obtain ⟨e, rc, e1, e2⟩ := h1.row p hp; exact ⟨e, rc, ra _ _ e1, e2⟩
    · obtain ⟨e, rc, e1, e2⟩ := h2.row p hp; exact ⟨e, rc, rb _ _ e1, e2⟩
  · rcases List.mem_append.1 hp with hp | hp
    · obtain ⟨e, b, e1, e2⟩ := h1.box p hp; exact ⟨e, b, ma _ _ e1, (box _ _).1 e2⟩
    · obtain ⟨e, b, e1, e2⟩ := h2.box p hp; exact ⟨e, b, mb _ _ e1, (box _ _).2 e2⟩
  · split at h
    · obtain ⟨x1, x2, x3, x4, x5⟩ := h1.domr id rc h
      exact ⟨by rw [List.map_append]; exact List.mem_append_left _ x1, x2, by omega, fun b hb => List.mem_append_left _ (x4 b hb), x5⟩
    · obtain ⟨x1, x2, x3, x4, x5⟩ := h2.domr id rc h
      exact ⟨by rw [List.map_append]; exact List.mem_append_right _ x1, by omega, x3, fun b hb => List.mem_append_right _ (x4 b hb), x5⟩
  · split at h
    · obtain ⟨x1, x2, x3, x4⟩ := h1.domm id b h
      exact ⟨by rw [List.map_append]; exact List.mem_append_left _ x1, x2, by omega, List.mem_append_left _ x4⟩
    · obtain ⟨x1, x2, x3, x4⟩ := h2.domm id b h
      exact ⟨by rw [List.map_append]; exact List.mem_append_right _ x1, by omega, x3, List.mem_append_right _ x4⟩
  · split at hi <;> split at hj
    · exact h1.rr i j a c b hi hj hb hb'
    · exact (hf b ((h1.domr i a hi).2.2.2.1 b hb) ((h2.domr j c hj).2.2.2.1 b hb')).elim
    · exact (hf b ((h1.domr j c hj).2.2.2.1 b hb') ((h2.domr i a hi).2.2.2.1 b hb)).elim
    · exact h2.rr i j a c b hi hj hb hb'
  · split at hi <;> split at hj
    · exact h1.mm i j b hi hj
    · exact (hf b (h1.domm i b hi).2.2.2 (h2.domm j b hj).2.2.2).elim
    · exact (hf b (h1.domm j b hj).2.2.2 (h2.domm i b hi).2.2.2).elim
    · exact h2.mm i j b hi hj
  · split at hi <;> split at hj
    · exact h1.rm i j a b hi hj hb
    · exact hf b (h1.domm i b hi).2.2.2 ((h2.domr j a hj).2.2.2.1 b hb)
    · exact hf b ((h1.domr j a hj).2.2.2.1 b hb) (h2.domm i b hi).2.2.2
    · exact h2.rm i j a b hi hj hb
theorem NewOk.plain {sv : SV} {v : Value} {lo : Nat} (h : SVR cx w (fun _ => none) (fun _ => none) env sv v) : NewOk cx w env g [sv] [v] [] [] lo lo [] (fun _ => none) (fun _ => none) :=
  ⟨SVRs.one h, by simp, by simp, by simp, by simp, by simp, by simp, by simp⟩
/-- A slice that comes back: a new row. -/
theorem NewOk.slice {ks : List CK} {d : D} {v : Value} {fp : List Nat} {x : X} {id : Nat} (h : Own w (.sl ks) d v fp) (hnd : fp.Nodup) (hx : x.den env = d) : ∃ ρr, NewOk cx w env g [.ov id none] [v] [(id, g, ⟨ks, x⟩)] [] id (id + 1) fp (fun _ => none) ρr := by
  obtain ⟨ad, n, cap, rfl⟩ := h.sl_cells
  obtain ⟨xs, rfl, hl⟩ := own_len h
  subst hl
  refine ⟨fun i => if i = id then some ⟨xs, ad, cap, ks.length, fp⟩ else none, ⟨SVRs.one (.ov (rc := ⟨xs, ad, cap, ks.length, fp⟩) (by simp) (Nat.le_refl _) (fun _ => rfl) (fun _ h => by cases h)), fun p hp => ?_, by simp, fun i rc hi => ?_, by simp, fun i j a c b hi hj _ _ => ?_, by simp, by simp⟩⟩
  · simp only [List.mem_singleton] at hp
    subst hp
    exact ⟨rfl, ⟨xs, ad, cap, ks.length, fp⟩, by simp, hx, rfl, h⟩
  · split at hi
    · cases hi
      rename_i he
      subst he
      exact ⟨by simp, Nat.le_refl _, by omega, fun b hb => hb, hnd, fun b hb => own_addr h hb⟩
    · cases hi
  · split at hi <;> split at hj
    · omega
    · cases hj
    · cases hi
    · cases hi
theorem flat_sv {ck : CK} {d : D} {v : Value} {fp : List Nat} {x : X} (h : Own w ck d v fp) (hf : ck.flat = true) (hx : x.den env = d) : SVR cx w (fun _ => none) (fun _ => none) env (ckSV (.st false) x ck) v ∧ fp = [] := by
  obtain ⟨h1, h2⟩ := h.flat_inv hf
  exact ⟨ckSV_ok (S := cx.S) rfl (by rw [hx]; exact .flat h1), h2⟩
theorem resCells_ok {id0 : Nat} {x : X} {d : D} (hx : x.den env = d) : ∀ (ks : List CK) (off n : Nat) (vs : List Value) (fps : Nat → List Nat), vs.length = ks.length → (∀ i, i < ks.length → Own w (ks.getD i default) (d.fld (off + i)) (vs.getD i undef) (fps i)) → (fpRow ks.length fps).Nodup →
    n ≤ (resCells id0 g x off n ks).2.2 ∧ ∃ ρr, NewOk cx w env g (resCells id0 g x off n ks).1 vs (resCells id0 g x off n ks).2.1 [] (id0 + n) (id0 + (resCells id0 g x off n ks).2.2) (fpRow ks.length fps) (fun _ => none) ρr
  | [], off, n, vs, fps, hl, _, _ => by
    have : vs = [] := List.eq_nil_of_length_eq_zero hl
    subst this
    exact ⟨Nat.le_refl _, _, NewOk.nil⟩
  | ck :: ks, off, n, [], fps, hl, _, _ => by simp at hl
  | ck :: ks, off, n, v :: vs, fps, hl, hown, hnd => by
    have row_succ : fpRow (ks.length + 1) fps = fps 0 ++ fpRow ks.length fun i => fps (i + 1) := by rw [fpRow, fpRow, List.range_succ_eq_map]; simp [List.flatMap_map]
    rw [List.length_cons, row_succ] at hnd
    have hn := List.nodup_append.1 hnd
    have h0 := hown 0 (by simp)
    simp only [List.getD_cons_zero, Nat.add_zero] at h0
    have hden : (X.fld off x).den env = d.fld off := by simp [X.fld, X.den, O1.den, hx]
    have hrest : ∀ i, i < ks.length → Own w (ks.getD i default) (d.fld (off + 1 + i)) (vs.getD i undef) (fps (i + 1)) := fun i hi => by
      have := hown (i + 1) (by simpa using hi)
      simp only [List.getD_cons_succ] at this
      rwa [show off + (i + 1) = off + 1 + i by omega] at this
    have flat : ck.flat = true → resCells id0 g x off n (ck :: ks) = (ckSV (.st false) (X.fld off x) ck :: (resCells id0 g x (off + 1) n ks).1, (resCells id0 g x (off + 1) n ks).2.1, (resCells id0 g x (off + 1) n ks).2.2) →
        n ≤ (resCells id0 g x off n (ck :: ks)).2.2 ∧ ∃ ρr, NewOk cx w env g (resCells id0 g x off n (ck :: ks)).1 (v :: vs) (resCells id0 g x off n (ck :: ks)).2.1 [] (id0 + n) (id0 + (resCells id0 g x off n (ck :: ks)).2.2) (fpRow (ck :: ks).length fps) (fun _ => none) ρr := by
      intro hf he
      obtain ⟨i1, ρr, i2⟩ := resCells_ok (id0 := id0) hx ks (off + 1) n vs (fun i => fps (i + 1)) (by simpa using hl) hrest hn.2.1
      obtain ⟨s1, s2⟩ := flat_sv (cx := cx) h0 hf hden
      rw [he]
      refine ⟨i1, fun i => if i < id0 + n then none else ρr i, ?_⟩
      have := (NewOk.plain (g := g) (lo := id0 + n) s1).append i2 (Nat.le_refl _) (by omega) (by simp)
      rw [List.length_cons, row_succ, s2]
      have e : (fun i => if i < id0 + n then (none : Option Nat) else none) = fun _ => none := by funext i; split <;> rfl
      simp only [e] at this
      simpa using this
    cases ck with
    | sl ks' =>
      obtain ⟨i1, ρr, i2⟩ := resCells_ok (id0 := id0) hx ks (off + 1) (n + 1) vs (fun i => fps (i + 1)) (by simpa using hl) hrest hn.2.1
      obtain ⟨ρs, s⟩ := NewOk.slice (cx := cx) (g := g) (id := id0 + n) h0 hn.1 hden
      refine ⟨Nat.le_trans (Nat.le_succ n) i1, fun i => if i < id0 + (n + 1) then ρs i else ρr i, ?_⟩
      have := s.append i2 (by omega) (by omega) (fun b hb hb' => hn.2.2 b hb b hb' rfl)
      rw [List.length_cons, row_succ]
      have e : (fun i => if i < id0 + n + 1 then (none : Option Nat) else none) = fun _ => none := by funext i; split <;> rfl
      simp only [Nat.add_assoc] at this e
      simp only [e] at this
      simpa [resCells] using this
    | int k => exact flat rfl rfl
    | bool => exact flat rfl rfl
    | str => exact flat rfl rfl
theorem NewOk.cursor {d : D} {b id : Nat} {x : X} (h : curVal w cx.G d b) (hx : x.den env = d) : NewOk cx w env g [.bp id 0] [.pointer (some ⟨b, 0, none⟩)] [] [(id, g, [.sl (.st true) [.int .u8] x, .an, .ai .i64])] id (id + 1) [b] (fun i => if i = id then some b else none) (fun _ => none) := by
  refine ⟨SVRs.one (.bp (by simp)), by simp, fun p hp => ?_, by simp, fun i b' hi => ?_, by simp, fun i j b' hi hj => ?_, by simp⟩
  · simp only [List.mem_singleton] at hp
    subst hp
    obtain ⟨v0, i, h', T, h1, h2, h3, h3n, h4⟩ := h
    refine ⟨rfl, b, by simp, [v0, .int .i64 i, .int .i64 h'], T, h1, rfl, fun q hq => ?_⟩
    match q, hq with
    | 0, _ => exact .sl (S := cx.G) rfl (by rw [hx]; exact h2)
    | 1, _ => exact .an h3 h3n
    | 2, _ => exact .ai h4
  · split at hi
    · cases hi
      rename_i he
      subst he
      exact ⟨by simp, Nat.le_refl _, by omega, by simp⟩
    · cases hi
  · split at hi <;> split at hj
    · omega
    · cases hj
    · cases hi
    · cases hi
theorem RetsR.lens {G : Nat → Prop} {rs : List RS} {ds : List D} {us : List Value} {fr : List Nat} (h : RetsR w G rs ds us fr) : ds.length = rs.length ∧ us.length = rs.length := by
  induction h with
  | nil => exact ⟨rfl, rfl⟩
  | cons _ _ ih => exact ⟨by simp [ih.1], by simp [ih.2]⟩
theorem resSV_ok {id0 : Nat} {rs : List RS} {ds : List D} {us : List Value} {fr : List Nat} (h : RetsR w cx.G rs ds us fr) : ∀ (v n : Nat), (∀ i, i < ds.length → (X.var (v + i)).den env = ds.getD i default) → fr.Nodup →
    ∃ (n' : Nat) (mr : BoxM) (ρr : RowM), n ≤ n' ∧ NewOk cx w env g (resSV id0 g v n rs).1 us (resSV id0 g v n rs).2.1 (resSV id0 g v n rs).2.2 (id0 + n) (id0 + n') fr mr ρr := by
  induction h with
  | nil => exact fun v n _ _ => ⟨n, _, _, Nat.le_refl _, NewOk.nil⟩
  | @cons r d u fp rs ds us fps h1 h2 ih =>
    intro v n hd hnd
    have hn := List.nodup_append.1 hnd
    have hd0 : (X.var v).den env = d := by simpa using hd 0 (by simp)
    have hdr : ∀ i, i < ds.length → (X.var (v + 1 + i)).den env = ds.getD i default := fun i hi => by
      have := hd (i + 1) (by simpa using hi)
      rw [show v + 1 + i = v + (i + 1) by omega]
      simpa using this
    have hdis : ∀ b ∈ fp, b ∉ fps := fun b hb hb' => hn.2.2 b hb b hb' rfl
    cases h1 with
    | @sc ck _ _ _ ho =>
      have flat : ck.flat = true → resSV id0 g v n (.sc ck :: rs) = (ckSV (.st false) (.var v) ck :: (resSV id0 g (v + 1) n rs).1, (resSV id0 g (v + 1) n rs).2.1, (resSV id0 g (v + 1) n rs).2.2) →
          ∃ (n' : Nat) (mr : BoxM) (ρr : RowM), n ≤ n' ∧ NewOk cx w env g (resSV id0 g v n (.sc ck :: rs)).1 (u :: us) (resSV id0 g v n (.sc ck :: rs)).2.1 (resSV id0 g v n (.sc ck :: rs)).2.2 (id0 + n) (id0 + n') (fp ++ fps) mr ρr := by
        intro hf he
        obtain ⟨n', mr, ρr, i1, i2⟩ := ih (v + 1) n hdr hn.2.1
        obtain ⟨s1, s2⟩ := flat_sv (cx := cx) ho hf hd0
        rw [he, s2]
        exact ⟨n', _, _, i1, (NewOk.plain (g := g) (lo := id0 + n) s1).append i2 (Nat.le_refl _) (by omega) (by simp)⟩
      cases ck with
      | sl ks =>
        obtain ⟨n', mr, ρr, i1, i2⟩ := ih (v + 1) (n + 1) hdr hn.2.1
        obtain ⟨ρs, s⟩ := NewOk.slice (cx := cx) (g := g) (id := id0 + n) ho hn.1 hd0
        exact ⟨n', _, _, by omega, s.append i2 (by omega) (by omega) hdis⟩
      | int k => exact flat rfl rfl
      | bool => exact flat rfl rfl
      | str => exact flat rfl rfl
    | @st cks _ vs fpc hsh hl ho =>
      obtain ⟨j1, ρs, j2⟩ := resCells_ok (cx := cx) (g := g) (id0 := id0) hd0 cks 0 n vs fpc hl (fun i hi => by simpa using ho i hi) hn.1
      obtain ⟨n', mr, ρr, i1, i2⟩ := ih (v + 1) (resCells id0 g (.var v) 0 n cks).2.2 hdr hn.2.1
      have j3 : NewOk cx w env g [.agg (resCells id0 g (.var v) 0 n cks).1] [.agg vs.toArray] (resCells id0 g (.var v) 0 n cks).2.1 [] (id0 + n) (id0 + (resCells id0 g (.var v) 0 n cks).2.2) (fpRow cks.length fpc) (fun _ => none) ρs :=
        ⟨SVRs.one (.agg j2.sv.1 j2.sv.2), j2.row, j2.box, j2.domr, j2.domm, j2.rr, j2.mm, j2.rm⟩
      exact ⟨n', _, _, Nat.le_trans j1 i1, j3.append i2 (by omega) (by omega) hdis⟩
    | @cur _ b hcur =>
      obtain ⟨n', mr, ρr, i1, i2⟩ := ih (v + 1) (n + 1) hdr hn.2.1
      exact ⟨n', _, _, by omega, (NewOk.cursor (g := g) (id := id0 + n) hcur hd0).append i2 (by omega) (by omega) hdis⟩
theorem tup_ok {m : BoxM} {ρ : RowM} {svs : List SV} {us : List Value} (h : SVRs cx w m ρ env svs us) : SVR cx w m ρ env (tupOf svs) (resVal us) := by
  match svs, us, h with
  | [a], [v], h => exact h.2 0 (by simp)
  | [], [], h => exact .tup h.1 h.2
  | a :: b :: l, v :: u :: vs, h => exact .tup h.1 h.2
  | [], _ :: _, h => exact absurd h.1 (by simp)
  | [_], [], h => exact absurd h.1 (by simp)
  | [_], _ :: _ :: _, h => exact absurd h.1 (by simp)
  | _ :: _ :: _, [], h => exact absurd h.1 (by simp)
  | _ :: _ :: _, [_], h => exact absurd h.1 (by simp)
end
end Go.Proofs.Ytfbahdalemajcaa.Eng

/-
  The engine: cursors that come back; the state behind a call.
-/
namespace Go.Proofs.Ytfbahdalemajcaa.Eng
section
variable {P : Program} {cx : Cx} {w0 w w' : World} {m m' : BoxM} {ρ ρ' : RowM} {env : List D} {S : Nat → Prop} {st : St} {g : Conds} {clo : Nat → CloD}
theorem BackR.tail {G : Nat → Prop} {a : DArg} {v : Value} {as : List DArg} {vs : List Value} {bs : List D} {fb : List Nat} (h : BackR w G (a :: as) (v :: vs) bs fb) : ∃ bs2 fb2, BackR w G as vs bs2 fb2 ∧ ∀ b ∈ fb2, b ∈ fb := by
  cases h with
  | skip _ h => exact ⟨_, _, h, fun _ h => h⟩
  | row _ h => exact ⟨_, _, h, fun _ h => List.mem_append_right _ h⟩
  | stw _ _ _ h => exact ⟨_, _, h, fun _ h => List.mem_append_right _ h⟩
  | cur _ h => exact ⟨_, _, h, fun _ h => List.mem_cons_of_mem _ h⟩
theorem argOf_cu {md : Modes} {f : Callee'} {j : Nat} {t : TypeId} {sv : SV} {xa : XArg} {wr : List Wr} {tk cs : List Nat} (h : argOf P md f j st g t sv = some (xa, wr, tk, cs)) : (cs = [] ∧ ∀ x, xa ≠ .cur x) ∨ ∃ id x cells, sv = .bp id 0 ∧ xa = .cur x ∧ cs = [id] ∧ st.box g id = some cells ∧ curBox cells = some x := by
  unfold argOf at h
  split at h
  · split at h
    · split at h
      · split at h
        · split at h
          · cases h; exact .inl ⟨rfl, by simp⟩
          · cases h
        · split at h
          · cases h; exact .inl ⟨rfl, by simp⟩
          · cases h
      · cases h
    · cases h
  · split at h
    · split at h
      · split at h
        · split at h
          · split at h
            · split at h
              · cases h; exact .inl ⟨rfl, by simp⟩
              · cases h; exact .inl ⟨rfl, by simp⟩
            · cases h
          · cases h
        · split at h
          · split at h
            · cases h; exact .inl ⟨rfl, by simp⟩
            · cases h
          · cases h
        · cases h
      · split at h
        · cases h; exact .inl ⟨rfl, by simp⟩
        · cases h
    · cases h
  · split at h
    · split at h
      · rename_i cells hb
        split at h
        · rename_i x hx
          cases h
          exact .inr ⟨_, _, cells, rfl, rfl, rfl, hb, hx⟩
        · cases h
      · cases h
    · cases h
  · split at h
    · split at h
      · cases h; exact .inl ⟨rfl, by simp⟩
      · cases h
    · cases h; exact .inl ⟨rfl, by simp⟩
    · cases h
  · split at h
    · split at h
      · cases h; exact .inl ⟨rfl, by simp⟩
      · cases h
    · cases h
  · cases h
theorem argsOf_cu {md : Modes} {f : Callee'} : ∀ (ts : List TypeId) (j : Nat) (svs : List SV) (xas : List XArg) (wr : List Wr) (tk cs : List Nat), argsOf P md f st g j ts svs = some (xas, wr, tk, cs) → ∀ id ∈ cs, ∃ cells x, st.box g id = some cells ∧ curBox cells = some x
  | [], j, svs, xas, wr, tk, cs, h => by
    cases svs with
    | nil => simp only [argsOf] at h; cases h; simp
    | cons _ _ => simp [argsOf] at h
  | t :: ts, j, [], xas, wr, tk, cs, h => by simp [argsOf] at h
  | t :: ts, j, sv :: svs, xas, wr, tk, cs, h => by
    simp only [argsOf] at h
    split at h
    · rename_i xa wr1 tk1 cs1 xas' wrs tks css h1 h2
      cases h
      intro id hid
      rcases List.mem_append.1 hid with hid | hid
      · rcases argOf_cu h1 with ⟨e, _⟩ | ⟨id', x, cells, e1, e2, e3, e4, e5⟩
        · rw [e] at hid; simp at hid
        · rw [e3] at hid; simp only [List.mem_singleton] at hid; subst hid; exact ⟨cells, x, e4, e5⟩
      · exact argsOf_cu ts (j + 1) svs xas' wrs tks css h2 id hid
    · cases h
theorem cu_back {md : Modes} {f : Callee'} {G : Nat → Prop} : ∀ (ts : List TypeId) (j : Nat) (svs : List SV) (vs more : List Value) (xas : List XArg) (moreD : List DArg) (wr : List Wr) (tk cs : List Nat) (bs : List D) (fb : List Nat), argsOf P md f st g j ts svs = some (xas, wr, tk, cs) → SVRs cx w m ρ env svs vs →
    BackR w' G (xas.map (XArg.ev clo env) ++ moreD) (vs ++ more) bs fb → ∀ id ∈ cs, ∃ cells x b, st.box g id = some cells ∧ curBox cells = some x ∧ m id = some b ∧ curVal w' G (x.den env) b ∧ b ∈ fb
  | [], j, svs, vs, more, xas, moreD, wr, tk, cs, bs, fb, h, _, _ => by
    cases svs with
    | nil => simp only [argsOf] at h; cases h; simp
    | cons _ _ => simp [argsOf] at h
  | t :: ts, j, [], vs, more, xas, moreD, wr, tk, cs, bs, fb, h, _, _ => by simp [argsOf] at h
  | t :: ts, j, sv :: svs, vs, more, xas, moreD, wr, tk, cs, bs, fb, h, hv, hb => by
    cases vs with
    | nil => exact absurd hv.1 (by simp)
    | cons v vs =>
    have hv0 : SVR cx w m ρ env sv v := hv.2 0 (by simp)
    have hvr : SVRs cx w m ρ env svs vs := ⟨by simpa using hv.1, fun i hi => by simpa using hv.2 (i + 1) (by simpa using hi)⟩
    simp only [argsOf] at h
    split at h
    · rename_i xa wr1 tk1 cs1 xas' wrs tks css h1 h2
      cases h
      simp only [List.map_cons, List.cons_append] at hb
      intro id hid
      rcases List.mem_append.1 hid with hid | hid
      · rcases argOf_cu h1 with ⟨e, _⟩ | ⟨id', x, cells, e1, e2, e3, e4, e5⟩
        · rw [e] at hid; simp at hid
        · rw [e3] at hid
          simp only [List.mem_singleton] at hid
          subst hid
          subst e1 e2
          obtain ⟨b, b1, b2⟩ := hv0.bp_inv
          subst b2
          cases hb with
          | skip hf _ => exact hf.elim
          | cur hc _ => exact ⟨cells, x, b, e4, e5, b1, hc, by simp⟩
      · obtain ⟨bs2, fb2, hb2, hsub⟩ := hb.tail
        obtain ⟨cells, x, b, e1, e2, e3, e4, e5⟩ := cu_back ts (j + 1) svs vs more xas' moreD wrs tks css bs2 fb2 h2 hvr hb2 id hid
        exact ⟨cells, x, b, e1, e2, e3, e4, hsub b e5⟩
    · cases h
/-- A cursor's box, its counters forgotten. -/
theorem cuBox_of {cells : List SV} {x : X} (h : curBox cells = some x) : cuBox cells = [.sl (.st true) [.int .u8] x, .an, .ai .i64] := by
  unfold curBox at h
  split at h
  · cases h; rfl
  · cases h; rfl
  · cases h
theorem curBox_r {cells : List SV} {x : X} {b : Nat} (h : curBox cells = some x) (hv : curVal w cx.G (x.den env) b) : BoxR cx w m ρ env (cuBox cells) b := by
  rw [cuBox_of h]
  obtain ⟨v0, i, h', T, h1, h2, h3, h3n, h4⟩ := hv
  refine ⟨[v0, .int .i64 i, .int .i64 h'], T, h1, rfl, fun q hq => ?_⟩
  match q, hq with
  | 0, _ => exact .sl (S := cx.G) rfl h2
  | 1, _ => exact .an h3 h3n
  | 2, _ => exact .ai h4
theorem look_cuBoxes : ∀ (ids : List Nat) (l : List (Nat × Conds × List SV)) (j : Nat), ids.Nodup → look (cuBoxes ids l) j = if j ∈ ids then (look l j).map fun p => (p.1, cuBox p.2) else look l j
  | [], l, j, _ => by simp [cuBoxes]
  | id :: ids, l, j, hnd => by
    have hn := List.nodup_cons.1 hnd
    simp only [cuBoxes]
    split
    · rename_i c b hl
      rw [look_cuBoxes ids _ j hn.2, look_upd]
      by_cases hj : id = j
      · subst hj
        simp [hn.1, hl]
      · simp [hj, Ne.symm hj]
    · rename_i hl
      rw [look_cuBoxes ids l j hn.2]
      by_cases hj : id = j
      · subst hj
        simp [hn.1, hl]
      · simp [Ne.symm hj]
theorem look_append {α : Type} : ∀ (a b : List (Nat × α)) (i : Nat), look (a ++ b) i = match look a i with | some x => some x | none => look b i
  | [], b, i => rfl
  | (k, x) :: a, b, i => by
    simp only [List.cons_append, look_cons]
    split
    · rfl
    · exact look_append a b i
end
end Go.Proofs.Ytfbahdalemajcaa.Eng

/-
  The engine: the relation behind a call.
-/
namespace Go.Proofs.Ytfbahdalemajcaa.Eng
def orM {α : Type} (a b : Nat → Option α) : Nat → Option α := fun i => match a i with | some x => some x | none => b i
section
variable {P : Program} {cx : Cx} {w0 w w' : World} {m m' : BoxM} {ρ ρ' : RowM} {env : List D} {st : St} {g : Conds} {a : Act} {o : Oper} {clo : Nat → CloD}
theorem newIds_mem {l : List Nat} (h : newIds st l = true) : ∀ i ∈ l, look st.boxes i = none ∧ look st.rows i = none := by
  induction l with
  | nil => simp
  | cons j l ih =>
    simp only [newIds, Bool.and_eq_true] at h
    intro i hi
    rcases List.mem_cons.1 hi with rfl | hi
    · refine ⟨?_, ?_⟩
      · have := h.1.1; split at this <;> simp_all
      · have := h.1.2; split at this <;> simp_all
    · exact ih h.2 i hi
def midM (ρ ρ1 : RowM) (js tk : List Nat) : RowM := fun i => if i ∈ js then ρ1 i else if i ∈ tk then none else ρ i
theorem call_rel {r : CR} {rows0 : List (Nat × Conds × Row)} {us : List Value} {fr fb F : List Nat} {mr : BoxM} {ρr ρ1 : RowM} {lo hi : Nat} (hc : CxOk cx w0) (R : Rel cx w0 env { st with nv := st.nv + (r.rs.length + r.wr.length) } a w m ρ) (hok : callOk st g o r = true) (hdst : dstOk st o = true) (hg : g.den env)
    (hF : ∀ b ∈ F, lentB m ρ (wrIds r.wr ++ r.tk) r.cu b) (hw : ∀ b, b < w.heap.size → b ∉ F → w'.heap[b]? = w.heap[b]?) (hk : Kept cx w0 w') (hsz : w.heap.size ≤ w'.heap.size)
    (N : NewOk cx w' env g (callRes st g o r).1 us (callRes st g o r).2.1 (callRes st g o r).2.2 lo hi fr mr ρr) (B : Restored w w' ρ env (callSt1 st r).rows rows0 (wrIds r.wr) F fb ρ1)
    (hnd : ∀ b ∈ fr, b ∉ fb) (hfr : ∀ b, b ∈ fr ++ fb → b ∈ F ∨ w.heap.size ≤ b) (hlt : ∀ b ∈ fr ++ fb, b < w'.heap.size)
    (hcu : ∀ id ∈ r.cu, ∃ cells x b, st.box g id = some cells ∧ curBox cells = some x ∧ m id = some b ∧ curVal w' cx.G (x.den env) b ∧ b ∈ fb) :
    Rel cx w0 env (callSt st g o r rows0) (a.put o.dst (resVal us)) w' (orM mr m) (orM ρr (midM ρ ρ1 (wrIds r.wr) r.tk)) := by
  simp only [callOk, Bool.and_eq_true] at hok
  obtain ⟨⟨⟨⟨⟨⟨⟨⟨ht, _⟩, _⟩, hnew⟩, hfree⟩, hnd1⟩, hndc⟩, hcs⟩, _⟩ := hok
  have hnd1 := noDup_iff.1 hnd1
  have hndc := noDup_iff.1 hndc
  have hnew := newIds_mem hnew
  have hS : Sep cx w m ρ := R.heap.sep
  have hidr : ∀ i rc, ρr i = some rc → i ∈ callIds st g o r := fun i rc h => List.mem_append_left _ (N.domr i rc h).1
  have hidm : ∀ i b, mr i = some b → i ∈ callIds st g o r := fun i b h => List.mem_append_right _ (N.domm i b h).1
  have L1 := Less.gone (env := env) hS hc.gs r.tk st
  have L2 := Less.stale (env := env) hS hc.gs (wrIds r.wr) (st.gone r.tk)
  have L : Less cx w m ρ env st (callSt1 st r) := L1.1.trans L2.1
  have hrows : ∀ i, look (callSt1 st r).rows i = if i ∈ r.tk then none else look st.rows i := fun i => by
    rw [callSt1, L2.2]; exact L1.2 i
  have hdj : ∀ i, i ∈ wrIds r.wr → i ∉ r.tk := fun i h h' => (List.nodup_append.1 hnd1).2.2 i h i h' rfl
  -- blocks that stay
  have keepRow : ∀ i rc, ρ i = some rc → i ∉ wrIds r.wr → i ∉ r.tk → ∀ b ∈ rc.fp, b ∉ F := fun i rc hi h1 h2 b hb hbF => by
    rcases hF b hbF with ⟨q, hq, rq, q1, q2⟩ | ⟨q, hq, q1⟩
    · have := hS.rows i q rc rq b hi q1 hb q2
      subst this
      rcases List.mem_append.1 hq with h | h
      · exact h1 h
      · exact h2 h
    · exact hS.apart q i rc b q1 hi hb
  have keepBox : ∀ i b, m i = some b → i ∉ r.cu → b ∉ F := fun i b hi h1 hbF => by
    rcases hF b hbF with ⟨q, hq, rq, q1, q2⟩ | ⟨q, hq, q1⟩
    · exact hS.apart i q rq b hi q1 q2
    · exact h1 (hS.boxes i q b hi q1 ▸ hq)
  have keepS : ∀ b, cx.S b → w'.heap[b]? = w.heap[b]? := fun b hb => hw b (Nat.lt_of_lt_of_le (hc.lt b hb) R.kept.size) fun hbF => by
    rcases hF b hbF with ⟨q, hq, rq, q1, q2⟩ | ⟨q, hq, q1⟩
    · exact (hS.rowOwn q rq b q1 q2).1 hb
    · exact (hS.boxOwn q b q1).1 hb
  have T : Turn cx w w' ρ (midM ρ ρ1 (wrIds r.wr) r.tk) (wrIds r.wr) r.tk := by
    refine ⟨keepS, fun i rc hi h1 h2 => ⟨by simp [midM, h1, h2, hi], fun b hb => hw b (hS.rowOwn i rc b hi hb).2.2 (keepRow i rc hi h1 h2 b hb)⟩, fun i rc hi h1 => ?_⟩
    obtain ⟨rc', e1, e2, _⟩ := B.row i h1 rc hi
    exact ⟨rc', by simp [midM, h1, e1], e2⟩
  have tr : ∀ sv v, SVR cx w m ρ env sv v → sv.clean (wrIds r.wr) = true → sv.free r.tk = true → sv.free (callIds st g o r) = true → SVR cx w' (orM mr m) (orM ρr (midM ρ ρ1 (wrIds r.wr) r.tk)) env sv v := by
    intro sv v h h1 h2 h3
    refine (h.turn hc.gs (fun i rc b h1 h2 => hS.addrIn i rc b h1 h2) T h1 h2).upd (js := callIds st g o r) (fun i hi => ?_) (fun i hi => ?_) h3
    · have : mr i = none := by
        cases hm : mr i with
        | none => rfl
        | some b => exact absurd (hidm i b hm) (memN_false.1 hi)
      simp [orM, this]
    · have : ρr i = none := by
        cases hm : ρr i with
        | none => rfl
        | some b => exact absurd (hidr i b hm) (memN_false.1 hi)
      simp [orM, this]
  have hstill : r.cu ≠ [] → wrIds r.wr = [] ∧ r.tk = [] := fun hne => by
    have h : r.still = true := by
      cases hcu' : r.cu with
      | nil => exact absurd hcu' hne
      | cons _ _ => rw [hcu'] at hcs; simpa using hcs
    unfold CR.still at h
    split at h
    · rename_i h1 h2; rw [h1, h2]; exact ⟨rfl, rfl⟩
    · cases h
  have oldN : ∀ b, b < w.heap.size → b ∉ F → b ∉ fr ∧ b ∉ fb := fun b h1 h2 => by
    refine ⟨fun h => ?_, fun h => ?_⟩
    · rcases hfr b (List.mem_append_left _ h) with h' | h'
      · exact h2 h'
      · omega
    · rcases hfr b (List.mem_append_right _ h) with h' | h'
      · exact h2 h'
      · omega
  have hρ : ∀ i rc, orM ρr (midM ρ ρ1 (wrIds r.wr) r.tk) i = some rc → ρr i = some rc ∨ (i ∈ wrIds r.wr ∧ ρ1 i = some rc) ∨ (i ∉ wrIds r.wr ∧ i ∉ r.tk ∧ ρ i = some rc) := fun i rc h => by
    unfold orM at h
    split at h
    · rename_i x hx; cases h; exact .inl hx
    · unfold midM at h
      split at h
      · exact .inr (.inl ⟨‹_›, h⟩)
      · split at h
        · cases h
        · exact .inr (.inr ⟨‹_›, ‹_›, h⟩)
  have hm : ∀ i b, orM mr m i = some b → mr i = some b ∨ (i ∈ r.cu ∧ m i = some b ∧ b ∈ fb) ∨ (i ∉ r.cu ∧ m i = some b ∧ b < w.heap.size ∧ b ∉ F) := fun i b h => by
    unfold orM at h
    split at h
    · rename_i x hx; cases h; exact .inl hx
    · by_cases hc' : i ∈ r.cu
      · obtain ⟨_, _, b', _, _, e3, _, e5⟩ := hcu i hc'
        rw [e3] at h
        cases h
        exact .inr (.inl ⟨hc', e3, e5⟩)
      · exact .inr (.inr ⟨hc', h, (hS.boxOwn i b h).2.2, keepBox i b h hc'⟩)
  -- a changed row's blocks
  have chg : ∀ i rc, i ∈ wrIds r.wr → ρ1 i = some rc → rc.fp.Nodup ∧ (∀ b, rc.addr = some ⟨b, 0, none⟩ → b ∈ rc.fp) ∧ ∃ rc0, ρ i = some rc0 ∧ ∀ b ∈ rc.fp, (b ∈ rc0.fp ∧ b ∉ F) ∨ b ∈ fb := fun i rc h1 h2 => by
    obtain ⟨rc0, hrc0⟩ := B.dom i rc h1 h2
    obtain ⟨rc', e1, _, e3, e4, e5, _⟩ := B.row i h1 rc0 hrc0
    rw [h2] at e1
    cases e1
    exact ⟨e3, e4, rc0, hrc0, e5⟩
  have keepC : ∀ i rc, ρ i = some rc → i ∉ wrIds r.wr → i ∉ r.tk → ∀ b ∈ rc.fp, b < w.heap.size ∧ b ∉ F := fun i rc hi h1 h2 b hb => ⟨(hS.rowOwn i rc b hi hb).2.2, keepRow i rc hi h1 h2 b hb⟩
  have newOwn : ∀ b, b ∈ fr ++ fb → ¬ cx.S b ∧ (cx.N ≤ b ∨ b ∈ cx.F) ∧ b < w'.heap.size := fun b hb => by
    refine ⟨fun hs => ?_, ?_, hlt b hb⟩
    · have h1 : b < w.heap.size := Nat.lt_of_lt_of_le (hc.lt b hs) R.kept.size
      rcases hfr b hb with h | h
      · rcases hF b h with ⟨q, hq, rq, q1, q2⟩ | ⟨q, hq, q1⟩
        · exact (hS.rowOwn q rq b q1 q2).1 hs
        · exact (hS.boxOwn q b q1).1 hs
      · omega
    · rcases hfr b hb with h | h
      · rcases hF b h with ⟨q, hq, rq, q1, q2⟩ | ⟨q, hq, q1⟩
        · exact (hS.rowOwn q rq b q1 q2).2.1
        · exact (hS.boxOwn q b q1).2.1
      · left; rw [hc.n]; have := R.kept.size; omega
  have hbase : ∀ i, look (callSt1 st r).rows i ≠ none → ρr i = none := fun i h => by
    cases hx : ρr i with
    | none => rfl
    | some rc =>
      exfalso
      have := (hnew i (hidr i rc hx)).2
      rw [hrows] at h
      split at h
      · exact h rfl
      · exact h this
  have sep : Sep cx w' (orM mr m) (orM ρr (midM ρ ρ1 (wrIds r.wr) r.tk)) := by
    refine ⟨fun i j b hi hj => ?_, fun i j r1 r2 b hi hj hb hb' => ?_, fun i r1 hi => ?_, fun i j r1 b hi hj hb => ?_, fun i b hi => ?_, fun i r1 b hi hb => ?_, fun i r1 b hi hb => ?_⟩
    · rcases hm i b hi with h | ⟨h1, h2, h3⟩ | ⟨h1, h2, h3, h4⟩ <;> rcases hm j b hj with k | ⟨k1, k2, k3⟩ | ⟨k1, k2, k3, k4⟩
      · exact N.mm i j b h k
      · exact (hnd b (N.domm i b h).2.2.2 k3).elim
      · exact ((oldN b k3 k4).1 (N.domm i b h).2.2.2).elim
      · exact (hnd b (N.domm j b k).2.2.2 h3).elim
      · exact hS.boxes i j b h2 k2
      · exact hS.boxes i j b h2 k2
      · exact ((oldN b h3 h4).1 (N.domm j b k).2.2.2).elim
      · exact hS.boxes i j b h2 k2
      · exact hS.boxes i j b h2 k2
    · rcases hρ i r1 hi with h | ⟨h1, h2⟩ | ⟨h1, h2, h3⟩ <;> rcases hρ j r2 hj with k | ⟨k1, k2⟩ | ⟨k1, k2, k3⟩
      · exact N.rr i j r1 r2 b h k hb hb'
      · obtain ⟨_, _, rc0, c1, c2⟩ := chg j r2 k1 k2
        have hfb := (N.domr i r1 h).2.2.2.1 b hb
        rcases c2 b hb' with ⟨d1, d2⟩ | d
        · exact ((oldN b (hS.rowOwn j rc0 b c1 d1).2.2 d2).1 hfb).elim
        · exact (hnd b hfb d).elim
      · have := keepC j r2 k3 k1 k2 b hb'
        exact ((oldN b this.1 this.2).1 ((N.domr i r1 h).2.2.2.1 b hb)).elim
      · obtain ⟨_, _, rc0, c1, c2⟩ := chg i r1 h1 h2
        have hfb := (N.domr j r2 k).2.2.2.1 b hb'
        rcases c2 b hb with ⟨d1, d2⟩ | d
        · exact ((oldN b (hS.rowOwn i rc0 b c1 d1).2.2 d2).1 hfb).elim
        · exact (hnd b hfb d).elim
      · exact B.apart i j r1 r2 b h1 k1 h2 k2 hb hb'
      · obtain ⟨_, _, rc0, c1, c2⟩ := chg i r1 h1 h2
        have := keepC j r2 k3 k1 k2 b hb'
        rcases c2 b hb with ⟨d1, d2⟩ | d
        · exact hS.rows i j rc0 r2 b c1 k3 d1 hb'
        · exact ((oldN b this.1 this.2).2 d).elim
      · have := keepC i r1 h3 h1 h2 b hb
        exact ((oldN b this.1 this.2).1 ((N.domr j r2 k).2.2.2.1 b hb')).elim
      · obtain ⟨_, _, rc0, c1, c2⟩ := chg j r2 k1 k2
        have := keepC i r1 h3 h1 h2 b hb
        rcases c2 b hb' with ⟨d1, d2⟩ | d
        · exact hS.rows i j r1 rc0 b h3 c1 hb d1
        · exact ((oldN b this.1 this.2).2 d).elim
      · exact hS.rows i j r1 r2 b h3 k3 hb hb'
    · rcases hρ i r1 hi with h | ⟨h1, h2⟩ | ⟨h1, h2, h3⟩
      · exact (N.domr i r1 h).2.2.2.2.1
      · exact (chg i r1 h1 h2).1
      · exact hS.nodup i r1 h3
    · rcases hm i b hi with h | ⟨h1, h2, h3⟩ | ⟨h1, h2, h3, h4⟩ <;> rcases hρ j r1 hj with k | ⟨k1, k2⟩ | ⟨k1, k2, k3⟩
      · exact N.rm i j r1 b h k hb
      · obtain ⟨_, _, rc0, c1, c2⟩ := chg j r1 k1 k2
        have hfb := (N.domm i b h).2.2.2
        rcases c2 b hb with ⟨d1, d2⟩ | d
        · exact (oldN b (hS.rowOwn j rc0 b c1 d1).2.2 d2).1 hfb
        · exact hnd b hfb d
      · have := keepC j r1 k3 k1 k2 b hb
        exact (oldN b this.1 this.2).1 (N.domm i b h).2.2.2
      · exact hnd b ((N.domr j r1 k).2.2.2.1 b hb) h3
      · have := (hstill (fun e => by rw [e] at h1; simp at h1)).1
        rw [this] at k1
        simp at k1
      · have := keepC j r1 k3 k1 k2 b hb
        exact (oldN b this.1 this.2).2 h3
      · exact (oldN b h3 h4).1 ((N.domr j r1 k).2.2.2.1 b hb)
      · obtain ⟨_, _, rc0, c1, c2⟩ := chg j r1 k1 k2
        rcases c2 b hb with ⟨d1, d2⟩ | d
        · exact hS.apart i j rc0 b h2 c1 d1
        · exact (oldN b h3 h4).2 d
      · exact hS.apart i j r1 b h2 k3 hb
    · rcases hm i b hi with h | ⟨h1, h2, h3⟩ | ⟨h1, h2, h3, h4⟩
      · exact newOwn b (List.mem_append_left _ (N.domm i b h).2.2.2)
      · exact newOwn b (List.mem_append_right _ h3)
      · have := hS.boxOwn i b h2
        exact ⟨this.1, this.2.1, Nat.lt_of_lt_of_le this.2.2 hsz⟩
    · rcases hρ i r1 hi with h | ⟨h1, h2⟩ | ⟨h1, h2, h3⟩
      · exact newOwn b (List.mem_append_left _ ((N.domr i r1 h).2.2.2.1 b hb))
      · obtain ⟨_, _, rc0, c1, c2⟩ := chg i r1 h1 h2
        rcases c2 b hb with ⟨d1, d2⟩ | d
        · have := hS.rowOwn i rc0 b c1 d1
          exact ⟨this.1, this.2.1, Nat.lt_of_lt_of_le this.2.2 hsz⟩
        · exact newOwn b (List.mem_append_right _ d)
      · have := hS.rowOwn i r1 b h3 hb
        exact ⟨this.1, this.2.1, Nat.lt_of_lt_of_le this.2.2 hsz⟩
    · rcases hρ i r1 hi with h | ⟨h1, h2⟩ | ⟨h1, h2, h3⟩
      · exact (N.domr i r1 h).2.2.2.2.2 b hb
      · exact (chg i r1 h1 h2).2.1 b hb
      · exact hS.addrIn i r1 b h3 hb
  have newM : ∀ i b, mr i = some b → orM mr m i = some b := fun i b h => by simp [orM, h]
  have newR : ∀ i rc, ρr i = some rc → orM ρr (midM ρ ρ1 (wrIds r.wr) r.tk) i = some rc := fun i rc h => by simp [orM, h]
  have trBox : ∀ cs b, BoxR cx w m ρ env cs b → SV.cleans (wrIds r.wr) cs = true → SV.frees r.tk cs = true → SV.frees (callIds st g o r) cs = true → w'.heap[b]? = w.heap[b]? → BoxR cx w' (orM mr m) (orM ρr (midM ρ ρ1 (wrIds r.wr) r.tk)) env cs b := by
    rintro cs b ⟨vs, T', h1, h2⟩ c1 c2 c3 he
    exact ⟨vs, T', he.trans h1, h2.map fun q hq v hv => tr _ v hv (SV.cleans_getD c1 q hq) (SV.frees_getD c2 q hq) (SV.frees_getD c3 q hq)⟩
  refine ⟨hk, ⟨fun i c cs b hl hmb hgc => ?_, fun i c r1 rc hl hrc hgc => ?_, sep⟩, ?_, by rw [put_defers]; exact R.defers, ?_, R.nv⟩
  · simp only [callSt, look_append] at hl
    split at hl
    · rename_i x hx
      cases hl
      obtain ⟨e1, b', e2, vs, T', e3, e4⟩ := N.box _ (look_mem hx)
      have := newM i b' e2
      rw [hmb] at this
      cases this
      exact ⟨vs, T', e3, e4.map fun q hq v hv => hv.more newM newR⟩
    · rename_i hx
      rw [look_cuBoxes r.cu _ i hndc] at hl
      have hmi : ∀ b', mr i = some b' → False := fun b' h => by
        have h1 := (hnew i (hidm i b' h)).1
        split at hl
        · obtain ⟨p, hp, _⟩ := Option.map_eq_some_iff.1 hl
          obtain ⟨cs0, h2, _⟩ := L.boxes i p.1 p.2 hp
          rw [h1] at h2; cases h2
        · obtain ⟨cs0, h2, _⟩ := L.boxes i c cs hl
          rw [h1] at h2; cases h2
      have hmo : m i = some b := by
        rcases hm i b hmb with h | ⟨_, h, _⟩ | ⟨_, h, _⟩
        · exact (hmi b h).elim
        · exact h
        · exact h
      split at hl
      · rename_i hic
        obtain ⟨p, hp, he⟩ := Option.map_eq_some_iff.1 hl
        cases he
        obtain ⟨cells, x, b', f1, f2, f3, f4, f5⟩ := hcu i hic
        rw [hmo] at f3
        cases f3
        have hst := hstill fun e => by rw [e] at hic; simp at hic
        have hcell : p.2 = cells := by
          have : callSt1 st r = st := by rw [callSt1, hst.1, hst.2]; rfl
          rw [this] at hp
          unfold St.box at f1
          rw [hp] at f1
          simp only at f1
          split at f1
          · cases f1; rfl
          · cases f1
        rw [hcell]
        exact curBox_r f2 f4
      · rename_i hic
        obtain ⟨cs0, h1, h2⟩ := L.boxes i c cs hl
        have hb0 := R.heap.boxes i c cs0 b h1 hmo hgc
        obtain ⟨vs, T', h3, h4⟩ := hb0
        have := turned_box ht hl
        exact trBox cs b ⟨vs, T', h3, h2 vs h4⟩ this.1 this.2 (free_box hfree hl) (hw b (hS.boxOwn i b hmo).2.2 (keepBox i b hmo hic))
  · simp only [callSt, look_append] at hl
    split at hl
    · rename_i x hx
      cases hl
      obtain ⟨e1, rc', e2, e3⟩ := N.row _ (look_mem hx)
      have := newR i rc' e2
      rw [hrc] at this
      cases this
      exact e3
    · by_cases hi : i ∈ wrIds r.wr
      · obtain ⟨r0, hr0⟩ := B.back i c r1 hi hl
        have hn : ρr i = none := hbase i (by rw [hr0]; simp)
        have hr1 : ρ1 i = some rc := by simpa [orM, hn, midM, hi] using hrc
        obtain ⟨rc0, hrc0⟩ := B.dom i rc hi hr1
        obtain ⟨rc', e1, _, _, _, _, e6⟩ := B.row i hi rc0 hrc0
        rw [hr1] at e1
        cases e1
        have hl0 : look st.rows i = some (c, r0) := by
          rw [hrows] at hr0
          split at hr0
          · cases hr0
          · exact hr0
        obtain ⟨r', f1, f2⟩ := e6 c r0 hr0 (R.heap.rows i c r0 rc0 hl0 hrc0 hgc)
        rw [hl] at f1
        cases f1
        exact f2
      · rw [B.other i hi] at hl
        have hn : ρr i = none := hbase i (by rw [hl]; simp)
        rw [hrows] at hl
        split at hl
        · cases hl
        · rename_i hnt
          have hrc' : ρ i = some rc := by simpa [orM, hn, midM, hi, hnt] using hrc
          obtain ⟨e1, e2, e3⟩ := R.heap.rows i c r1 rc hl hrc' hgc
          exact ⟨e1, e2, e3.frame fun b hb => hw b (hS.rowOwn i rc b hrc' hb).2.2 (keepRow i rc hrc' hi hnt b hb)⟩
  · intro t c sv hl
    have hds : dstOk st o = true := hdst
    simp only [callSt] at hl
    have hold : ∀ t c sv, look (callSt1 st r).slots t = some (c, sv) → SlotR cx w' (orM mr m) (orM ρr (midM ρ ρ1 (wrIds r.wr) r.tk)) env a.tmps t c sv := fun t c sv hl => by
      obtain ⟨sv0, h1, h2⟩ := L.slots t c sv hl
      have := turned_slot ht hl
      exact (R.slots t c sv0 h1).map Iff.rfl fun v hv => tr sv v (h2 v hv) this.1 this.2 (free_slot hfree hl)
    cases hod : o.dst with
    | none => rw [hod] at hl; exact hold t c sv hl
    | some d =>
      rw [hod] at hl
      simp only [St.put, look_upd] at hl
      rw [put_tmps]
      split at hl
      · rename_i he
        subst he
        cases hl
        exact .new (by rw [R.size.1]; exact (dstOk_lt hds hod).1) (fun _ => tup_ok (N.sv.map fun q hq v hv => hv.more newM newR)) (fun h => absurd hg h)
      · rename_i hne
        exact (hold t c sv hl).put hne
  · exact R.size.putD hdst
end
end Go.Proofs.Ytfbahdalemajcaa.Eng

/-
  The engine: a call is what the executor says.
-/
namespace Go.Proofs.Ytfbahdalemajcaa.Eng
section
variable {P : Program} {cx : Cx} {w0 w w' : World} {m m' : BoxM} {ρ ρ' : RowM} {env : List D} {st : St} {g : Conds} {a : Act} {o : Oper} {ops : Array Oper} {clo : Nat → CloD} {Qd : List D → Prop} {κ : Nat → List D → Prop} {k : T}
  {K : Act → World → Prop} {Q : Exit → Act → World → Prop}
theorem enter_run {f : Operand} {args : Array Operand} {ts : Array TypeId} {fi : Nat} {us : Array Value} (ho : o.op = .call { callee := .value f, args, argTypes := ts }) (hf : a.eval f = .func (.func fi) #[] us) (he : Enters P fi) :
    (execOp a.eval o).run P w = .ok (.enter fi (args.map a.eval ++ us)) w := by
  obtain ⟨fn, h1, h2, h3⟩ := he
  have h4 : fn.body ≠ none := fun hb => by rw [hb] at h2; cases h2
  have h5 : fn.name ≠ "runtime.NumGoroutine" := by simpa using h3
  simp [execOp, ho, resolve, hf, Deferred.ofValue, invoke, callFunc, h1, h4, h5]
theorem curVal_lt {G : Nat → Prop} {d : D} {b : Nat} (h : curVal w G d b) : b < w.heap.size := by
  obtain ⟨_, _, _, _, h, _⟩ := h
  exact (Array.getElem?_eq_some_iff.1 h).1
theorem RetR.lt {G : Nat → Prop} {r : RS} {d : D} {v : Value} {fp : List Nat} (h : RetR w G r d v fp) : ∀ b ∈ fp, b < w.heap.size := by
  cases h with
  | sc h => exact h.lt
  | st _ _ h =>
    intro b hb
    obtain ⟨i, hi, hb⟩ := mem_fpRow.1 hb
    exact (h i hi).lt b hb
  | cur h => intro b hb; simp only [List.mem_singleton] at hb; subst hb; exact curVal_lt h
theorem RetsR.lt {G : Nat → Prop} {rs : List RS} {ds : List D} {us : List Value} {fr : List Nat} (h : RetsR w G rs ds us fr) : ∀ b ∈ fr, b < w.heap.size := by
  induction h with
  | nil => simp
  | cons h1 _ ih =>
    intro b hb
    rcases List.mem_append.1 hb with hb | hb
    · exact h1.lt b hb
    · exact ih b hb
theorem BackR.lt {G : Nat → Prop} {as : List DArg} {vs : List Value} {bs : List D} {fb : List Nat} (h : BackR w G as vs bs fb) : ∀ b ∈ fb, b < w.heap.size := by
  induction h with
  | nil => simp
  | skip _ _ ih => exact ih
  | row h1 _ ih =>
    intro b hb
    rcases List.mem_append.1 hb with hb | hb
    · exact h1.lt b hb
    · exact ih b hb
  | stw _ _ h1 _ ih =>
    intro b hb
    rcases List.mem_append.1 hb with hb | hb
    · obtain ⟨i, hi, hb⟩ := mem_fpRow.1 hb
      exact (h1 i hi).lt b hb
    · exact ih b hb
  | cur h1 _ ih =>
    intro b hb
    rcases List.mem_cons.1 hb with rfl | hb
    · exact curVal_lt h1
    · exact ih b hb
theorem backs_cons (a : DArg) (as : List DArg) : backs (a :: as) = backs as + (if a.back then 1 else 0) := by simp [backs, List.countP_cons]
theorem backs_append (a b : List DArg) : backs (a ++ b) = backs a + backs b := by simp [backs]
theorem BackR.len {G : Nat → Prop} {as : List DArg} {vs : List Value} {bs : List D} {fb : List Nat} (h : BackR w G as vs bs fb) : bs.length = backs as := by
  induction h with
  | nil => rfl
  | @skip a v as vs ds fps hne _ ih =>
    rw [backs_cons, ih]
    have : a.back = false := by cases a <;> first | rfl | exact hne.elim
    simp [this]
  | row _ _ ih => rw [backs_cons, List.length_cons, ih]; rfl
  | stw _ _ _ _ ih => rw [backs_cons, List.length_cons, ih]; rfl
  | cur _ _ ih => rw [backs_cons, ih]; rfl
theorem argOf_back {md : Modes} {f : Callee'} {j : Nat} {t : TypeId} {sv : SV} {xa : XArg} {wr : List Wr} {tk cs : List Nat} (h : argOf P md f j st g t sv = some (xa, wr, tk, cs)) : wr.length = if (xa.ev clo env).back then 1 else 0 := by
  unfold argOf at h
  split at h
  · split at h
    · split at h
      · split at h
        · split at h
          · cases h; rfl
          · cases h
        · split at h
          · cases h; rfl
          · cases h
      · cases h
    · cases h
  · split at h
    · split at h
      · split at h
        · split at h
          · split at h
            · split at h
              · cases h; rfl
              · cases h; rfl
            · cases h
          · cases h
        · split at h
          · split at h
            · cases h; rfl
            · cases h
          · cases h
        · cases h
      · split at h
        · cases h; rfl
        · cases h
    · cases h
  · split at h
    · split at h
      · split at h
        · cases h; rfl
        · cases h
      · cases h
    · cases h
  · split at h
    · split at h
      · cases h; rfl
      · cases h
    · cases h; rfl
    · cases h
  · split at h
    · split at h
      · cases h; rfl
      · cases h
    · cases h
  · cases h
theorem argsOf_back {md : Modes} {f : Callee'} : ∀ (ts : List TypeId) (j : Nat) (svs : List SV) (xas : List XArg) (wr : List Wr) (tk cs : List Nat), argsOf P md f st g j ts svs = some (xas, wr, tk, cs) → backs (xas.map (XArg.ev clo env)) = wr.length
  | [], j, svs, xas, wr, tk, cs, h => by
    cases svs with
    | nil => simp only [argsOf] at h; cases h; rfl
    | cons _ _ => simp [argsOf] at h
  | t :: ts, j, [], xas, wr, tk, cs, h => by simp [argsOf] at h
  | t :: ts, j, sv :: svs, xas, wr, tk, cs, h => by
    simp only [argsOf] at h
    split at h
    · rename_i xa wr1 tk1 cs1 xas' wrs tks css h1 h2
      cases h
      rw [List.map_cons, backs_cons, argsOf_back ts (j + 1) svs xas' wrs tks css h2, List.length_append, argOf_back (clo := clo) (env := env) h1]
      omega
    · cases h
end
end Go.Proofs.Ytfbahdalemajcaa.Eng

/-
  The engine: a call is what the executor says (second part).
-/
namespace Go.Proofs.Ytfbahdalemajcaa.Eng
section
variable {P : Program} {cx : Cx} {w0 w w' : World} {m m' : BoxM} {ρ ρ' : RowM} {env : List D} {st : St} {g : Conds} {a : Act} {o : Oper} {ops : Array Oper} {clo : Nat → CloD} {Qd : List D → Prop} {κ : Nat → List D → Prop} {k : T}
  {K : Act → World → Prop} {Q : Exit → Act → World → Prop}
/-- What a call of the executor's consists of. -/
structure CallEv (P : Program) (md : Modes) (st : St) (g : Conds) (o : Oper) (r : CR) (f : Operand) (args : Array Operand) (ts : Array TypeId) (svs : List SV) (as : List XArg) : Prop where
  op : o.op = .call { callee := .value f, args, argTypes := ts }
  gets : st.gets g args.toList = some svs
  argsof : ∃ fc, argsOf P md fc st g 0 ts.toList svs = some (as, r.wr, r.tk, r.cu)
  free : argsFree st g (wrIds r.wr ++ r.tk) r.cu svs as = true
  fn : (∃ fi cs caps, st.get g f = some (.clo fi cs) ∧ capX st g cs = some caps ∧ argFree st g (wrIds r.wr ++ r.tk) r.cu (.clo fi cs) = true ∧ r.f = .fn fi ∧ r.args = as ++ caps.map fun c => XArg.bx c.1 c.2) ∨
    (∃ j, st.get g f = some (.clop j) ∧ r.f = .par j ∧ r.args = as)
theorem memN_nil (i : Nat) : memN i [] = false := rfl
mutual
theorem SV.free_nil : ∀ sv : SV, sv.free [] = true
  | .num _ _ | .boo _ | .txt _ | .clop _ | .nilsl | .ai _ | .an | .top => by simp [SV.free]
  | .sl (.st _) _ _ | .sl (.row _) _ _ | .ep (.st _) _ _ _ | .ep (.row _) _ _ _ | .ov _ _ | .ow _ _ _ | .nv _ _ _ | .oep _ _ _ | .bp _ _ => by simp [SV.free, memN_nil]
  | .agg cs | .tup cs | .clo _ cs => by simp only [SV.free]; exact SV.frees_nil cs
theorem SV.frees_nil : ∀ l : List SV, SV.frees [] l = true
  | [] => rfl
  | a :: l => by simp only [SV.frees, Bool.and_eq_true]; exact ⟨SV.free_nil a, SV.frees_nil l⟩
end
theorem capX_free : ∀ (cs : List SV) (caps : List (List CK × X)), capX st g cs = some caps → argFree st g [] [] (.clo 0 cs) = true
  | [], _, _ => rfl
  | v :: l, caps, h => by
    unfold capX at h
    split at h
    · rename_i heq; cases heq
    · rename_i id l2 heq
      cases heq
      split at h
      · rename_i cells r hb hr
        have ih := capX_free l r hr
        simp only [argFree, List.all_cons, Bool.and_eq_true] at ih ⊢
        refine ⟨?_, ih⟩
        simp [memN_nil, hb, SV.frees_nil]
      · cases h
    · cases h
theorem argOf_free {md : Modes} {f : Callee'} {j : Nat} {t : TypeId} {sv : SV} {q : XArg × List Wr × List Nat × List Nat} (h : argOf P md f j st g t sv = some q) : argFree st g [] [] sv = true := by
  by_cases hc : ∃ fi cs, sv = .clo fi cs
  · obtain ⟨fi, cs, rfl⟩ := hc
    unfold argOf at h
    split at h
    · split at h
      · cases h
      · cases h
    · split at h
      · split at h
        · cases h
        · simp [argX] at h
      · cases h
    · cases h
    · simp only at h
      split at h
      · rename_i hx; exact capX_free _ _ hx
      · cases h
    · split at h
      · simp [argX] at h
      · cases h
    · cases h
  · have : argFree st g [] [] sv = sv.free [] := by
      cases sv <;> first | rfl | exact absurd ⟨_, _, rfl⟩ hc
    rw [this]; exact SV.free_nil sv
theorem argsOf_free {md : Modes} {f : Callee'} : ∀ (ts : List TypeId) (j : Nat) (svs : List SV) (xas : List XArg) (q : List Wr × List Nat × List Nat), argsOf P md f st g j ts svs = some (xas, q) → argsFree st g [] [] svs xas = true
  | [], j, svs, xas, q, h => by
    cases svs with
    | nil => simp only [argsOf] at h; cases h; rfl
    | cons _ _ => simp [argsOf] at h
  | t :: ts, j, [], xas, q, h => by simp [argsOf] at h
  | t :: ts, j, sv :: svs, xas, q, h => by
    simp only [argsOf] at h
    split at h
    · rename_i xa wr1 tk1 cs1 xas' wrs tks css h1 h2
      cases h
      simp only [argsFree, Bool.and_eq_true, Bool.or_eq_true]
      exact ⟨.inr (argOf_free h1), argsOf_free ts (j + 1) svs xas' _ h2⟩
    · cases h
theorem evalCall_inv {md : Modes} {r : CR} (h : evalCall P md st g o = some r) : ∃ f args ts svs as, CallEv P md st g o r f args ts svs as := by
  unfold evalCall at h
  split at h
  rotate_left
  · cases h
  rename_i f args ts ho
  split at h
  · rename_i fi cs vs rs hf hg hr
    split at h
    · rename_i fn hfn
      split at h
      · split at h
        · rename_i as wr tk cu caps h1 h2
          split at h
          · rename_i hc
            rw [Bool.and_eq_true] at hc
            cases h
            exact ⟨f, args, ts, vs, as, ho, hg, ⟨_, h1⟩, hc.1, .inl ⟨fi, cs, caps, hf, h2, hc.2, rfl, rfl⟩⟩
          · cases h
        · cases h
      · cases h
    · cases h
  · rename_i j vs rs hf hg hr
    split at h
    · rename_i as h1
      cases h
      exact ⟨f, args, ts, vs, as, ho, hg, ⟨_, h1⟩, argsOf_free _ _ _ _ _ h1, .inr ⟨j, hf, rfl, rfl⟩⟩
    · cases h
  · cases h
/-! ### values of an old state are old -/
theorem constCell_lt {n : Nat} (v : Value) : (constCell v).lt n = true := by
  unfold constCell
  split <;> (try split) <;> simp [SV.lt, X.lt]
theorem lts_map {n : Nat} : ∀ l : List Value, SV.lts n (l.map constCell) = true
  | [] => rfl
  | v :: l => by simp only [List.map_cons, SV.lts, Bool.and_eq_true]; exact ⟨constCell_lt v, lts_map l⟩
theorem constSV_lt {n : Nat} {v : Value} {sv : SV} (h : constSV v = some sv) : sv.lt n = true := by
  unfold constSV at h
  split at h
  · cases h; simp only [SV.lt]; exact lts_map _
  · cases h
  · cases h; exact constCell_lt v
theorem get_lt {n : Nat} (h : st.lt n = true) {x : Operand} {sv : SV} (hx : st.get g x = some sv) : sv.lt n = true := by
  obtain ⟨c, h1, _⟩ := St.get_eval hx
  unfold St.eval at h1
  split at h1
  · exact (lt_slot h h1).2
  · split at h1
    · rename_i hc; cases h1; exact constSV_lt hc
    · cases h1
  · cases h1; simp [SV.lt, SV.lts]
  · cases h1
theorem gets_lt {n : Nat} (h : st.lt n = true) : ∀ (l : List Operand) (svs : List SV), st.gets g l = some svs → SV.lts n svs = true
  | [], svs, hx => by cases hx; rfl
  | x :: l, svs, hx => by
    simp only [St.gets] at hx
    split at hx
    · rename_i h1 h2
      cases hx
      simp only [SV.lts, Bool.and_eq_true]
      exact ⟨get_lt h h1, gets_lt h l _ h2⟩
    · cases hx
theorem curBox_lt {n : Nat} {cells : List SV} {x : X} (h : curBox cells = some x) (hl : SV.lts n cells = true) : x.lt n = true := by
  unfold curBox at h
  split at h
  · cases h; simp only [SV.lts, SV.lt, Bool.and_eq_true] at hl; exact hl.1
  · cases h; simp only [SV.lts, SV.lt, Bool.and_eq_true] at hl; exact hl.1
  · cases h
theorem cuBox_keep {cells : List SV} {x : X} {b : Nat} (h : curBox cells = some x) (hb : BoxR cx w m ρ env cells b) : BoxR cx w m ρ env (cuBox cells) b := by
  obtain ⟨vs, T, h1, h2⟩ := hb
  refine ⟨vs, T, h1, ?_⟩
  unfold curBox at h
  split at h
  · exact h2
  · cases h
    refine ⟨h2.1, fun i hi => ?_⟩
    match i, hi with
    | 0, _ => exact h2.2 0 (by simp)
    | 1, _ => have := h2.2 1 (by simp); simp only [cuBox, List.getD_cons_succ, List.getD_cons_zero] at this ⊢; obtain ⟨n, q0, q, e⟩ := this.num_inv; simp only [X.den, D.int.injEq] at q0; rw [e]; exact .an q (by rw [← q0]; exact Int.natCast_nonneg _)
    | 2, _ => have := h2.2 2 (by simp); simp only [cuBox, List.getD_cons_succ, List.getD_cons_zero] at this ⊢; obtain ⟨n, _, q, e⟩ := this.num_inv; rw [e]; exact .ai q
  · cases h
/-! ### what a closure captured goes behind the arguments -/
theorem BackR.front {G : Nat → Prop} {caps : List (List CK × D)} : ∀ {as : List DArg} {vs us : List Value} {bs : List D} {fb : List Nat}, vs.length = as.length → us.length = caps.length → BackR w G (as ++ caps.map fun p => .bx p.1 p.2) (vs ++ us) bs fb → BackR w G as vs bs fb
  | [], vs, us, bs, fb, hl, hu, h => by
    cases vs with
    | cons _ _ => simp at hl
    | nil =>
    simp only [List.nil_append] at h
    clear hl
    induction caps generalizing us bs fb with
    | nil => cases us with
      | nil => exact h
      | cons _ _ => simp at hu
    | cons p caps ih => cases us with
      | nil => simp at hu
      | cons u us =>
        simp only [List.map_cons] at h
        cases h with
        | skip _ h => exact ih us _ _ (by simpa using hu) h
  | a :: as, [], us, bs, fb, hl, hu, h => by simp at hl
  | a :: as, v :: vs, us, bs, fb, hl, hu, h => by
    simp only [List.cons_append] at h
    have hl' : vs.length = as.length := by simpa using hl
    cases h with
    | skip h1 h2 => exact .skip h1 (BackR.front hl' hu h2)
    | row h1 h2 => exact .row h1 (BackR.front hl' hu h2)
    | stw h1 h2 h3 h4 => exact .stw h1 h2 h3 (BackR.front hl' hu h4)
    | cur h1 h2 => exact .cur h1 (BackR.front hl' hu h2)
theorem ArgsR.more {S G : Nat → Prop} {caps : List (List CK × D)} {as : List DArg} {vs us : List Value} {F : List Nat} (h : ArgsR w S G as vs F) (hu : us.length = caps.length)
    (hc : ∀ i, i < caps.length → ∃ b o, us.getD i undef = .pointer (some ⟨b, o, none⟩) ∧ ElemAt w S (caps.getD i default).1 (caps.getD i default).2 b o) : ArgsR w S G (as ++ caps.map fun p => .bx p.1 p.2) (vs ++ us) F := by
  induction h with
  | nil =>
    simp only [List.nil_append]
    induction caps generalizing us with
    | nil => cases us with
      | nil => exact .nil
      | cons _ _ => simp at hu
    | cons p caps ih => cases us with
      | nil => simp at hu
      | cons u us =>
        obtain ⟨b, o, h1, h2⟩ := hc 0 (by simp)
        simp only [List.getD_cons_zero] at h1 h2
        subst h1
        simp only [List.map_cons]
        exact .cons (fp := []) (.bx h2) (ih (by simpa using hu) fun i hi => by simpa using hc (i + 1) (by simpa using hi))
  | cons h1 _ ih => exact .cons h1 ih
theorem backs_bx (caps : List (List CK × D)) : backs (caps.map fun p => DArg.bx p.1 p.2) = 0 := by
  induction caps with
  | nil => rfl
  | cons p caps ih => rw [List.map_cons, backs_cons, ih]; rfl
theorem ArgsR.len {S G : Nat → Prop} {as : List DArg} {vs : List Value} {F : List Nat} (h : ArgsR w S G as vs F) : vs.length = as.length := by
  induction h with
  | nil => rfl
  | cons _ _ ih => simp [ih]
theorem KeptS.kept {S : Nat → Prop} (h : KeptS S w w') (hs : ∀ b, cx.S b → S b) : Kept cx w w' := ⟨h.os, h.tape, h.output, h.size, fun b hb => h.block b (hs b hb)⟩
theorem resCells_g {id0 : Nat} {x : X} : ∀ (ks : List CK) (off n : Nat), ∀ p ∈ (resCells id0 g x off n ks).2.1, p.2.1 = g
  | [], off, n => by simp [resCells]
  | k :: l, off, n => by
    cases k with
    | sl ks =>
      simp only [resCells]
      intro p hp
      rcases List.mem_cons.1 hp with rfl | hp
      · rfl
      · exact resCells_g l _ _ p hp
    | int _ => simp only [resCells]; exact resCells_g l _ _
    | bool => simp only [resCells]; exact resCells_g l _ _
    | str => simp only [resCells]; exact resCells_g l _ _
theorem resSV_g {id0 : Nat} : ∀ (rs : List RS) (v n : Nat), (∀ p ∈ (resSV id0 g v n rs).2.1, p.2.1 = g) ∧ ∀ p ∈ (resSV id0 g v n rs).2.2, p.2.1 = g
  | [], v, n => by simp [resSV]
  | r :: l, v, n => by
    cases r with
    | sc ck =>
      cases ck with
      | sl ks =>
        simp only [resSV]
        refine ⟨fun p hp => ?_, (resSV_g l _ _).2⟩
        rcases List.mem_cons.1 hp with rfl | hp
        · rfl
        · exact (resSV_g l _ _).1 p hp
      | int _ => simp only [resSV]; exact resSV_g l _ _
      | bool => simp only [resSV]; exact resSV_g l _ _
      | str => simp only [resSV]; exact resSV_g l _ _
    | st cks =>
      simp only [resSV]
      refine ⟨fun p hp => ?_, (resSV_g l _ _).2⟩
      rcases List.mem_append.1 hp with hp | hp
      · exact resCells_g _ _ _ p hp
      · exact (resSV_g l _ _).1 p hp
    | cur =>
      simp only [resSV]
      refine ⟨(resSV_g l _ _).1, fun p hp => ?_⟩
      rcases List.mem_cons.1 hp with rfl | hp
      · rfl
      · exact (resSV_g l _ _).2 p hp
end
end Go.Proofs.Ytfbahdalemajcaa.Eng

/-
  The engine: a call is what the executor says (third part).
-/
namespace Go.Proofs.Ytfbahdalemajcaa.Eng
section
variable {P : Program} {cx : Cx} {w0 w w' : World} {m m' : BoxM} {ρ ρ' : RowM} {env : List D} {st : St} {g : Conds} {a : Act} {o : Oper} {ops : Array Oper} {clo : Nat → CloD} {Qd : List D → Prop} {κ : Nat → List D → Prop} {k : T}
  {K : Act → World → Prop} {Q : Exit → Act → World → Prop}
/-- A call that is not made: what it would have given is there under its conditions alone. -/
theorem call_skip {r : CR} {rows0 : List (Nat × Conds × Row)} {fc : Callee'} {md : Modes} {ts : List TypeId} {svs : List SV} {as : List XArg} (ds : List D) (hl : ds.length = r.rs.length + r.wr.length) (R : Rel cx w0 env st a w m ρ) (hok : callOk st g o r = true) (hdst : dstOk st o = true) (hg : ¬ g.den env) (hwr : wrRows (st.nv + r.rs.length) r.wr (callSt1 st r).rows = some rows0)
    (hargs : argsOf P md fc st g 0 ts svs = some (as, r.wr, r.tk, r.cu)) : Rel cx w0 (env ++ ds) (callSt st g o r rows0) (a.put o.dst undef) w m ρ := by
  simp only [callOk, Bool.and_eq_true] at hok
  obtain ⟨⟨⟨⟨⟨⟨⟨⟨_, hlt⟩, hglt⟩, _⟩, _⟩, _⟩, hndc⟩, _⟩, hgs⟩ := hok
  have hndc := noDup_iff.1 hndc
  have hst : r.wr = [] ∧ r.tk = [] := by
    have h : r.still = true := by
      cases g with
      | nil => exact absurd trivial hg
      | cons _ _ => simpa using hgs
    unfold CR.still at h
    split at h
    · rename_i h1 h2; exact ⟨h1, h2⟩
    · cases h
  have e1 : callSt1 st r = st := by rw [callSt1, hst.1, hst.2]; rfl
  have e2 : rows0 = st.rows := by rw [hst.1, e1] at hwr; simp only [wrRows] at hwr; cases hwr; rfl
  have R' := R.ext hlt ds
  have hg' : ¬ g.den (env ++ ds) := by rw [← R.nv] at hglt; rwa [Conds.den_ext g hglt]
  have hG := resSV_g (id0 := resId (o.dst.getD 0)) (g := g) r.rs st.nv 0
  have hcu := argsOf_cu ts 0 svs as r.wr r.tk r.cu hargs
  refine ⟨R'.kept, ⟨fun id c cs b hlk hm hgc => ?_, fun id c rw rc hlk hm hgc => ?_, R'.heap.sep⟩, ?_, by rw [put_defers]; exact R'.defers, R'.size.putD hdst, by rw [R'.nv]; simp only [callSt]; rw [hl]⟩
  · simp only [callSt, look_append] at hlk
    split at hlk
    · rename_i x hx
      cases hlk
      have := hG.2 _ (look_mem hx)
      simp only at this
      subst this
      exact absurd hgc hg'
    · rw [e1, look_cuBoxes _ _ _ hndc] at hlk
      split at hlk
      · rename_i hid
        obtain ⟨p, hp, he⟩ := Option.map_eq_some_iff.1 hlk
        cases he
        obtain ⟨cells, x, f1, f2⟩ := hcu id hid
        have hcell : p.2 = cells := by
          unfold St.box at f1
          rw [hp] at f1
          simp only at f1
          split at f1
          · cases f1; rfl
          · cases f1
        rw [hcell]
        exact cuBox_keep f2 (hcell ▸ R'.heap.boxes id p.1 p.2 b hp hm hgc)
      · exact R'.heap.boxes id c cs b hlk hm hgc
  · simp only [callSt, look_append] at hlk
    split at hlk
    · rename_i x hx
      cases hlk
      have := hG.1 _ (look_mem hx)
      simp only at this
      subst this
      exact absurd hgc hg'
    · rw [e2] at hlk
      exact R'.heap.rows id c rw rc hlk hm hgc
  · have := (R'.put (o := o) (g := g) (sv := tupOf (callRes st g o r).1) (v := undef) hdst (fun h => absurd h hg') (fun _ => rfl)).slots
    simp only [callSt, e1]
    intro t c sv hlk
    refine this t c sv ?_
    cases hod : o.dst with
    | none => rw [hod] at hlk; exact hlk
    | some d => rw [hod] at hlk; exact hlk
theorem stepCall_sound {md : Modes} {r : CR} {items : List Item} {st' : St} (hc : CxOk cx w0) (hclo : CloOk cx w0 clo) (R : Rel cx w0 env st a w m ρ) (hgo : guardOf st ops o = some g) (he : evalCall P md st g o = some r) (hs : stepCall st g o r = some (items, st')) (hdst : dstOk st o = true)
    (hd : (Item.wrap items k).den P clo Qd κ env) (hK : ∀ env' a' w' m' ρ', env <+: env' → k.den P clo Qd κ env' → Rel cx w0 env' st' a' w' m' ρ' → K a' w') : stepWp P ops o a w K Q := by
  have hw := wanted_iff (ops := ops) R hgo
  unfold stepCall at hs
  split at hs
  rotate_left
  · cases hs
  rename_i hok
  split at hs
  rotate_left
  · cases hs
  rename_i rows0 hwr
  cases hs
  obtain ⟨f, args, ts, svs, as, E⟩ := evalCall_inv he
  obtain ⟨fc, hargs⟩ := E.argsof
  have hbk := argsOf_back (clo := clo) (env := env) ts.toList 0 svs as r.wr r.tk r.cu hargs
  have hbk' : backs (r.args.map (XArg.ev clo env)) = r.wr.length := by
    rcases E.fn with ⟨fi, cs, caps, _, _, _, _, e⟩ | ⟨j, _, _, e⟩
    · rw [e, List.map_append, backs_append, hbk, List.map_map]
      have : (XArg.ev clo env ∘ fun c : List CK × X => XArg.bx c.1 c.2) = (fun p : List CK × D => DArg.bx p.1 p.2) ∘ fun c : List CK × X => (c.1, c.2.den env) := rfl
      rw [this, ← List.map_map, backs_bx]
      rfl
    · rw [e, hbk]
  simp only [Item.wrap, T.den] at hd
  obtain ⟨Rp, hsome, hcall, hk⟩ := hd
  rw [hbk'] at hsome hk
  unfold stepWp
  by_cases hg : g.den env
  rotate_left
  · rw [if_neg (fun h => hg (hw.1 h))]
    rcases hsome with rfl | ⟨ds, h1, h2⟩
    · exact absurd trivial hg
    exact hK _ _ _ _ _ (List.prefix_append _ _) (hk ds h1 h2) (call_skip ds h1 R hok hdst hg hwr hargs)
  rw [if_pos (hw.2 hg)]
  left
  have hok' := hok
  simp only [callOk, Bool.and_eq_true] at hok'
  obtain ⟨⟨⟨⟨⟨⟨⟨⟨ht, hlt⟩, hglt⟩, hnew⟩, hfree⟩, hnd1⟩, hndc⟩, hcs⟩, _⟩ := hok'
  have hnd1 := noDup_iff.1 hnd1
  have hndc := noDup_iff.1 hndc
  have hS := R.heap.sep
  have hlt' : st.lt env.length = true := by rw [R.nv]; exact hlt
  have hvs : SVRs cx w m ρ env svs (args.toList.map a.eval) := gets_ok (P := P) (o := o) (R.here hg) _ _ E.gets (fun x hx => by rw [E.op]; simp only [Op.operands, Call.operands]; exact Array.mem_append.2 (.inr (Array.mem_toList_iff.1 hx)))
  have hclo' := hclo.kept R.kept
  obtain ⟨F, hL⟩ := argsOf_ok (js := wrIds r.wr ++ r.tk) (cu := r.cu) hc R.kept hclo' R.heap hg ts.toList 0 svs (args.toList.map a.eval) as r.wr r.tk r.cu hargs hvs (gets_lt hlt' _ _ E.gets) E.free
  obtain ⟨hF, hFn⟩ := hL.lent hS
  have hFn := hFn hnd1 hndc
  have hout := loan_outside (w := w) hF
  -- the function
  obtain ⟨fi, us, caps, hfe, hul, hus, hpc⟩ : ∃ (fi : Nat) (us : List Value) (caps : List (List CK × D)), a.eval f = .func (.func fi) #[] us.toArray ∧ us.length = caps.length ∧
      (∀ i, i < caps.length → ∃ b o, us.getD i undef = .pointer (some ⟨b, o, none⟩) ∧ ElemAt w (outside w F) (caps.getD i default).1 (caps.getD i default).2 b o) ∧
      PC P fi (as.map (XArg.ev clo env) ++ caps.map fun p => .bx p.1 p.2) r.rs Rp := by
    rcases E.fn with ⟨fi, cs, caps, h1, h2, h3, h4, h5⟩ | ⟨j, h1, h4, h5⟩
    · have hv := eval_get R hg h1
      generalize hfv : a.eval f = vf at hv
      cases hv with
      | clo hl hvs' =>
      rename_i us
      have := capX_ok (js := wrIds r.wr ++ r.tk) (cu := r.cu) hc R.kept R.heap hg cs us caps h2 ⟨hl, hvs'⟩ h3
      refine ⟨fi, us, caps.map fun p => (p.1, p.2.den env), rfl, by rw [List.length_map]; exact this.1, fun i hi => ?_, ?_⟩
      · obtain ⟨b, o, q1, q2⟩ := this.2 i (by simpa using hi)
        exact ⟨b, o, q1, q2.mono hout⟩
      · have := hcall hg
        rw [h4, h5] at this
        simp only [callD, List.map_append, List.map_map] at this ⊢
        exact this
    · have hv := eval_get R hg h1
      generalize hfv : a.eval f = vf at hv
      cases hv
      have hj := hclo' j
      generalize hvj : cx.clo j = vj at hj
      cases hj with
      | clo hl hvs' =>
      rename_i us
      refine ⟨(clo j).1, us, (clo j).2, rfl, hl, fun i hi => ?_, ?_⟩
      · obtain ⟨b, o, q1, q2⟩ := hvs' i hi
        exact ⟨b, o, q1, q2.mono fun b hb => hout b (loan_S hc R.kept hS b hb)⟩
      · have := hcall hg
        rw [h4, h5] at this
        exact this
  obtain ⟨hent, hpc⟩ := hpc
  have hAR := (hL.argsR.mono hout).more hul hus
  have hlen : (args.toList.map a.eval).length = (as.map (XArg.ev clo env)).length := (hL.argsR).len
  have hcalls := hpc w (args.toList.map a.eval ++ us) F cx.G hFn (fun b hb => hout b (loan_S hc R.kept hS b (hc.gs b hb))) hAR
  unfold Oper.wp
  rw [enter_run E.op hfe hent, Oper.upon_enter]
  have harr : args.map a.eval ++ us.toArray = (args.toList.map a.eval ++ us).toArray := by
    apply Array.ext'; simp
  rw [harr]
  refine Calls.mono hcalls fun e w' => ?_
  rintro ⟨v, rfl, us', ds, bs, fr, fb, rfl, hrets, hback, hR, hnd, hfr, hkS⟩
  simp only
  have hback' := BackR.front hlen hul hback
  have hbl : bs.length = r.wr.length := by rw [hback'.len]; exact hbk
  have hdl : ds.length = r.rs.length := hrets.lens.1
  have hk := hk (ds ++ bs) (by rw [List.length_append, hbl, hdl]) hR
  have R' := R.ext hlt (ds ++ bs)
  have hnds := List.nodup_append.1 hnd
  have hlen2 : (ds ++ bs).length = r.rs.length + r.wr.length := by rw [List.length_append, hbl, hdl]
  rw [hlen2] at R'
  have hvar1 : ∀ i, i < ds.length → (X.var (st.nv + i)).den (env ++ (ds ++ bs)) = ds.getD i default := fun i hi => by
    have : st.nv = env.length := R.nv.symm
    simp only [X.den, this, List.getD_eq_getElem?_getD]
    rw [List.getElem?_append_right (by omega), List.getElem?_append_left (by omega)]
    congr 2
    omega
  have hvar2 : ∀ i, i < bs.length → (X.var (st.nv + r.rs.length + i)).den (env ++ (ds ++ bs)) = bs.getD i default := fun i hi => by
    have : st.nv = env.length := R.nv.symm
    simp only [X.den, this, ← hdl, List.getD_eq_getElem?_getD]
    rw [List.getElem?_append_right (by omega), List.getElem?_append_right (by omega)]
    congr 2
    omega
  obtain ⟨n', mr, ρr, _, N⟩ := resSV_ok (cx := cx) (env := env ++ (ds ++ bs)) (g := g) (id0 := resId (o.dst.getD 0)) hrets st.nv 0 hvar1 hnds.1
  have L1 := Less.gone (env := env) hS hc.gs r.tk st
  have L2 := Less.stale (env := env) hS hc.gs (wrIds r.wr) (st.gone r.tk)
  have hrows0 : ∀ id ∈ wrIds r.wr, look (callSt1 st r).rows id = look st.rows id := fun id hid => by
    rw [callSt1, L2.2, L1.2]
    rw [if_neg fun h => (List.nodup_append.1 hnd1).2.2 id hid id h rfl]
  have hwf : ∀ b, b < w.heap.size → b ∉ F → w'.heap[b]? = w.heap[b]? := fun b h1 h2 => hkS.block b ⟨h1, h2⟩
  obtain ⟨ρ1, B⟩ := back_ok (G := cx.G) (env' := env ++ (ds ++ bs)) hS (fun x hx => X.den_ext x hx) hwf hL bs fb (st.nv + r.rs.length) (callSt1 st r).rows rows0 hback' hwr hrows0 (List.nodup_append.1 hnd1).1 hvar2 hnds.2.1
    (fun b hb => hfr b (List.mem_append_right _ hb)) (fun _ _ _ _ b hb _ => hb) hF hnd1
  have hg' : g.den (env ++ (ds ++ bs)) := by rw [← R.nv] at hglt; rwa [Conds.den_ext g hglt]
  have hkw : Kept cx w w' := hkS.kept fun b hb => hout b (loan_S hc R.kept hS b hb)
  refine hK _ _ _ _ _ (List.prefix_append _ _) hk (call_rel hc R' hok hdst hg' hF hwf (R.kept.trans hkw) hkS.size N B (fun b h1 h2 => hnds.2.2 b h1 b h2 rfl) hfr (fun b hb => ?_) fun id hid => ?_)
  · rcases List.mem_append.1 hb with hb | hb
    · exact hrets.lt b hb
    · exact hback.lt b hb
  · obtain ⟨cells, x, b, f1, f2, f3, f4, f5⟩ := cu_back (clo := clo) (env := env) ts.toList 0 svs (args.toList.map a.eval) us as (caps.map fun p => .bx p.1 p.2) r.wr r.tk r.cu bs fb hargs hvs hback id hid
    refine ⟨cells, x, b, f1, f2, f3, ?_, f5⟩
    have hx : x.lt env.length = true := by
      unfold St.box at f1
      split at f1
      · rename_i c b' hl
        split at f1
        · cases f1; exact curBox_lt f2 (lt_box hlt' hl).2
        · cases f1
      · cases f1
    rw [X.den_ext x hx]
    exact f4
end
end Go.Proofs.Ytfbahdalemajcaa.Eng
