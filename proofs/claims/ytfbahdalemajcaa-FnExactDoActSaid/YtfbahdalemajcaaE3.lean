/- The engine of this claim: a symbolic executor over the model and the proof that what it says of a function is so. Part E3. -/
import Derived.Test.YtfbahdalemajcaaE2
import Derived.Deep.AppendSrc
/-
  The engine: what a function answers, as a predicate on data; what a tree says.
-/
namespace Go.Proofs.Ytfbahdalemajcaa.Eng

/-! ### arguments and results as data -/
inductive DArg where
  | sc (ck : CK) (d : D)
  | st (cks : List CK) (d : D)
  | bx (cks : List CK) (d : D)
  | clo (f : Nat) (caps : List (List CK × D))
  | row (ks : List CK) (d : D)
  | stw (cks : List CK) (d : D)
  | take (ks : List CK) (d : D)
  | cur (d : D)
instance : Inhabited DArg := ⟨.cur default⟩
/-- Does the callee hand back a new content? -/
def DArg.back : DArg → Bool
  | .row _ _ | .stw _ _ => true
  | _ => false
def backs (l : List DArg) : Nat := l.countP DArg.back
/-- The blocks in which a cell that is read lies. -/
def argS (S G : Nat → Prop) : CK → Nat → Prop
  | .sl ks => match CK.glob ks with | true => G | false => S
  | _ => S
def fpRow (n : Nat) (fps : Nat → List Nat) : List Nat := (List.range n).flatMap fps
def curVal (w : World) (G : Nat → Prop) (d : D) (b : Nat) : Prop :=
  ∃ (v0 : Value) (i h : Int) (T : TypeId), w.heap[b]? = some (.cells #[v0, .int .i64 i, .int .i64 h] T (0, 0)) ∧ Snap w G (.sl [.int .u8]) d v0 ∧ inK .i64 i = true ∧ 0 ≤ i ∧ inK .i64 h = true
/-- A value is the argument: with the blocks that the callee may write. -/
inductive ArgR (w : World) (S G : Nat → Prop) : DArg → Value → List Nat → Prop
  | sc {ck : CK} {d : D} {v : Value} : Snap w (argS S G ck) ck d v → ArgR w S G (.sc ck d) v []
  | st {cks : List CK} {d : D} {vs : List Value} : Shp cks.length d → vs.length = cks.length → (∀ c, c < cks.length → Snap w S (cks.getD c default) (d.fld c) (vs.getD c undef)) → ArgR w S G (.st cks d) (.agg vs.toArray) []
  | bx {cks : List CK} {d : D} {b o : Nat} : ElemAt w S cks d b o → ArgR w S G (.bx cks d) (.pointer (some ⟨b, o, none⟩)) []
  | clo {f : Nat} {caps : List (List CK × D)} {us : List Value} : us.length = caps.length →
      (∀ i, i < caps.length → ∃ b o, us.getD i undef = .pointer (some ⟨b, o, none⟩) ∧ ElemAt w S (caps.getD i default).1 (caps.getD i default).2 b o) → ArgR w S G (.clo f caps) (.func (.func f) #[] us.toArray) []
  | row {ks : List CK} {d : D} {v : Value} {fp : List Nat} : Own w (.sl ks) d v fp → ArgR w S G (.row ks d) v fp
  | stw {cks : List CK} {d : D} {vs : List Value} {fps : Nat → List Nat} : Shp cks.length d → vs.length = cks.length → (∀ c, c < cks.length → Own w (cks.getD c default) (d.fld c) (vs.getD c undef) (fps c)) →
      ArgR w S G (.stw cks d) (.agg vs.toArray) (fpRow cks.length fps)
  | take {ks : List CK} {d : D} {v : Value} {fp : List Nat} : Own w (.sl ks) d v fp → ArgR w S G (.take ks d) v fp
  | cur {d : D} {b : Nat} : curVal w G d b → ArgR w S G (.cur d) (.pointer (some ⟨b, 0, none⟩)) [b]
inductive ArgsR (w : World) (S G : Nat → Prop) : List DArg → List Value → List Nat → Prop
  | nil : ArgsR w S G [] [] []
  | cons {a : DArg} {v : Value} {fp : List Nat} {as : List DArg} {vs : List Value} {fps : List Nat} : ArgR w S G a v fp → ArgsR w S G as vs fps → ArgsR w S G (a :: as) (v :: vs) (fp ++ fps)
/-- A result, with the blocks that it owns. -/
inductive RetR (w : World) (G : Nat → Prop) : RS → D → Value → List Nat → Prop
  | sc {ck : CK} {d : D} {v : Value} {fp : List Nat} : Own w ck d v fp → RetR w G (.sc ck) d v fp
  | st {cks : List CK} {d : D} {vs : List Value} {fps : Nat → List Nat} : Shp cks.length d → vs.length = cks.length → (∀ c, c < cks.length → Own w (cks.getD c default) (d.fld c) (vs.getD c undef) (fps c)) →
      RetR w G (.st cks) d (.agg vs.toArray) (fpRow cks.length fps)
  | cur {d : D} {b : Nat} : curVal w G d b → RetR w G .cur d (.pointer (some ⟨b, 0, none⟩)) [b]
inductive RetsR (w : World) (G : Nat → Prop) : List RS → List D → List Value → List Nat → Prop
  | nil : RetsR w G [] [] [] []
  | cons {r : RS} {d : D} {v : Value} {fp : List Nat} {rs : List RS} {ds : List D} {vs : List Value} {fps : List Nat} : RetR w G r d v fp → RetsR w G rs ds vs fps → RetsR w G (r :: rs) (d :: ds) (v :: vs) (fp ++ fps)
/-- What the arguments that were written hold now; the cursors are cursors still. -/
inductive BackR (w : World) (G : Nat → Prop) : List DArg → List Value → List D → List Nat → Prop
  | nil : BackR w G [] [] [] []
  | skip {a : DArg} {v : Value} {as : List DArg} {vs : List Value} {ds : List D} {fps : List Nat} : (match a with | .row _ _ | .stw _ _ | .cur _ => False | _ => True) → BackR w G as vs ds fps → BackR w G (a :: as) (v :: vs) ds fps
  | row {ks : List CK} {d d' : D} {v : Value} {fp : List Nat} {as : List DArg} {vs : List Value} {ds : List D} {fps : List Nat} : Own w (.sl ks) d' v fp → BackR w G as vs ds fps → BackR w G (.row ks d :: as) (v :: vs) (d' :: ds) (fp ++ fps)
  | stw {cks : List CK} {d d' : D} {us : List Value} {fps : Nat → List Nat} {as : List DArg} {vs : List Value} {ds : List D} {fp : List Nat} : Shp cks.length d' → us.length = cks.length →
      (∀ c, c < cks.length → Own w (cks.getD c default) (d'.fld c) (us.getD c undef) (fps c)) → BackR w G as vs ds fp → BackR w G (.stw cks d :: as) (.agg us.toArray :: vs) (d' :: ds) (fpRow cks.length fps ++ fp)
  | cur {d : D} {b : Nat} {as : List DArg} {vs : List Value} {ds : List D} {fps : List Nat} : curVal w G d b → BackR w G as vs ds fps → BackR w G (.cur d :: as) (.pointer (some ⟨b, 0, none⟩) :: vs) ds (b :: fps)
def resVal : List Value → Value
  | [v] => v
  | vs => .tuple vs.toArray
/-- The world against that at the start. -/
structure KeptS (S : Nat → Prop) (w0 w : World) : Prop where
  os : w.os = w0.os
  tape : w.tape = w0.tape
  output : w.output = w0.output
  size : w0.heap.size ≤ w.heap.size
  block : ∀ b, S b → w.heap[b]? = w0.heap[b]?
def outside (w : World) (F : List Nat) (b : Nat) : Prop := b < w.heap.size ∧ b ∉ F
/-- The function can be called. -/
def Enters (P : Program) (f : Nat) : Prop := ∃ fn, P.funcs[f]? = some fn ∧ fn.body.isSome = true ∧ (fn.name == "runtime.NumGoroutine") = false
def Post (w : World) (F : List Nat) (G : Nat → Prop) (args : List DArg) (vs : List Value) (rs : List RS) (Q : List D → Prop) (w' : World) (v : Value) : Prop :=
  ∃ (us : List Value) (ds bs : List D) (fr fb : List Nat), v = resVal us ∧ RetsR w' G rs ds us fr ∧ BackR w' G args vs bs fb ∧ Q (ds ++ bs) ∧ (fr ++ fb).Nodup ∧ (∀ b, b ∈ fr ++ fb → b ∈ F ∨ w.heap.size ≤ b) ∧ KeptS (outside w F) w w'
/-- Function 'f', called at these data in whatever memory, returns data with 'Q'. -/
def PC (P : Program) (f : Nat) (args : List DArg) (rs : List RS) (Q : List D → Prop) : Prop :=
  Enters P f ∧ ∀ (w : World) (vs : List Value) (F : List Nat) (G : Nat → Prop), F.Nodup → (∀ b, G b → outside w F b) → ArgsR w (outside w F) G args vs F →
    Calls P f vs.toArray w fun e w' => ∃ v, e = .returned v ∧ Post w F G args vs rs Q w' v

/-! ### what a tree says -/
abbrev CloD := Nat × List (List CK × D)
def XArg.ev (clo : Nat → CloD) (env : List D) : XArg → DArg
  | .sc ck x => .sc ck (x.den env)
  | .st cks x => .st cks (x.den env)
  | .bx cks x => .bx cks (x.den env)
  | .clo f caps => .clo f (caps.map fun p => (p.1, p.2.den env))
  | .clop j => .clo (clo j).1 (clo j).2
  | .row ks x => .row ks (x.den env)
  | .stw cks x => .stw cks (x.den env)
  | .take ks x => .take ks (x.den env)
  | .cur x => .cur (x.den env)
def callD (P : Program) (clo : Nat → CloD) (f : Callee') (as : List DArg) (rs : List RS) (Q : List D → Prop) : Prop :=
  match f with
  | .fn f => PC P f as rs Q
  | .par j => PC P (clo j).1 (as ++ (clo j).2.map fun p => .bx p.1 p.2) rs Q
def setK (κ : Nat → List D → Prop) (lv : Nat) (K : List D → Prop) : Nat → List D → Prop := fun i => if i = lv then K else κ i
/-- The needs of a guarded operation are needs under its conditions. -/
def T.den (P : Program) (clo : Nat → CloD) (Q : List D → Prop) : T → (Nat → List D → Prop) → List D → Prop
  | .ret outs, _, env => Q (outs.map (X.den env))
  | .br c t e, κ, env => ((c.den env).toB = true → t.den P clo Q κ env) ∧ ((c.den env).toB = false → e.den P clo Q κ env)
  | .need g c k, κ, env => (g.den env → (c.den env).toB = true) ∧ k.den P clo Q κ env
  | .know x k, κ, env => (x.den env).toL.length ≤ maxL → k.den P clo Q κ env
  | .nilq x k, κ, env => ∀ b : Bool, (b = true → (x.den env).toL = []) → k.den P clo Q κ (env ++ [.bool b])
  | .call g f as rs k, κ, env => ∃ R : List D → Prop, (g = [] ∨ ∃ o, o.length = rs.length + backs (as.map (XArg.ev clo env)) ∧ R o) ∧ (g.den env → callD P clo f (as.map (XArg.ev clo env)) rs R) ∧
      ∀ o, o.length = rs.length + backs (as.map (XArg.ev clo env)) → R o → k.den P clo Q κ (env ++ o)
  | .loop lv init body, κ, env => ∃ (I : List D → Prop) (μ : List D → Nat), I (init.map (X.den env)) ∧ ∀ vs, vs.length = init.length → I vs → body.den P clo Q (setK κ lv fun us => I us ∧ μ us < μ vs) (env ++ vs)
  | .cont lv xs, κ, env => κ lv (xs.map (X.den env))
  | .fail _, _, _ => False
  | .probe _, _, _ => False
end Go.Proofs.Ytfbahdalemajcaa.Eng

/-
  The engine: values under more variables, under other boxes and rows, behind a change of a row.
-/
namespace Go.Proofs.Ytfbahdalemajcaa.Eng

/-! ### more variables -/
theorem X.den_ext {env o : List D} : ∀ (x : X), x.lt env.length = true → x.den (env ++ o) = x.den env
  | .var i, h => by
    have h := Nat.lt_of_succ_le (Nat.le_of_ble_eq_true h)
    simp [X.den, List.getD_eq_getElem?_getD, List.getElem?_append_left h]
  | .int _, _ | .bool _, _ | .str _, _ | .nil, _ => rfl
  | .o1 o x, h => by simp only [X.den]; rw [X.den_ext x h]
  | .o2 o x y, h => by
    simp only [X.lt, Bool.and_eq_true] at h
    simp only [X.den]; rw [X.den_ext x h.1, X.den_ext y h.2]
  | .o3 o x y z, h => by
    simp only [X.lt, Bool.and_eq_true] at h
    simp only [X.den]; rw [X.den_ext x h.1.1, X.den_ext y h.1.2, X.den_ext z h.2]
theorem Conds.den_ext {env o : List D} : ∀ (g : Conds), Conds.lt env.length g = true → (Conds.den (env ++ o) g ↔ g.den env)
  | [], _ => Iff.rfl
  | (x, p) :: g, h => by
    simp only [Conds.lt, Bool.and_eq_true] at h
    simp only [Conds.den]
    rw [X.den_ext x h.1, Conds.den_ext g h.2]
theorem SV.lts_getD {n : Nat} : ∀ {cs : List SV}, SV.lts n cs = true → ∀ i, i < cs.length → (cs.getD i default).lt n = true
  | [], _, i, hi => by simp at hi
  | a :: l, h, 0, _ => by simp only [SV.lts, Bool.and_eq_true] at h; exact h.1
  | a :: l, h, i + 1, hi => by simp only [SV.lts, Bool.and_eq_true] at h; exact SV.lts_getD h.2 i (by simpa using hi)
theorem SV.frees_getD {js : List Nat} : ∀ {cs : List SV}, SV.frees js cs = true → ∀ i, i < cs.length → (cs.getD i default).free js = true
  | [], _, i, hi => by simp at hi
  | a :: l, h, 0, _ => by simp only [SV.frees, Bool.and_eq_true] at h; exact h.1
  | a :: l, h, i + 1, hi => by simp only [SV.frees, Bool.and_eq_true] at h; exact SV.frees_getD h.2 i (by simpa using hi)
section
variable {cx : Cx} {w : World} {m m' : BoxM} {ρ ρ' : RowM} {env : List D}
theorem SVR.ext {o : List D} {sv : SV} {v : Value} (h : SVR cx w m ρ env sv v) : sv.lt env.length = true → SVR cx w m ρ (env ++ o) sv v := by
  induction h with
  | num h1 h2 => exact fun hl => .num (by rw [X.den_ext _ hl]; exact h1) h2
  | boo h1 => exact fun hl => .boo (by rw [X.den_ext _ hl]; exact h1)
  | txt h1 h2 => exact fun hl => .txt (by rw [X.den_ext _ hl]; exact h1) h2
  | sl h1 h2 => exact fun hl => .sl h1 (by rw [X.den_ext _ hl]; exact h2)
  | agg h1 _ ih => exact fun hl => .agg h1 fun i hi => ih i hi (SV.lts_getD hl i hi)
  | tup h1 _ ih => exact fun hl => .tup h1 fun i hi => ih i hi (SV.lts_getD hl i hi)
  | bp h1 => exact fun _ => .bp h1
  | ep h1 h2 => exact fun hl => .ep h1 (by rw [X.den_ext _ hl]; exact h2)
  | @ov id pre rc n h1 h2 h3 h4 =>
    intro hl
    refine .ov h1 h2 h3 fun x hx => ?_
    subst hx
    rw [X.den_ext _ hl]
    exact h4 x rfl
  | ow h1 h2 h3 h4 h5 h6 h7 =>
    intro hl
    simp only [SV.lt, Bool.and_eq_true] at hl
    exact .ow h1 (by rw [X.den_ext _ hl.1]; exact h2) (by rw [X.den_ext _ hl.2]; exact h3) h4 h5 h6 h7
  | nv h1 h2 h3 h4 h5 h6 h7 => exact fun hl => .nv h1 (by rw [X.den_ext _ hl]; exact h2) h3 h4 h5 h6 h7
  | oep h1 h2 h3 h4 => exact fun hl => .oep h1 (by rw [X.den_ext _ hl]; exact h2) h3 h4
  | clo h1 _ ih => exact fun hl => .clo h1 fun i hi => ih i hi (SV.lts_getD hl i hi)
  | clop => exact fun _ => .clop
  | nilsl => exact fun _ => .nilsl
  | ai h1 => exact fun _ => .ai h1
  | an h1 h2 => exact fun _ => .an h1 h2
  | top => exact fun _ => .top

/-! ### other boxes and rows -/
theorem SVR.upd {js : List Nat} {sv : SV} {v : Value} (h : SVR cx w m ρ env sv v) (hm : ∀ i, memN i js = false → m' i = m i) (hr : ∀ i, memN i js = false → ρ' i = ρ i) : sv.free js = true → SVR cx w m' ρ' env sv v := by
  have hsrc : ∀ src S ks x, srcS cx ρ src = some S → (SV.sl src ks x).free js = true → srcS cx ρ' src = some S := by
    intro src S ks x h hf
    cases src with
    | st gl => exact h
    | row id =>
      simp only [SV.free, Bool.not_eq_true'] at hf
      simp only [srcS, hr id hf] at h ⊢
      exact h
  induction h with
  | num h1 h2 => exact fun _ => .num h1 h2
  | boo h1 => exact fun _ => .boo h1
  | txt h1 h2 => exact fun _ => .txt h1 h2
  | @sl src ks x v S h1 h2 => exact fun hf => .sl (hsrc _ _ _ _ h1 hf) h2
  | agg h1 _ ih => exact fun hf => .agg h1 fun i hi => ih i hi (SV.frees_getD hf i hi)
  | tup h1 _ ih => exact fun hf => .tup h1 fun i hi => ih i hi (SV.frees_getD hf i hi)
  | bp h1 => exact fun hf => .bp (by simp only [SV.free, Bool.not_eq_true'] at hf; rw [hm _ hf]; exact h1)
  | @ep src ks e off b o S h1 h2 =>
    intro hf
    refine .ep (hsrc _ _ ks e h1 ?_) h2
    cases src with
    | st gl => simp [SV.free]
    | row id => simpa [SV.free] using hf
  | ov h1 h2 h3 h4 => exact fun hf => .ov (by simp only [SV.free, Bool.not_eq_true'] at hf; rw [hr _ hf]; exact h1) h2 h3 h4
  | ow h1 h2 h3 h4 h5 h6 h7 => exact fun hf => .ow (by simp only [SV.free, Bool.not_eq_true'] at hf; rw [hr _ hf]; exact h1) h2 h3 h4 h5 h6 h7
  | nv h1 h2 h3 h4 h5 h6 h7 => exact fun hf => .nv (by simp only [SV.free, Bool.not_eq_true'] at hf; rw [hr _ hf]; exact h1) h2 h3 h4 h5 h6 h7
  | oep h1 h2 h3 h4 => exact fun hf => .oep (by simp only [SV.free, Bool.not_eq_true'] at hf; rw [hr _ hf]; exact h1) h2 h3 h4
  | clo h1 _ ih => exact fun hf => .clo h1 fun i hi => ih i hi (SV.frees_getD hf i hi)
  | clop => exact fun _ => .clop
  | nilsl => exact fun _ => .nilsl
  | ai h1 => exact fun _ => .ai h1
  | an h1 h2 => exact fun _ => .an h1 h2
  | top => exact fun _ => .top

/-! ### behind a change of a row -/
theorem SV.length_kills {j : Nat} {all : Bool} : ∀ {cs : List SV}, (SV.kills j all cs).length = cs.length
  | [] => rfl
  | _ :: l => by simp [SV.kills, SV.length_kills (cs := l)]
theorem SV.kills_getD {j : Nat} {all : Bool} : ∀ {cs : List SV} (i : Nat), i < cs.length → (SV.kills j all cs).getD i default = (cs.getD i default).kill j all
  | [], i, hi => by simp at hi
  | a :: l, 0, _ => rfl
  | a :: l, i + 1, hi => by
    simp only [SV.kills, List.getD_cons_succ]
    exact SV.kills_getD i (by simpa using hi)
theorem nbeq_iff {a b : Nat} : Nat.beq a b = true ↔ a = b := ⟨nbeq, fun h => by subst h; exact Nat.beq_refl a⟩
theorem nbeq_false {a b : Nat} : Nat.beq a b = false ↔ a ≠ b := by
  rw [← Bool.not_eq_true, nbeq_iff]
/-- Two rows alike but for their content. -/
def RowC.alike (a b : RowC) : Prop := a.addr = b.addr ∧ a.cap = b.cap ∧ a.k = b.k ∧ a.xs.length = b.xs.length
/-- Row 'j' changes (its content alone, or, 'all', it goes), the rest stays. -/
theorem SVR.kill {w' : World} {j : Nat} {all : Bool} {sv : SV} {v : Value} (h : SVR cx w m ρ env sv v) (hg : ∀ b, cx.G b → cx.S b) (hs : ∀ b, cx.S b → w'.heap[b]? = w.heap[b]?)
    (hr : ∀ i rc, ρ i = some rc → i ≠ j → ρ' i = some rc ∧ ∀ b ∈ rc.fp, w'.heap[b]? = w.heap[b]?)
    (ha : ∀ i rc b, ρ i = some rc → rc.addr = some ⟨b, 0, none⟩ → b ∈ rc.fp)
    (hj : all = false → ∀ rc, ρ j = some rc → ∃ rc', ρ' j = some rc' ∧ rc'.alike rc) : SVR cx w' m ρ' env (sv.kill j all) v := by
  have hst : ∀ gl S, srcS cx ρ (.st gl) = some S → (∀ b, S b → w'.heap[b]? = w.heap[b]?) ∧ srcS cx ρ' (.st gl) = some S := by
    intro gl S h
    simp only [srcS, Option.some.injEq] at h
    subst h
    refine ⟨fun b hb => ?_, rfl⟩
    cases gl
    · exact hs b hb
    · exact hs b (hg b hb)
  have hrow : ∀ id S, id ≠ j → srcS cx ρ (.row id) = some S → (∀ b, S b → w'.heap[b]? = w.heap[b]?) ∧ srcS cx ρ' (.row id) = some S := by
    intro id S hne h
    simp only [srcS, Option.map_eq_some_iff] at h ⊢
    obtain ⟨rc, h1, h2⟩ := h
    subst h2
    exact ⟨fun b hb => (hr id rc h1 hne).2 b hb, rc, (hr id rc h1 hne).1, rfl⟩
  have hown : ∀ id rc, ρ id = some rc → (Nat.beq id j && all) = false → ∃ rc', ρ' id = some rc' ∧ rc'.alike rc := by
    intro id rc h hk
    by_cases he : id = j
    · subst he
      rw [Nat.beq_refl, Bool.true_and] at hk
      exact hj hk rc h
    · exact ⟨rc, (hr id rc h he).1, rfl, rfl, rfl, rfl⟩
  induction h with
  | num h1 h2 => exact .num h1 h2
  | boo h1 => exact .boo h1
  | txt h1 h2 => exact .txt h1 h2
  | @sl src ks x v S h1 h2 =>
    cases src with
    | st gl => exact .sl (hst gl S h1).2 (h2.frame (hst gl S h1).1)
    | row id =>
      simp only [SV.kill]
      cases hb : Nat.beq id j with
      | true => exact .top
      | false =>
        have := hrow id S (nbeq_false.1 hb) h1
        exact .sl this.2 (h2.frame this.1)
  | @agg cs vs h1 _ ih =>
    refine .agg (by rw [SV.length_kills]; exact h1) fun i hi => ?_
    rw [SV.length_kills] at hi
    rw [SV.kills_getD i hi]
    exact ih i hi
  | tup h1 _ ih =>
    refine .tup (by rw [SV.length_kills]; exact h1) fun i hi => ?_
    rw [SV.length_kills] at hi
    rw [SV.kills_getD i hi]
    exact ih i hi
  | bp h1 => exact .bp h1
  | @ep src ks e off b o S h1 h2 =>
    obtain ⟨u, hb', h2⟩ := h2
    cases src with
    | st gl =>
      have := hst gl S h1
      exact .ep this.2 ⟨u, hb', fun c hc => ⟨(cell?_eq (this.1 _ hb')).trans (h2 c hc).1, (h2 c hc).2.frame this.1⟩⟩
    | row id =>
      simp only [SV.kill]
      cases hb : Nat.beq id j with
      | true => exact .top
      | false =>
        have := hrow id S (nbeq_false.1 hb) h1
        exact .ep this.2 ⟨u, hb', fun c hc => ⟨(cell?_eq (this.1 _ hb')).trans (h2 c hc).1, (h2 c hc).2.frame this.1⟩⟩
  | @ov id pre rc n h1 h2 h3 h4 =>
    simp only [SV.kill]
    cases hk : (Nat.beq id j && all) with
    | true => exact .top
    | false =>
      obtain ⟨rc', e1, e2, e3, e4, e5⟩ := hown id rc h1 hk
      rw [← e2, ← e3]
      exact .ov e1 (by omega) (fun hp => by rw [h3 hp]; exact e5.symm) h4
  | @ow id lo hi rc l h a cap h1 h2 h3 h4 h5 h6 h7 =>
    simp only [SV.kill]
    cases hk : (Nat.beq id j && all) with
    | true => exact .top
    | false =>
      obtain ⟨rc', e1, e2, e3, e4, e5⟩ := hown id rc h1 hk
      refine .ow e1 h2 h3 h4 (by omega) h6 fun hl => ?_
      rw [e2, e4]
      exact h7 hl
  | @nv id c i rc jx b v h1 h2 h3 h4 h5 h6 h7 =>
    simp only [SV.kill]
    cases hb : Nat.beq id j with
    | true => exact .top
    | false =>
      have := hr id rc h1 (nbeq_false.1 hb)
      exact .nv this.1 h2 h3 h4 h5 ((cell?_eq (this.2 _ (ha _ _ _ h1 h5))).trans h6) h7
  | @oep id off i rc jx b h1 h2 h3 h4 =>
    simp only [SV.kill]
    cases hk : (Nat.beq id j && all) with
    | true => exact .top
    | false =>
      obtain ⟨rc', e1, e2, e3, e4, e5⟩ := hown id rc h1 hk
      rw [← e4]
      exact .oep e1 h2 (by omega) (by rw [e2]; exact h4)
  | clo h1 _ ih =>
    refine .clo (by rw [SV.length_kills]; exact h1) fun i hi => ?_
    rw [SV.length_kills] at hi
    rw [SV.kills_getD i hi]
    exact ih i hi
  | clop => exact .clop
  | nilsl => exact .nilsl
  | ai h1 => exact .ai h1
  | an h1 h2 => exact .an h1 h2
  | top => exact .top
end

/-! ### look-up -/
section
variable {α : Type}
theorem look_cons {i j : Nat} {a : α} {l : List (Nat × α)} : look ((i, a) :: l) j = if i = j then some a else look l j := by
  simp only [look]
  cases h : Nat.beq j i with
  | true => simp [nbeq h]
  | false => simp [Ne.symm (nbeq_false.1 h)]
theorem look_nil {j : Nat} : look ([] : List (Nat × α)) j = none := rfl
theorem look_upd : ∀ (l : List (Nat × α)) (i j : Nat) (a : α), look (upd l i a) j = if i = j then some a else look l j
  | [], i, j, a => by simp only [upd, look_cons]
  | (k, b) :: l, i, j, a => by
    simp only [upd]
    cases h : Nat.beq i k with
    | true =>
      have := nbeq h
      subst this
      simp only [look_cons]
      by_cases h2 : i = j
      · simp [h2]
      · simp [h2]
    | false =>
      simp only [look_cons, look_upd l]
      by_cases h2 : k = j
      · subst h2; simp [nbeq_false.1 h]
      · simp [h2]
theorem look_del : ∀ (l : List (Nat × α)) (i j : Nat), look (del l i) j = if i = j then none else look l j
  | [], i, j => by simp [del, look_nil]
  | (k, b) :: l, i, j => by
    simp only [del]
    cases h : Nat.beq i k with
    | true =>
      have := nbeq h
      subst this
      simp only [look_del l, look_cons]
      split <;> rfl
    | false =>
      simp only [look_cons, look_del l]
      have := nbeq_false.1 h
      by_cases h2 : k = j
      · subst h2; simp [this]
      · simp [h2]
theorem look_mem : ∀ {l : List (Nat × α)} {i : Nat} {a : α}, look l i = some a → (i, a) ∈ l
  | (k, b) :: l, i, a, h => by
    rw [look_cons] at h
    split at h
    · rename_i he; subst he; cases h; simp
    · exact List.mem_cons_of_mem _ (look_mem h)
end
end Go.Proofs.Ytfbahdalemajcaa.Eng

/-
  The engine: a step that changes nothing that was there keeps the relation.
-/
namespace Go.Proofs.Ytfbahdalemajcaa.Eng
section
variable {P : Program} {cx : Cx} {w0 w : World} {m : BoxM} {ρ : RowM} {env : List D} {st : St} {g : Conds} {a : Act} {o : Oper} {ops : Array Oper}

theorem heap_new (w : World) (o : Obj) : (w.alloc o).heap[w.heap.size]? = some o := by
  unfold World.alloc
  exact Array.getElem?_push_size
theorem heap_old (w : World) (o : Obj) {i : Nat} (h : i < w.heap.size) : (w.alloc o).heap[i]? = w.heap[i]? := by
  unfold World.alloc
  exact (Array.getElem?_push_lt h).trans (Array.getElem?_eq_getElem h).symm
theorem Kept.refl (cx : Cx) (w : World) : Kept cx w w := ⟨rfl, rfl, rfl, Nat.le_refl _, fun _ _ => rfl⟩
theorem Kept.alloc (h : Kept cx w0 w) (hc : CxOk cx w0) (o : Obj) : Kept cx w0 (w.alloc o) :=
  ⟨h.os, h.tape, h.output, by rw [World.size_alloc]; have := h.size; omega, fun b hb => by
    rw [heap_old w o (Nat.lt_of_lt_of_le (hc.lt b hb) h.size)]; exact h.block b hb⟩
theorem Kept.trans {w1 w2 : World} (h : Kept cx w0 w1) (h' : Kept cx w1 w2) : Kept cx w0 w2 :=
  ⟨h'.os.trans h.os, h'.tape.trans h.tape, h'.output.trans h.output, Nat.le_trans h.size h'.size, fun b hb => (h'.block b hb).trans (h.block b hb)⟩

/-! ### new blocks -/
theorem SVR.alloc (hc : CxOk cx w0) (hk : Kept cx w0 w) (hs : Sep cx w m ρ) (o : Obj) {sv : SV} {v : Value} (h : SVR cx w m ρ env sv v) : SVR cx (w.alloc o) m ρ env sv v :=
  h.frame hc.gs (fun b hb => heap_old w o (Nat.lt_of_lt_of_le (hc.lt b hb) hk.size)) (fun id rc b h1 h2 => heap_old w o (hs.rowOwn id rc b h1 h2).2.2) (fun id rc b h1 h2 => hs.addrIn id rc b h1 h2)
theorem SVRs.map {cx' : Cx} {w' : World} {m' : BoxM} {ρ' : RowM} {env' : List D} {cs : List SV} {vs : List Value} (h : SVRs cx w m ρ env cs vs) (hm : ∀ i, i < cs.length → ∀ v, SVR cx w m ρ env (cs.getD i default) v → SVR cx' w' m' ρ' env' (cs.getD i default) v) :
    SVRs cx' w' m' ρ' env' cs vs := ⟨h.1, fun i hi => hm i hi _ (h.2 i hi)⟩
def setM {α : Type} (m : Nat → Option α) (t : Nat) (b : Option α) : Nat → Option α := fun i => if i = t then b else m i
theorem setM_ne {α : Type} {m : Nat → Option α} {t i : Nat} {b : Option α} (h : memN i [t] = false) : setM m t b i = m i := by
  have : i ≠ t := by simpa [memN, nbeq_false] using h
  simp [setM, this]
theorem Sep.newBox (hs : Sep cx w m ρ) (hc : CxOk cx w0) (hk : Kept cx w0 w) (t : Nat) (o : Obj) : Sep cx (w.alloc o) (setM m t (some w.heap.size)) ρ := by
  have hS : ¬ cx.S w.heap.size := fun h => by have := hc.lt _ h; have := hk.size; omega
  refine ⟨fun i j b hi hj => ?_, hs.rows, hs.nodup, fun i j r b hi hj hb => ?_, fun i b hi => ?_, fun i r b hi hb => ?_, hs.addrIn⟩
  · simp only [setM] at hi hj
    split at hi <;> split at hj
    · omega
    · cases hi; have := (hs.boxOwn j _ hj).2.2; omega
    · cases hj; have := (hs.boxOwn i _ hi).2.2; omega
    · exact hs.boxes i j b hi hj
  · simp only [setM] at hi
    split at hi
    · cases hi; have := (hs.rowOwn j r _ hj hb).2.2; omega
    · exact hs.apart i j r b hi hj hb
  · simp only [setM] at hi
    rw [World.size_alloc]
    split at hi
    · cases hi; exact ⟨hS, .inl (by rw [hc.n]; exact hk.size), by omega⟩
    · have := hs.boxOwn i b hi; exact ⟨this.1, this.2.1, by omega⟩
  · rw [World.size_alloc]; have := hs.rowOwn i r b hi hb; exact ⟨this.1, this.2.1, by omega⟩
theorem Sep.newRow (hs : Sep cx w m ρ) (hc : CxOk cx w0) (hk : Kept cx w0 w) (t : Nat) (o : Obj) {rc : RowC} (hfp : rc.fp = [w.heap.size]) (had : rc.addr = some ⟨w.heap.size, 0, none⟩) : Sep cx (w.alloc o) m (setM ρ t (some rc)) := by
  have hS : ¬ cx.S w.heap.size := fun h => by have := hc.lt _ h; have := hk.size; omega
  refine ⟨hs.boxes, fun i j r c b hi hj hb hb' => ?_, fun i r hi => ?_, fun i j r b hi hj hb => ?_, fun i b hi => ?_, fun i r b hi hb => ?_, fun i r b hi hb => ?_⟩
  · simp only [setM] at hi hj
    split at hi <;> split at hj
    · omega
    · cases hi; rw [hfp, List.mem_singleton] at hb; subst hb; have := (hs.rowOwn j c _ hj hb').2.2; omega
    · cases hj; rw [hfp, List.mem_singleton] at hb'; subst hb'; have := (hs.rowOwn i r _ hi hb).2.2; omega
    · exact hs.rows i j r c b hi hj hb hb'
  · simp only [setM] at hi
    split at hi
    · cases hi; rw [hfp]; simp
    · exact hs.nodup i r hi
  · simp only [setM] at hj
    split at hj
    · cases hj; rw [hfp, List.mem_singleton] at hb; subst hb; have := (hs.boxOwn i _ hi).2.2; omega
    · exact hs.apart i j r b hi hj hb
  · rw [World.size_alloc]; have := hs.boxOwn i b hi; exact ⟨this.1, this.2.1, by omega⟩
  · simp only [setM] at hi
    rw [World.size_alloc]
    split at hi
    · cases hi; rw [hfp, List.mem_singleton] at hb; subst hb; exact ⟨hS, .inl (by rw [hc.n]; exact hk.size), by omega⟩
    · have := hs.rowOwn i r b hi hb; exact ⟨this.1, this.2.1, by omega⟩
  · simp only [setM] at hi
    split at hi
    · cases hi; rw [had] at hb; cases hb; rw [hfp]; simp
    · exact hs.addrIn i r b hi hb
theorem RowR.alloc {r : Row} {rc : RowC} (h : RowR w env r rc) (hlt : ∀ b ∈ rc.fp, b < w.heap.size) (o : Obj) : RowR (w.alloc o) env r rc := ⟨h.1, h.2.1, h.2.2.frame fun b hb => heap_old w o (hlt b hb)⟩
theorem free_box {js : List Nat} (h : st.free js = true) {id : Nat} {c : Conds} {cells : List SV} (hl : look st.boxes id = some (c, cells)) : SV.frees js cells = true := by
  simp only [St.free, Bool.and_eq_true, List.all_eq_true] at h
  exact h.2 _ (look_mem hl)
theorem free_slot {js : List Nat} (h : st.free js = true) {id : Nat} {c : Conds} {sv : SV} (hl : look st.slots id = some (c, sv)) : sv.free js = true := by
  simp only [St.free, Bool.and_eq_true, List.all_eq_true] at h
  exact h.1 _ (look_mem hl)
theorem HeapR.newBox (H : HeapR cx w m ρ env st.boxes st.rows) (hc : CxOk cx w0) (hk : Kept cx w0 w) {t : Nat} {cells : List SV} {vs : List Value} {T : TypeId} (hf : fresh st t = true) (hcs : SV.frees [t] cells = true) (hv : SVRs cx w m ρ env cells vs) :
    HeapR cx (w.alloc (.cells vs.toArray T (0, 0))) (setM m t (some w.heap.size)) ρ env ((t, g, cells) :: st.boxes) st.rows := by
  simp only [fresh, Bool.and_eq_true] at hf
  refine ⟨fun id c cs b hl hm hg => ?_, fun id c r rc hl hm hg => (H.rows id c r rc hl hm hg).alloc (fun b hb => (H.sep.rowOwn id rc b hm hb).2.2) _, H.sep.newBox hc hk t _⟩
  rw [look_cons] at hl
  split at hl
  · rename_i he
    cases hl
    subst he
    simp only [setM, if_true] at hm
    cases hm
    refine ⟨vs, T, heap_new _ _, hv.map fun i hi v hv => ?_⟩
    exact (hv.alloc hc hk H.sep _).upd (js := [t]) (fun i hi => setM_ne hi) (fun _ _ => rfl) (SV.frees_getD hcs i hi)
  · rename_i hne
    have hm' : m id = some b := by simp only [setM] at hm; rwa [if_neg (Ne.symm hne)] at hm
    obtain ⟨us, T', h1, h2⟩ := H.boxes id c cs b hl hm' hg
    refine ⟨us, T', (heap_old _ _ (H.sep.boxOwn id b hm').2.2).trans h1, h2.map fun i hi v hv => ?_⟩
    exact (hv.alloc hc hk H.sep _).upd (js := [t]) (fun i hi => setM_ne hi) (fun _ _ => rfl) (SV.frees_getD (free_box hf.2 hl) i hi)
theorem HeapR.newRow (H : HeapR cx w m ρ env st.boxes st.rows) (hc : CxOk cx w0) (hk : Kept cx w0 w) {t : Nat} {row : Row} {xs : List D} {cs : Array Value} {T : TypeId} (hf : fresh st t = true) (hx : row.c.den env = .lst xs) (hsz : xs.length * row.ks.length ≤ cs.size)
    (hmax : xs.length ≤ maxL) (hsh : ∀ i, i < xs.length → Shp row.ks.length (xs.getD i default)) (hown : ∀ i c, i < xs.length → c < row.ks.length → Own w (row.ks.getD c default) ((xs.getD i default).fld c) (cs.getD (i * row.ks.length + c) undef) []) :
    HeapR cx (w.alloc (.cells cs T (0, 0))) m (setM ρ t (some ⟨xs, some ⟨w.heap.size, 0, none⟩, xs.length, row.ks.length, [w.heap.size]⟩)) env st.boxes ((t, g, row) :: st.rows) := by
  simp only [fresh, Bool.and_eq_true] at hf
  refine ⟨fun id c cls b hl hm hg => ?_, fun id c r rc hl hm hg => ?_, H.sep.newRow hc hk t _ rfl rfl⟩
  · obtain ⟨us, T', h1, h2⟩ := H.boxes id c cls b hl hm hg
    refine ⟨us, T', (heap_old _ _ (H.sep.boxOwn id b hm).2.2).trans h1, h2.map fun i hi v hv => ?_⟩
    exact (hv.alloc hc hk H.sep _).upd (js := [t]) (fun _ _ => rfl) (fun i hi => setM_ne hi) (SV.frees_getD (free_box hf.2 hl) i hi)
  · rw [look_cons] at hl
    split at hl
    · rename_i he
      cases hl
      subst he
      simp only [setM, if_true] at hm
      cases hm
      refine ⟨hx, rfl, ?_⟩
      have := Own.sl (w := w.alloc (.cells cs T (0, 0))) (ks := row.ks) w.heap.size xs.length cs T xs (fun _ _ => []) (heap_new _ _) hsz (Nat.le_refl _) hmax hsh (fun i c hi hcc => (hown i c hi hcc).frame (by simp))
      have e : fpAll xs.length row.ks.length (fun _ _ => []) = [] := by
        simp [fpAll]
      rw [e] at this
      exact this
    · rename_i hne
      have hm' : ρ id = some rc := by simp only [setM] at hm; rwa [if_neg (Ne.symm hne)] at hm
      exact (H.rows id c r rc hl hm' hg).alloc (fun b hb => (H.sep.rowOwn id rc b hm' hb).2.2) _

/-! ### slots -/
theorem put_tmps (a : Act) (t : Nat) (v : Value) : (a.put (some t) v).tmps = a.tmps.setIfInBounds t v := rfl
theorem SlotR.put {t u : Nat} {c : Conds} {sv : SV} {v : Value} {tmps : Array Value} (h : SlotR cx w m ρ env tmps u c sv) (hne : t ≠ u) : SlotR cx w m ρ env (tmps.setIfInBounds t v) u c sv := by
  have : (tmps.setIfInBounds t v).getD u undef = tmps.getD u undef := by
    simp [Array.getD_eq_getD_getElem?, hne]
  refine ⟨by simpa using h.1, fun hg => ?_, fun hg => ?_⟩
  · rw [this]; exact h.2.1 hg
  · rw [this]; exact h.2.2 hg
theorem SlotR.new {t : Nat} {c : Conds} {sv : SV} {v : Value} {tmps : Array Value} (ht : t < tmps.size) (h1 : c.den env → SVR cx w m ρ env sv v) (h2 : ¬ c.den env → v = undef) : SlotR cx w m ρ env (tmps.setIfInBounds t v) t c sv := by
  have : (tmps.setIfInBounds t v).getD t undef = v := by
    simp [Array.getD_eq_getD_getElem?, ht]
  exact ⟨by simpa using ht, fun hg => by rw [this]; exact h1 hg, fun hg => by rw [this]; exact h2 hg⟩
theorem dstOk_lt {t : Nat} (h : dstOk st o = true) (hd : o.dst = some t) : t < st.nt.1 ∧ st.nt.2 ≤ t := by
  simp only [dstOk, hd] at h
  rw [Bool.and_eq_true] at h
  exact ⟨Nat.lt_of_succ_le (Nat.le_of_ble_eq_true h.1), nble h.2⟩
theorem slots_put {w' : World} {m' : BoxM} {ρ' : RowM} {sv : SV} {v : Value} (R : Rel cx w0 env st a w m ρ) (hd : dstOk st o = true)
    (hold : ∀ t c sv, look st.slots t = some (c, sv) → SlotR cx w' m' ρ' env a.tmps t c sv) (h1 : g.den env → SVR cx w' m' ρ' env sv v) (h2 : ¬ g.den env → v = undef) :
    ∀ t c sv', look (st.put o.dst g sv).slots t = some (c, sv') → SlotR cx w' m' ρ' env (a.put o.dst v).tmps t c sv' := by
  intro t c sv' hl
  cases hdst : o.dst with
  | none => rw [hdst] at hl; exact hold t c sv' hl
  | some d =>
    rw [hdst] at hl
    simp only [St.put, look_upd] at hl
    rw [put_tmps]
    split at hl
    · rename_i he
      subst he
      cases hl
      exact .new (by rw [R.size.1]; exact (dstOk_lt hd hdst).1) h1 h2
    · rename_i hne
      exact (hold t c sv' hl).put hne
theorem put_defers (a : Act) (d : Option Tmp) (v : Value) : (a.put d v).defers = a.defers := by cases d <;> rfl
theorem FrS.put {t : Nat} {n : Nat × Nat} {v : Value} (h : FrS cx a n) (ht : t < n.1 ∧ n.2 ≤ t) : FrS cx (a.put (some t) v) n := by
  refine ⟨by rw [put_tmps]; simpa using h.1, fun u hu => ?_⟩
  rw [put_tmps, ← h.2 u hu]
  have hne : t ≠ u := by omega
  simp [Array.getD_eq_getD_getElem?, hne]
theorem FrS.putD {v : Value} (h : FrS cx a st.nt) (hd : dstOk st o = true) : FrS cx (a.put o.dst v) st.nt := by
  cases ho : o.dst with
  | none => exact h
  | some t => exact h.put (dstOk_lt hd ho)
theorem put_size (a : Act) (d : Option Tmp) (v : Value) : (a.put d v).tmps.size = a.tmps.size := by cases d <;> simp [Act.put]
theorem st_put_boxes (st : St) (d : Option Nat) (g : Conds) (sv : SV) : (st.put d g sv).boxes = st.boxes ∧ (st.put d g sv).rows = st.rows ∧ (st.put d g sv).nv = st.nv ∧ (st.put d g sv).nt = st.nt := by cases d <;> exact ⟨rfl, rfl, rfl, rfl⟩
theorem SlotR.map {w' : World} {m' : BoxM} {ρ' : RowM} {env' : List D} {tmps : Array Value} {t : Nat} {c : Conds} {sv sv' : SV} (h : SlotR cx w m ρ env tmps t c sv) (hc : c.den env' ↔ c.den env) (hm : ∀ v, SVR cx w m ρ env sv v → SVR cx w' m' ρ' env' sv' v) : SlotR cx w' m' ρ' env' tmps t c sv' :=
  ⟨h.1, fun hg => hm _ (h.2.1 (hc.1 hg)), fun hg => h.2.2 fun hg' => hg (hc.2 hg')⟩

/-! ### is the operation wanted? -/
theorem wanted_iff (R : Rel cx w0 env st a w m ρ) (h : guardOf st ops o = some g) : Region.wanted o (yielded ops a.tmps) = true ↔ g.den env := by
  unfold guardOf at h
  unfold Region.wanted
  split at h
  · rename_i hg; rw [hg]; cases h; simp [Conds.den]
  · rename_i j want hg
    rw [hg]
    split at h
    · rename_i t ht
      split at h
      · rename_i c x hl
        cases h
        have hs := R.slots t c _ hl
        have hy : yielded ops a.tmps j = match a.tmps.getD t undef with | .bool b => some b | _ => none := by
          have hlt := hs.1
          simp only [yielded, ht, Option.bind_some, Array.getElem?_eq_getElem hlt, Array.getD_eq_getD_getElem?, Option.getD_some]
          cases a.tmps[t] <;> rfl
        rw [Conds.den_append]
        simp only [hy, Conds.den, and_true]
        by_cases hcd : c.den env
        · obtain ⟨b, h1, h2⟩ := (hs.2.1 hcd).boo_inv
          rw [h2, h1]
          simp [D.toB, hcd]
        · rw [hs.2.2 hcd]
          simp [undef, hcd]
      · cases h
    · cases h
theorem eval_get (R : Rel cx w0 env st a w m ρ) {g' : Conds} {x : Operand} {sv : SV} (hg : g'.den env) (h : st.get g' x = some sv) : SVR cx w m ρ env sv (a.eval x) := by
  obtain ⟨c, h1, h2⟩ := St.get_eval h
  cases x with
  | tmp t =>
    simp only [St.eval] at h1
    exact (R.slots t c sv h1).2.1 (subC_den h2 hg)
  | const v =>
    simp only [St.eval] at h1
    split at h1
    · rename_i sv' hs; cases h1; exact constSV_ok hs
    · cases h1
  | func f =>
    simp only [St.eval] at h1
    cases h1
    exact .clo (vs := []) rfl (by simp)
  | global _ => simp [St.eval] at h1
theorem Rel.here (R : Rel cx w0 env st a w m ρ) (hg : g.den env) : Here P cx w m ρ env st g a o := ⟨hg, fun _ _ _ _ hg' h => eval_get R hg' h, R.heap⟩
end
end Go.Proofs.Ytfbahdalemajcaa.Eng

/-
  The engine: a step that changes nothing that was there is what the executor says.
-/
namespace Go.Proofs.Ytfbahdalemajcaa.Eng
def stepWp (P : Program) (ops : Array Oper) (o : Oper) (a : Act) (w : World) (K : Act → World → Prop) (Q : Exit → Act → World → Prop) : Prop :=
  if Region.wanted o (yielded ops a.tmps) then o.wp P a w K Q ∨ (o.asks P a w ∧ LetsOut Q) else K (a.put o.dst undef) w
section
variable {P : Program} {cx : Cx} {w0 w : World} {m : BoxM} {ρ : RowM} {env : List D} {st : St} {g : Conds} {a : Act} {o : Oper} {ops : Array Oper} {clo : Nat → CloD} {Qd : List D → Prop} {κ : Nat → List D → Prop} {k : T}
  {K : Act → World → Prop} {Q : Exit → Act → World → Prop}
theorem wrap_append (x y : List Item) (k : T) : Item.wrap (x ++ y) k = Item.wrap x (Item.wrap y k) := by
  induction x with
  | nil => rfl
  | cons i x ih => cases i <;> simp [Item.wrap, ih]
theorem wrap_needs {xs : List X} : (Item.wrap (xs.map (.need g)) k).den P clo Qd κ env → (∀ x ∈ xs, g.den env → (x.den env).toB = true) ∧ k.den P clo Qd κ env := by
  induction xs with
  | nil => exact fun h => ⟨by simp, h⟩
  | cons x xs ih =>
    intro h
    simp only [List.map_cons, Item.wrap, T.den] at h
    have := ih h.2
    refine ⟨fun y hy => ?_, this.2⟩
    rcases List.mem_cons.1 hy with rfl | hy
    · exact h.1
    · exact this.1 y hy
theorem wrap_knows {xs : List X} (hk : ∀ x ∈ xs, (x.den env).toL.length ≤ maxL) : (Item.wrap (xs.map .know) k).den P clo Qd κ env → k.den P clo Qd κ env := by
  induction xs with
  | nil => exact fun h => h
  | cons x xs ih =>
    intro h
    simp only [List.map_cons, Item.wrap, T.den] at h
    exact ih (fun y hy => hk y (List.mem_cons_of_mem _ hy)) (h (hk x (by simp)))
theorem pureItems {r : PR} (h : (Item.wrap (pureIt g r) k).den P clo Qd κ env) :
    (g.den env → ∀ x ∈ r.needs, (x.den env).toB = true) ∧ ((∀ x ∈ r.knows, g = [] → (x.den env).toL.length ≤ maxL) → k.den P clo Qd κ env) := by
  cases g with
  | nil =>
    simp only [pureIt] at h
    rw [wrap_append] at h
    obtain ⟨h1, h2⟩ := wrap_needs h
    exact ⟨fun hg x hx => h1 x hx hg, fun hk => wrap_knows (fun x hx => hk x hx rfl) h2⟩
  | cons p g =>
    simp only [pureIt] at h
    rw [wrap_append] at h
    obtain ⟨h1, h2⟩ := wrap_needs h
    exact ⟨fun hg x hx => h1 x hx hg, fun _ => h2⟩
theorem stepPure_items {r : PR} {items : List Item} {st' : St} (hs : stepPure st g o r = some (items, st')) : items = pureIt g r := by
  obtain ⟨sv, needs, knows, box, row⟩ := r
  cases box <;> cases row <;> simp only [stepPure] at hs
  · cases hs; rfl
  · split at hs
    · split at hs
      · cases hs; rfl
      · cases hs
    · cases hs
  · split at hs
    · split at hs
      · cases hs; rfl
      · cases hs
    · cases hs
  · cases hs
/-- What the step says of the slot, and what new boxes and rows there are. -/
theorem stepPure_sound {r : PR} {items : List Item} {st' : St} (hc : CxOk cx w0) (R : Rel cx w0 env st a w m ρ) (hgo : guardOf st ops o = some g) (he : evalPure P st g o.op = some r) (hs : stepPure st g o r = some (items, st')) (hdst : dstOk st o = true)
    (hd : (Item.wrap items k).den P clo Qd κ env) (hK : ∀ a' w' m' ρ', k.den P clo Qd κ env → Rel cx w0 env st' a' w' m' ρ' → K a' w') : stepWp P ops o a w K Q := by
  have hw := wanted_iff (ops := ops) R hgo
  unfold stepWp
  -- the slots as they were, in another memory
  have hold : ∀ (w' : World) (m' : BoxM) (ρ' : RowM), (∀ t c sv, look st.slots t = some (c, sv) → ∀ v, SVR cx w m ρ env sv v → SVR cx w' m' ρ' env sv v) → ∀ t c sv, look st.slots t = some (c, sv) → SlotR cx w' m' ρ' env a.tmps t c sv :=
    fun w' m' ρ' h t c sv hl => (R.slots t c sv hl).map Iff.rfl fun v hv => h t c sv hl v hv
  by_cases hg : g.den env
  · rw [if_pos (hw.2 hg)]
    left
    obtain rfl := stepPure_items hs
    obtain ⟨hn, hkd⟩ := pureItems hd
    have hp := pure_ok (o := o) (R.here (P := P) (o := o) hg) he (hn hg)
    replace hkd := hkd fun x hx _ => hp.1 x hx
    have hp2 := hp.2
    obtain ⟨sv, needs, knows, box, row⟩ := r
    unfold Oper.wp
    cases box <;> cases row <;> simp only [stepPure] at hs <;> simp only at hp2
    · cases hs
      obtain ⟨v, h1, h2⟩ := hp2
      rw [h1, Oper.upon_value]
      refine hK _ _ m ρ hkd ⟨R.kept, ?_, slots_put R hdst R.slots (fun _ => h2) (fun h => absurd hg h), by rw [put_defers]; exact R.defers, by rw [(st_put_boxes st o.dst g sv).2.2.2]; exact R.size.putD hdst, by rw [(st_put_boxes st o.dst g sv).2.2.1]; exact R.nv⟩
      rw [(st_put_boxes st o.dst g sv).1, (st_put_boxes st o.dst g sv).2.1]
      exact R.heap
    rotate_left
    · rename_i cs
      split at hs
      · rename_i t ht
        split at hs
        · rename_i hf
          cases hs
          rw [Bool.and_eq_true] at hf
          obtain ⟨vs, T, h1, h2⟩ := hp2
          rw [h1, Oper.upon_value]
          have hf' := hf.1
          simp only [fresh, Bool.and_eq_true] at hf'
          refine hK _ _ (setM m t (some w.heap.size)) ρ hkd ⟨R.kept.alloc hc _, R.heap.newBox hc R.kept hf.1 hf.2 h2, ?_, by rw [put_defers]; exact R.defers, R.size.putD hdst, R.nv⟩
          have := slots_put (g := g) (sv := .bp t 0) (v := .pointer (some ⟨w.heap.size, 0, none⟩)) R hdst (hold (w.alloc (.cells vs.toArray T (0, 0))) (setM m t (some w.heap.size)) ρ fun u c sv hl v hv =>
            (hv.alloc hc R.kept R.heap.sep _).upd (js := [t]) (fun i hi => setM_ne hi) (fun _ _ => rfl) (free_slot hf'.2 hl)) (fun _ => .bp (by simp [setM])) (fun h => absurd hg h)
          rw [ht] at this ⊢
          exact this
        · cases hs
      · cases hs
    rotate_left
    · rename_i row
      split at hs
      · rename_i t ht
        split at hs
        · rename_i hf
          cases hs
          obtain ⟨T, cs, xs, h1, h2, h3, h4, h6, h5⟩ := hp2
          rw [h1, Oper.upon_value]
          have hf' := hf
          simp only [fresh, Bool.and_eq_true] at hf'
          refine hK _ _ m (setM ρ t (some ⟨xs, some ⟨w.heap.size, 0, none⟩, xs.length, row.ks.length, [w.heap.size]⟩)) hkd ⟨R.kept.alloc hc _, R.heap.newRow hc R.kept hf h2 h3 h4 h6 h5, ?_, by rw [put_defers]; exact R.defers, R.size.putD hdst, R.nv⟩
          have := slots_put (g := g) (sv := .ov t none) (v := .slice (some ⟨w.heap.size, 0, none⟩) xs.length xs.length) R hdst
            (hold (w.alloc (.cells cs T (0, 0))) m (setM ρ t (some ⟨xs, some ⟨w.heap.size, 0, none⟩, xs.length, row.ks.length, [w.heap.size]⟩)) fun u c sv hl v hv =>
              (hv.alloc hc R.kept R.heap.sep _).upd (js := [t]) (fun _ _ => rfl) (fun i hi => setM_ne hi) (free_slot hf'.2 hl))
            (fun _ => .ov (rc := ⟨xs, some ⟨w.heap.size, 0, none⟩, xs.length, row.ks.length, [w.heap.size]⟩) (by simp [setM]) (Nat.le_refl _) (fun _ => rfl) (fun _ h => by cases h)) (fun h => absurd hg h)
          rw [ht] at this ⊢
          exact this
        · cases hs
      · cases hs
  · rw [if_neg (fun h => hg (hw.1 h))]
    have hgne : g ≠ [] := fun h => hg (by rw [h]; trivial)
    obtain rfl := stepPure_items hs
    obtain ⟨sv, needs, knows, box, row⟩ := r
    cases box <;> cases row <;> simp only [stepPure] at hs
    · cases hs
      have hkd := (pureItems hd).2 fun x hx h => absurd h hgne
      refine hK _ _ m ρ hkd ⟨R.kept, ?_, slots_put R hdst R.slots (fun h => absurd h hg) (fun _ => rfl), by rw [put_defers]; exact R.defers, by rw [(st_put_boxes st o.dst g sv).2.2.2]; exact R.size.putD hdst, by rw [(st_put_boxes st o.dst g sv).2.2.1]; exact R.nv⟩
      rw [(st_put_boxes st o.dst g sv).1, (st_put_boxes st o.dst g sv).2.1]
      exact R.heap
    rotate_left
    · rename_i cs
      split at hs
      · rename_i t ht
        split at hs
        · cases hs
          have hkd := (pureItems hd).2 fun x hx h => absurd h hgne
          refine hK _ _ m ρ hkd ⟨R.kept, ⟨fun id c cls b hl hm hgd => ?_, R.heap.rows, R.heap.sep⟩, ?_, by rw [put_defers]; exact R.defers, R.size.putD hdst, R.nv⟩
          · rw [look_cons] at hl
            split at hl
            · cases hl; exact absurd hgd hg
            · exact R.heap.boxes id c cls b hl hm hgd
          · have := slots_put (g := g) (sv := .bp t 0) (v := undef) R hdst R.slots (fun h => absurd h hg) (fun _ => rfl)
            rw [ht] at this ⊢
            exact this
        · cases hs
      · cases hs
    rotate_left
    · rename_i row
      split at hs
      · rename_i t ht
        split at hs
        · cases hs
          have hkd := (pureItems hd).2 fun x hx h => absurd h hgne
          refine hK _ _ m ρ hkd ⟨R.kept, ⟨R.heap.boxes, fun id c r' rc hl hm hgd => ?_, R.heap.sep⟩, ?_, by rw [put_defers]; exact R.defers, R.size.putD hdst, R.nv⟩
          · rw [look_cons] at hl
            split at hl
            · cases hl; exact absurd hgd hg
            · exact R.heap.rows id c r' rc hl hm hgd
          · have := slots_put (g := g) (sv := .ov t none) (v := undef) R hdst R.slots (fun h => absurd h hg) (fun _ => rfl)
            rw [ht] at this ⊢
            exact this
        · cases hs
      · cases hs
    · cases hs
end
end Go.Proofs.Ytfbahdalemajcaa.Eng

/-
  The engine: rows that go, rows whose content changes.
-/
namespace Go.Proofs.Ytfbahdalemajcaa.Eng
theorem SV.cleans_getD {js : List Nat} : ∀ {cs : List SV}, SV.cleans js cs = true → ∀ i, i < cs.length → (cs.getD i default).clean js = true
  | [], _, i, hi => by simp at hi
  | a :: l, h, 0, _ => by simp only [SV.cleans, Bool.and_eq_true] at h; exact h.1
  | a :: l, h, i + 1, hi => by simp only [SV.cleans, Bool.and_eq_true] at h; exact SV.cleans_getD h.2 i (by simpa using hi)
theorem memN_iff {i : Nat} {l : List Nat} : memN i l = true ↔ i ∈ l := by
  simp only [memN, List.any_eq_true, nbeq_iff]
  constructor
  · rintro ⟨x, h1, h2⟩; subst h2; exact h1
  · exact fun h => ⟨i, h, rfl⟩
theorem memN_false {i : Nat} {l : List Nat} : memN i l = false ↔ i ∉ l := by rw [← memN_iff, Bool.not_eq_true]
section
variable {P : Program} {cx : Cx} {w0 w w' : World} {m m' : BoxM} {ρ ρ' : RowM} {env : List D} {st : St} {g : Conds} {a : Act} {o : Oper} {ops : Array Oper}
structure Turn (cx : Cx) (w w' : World) (ρ ρ' : RowM) (js ids : List Nat) : Prop where
  s : ∀ b, cx.S b → w'.heap[b]? = w.heap[b]?
  same : ∀ i rc, ρ i = some rc → i ∉ js → i ∉ ids → ρ' i = some rc ∧ ∀ b ∈ rc.fp, w'.heap[b]? = w.heap[b]?
  alike : ∀ i rc, ρ i = some rc → i ∈ js → ∃ rc', ρ' i = some rc' ∧ rc'.alike rc
theorem SVR.turn {js ids : List Nat} {sv : SV} {v : Value} (hg : ∀ b, cx.G b → cx.S b) (ha : ∀ i rc b, ρ i = some rc → rc.addr = some ⟨b, 0, none⟩ → b ∈ rc.fp) (ht : Turn cx w w' ρ ρ' js ids) (h : SVR cx w m ρ env sv v) :
    sv.clean js = true → sv.free ids = true → SVR cx w' m ρ' env sv v := by
  have hst : ∀ gl S, srcS cx ρ (.st gl) = some S → (∀ b, S b → w'.heap[b]? = w.heap[b]?) ∧ srcS cx ρ' (.st gl) = some S := by
    intro gl S h
    simp only [srcS, Option.some.injEq] at h
    subst h
    refine ⟨fun b hb => ?_, rfl⟩
    cases gl
    · exact ht.s b hb
    · exact ht.s b (hg b hb)
  have hrow : ∀ id S, id ∉ js → id ∉ ids → srcS cx ρ (.row id) = some S → (∀ b, S b → w'.heap[b]? = w.heap[b]?) ∧ srcS cx ρ' (.row id) = some S := by
    intro id S h1 h2 h
    simp only [srcS, Option.map_eq_some_iff] at h ⊢
    obtain ⟨rc, h3, h4⟩ := h
    subst h4
    exact ⟨fun b hb => (ht.same id rc h3 h1 h2).2 b hb, rc, (ht.same id rc h3 h1 h2).1, rfl⟩
  have hown : ∀ id rc, ρ id = some rc → id ∉ ids → ∃ rc', ρ' id = some rc' ∧ rc'.alike rc := by
    intro id rc h h2
    by_cases hj : id ∈ js
    · exact ht.alike id rc h hj
    · exact ⟨rc, (ht.same id rc h hj h2).1, rfl, rfl, rfl, rfl⟩
  induction h with
  | num h1 h2 => exact fun _ _ => .num h1 h2
  | boo h1 => exact fun _ _ => .boo h1
  | txt h1 h2 => exact fun _ _ => .txt h1 h2
  | @sl src ks x v S h1 h2 =>
    intro hc hf
    cases src with
    | st gl => exact .sl (hst gl S h1).2 (h2.frame (hst gl S h1).1)
    | row id =>
      simp only [SV.clean, SV.free, Bool.not_eq_true', memN_false] at hc hf
      have := hrow id S hc hf h1
      exact .sl this.2 (h2.frame this.1)
  | agg h1 _ ih => exact fun hc hf => .agg h1 fun i hi => ih i hi (SV.cleans_getD hc i hi) (SV.frees_getD hf i hi)
  | tup h1 _ ih => exact fun hc hf => .tup h1 fun i hi => ih i hi (SV.cleans_getD hc i hi) (SV.frees_getD hf i hi)
  | bp h1 => exact fun _ _ => .bp h1
  | @ep src ks e off b o S h1 h2 =>
    intro hc hf
    obtain ⟨u, hb', h2⟩ := h2
    cases src with
    | st gl =>
      have := hst gl S h1
      exact .ep this.2 ⟨u, hb', fun c hc => ⟨(cell?_eq (this.1 _ hb')).trans (h2 c hc).1, (h2 c hc).2.frame this.1⟩⟩
    | row id =>
      simp only [SV.clean, SV.free, Bool.not_eq_true', memN_false] at hc hf
      have := hrow id S hc hf h1
      exact .ep this.2 ⟨u, hb', fun c hc => ⟨(cell?_eq (this.1 _ hb')).trans (h2 c hc).1, (h2 c hc).2.frame this.1⟩⟩
  | @ov id pre rc n h1 h2 h3 h4 =>
    intro hc hf
    simp only [SV.free, Bool.not_eq_true', memN_false] at hf
    obtain ⟨rc', e1, e2, e3, e4, e5⟩ := hown id rc h1 hf
    rw [← e2, ← e3]
    exact .ov e1 (by omega) (fun hp => by rw [h3 hp]; exact e5.symm) h4
  | @ow id lo hi rc l h a cap h1 h2 h3 h4 h5 h6 h7 =>
    intro hc hf
    simp only [SV.free, Bool.not_eq_true', memN_false] at hf
    obtain ⟨rc', e1, e2, e3, e4, e5⟩ := hown id rc h1 hf
    refine .ow e1 h2 h3 h4 (by omega) h6 fun hl => ?_
    rw [e2, e4]
    exact h7 hl
  | @nv id c i rc jx b v h1 h2 h3 h4 h5 h6 h7 =>
    intro hc hf
    simp only [SV.clean, SV.free, Bool.not_eq_true', memN_false] at hc hf
    have := ht.same id rc h1 hc hf
    exact .nv this.1 h2 h3 h4 h5 ((cell?_eq (this.2 _ (ha _ _ _ h1 h5))).trans h6) h7
  | @oep id off i rc jx b h1 h2 h3 h4 =>
    intro hc hf
    simp only [SV.free, Bool.not_eq_true', memN_false] at hf
    obtain ⟨rc', e1, e2, e3, e4, e5⟩ := hown id rc h1 hf
    rw [← e4]
    exact .oep e1 h2 (by omega) (by rw [e2]; exact h4)
  | clo h1 _ ih => exact fun hc hf => .clo h1 fun i hi => ih i hi (SV.cleans_getD hc i hi) (SV.frees_getD hf i hi)
  | clop => exact fun _ _ => .clop
  | nilsl => exact fun _ _ => .nilsl
  | ai h1 => exact fun _ _ => .ai h1
  | an h1 h2 => exact fun _ _ => .an h1 h2
  | top => exact fun _ _ => .top
theorem SVR.killed {j : Nat} {all : Bool} {sv : SV} {v : Value} (h : SVR cx w m ρ env sv v) (hs : Sep cx w m ρ) (hg : ∀ b, cx.G b → cx.S b) : SVR cx w m ρ env (sv.kill j all) v :=
  h.kill hg (fun _ _ => rfl) (fun _ _ h _ => ⟨h, fun _ _ => rfl⟩) (fun i rc b h1 h2 => hs.addrIn i rc b h1 h2) (fun _ rc h => ⟨rc, h, rfl, rfl, rfl, rfl⟩)
/-- Every slot (box) of the new state is one of the old, forgetting more. -/
structure Less (cx : Cx) (w : World) (m : BoxM) (ρ : RowM) (env : List D) (st st' : St) : Prop where
  slots : ∀ t c sv', look st'.slots t = some (c, sv') → ∃ sv, look st.slots t = some (c, sv) ∧ ∀ v, SVR cx w m ρ env sv v → SVR cx w m ρ env sv' v
  boxes : ∀ t c cs', look st'.boxes t = some (c, cs') → ∃ cs, look st.boxes t = some (c, cs) ∧ ∀ vs, SVRs cx w m ρ env cs vs → SVRs cx w m ρ env cs' vs
  back : ∀ t c cs, look st.boxes t = some (c, cs) → ∃ cs', look st'.boxes t = some (c, cs')
  nv : st'.nv = st.nv
  nt : st'.nt = st.nt
theorem Less.refl : Less cx w m ρ env st st := ⟨fun _ _ _ h => ⟨_, h, fun _ h => h⟩, fun _ _ _ h => ⟨_, h, fun _ h => h⟩, fun _ _ _ h => ⟨_, h⟩, rfl, rfl⟩
theorem Less.trans {st' st'' : St} (h : Less cx w m ρ env st st') (h' : Less cx w m ρ env st' st'') : Less cx w m ρ env st st'' :=
  ⟨fun t c sv hl => let ⟨s1, a1, b1⟩ := h'.slots t c sv hl; let ⟨s2, a2, b2⟩ := h.slots t c s1 a1; ⟨s2, a2, fun v hv => b1 v (b2 v hv)⟩,
   fun t c sv hl => let ⟨s1, a1, b1⟩ := h'.boxes t c sv hl; let ⟨s2, a2, b2⟩ := h.boxes t c s1 a1; ⟨s2, a2, fun v hv => b1 v (b2 v hv)⟩,
   fun t c cs hl => let ⟨s1, a1⟩ := h.back t c cs hl; h'.back t c s1 a1, h'.nv.trans h.nv, h'.nt.trans h.nt⟩
theorem look_killS {j : Nat} {all : Bool} : ∀ (l : List (Nat × Conds × SV)) (t : Nat), look (killS j all l) t = (look l t).map fun p => (p.1, p.2.kill j all)
  | [], _ => rfl
  | (u, c, v) :: l, t => by
    simp only [killS, look_cons, look_killS l]
    split <;> rfl
theorem look_killB {j : Nat} {all : Bool} : ∀ (l : List (Nat × Conds × List SV)) (t : Nat), look (killB j all l) t = (look l t).map fun p => (p.1, SV.kills j all p.2)
  | [], _ => rfl
  | (u, c, v) :: l, t => by
    simp only [killB, look_cons, look_killB l]
    split <;> rfl
theorem SVRs.killed {j : Nat} {all : Bool} {cs : List SV} {vs : List Value} (h : SVRs cx w m ρ env cs vs) (hs : Sep cx w m ρ) (hg : ∀ b, cx.G b → cx.S b) : SVRs cx w m ρ env (SV.kills j all cs) vs :=
  ⟨by rw [SV.length_kills]; exact h.1, fun i hi => by rw [SV.length_kills] at hi; rw [SV.kills_getD i hi]; exact (h.2 i hi).killed hs hg⟩
theorem Less.kill (hs : Sep cx w m ρ) (hg : ∀ b, cx.G b → cx.S b) (j : Nat) (all : Bool) : Less cx w m ρ env st (st.kill j all) := by
  refine ⟨fun t c sv' hl => ?_, fun t c cs' hl => ?_, fun t c cs hl => ?_, rfl, rfl⟩
  · simp only [St.kill, look_killS, Option.map_eq_some_iff] at hl
    obtain ⟨⟨c', sv⟩, h1, h2⟩ := hl
    cases h2
    exact ⟨sv, h1, fun v hv => hv.killed hs hg⟩
  · simp only [St.kill, look_killB, Option.map_eq_some_iff] at hl
    obtain ⟨⟨c', cs⟩, h1, h2⟩ := hl
    cases h2
    exact ⟨cs, h1, fun v hv => hv.killed hs hg⟩
  · exact ⟨SV.kills j all cs, by simp [St.kill, look_killB, hl]⟩
theorem Less.gone (hs : Sep cx w m ρ) (hg : ∀ b, cx.G b → cx.S b) : ∀ (ids : List Nat) (st : St), Less cx w m ρ env st (st.gone ids) ∧ ∀ i, look (st.gone ids).rows i = if i ∈ ids then none else look st.rows i
  | [], st => ⟨.refl, by simp [St.gone]⟩
  | j :: l, st => by
    have ih := Less.gone hs hg l { st.kill j true with rows := del st.rows j }
    have h1 : Less cx w m ρ env st { st.kill j true with rows := del st.rows j } := by
      have := Less.kill (env := env) (st := st) hs hg j true
      exact ⟨this.slots, this.boxes, this.back, rfl, rfl⟩
    refine ⟨h1.trans ih.1, fun i => ?_⟩
    have := ih.2 i
    simp only [St.gone]
    rw [this]
    simp only [look_del, List.mem_cons]
    by_cases h : i ∈ l
    · simp [h]
    · by_cases h2 : i = j
      · simp [h2]
      · simp [h, h2, Ne.symm h2]
theorem Less.stale (hs : Sep cx w m ρ) (hg : ∀ b, cx.G b → cx.S b) : ∀ (ids : List Nat) (st : St), Less cx w m ρ env st (st.stale ids) ∧ (st.stale ids).rows = st.rows
  | [], st => ⟨.refl, rfl⟩
  | j :: l, st => by
    have ih := Less.stale hs hg l (st.kill j false)
    exact ⟨(Less.kill hs hg j false).trans ih.1, ih.2⟩
theorem turned_slot {js ids : List Nat} (h : st.turned js ids = true) {t : Nat} {c : Conds} {sv : SV} (hl : look st.slots t = some (c, sv)) : sv.clean js = true ∧ sv.free ids = true := by
  simp only [St.turned, Bool.and_eq_true, List.all_eq_true] at h
  exact h.1 _ (look_mem hl)
theorem turned_box {js ids : List Nat} (h : st.turned js ids = true) {t : Nat} {c : Conds} {cs : List SV} (hl : look st.boxes t = some (c, cs)) : SV.cleans js cs = true ∧ SV.frees ids cs = true := by
  simp only [St.turned, Bool.and_eq_true, List.all_eq_true] at h
  exact h.2 _ (look_mem hl)
end
end Go.Proofs.Ytfbahdalemajcaa.Eng

/-
  The engine: a store into a box.
-/
namespace Go.Proofs.Ytfbahdalemajcaa.Eng
section
variable {P : Program} {cx : Cx} {w0 w w' : World} {m m' : BoxM} {ρ ρ' : RowM} {env : List D} {st : St} {g : Conds} {a : Act} {o : Oper} {ops : Array Oper} {clo : Nat → CloD} {Qd : List D → Prop} {κ : Nat → List D → Prop} {k : T}
  {K : Act → World → Prop} {Q : Exit → Act → World → Prop}
theorem SVR.one {sv : SV} {v : Value} (h : SVR cx w m ρ env sv v) (h1 : sv.one = true) : v.oneCell' = true := by
  cases h with
  | num => rfl
  | boo => rfl
  | txt => rfl
  | sl _ h2 => obtain ⟨xs, ad, cap, _, rfl, _⟩ := h2.shape; rfl
  | agg => cases h1
  | tup => cases h1
  | bp => rfl
  | ep => rfl
  | ov => rfl
  | ow => rfl
  | nv _ _ _ _ _ _ h7 => obtain ⟨_, _, _, rfl⟩ := h7; rfl
  | oep => rfl
  | clo => rfl
  | clop => cases h1
  | nilsl => rfl
  | ai => rfl
  | an => rfl
  | top => cases h1
theorem setRow_old (w : World) {b b' : Nat} (cs : Array Value) (h : b' ≠ b) : (w.setRow b cs).heap[b']? = w.heap[b']? := setRow_other w b b' cs h
theorem Kept.setRow (h : Kept cx w0 w) {b : Nat} (hb : ¬ cx.S b) (cs : Array Value) : Kept cx w0 (w.setRow b cs) :=
  ⟨h.os, h.tape, h.output, by rw [setRow_size]; exact h.size, fun c hc => (setRow_old w cs (fun he => hb (by subst he; exact hc))).trans (h.block c hc)⟩
theorem Sep.size {w' : World} (h : Sep cx w m ρ) (hs : w.heap.size ≤ w'.heap.size) : Sep cx w' m ρ :=
  ⟨h.boxes, h.rows, h.nodup, h.apart, fun i b hi => let t := h.boxOwn i b hi; ⟨t.1, t.2.1, Nat.lt_of_lt_of_le t.2.2 hs⟩, fun i r b hi hb => let t := h.rowOwn i r b hi hb; ⟨t.1, t.2.1, Nat.lt_of_lt_of_le t.2.2 hs⟩, h.addrIn⟩
theorem storeAt_run {t : TypeId} {v : Value} {b off : Nat} {cur : Array Value} {T : TypeId} (hs : sizeT P t = some v.cells.size) (hh : w.heap[b]? = some (.cells cur T (0, 0))) (hle : off + v.cells.size ≤ cur.size) (h1 : ∀ u ∈ v.cells.toList, u.oneCell' = true) :
    (Instr.storeAt t (.pointer (some ⟨b, off, none⟩)) v).run P w = .ok () (w.setRow b (cur.toList.take off ++ v.cells.toList ++ cur.toList.drop (off + v.cells.size)).toArray) := by
  have := run_storeCells_at P b off T v.cells.toList 0 cur w hh (by simpa using hle) h1
  simp only [Nat.add_zero, Array.length_toList] at this
  simp [Instr.storeAt, Instr.sureAddr, storeVar, run_sizeOf' hs, this]
theorem cells_one {sv : SV} {v : Value} (h : SVR cx w m ρ env sv v) (h1 : sv.cells.all SV.one = true) (hne : sv.cells ≠ []) : ∀ u ∈ v.cells.toList, u.oneCell' = true := by
  intro u hu
  have hc := h.cells_ok hne
  obtain ⟨i, hi, rfl⟩ := List.mem_iff_getElem.1 hu
  have hi' : i < sv.cells.length := by rw [← hc.1]; exact hi
  have := (hc.2 i hi').one (by
    have := List.all_eq_true.1 h1 (sv.cells[i]) (List.getElem_mem _)
    simpa [List.getD_eq_getElem?_getD, List.getElem?_eq_getElem hi'] using this)
  simpa [List.getD_eq_getElem?_getD, List.getElem?_eq_getElem hi] using this
theorem SVRs.splice {cs ns : List SV} {vs us : List Value} {off : Nat} (h : SVRs cx w m ρ env cs vs) (h' : SVRs cx w m ρ env ns us) (hle : off + ns.length ≤ cs.length) :
    SVRs cx w m ρ env (cs.take off ++ ns ++ cs.drop (off + ns.length)) (vs.take off ++ us ++ vs.drop (off + us.length)) := by
  have hl1 := h.1
  have hl2 := h'.1
  refine ⟨by simp [hl1, hl2], fun i hi => ?_⟩
  have e1 : ∀ {α : Type} (L l : List α) (d : α), off + l.length ≤ L.length → i < L.length → (L.take off ++ l ++ L.drop (off + l.length)).getD i d = if off ≤ i ∧ i < off + l.length then l.getD (i - off) d else L.getD i d := by
    intro α L l d hle hi
    have := splice_get L l off hle i
    rw [List.getD_eq_getElem?_getD, this]
    by_cases h1 : i < off
    · rw [if_pos h1, if_neg (by omega), List.getD_eq_getElem?_getD]
    · rw [if_neg h1]
      by_cases h2 : i < off + l.length
      · rw [if_pos h2, if_pos ⟨by omega, h2⟩, List.getD_eq_getElem?_getD]
      · rw [if_neg h2, if_neg (by omega), List.getD_eq_getElem?_getD]
  have hi' : i < cs.length := by
    simp at hi; omega
  rw [e1 cs ns default hle hi', e1 vs us undef (by omega) (by omega), hl2]
  split
  · exact h'.2 _ (by omega)
  · exact h.2 i hi'
theorem bx_frame (H : HeapR cx w m ρ env st.boxes st.rows) (hc : CxOk cx w0) {id b : Nat} (hm : m id = some b) (cs : Array Value) {sv : SV} {v : Value} (h : SVR cx w m ρ env sv v) : SVR cx (w.setRow b cs) m ρ env sv v :=
  h.frame hc.gs (fun _ hs => setRow_old w cs fun he => (H.sep.boxOwn id b hm).1 (he ▸ hs)) (fun i rc _ h1 h2 => setRow_old w cs fun he => H.sep.apart id i rc b hm h1 (he ▸ h2)) (fun i rc c h1 h2 => H.sep.addrIn i rc c h1 h2)
/-- A box's cells are changed. -/
theorem Rel.setBox (hc : CxOk cx w0) (R : Rel cx w0 env st a w m ρ) {id b : Nat} {g : Conds} {cells : List SV} {vs : List Value} {T : TypeId} {old : Array Value} (hm : m id = some b) (hh : w.heap[b]? = some (.cells old T (0, 0)))
    (hv : SVRs cx w m ρ env cells vs) : Rel cx w0 env { st with boxes := upd st.boxes id (g, cells) } a (w.setRow b vs.toArray) m ρ := by
  refine ⟨R.kept.setRow (R.heap.sep.boxOwn id b hm).1 _, ⟨fun j c cs b' hl hj hg => ?_, fun j c r rc hl hj hg => ?_, R.heap.sep.size (by rw [setRow_size]; exact Nat.le_refl _)⟩, fun t c sv hl => (R.slots t c sv hl).map Iff.rfl fun v h => bx_frame R.heap hc hm _ h, R.defers, R.size, R.nv⟩
  · simp only [look_upd] at hl
    split at hl
    · rename_i he
      subst he
      cases hl
      rw [hm] at hj
      cases hj
      exact ⟨vs, T, setRow_heap w b old _ T _ hh, hv.map fun i hi v h => bx_frame R.heap hc hm _ h⟩
    · rename_i hne
      obtain ⟨us, T', h1, h2⟩ := R.heap.boxes j c cs b' hl hj hg
      refine ⟨us, T', (setRow_old w _ fun he => ?_).trans h1, h2.map fun i hi v h => bx_frame R.heap hc hm _ h⟩
      subst he
      exact hne (R.heap.sep.boxes id j b' hm hj)
  · obtain ⟨h1, h2, h3⟩ := R.heap.rows j c r rc hl hj hg
    exact ⟨h1, h2, h3.frame fun c hcm => setRow_old w _ fun he => R.heap.sep.apart id j rc b hm hj (he ▸ hcm)⟩
theorem storeBox_sound {t : TypeId} {pa pv : Operand} {id off n : Nat} {v : SV} {cells : List SV} (hc : CxOk cx w0) (R : Rel cx w0 env st a w m ρ) (ho : o.op = .store t pa pv) (hd : o.dst = none) (ha : st.get [] pa = some (.bp id off)) (hv : st.get [] pv = some v) (hn : sizeT P t = some n)
    (hb : st.box [] id = some cells) (h1 : v.cells.length = n) (h2 : off + n ≤ cells.length) (h3 : v.cells.all SV.one = true) (h4 : 1 ≤ n)
    (hK : ∀ a' w' m' ρ', Rel cx w0 env { st with boxes := upd st.boxes id ([], cells.take off ++ v.cells ++ cells.drop (off + n)) } a' w' m' ρ' → K a' w') : o.wp P a w K Q := by
  have hp := eval_get R (g' := []) trivial ha
  have hx := eval_get R (g' := []) trivial hv
  obtain ⟨b, hm, hpe⟩ := hp.bp_inv
  obtain ⟨vs, T, hh, hsv⟩ := box_get R.heap (g := []) trivial hb hm
  have hne : v.cells ≠ [] := by intro e; rw [e] at h1; simp at h1; omega
  have hc2 := hx.cells_ok hne
  have hsz : (a.eval pv).cells.size = n := by rw [← h1, ← hc2.1]; simp
  have hvs := hsv.1
  have hr := storeAt_run (w := w) (t := t) (v := a.eval pv) (off := off) (by rw [hsz]; exact hn) hh (by rw [hsz]; simp; omega) (cells_one hx h3 hne)
  unfold Oper.wp
  have he : (execOp a.eval o).run P w = .ok .skip (w.setRow b (vs.take off ++ (a.eval pv).cells.toList ++ vs.drop (off + (a.eval pv).cells.size)).toArray) := by
    simp only [execOp, ho, hpe, Sem.run_bind, hr, Result.andThen_ok, Sem.run_pure]
  rw [he, Oper.upon_skip, hd]
  have hsp := hsv.splice (off := off) hc2 (by rw [h1]; exact h2)
  rw [h1] at hsp
  simp only [Array.length_toList] at hsp
  exact hK _ _ m ρ (R.setBox hc hm hh hsp)
end
end Go.Proofs.Ytfbahdalemajcaa.Eng

/-
  The engine: a row's content is changed.
-/
namespace Go.Proofs.Ytfbahdalemajcaa.Eng
theorem range_pairwise {n : Nat} {R : Nat → Nat → Prop} (h : ∀ i j, i < n → j < n → i ≠ j → R i j) : (List.range n).Pairwise R := by
  have := List.nodup_range (n := n)
  exact this.imp_of_mem fun {a b} ha hb hne => h a b (List.mem_range.1 ha) (List.mem_range.1 hb) hne
theorem fpRow_nodup {n : Nat} {fps : Nat → List Nat} (h1 : ∀ i, i < n → (fps i).Nodup) (h2 : ∀ i j, i < n → j < n → i ≠ j → ∀ b ∈ fps i, b ∉ fps j) : (fpRow n fps).Nodup := by
  unfold fpRow List.Nodup
  rw [List.pairwise_flatMap]
  exact ⟨fun i hi => h1 i (List.mem_range.1 hi), range_pairwise fun i j hi hj hne x hx y hy he => h2 i j hi hj hne x hx (he ▸ hy)⟩
theorem fpRow_inv {n : Nat} {fps : Nat → List Nat} (h : (fpRow n fps).Nodup) : (∀ i, i < n → (fps i).Nodup) ∧ ∀ i j, i < n → j < n → i ≠ j → ∀ b ∈ fps i, b ∉ fps j := by
  unfold fpRow List.Nodup at h
  rw [List.pairwise_flatMap] at h
  refine ⟨fun i hi => h.1 i (List.mem_range.2 hi), fun i j hi hj hne b hb hb' => ?_⟩
  have h2 := List.pairwise_iff_getElem.1 h.2
  rcases Nat.lt_or_gt_of_ne hne with hlt | hlt
  · exact h2 i j (by simpa using hi) (by simpa using hj) hlt b (by simpa using hb) b (by simpa using hb') rfl
  · exact h2 j i (by simpa using hj) (by simpa using hi) hlt b (by simpa using hb') b (by simpa using hb) rfl
theorem fpAll_eq (n k : Nat) (fps : Nat → Nat → List Nat) : fpAll n k fps = fpRow n fun i => fpRow k (fps i) := rfl
theorem mem_fpRow {n : Nat} {fps : Nat → List Nat} {b : Nat} : b ∈ fpRow n fps ↔ ∃ i, i < n ∧ b ∈ fps i := by
  simp [fpRow, List.mem_flatMap]
theorem fpAll_nodup {n k : Nat} {fps : Nat → Nat → List Nat} (h1 : ∀ i c, i < n → c < k → (fps i c).Nodup) (h2 : ∀ i c i' c', i < n → c < k → i' < n → c' < k → (i, c) ≠ (i', c') → ∀ b ∈ fps i c, b ∉ fps i' c') : (fpAll n k fps).Nodup := by
  rw [fpAll_eq]
  refine fpRow_nodup (fun i hi => fpRow_nodup (fun c hc => h1 i c hi hc) fun c c' hc hc' hne => h2 i c i c' hi hc hi hc' fun e => hne (by cases e; rfl)) fun i j hi hj hne b hb hb' => ?_
  obtain ⟨c, hc, hb⟩ := mem_fpRow.1 hb
  obtain ⟨c', hc', hb'⟩ := mem_fpRow.1 hb'
  exact h2 i c j c' hi hc hj hc' (fun e => hne (by cases e; rfl)) b hb hb'
theorem fpAll_inv {n k : Nat} {fps : Nat → Nat → List Nat} (h : (fpAll n k fps).Nodup) : (∀ i c, i < n → c < k → (fps i c).Nodup) ∧ ∀ i c i' c', i < n → c < k → i' < n → c' < k → (i, c) ≠ (i', c') → ∀ b ∈ fps i c, b ∉ fps i' c' := by
  rw [fpAll_eq] at h
  obtain ⟨h1, h2⟩ := fpRow_inv h
  refine ⟨fun i c hi hc => (fpRow_inv (h1 i hi)).1 c hc, fun i c i' c' hi hc hi' hc' hne b hb hb' => ?_⟩
  by_cases he : i = i'
  · subst he
    exact (fpRow_inv (h1 i hi)).2 c c' hc hc' (fun e => hne (by rw [e])) b hb hb'
  · exact h2 i i' hi hi' he b (mem_fpRow.2 ⟨c, hc, hb⟩) (mem_fpRow.2 ⟨c', hc', hb'⟩)
def goneM (ρ : RowM) (ids : List Nat) : RowM := fun i => if i ∈ ids then none else ρ i
section
variable {P : Program} {cx : Cx} {w0 w w' : World} {m m' : BoxM} {ρ ρ' : RowM} {env : List D} {st : St} {g : Conds} {a : Act} {o : Oper} {ops : Array Oper} {clo : Nat → CloD} {Qd : List D → Prop} {κ : Nat → List D → Prop} {k : T}
  {K : Act → World → Prop} {Q : Exit → Act → World → Prop}
theorem goneM_some {ids : List Nat} {i : Nat} {rc : RowC} (h : goneM ρ ids i = some rc) : i ∉ ids ∧ ρ i = some rc := by
  unfold goneM at h
  split at h
  · cases h
  · exact ⟨‹_›, h⟩
theorem goneM_of {ids : List Nat} {i : Nat} (h : i ∉ ids) : goneM ρ ids i = ρ i := by simp [goneM, h]
theorem Sep.gone (h : Sep cx w m ρ) (ids : List Nat) : Sep cx w m (goneM ρ ids) :=
  ⟨h.boxes, fun i j a c b hi hj => h.rows i j a c b (goneM_some hi).2 (goneM_some hj).2, fun i a hi => h.nodup i a (goneM_some hi).2, fun i j a b hi hj => h.apart i j a b hi (goneM_some hj).2, h.boxOwn,
    fun i a b hi => h.rowOwn i a b (goneM_some hi).2, fun i a b hi => h.addrIn i a b (goneM_some hi).2⟩
theorem Rel.change (hc : CxOk cx w0) (R : Rel cx w0 env st a w m ρ) {id : Nat} {ids : List Nat} {rc rc' : RowC} {r' : Row} (hid : ρ id = some rc) (hni : id ∉ ids) (hal : rc'.alike rc)
    (hfp : ∀ b ∈ rc'.fp, b ∈ rc.fp ∨ ∃ j ∈ ids, ∃ c, ρ j = some c ∧ b ∈ c.fp) (hnd : rc'.fp.Nodup) (hw : ∀ b, b ∉ rc.fp → w'.heap[b]? = w.heap[b]?) (hk : Kept cx w0 w') (hsz : w.heap.size ≤ w'.heap.size)
    (had : ∀ b, rc'.addr = some ⟨b, 0, none⟩ → b ∈ rc'.fp) (hrow : RowR w' env r' rc') (ht : ((st.gone ids).kill id false).turned [id] ids = true) :
    Rel cx w0 env { (st.gone ids).kill id false with rows := upd ((st.gone ids).kill id false).rows id ([], r') } a w' m (setM (goneM ρ ids) id (some rc')) := by
  have hS := R.heap.sep
  have L1 := Less.gone (env := env) hS hc.gs ids st
  have L : Less cx w m ρ env st ((st.gone ids).kill id false) := L1.1.trans (Less.kill hS hc.gs id false)
  have hrows : ∀ i, look ((st.gone ids).kill id false).rows i = if i ∈ ids then none else look st.rows i := L1.2
  have hρ : ∀ i rc1, setM (goneM ρ ids) id (some rc') i = some rc1 → (i = id ∧ rc1 = rc') ∨ (i ≠ id ∧ i ∉ ids ∧ ρ i = some rc1) := by
    intro i rc1 h
    unfold setM at h
    split at h
    · cases h; exact .inl ⟨‹_›, rfl⟩
    · exact .inr ⟨‹_›, goneM_some h⟩
  have T : Turn cx w w' ρ (setM (goneM ρ ids) id (some rc')) [id] ids := by
    refine ⟨fun b hb => hw b fun h => (hS.rowOwn id rc b hid h).1 hb, fun i r1 hi h1 h2 => ?_, fun i r1 hi h1 => ?_⟩
    · have hne : i ≠ id := by simpa using h1
      refine ⟨by simp [setM, hne, goneM_of h2, hi], fun b hb => hw b fun h => hne (hS.rows i id r1 rc b hi hid hb h)⟩
    · have he : i = id := by simpa using h1
      subst he
      rw [hid] at hi
      cases hi
      exact ⟨rc', by simp [setM], hal⟩
  have tr : ∀ sv v, SVR cx w m ρ env sv v → sv.clean [id] = true → sv.free ids = true → SVR cx w' m (setM (goneM ρ ids) id (some rc')) env sv v :=
    fun sv v h h1 h2 => h.turn hc.gs (fun i rc b h1 h2 => hS.addrIn i rc b h1 h2) T h1 h2
  have own : ∀ b ∈ rc'.fp, ∃ i rc1, ρ i = some rc1 ∧ b ∈ rc1.fp ∧ (i = id ∨ i ∈ ids) := fun b hb => by
    rcases hfp b hb with h | ⟨j, hj, c, h1, h2⟩
    · exact ⟨id, rc, hid, h, .inl rfl⟩
    · exact ⟨j, c, h1, h2, .inr hj⟩
  refine ⟨hk, ⟨fun i c cs b hl hm hg => ?_, fun i c r rc1 hl hi hg => ?_, ⟨hS.boxes, fun i j r1 r2 b hi hj hb hb' => ?_, fun i r1 hi => ?_, fun i j r1 b hi hj hb => ?_, fun i b hi => ?_, fun i r1 b hi hb => ?_, fun i r1 b hi hb => ?_⟩⟩, fun t c sv hl => ?_, R.defers, ?_, ?_⟩
  · obtain ⟨cs0, h1, h2⟩ := L.boxes i c cs hl
    obtain ⟨vs, T', h3, h4⟩ := R.heap.boxes i c cs0 b h1 hm hg
    refine ⟨vs, T', (hw b fun h => hS.apart i id rc b hm hid h).trans h3, (h2 vs h4).map fun q hq v hv => ?_⟩
    have := turned_box ht hl
    exact tr _ v hv (SV.cleans_getD this.1 q hq) (SV.frees_getD this.2 q hq)
  · simp only [look_upd] at hl
    split at hl
    · rename_i he
      cases hl
      subst he
      simp only [setM, if_true] at hi
      cases hi
      exact hrow
    · rename_i hne
      rcases hρ i rc1 hi with ⟨he, _⟩ | ⟨_, h1, h2⟩
      · exact absurd he.symm hne
      · rw [hrows, if_neg h1] at hl
        obtain ⟨e1, e2, e3⟩ := R.heap.rows i c r rc1 hl h2 hg
        exact ⟨e1, e2, e3.frame fun b hb => hw b fun h => hne (hS.rows id i rc rc1 b hid h2 h hb)⟩
  · rcases hρ i r1 hi with ⟨rfl, rfl⟩ | ⟨n1, n2, n3⟩ <;> rcases hρ j r2 hj with ⟨rfl, rfl⟩ | ⟨k1, k2, k3⟩
    · rfl
    · obtain ⟨q, rq, q1, q2, q3⟩ := own b hb
      have := hS.rows q j rq r2 b q1 k3 q2 hb'
      subst this
      rcases q3 with h | h
      · exact absurd h k1
      · exact absurd h k2
    · obtain ⟨q, rq, q1, q2, q3⟩ := own b hb'
      have := hS.rows q i rq r1 b q1 n3 q2 hb
      subst this
      rcases q3 with h | h
      · exact absurd h n1
      · exact absurd h n2
    · exact hS.rows i j r1 r2 b n3 k3 hb hb'
  · rcases hρ i r1 hi with ⟨rfl, rfl⟩ | ⟨n1, n2, n3⟩
    · exact hnd
    · exact hS.nodup i r1 n3
  · rcases hρ j r1 hj with ⟨rfl, rfl⟩ | ⟨n1, n2, n3⟩
    · obtain ⟨q, rq, q1, q2, _⟩ := own b hb
      exact hS.apart i q rq b hi q1 q2
    · exact hS.apart i j r1 b hi n3 hb
  · have := hS.boxOwn i b hi
    exact ⟨this.1, this.2.1, Nat.lt_of_lt_of_le this.2.2 hsz⟩
  · rcases hρ i r1 hi with ⟨rfl, rfl⟩ | ⟨n1, n2, n3⟩
    · obtain ⟨q, rq, q1, q2, _⟩ := own b hb
      have := hS.rowOwn q rq b q1 q2
      exact ⟨this.1, this.2.1, Nat.lt_of_lt_of_le this.2.2 hsz⟩
    · have := hS.rowOwn i r1 b n3 hb
      exact ⟨this.1, this.2.1, Nat.lt_of_lt_of_le this.2.2 hsz⟩
  · rcases hρ i r1 hi with ⟨rfl, rfl⟩ | ⟨n1, n2, n3⟩
    · exact had b hb
    · exact hS.addrIn i r1 b n3 hb
  · obtain ⟨sv0, h1, h2⟩ := L.slots t c sv hl
    have := turned_slot ht hl
    exact (R.slots t c sv0 h1).map Iff.rfl fun v hv => tr sv v (h2 v hv) this.1 this.2
  · have := R.size
    rw [← L.nt] at this
    exact this
  · rw [R.nv]; exact L.nv.symm
end
end Go.Proofs.Ytfbahdalemajcaa.Eng

/-
  The engine: a store into an element of an owned row.
-/
namespace Go.Proofs.Ytfbahdalemajcaa.Eng
theorem noDup_iff : ∀ {l : List Nat}, noDup l = true ↔ l.Nodup
  | [] => by simp [noDup]
  | i :: l => by
    simp only [noDup, Bool.and_eq_true, Bool.not_eq_true', List.nodup_cons, noDup_iff (l := l)]
    rw [show l.any (Nat.beq i) = memN i l from rfl, memN_false]
def spl {α : Type} (es : List α) (off : Nat) (ys : List α) : List α := es.take off ++ ys ++ es.drop (off + ys.length)
theorem spl_getD {α : Type} {es ys : List α} {off : Nat} (h : off + ys.length ≤ es.length) (i : Nat) (d : α) : (spl es off ys).getD i d = if off ≤ i ∧ i < off + ys.length then ys.getD (i - off) d else es.getD i d := by
  have := splice_get es ys off h i
  rw [List.getD_eq_getElem?_getD, spl, this]
  by_cases h1 : i < off
  · rw [if_pos h1, if_neg (by omega), List.getD_eq_getElem?_getD]
  · rw [if_neg h1]
    by_cases h2 : i < off + ys.length
    · rw [if_pos h2, if_pos ⟨by omega, h2⟩, List.getD_eq_getElem?_getD]
    · rw [if_neg h2, if_neg (by omega), List.getD_eq_getElem?_getD]
theorem spl_step {α : Type} {es ys : List α} {off : Nat} {x : α} (h : off + (ys.length + 1) ≤ es.length) : spl (es.set off x) (off + 1) ys = spl es off (x :: ys) := by
  apply List.ext_getElem?
  intro i
  have h1 := splice_get (es.set off x) ys (off + 1) (by simp; omega) i
  have h2 := splice_get es (x :: ys) off (by simp; omega) i
  simp only [spl]
  rw [h1, h2, List.getElem?_set, List.length_cons]
  by_cases a : i < off
  · rw [if_pos (by omega), if_pos a, if_neg (by omega)]
  · by_cases b : i = off
    · subst b
      rw [if_pos (by omega), if_neg a, if_pos rfl, if_pos (by omega), if_pos (by omega), Nat.sub_self]
      rfl
    · rw [if_neg (by omega), if_neg a]
      by_cases c : i < off + 1 + ys.length
      · rw [if_pos c, if_pos (by omega), show i - off = (i - (off + 1)) + 1 by omega]
        rfl
      · rw [if_neg c, if_neg (by omega), if_neg (by omega)]
theorem spl_length {α : Type} {es ys : List α} {off : Nat} (h : off + ys.length ≤ es.length) : (spl es off ys).length = es.length := splice_length es ys off h
section
variable {P : Program} {cx : Cx} {w0 w w' : World} {m m' : BoxM} {ρ ρ' : RowM} {env : List D} {st : St} {g : Conds} {a : Act} {o : Oper} {ops : Array Oper} {clo : Nat → CloD} {Qd : List D → Prop} {κ : Nat → List D → Prop} {k : T}
  {K : Act → World → Prop} {Q : Exit → Act → World → Prop}
theorem setCs_den {i : X} {j : Nat} (hi : i.den env = .int j) : ∀ (xs : List X) (off : Nat) (c : X) (l es : List D), c.den env = .lst l → j < l.length → l.getD j default = .lst es → off + xs.length ≤ es.length →
    (setCs c i off xs).den env = .lst (l.set j (.lst (spl es off (xs.map (X.den env)))))
  | [], off, c, l, es, hc, hj, he, _ => by
    simp only [setCs, hc, spl, List.map_nil, List.length_nil, Nat.add_zero, List.append_nil, List.take_append_drop]
    rw [← he]
    congr 1
    apply List.ext_getElem?
    intro q
    rw [List.getElem?_set]
    split
    · rename_i h
      subst h
      simp [hj, List.getD_eq_getElem?_getD]
    · rfl
  | x :: xs, off, c, l, es, hc, hj, he, hle => by
    simp only [List.length_cons] at hle
    have h1 : (X.o3 (.setC off) c i x).den env = .lst (l.set j (.lst (es.set off (x.den env)))) := by
      simp only [X.den, O3.den, hc, hi, D.toL, D.toI, Int.toNat_natCast, D.elem]
      rw [he]
    have ih := setCs_den hi xs (off + 1) (.o3 (.setC off) c i x) (l.set j (.lst (es.set off (x.den env)))) (es.set off (x.den env)) h1 (by simpa using hj) (by simp [List.getD_eq_getElem?_getD, hj]) (by simp; omega)
    simp only [setCs]
    rw [ih, List.set_set]
    congr 3
    exact spl_step (by simp; omega)
/-- The new content of a row whose element 'j' gets new cells. -/
theorem newC_den {i : X} {j off n : Nat} {r : Row} {xs : List X} {l es : List D} (hi : i.den env = .int j) (hc : r.c.den env = .lst l) (hj : j < l.length) (he : l.getD j default = .lst es) (hes : es.length = r.ks.length) (hx : xs.length = n) (hle : off + n ≤ r.ks.length) :
    (storeC r i off n xs).den env = .lst (l.set j (.lst (spl es off (xs.map (X.den env))))) := by
  unfold storeC
  split
  · rename_i h
    simp only [Bool.and_eq_true] at h
    have h1 := nbeq h.1
    have h2 := nbeq h.2
    subst h1
    simp only [X.den, O3.den, hc, hi, D.toL, D.toI, Int.toNat_natCast, many_den]
    congr 3
    simp [spl, hx, h2, ← hes]
  · exact setCs_den hi xs off r.c l es hc hj he (by omega)
theorem Flat.one {ck : CK} {d : D} {v : Value} (h : Flat ck d v) : v.oneCell' = true := by cases h <;> rfl
theorem Own.one {ck : CK} {d : D} {v : Value} {fp : List Nat} (h : Own w ck d v fp) : v.oneCell' = true := by
  cases h with
  | flat h => exact h.one
  | nil => rfl
  | sl => rfl
theorem idx_in {i j c k off n : Nat} (hc : c < k) (hle : off + n ≤ k) : (j * k + off ≤ i * k + c ∧ i * k + c < j * k + off + n) ↔ i = j ∧ off ≤ c ∧ c < off + n := by
  constructor
  · rintro ⟨h1, h2⟩
    rcases Nat.lt_trichotomy i j with h | h | h
    · have := Nat.mul_le_mul_right k (Nat.succ_le_of_lt h)
      rw [Nat.succ_mul] at this
      omega
    · subst h; exact ⟨rfl, by omega, by omega⟩
    · have := Nat.mul_le_mul_right k (Nat.succ_le_of_lt h)
      rw [Nat.succ_mul] at this
      omega
  · rintro ⟨rfl, h1, h2⟩; omega
theorem storeRow_sound {t : TypeId} {pa pv : Operand} {id off n : Nat} {i : X} {v : SV} {r : Row} {xs : List X} {ids : List Nat} (hc : CxOk cx w0) (R : Rel cx w0 env st a w m ρ) (ho : o.op = .store t pa pv) (hd : o.dst = none) (ha : st.get [] pa = some (.oep id i off))
    (hv : st.get [] pv = some v) (hn : sizeT P t = some n) (hb : st.row [] id = some r) (hx : cellsX st [] ((r.ks.drop off).take n) v.cells = some (xs, ids)) (h1 : v.cells.length = n) (h2 : off + n ≤ r.ks.length) (h3 : noDup (id :: ids) = true) (h4 : 1 ≤ n)
    (ht : ((st.gone ids).kill id false).turned [id] ids = true)
    (hK : ∀ a' w' m' ρ', Rel cx w0 env (storedSt st id ids { r with c := storeC r i off n xs }) a' w' m' ρ' → K a' w') :
    o.wp P a w K Q := by
  have hp := eval_get R (g' := []) trivial ha
  have hxv := eval_get R (g' := []) trivial hv
  have hne : v.cells ≠ [] := by intro e; rw [e] at h1; simp at h1; omega
  have hcs := hxv.cells_ok hne
  generalize hpe : a.eval pa = pv1 at hp
  cases hp with
  | oep e1 e2 e3 e4 =>
  rename_i rc j b
  have hrr := row_get R.heap (g := []) trivial hb e1
  obtain ⟨xs0, addr, cap, kk, fp⟩ := rc
  obtain ⟨q1, q2, q3⟩ := hrr
  simp only at e3 e4 q1 q2 q3
  subst e4
  obtain ⟨l1, l2, fpn, idf, f1, f2, f3⟩ := cellsX_ok R.heap (g := []) trivial _ v.cells (a.eval pv).cells.toList xs ids hx hcs
  have hklen : ((r.ks.drop off).take n).length = n := by simp; omega
  rw [hklen] at l1 l2 f1 f3
  have hnd := noDup_iff.1 h3
  rw [List.nodup_cons] at hnd
  cases q3 with
  | flat h => cases h
  | sl b' cap' cs T xs' fps hh hsz hcap hmax hsh hown =>
  obtain ⟨es, he, hes⟩ := hsh j e3
  subst q2
  have hS := R.heap.sep
  have hfpnd := hS.nodup id _ e1
  simp only at hfpnd
  have hbfp : b ∉ fpAll xs0.length r.ks.length fps := (List.nodup_cons.1 hfpnd).1
  obtain ⟨nd1, nd2⟩ := fpAll_inv (List.nodup_cons.1 hfpnd).2
  have hsize : (a.eval pv).cells.size = n := by rw [← l2]; simp
  have hjk := Nat.mul_le_mul_right r.ks.length (Nat.succ_le_of_lt e3)
  rw [Nat.succ_mul] at hjk
  have hck := Nat.mul_le_mul_right r.ks.length hcap
  have one : ∀ u ∈ (a.eval pv).cells.toList, u.oneCell' = true := by
    intro u hu
    obtain ⟨c, hcl, rfl⟩ := List.mem_iff_getElem.1 hu
    have := (f1 c (by omega)).1.one
    simpa [List.getD_eq_getElem?_getD, List.getElem?_eq_getElem hcl] using this
  have hrun := storeAt_run (w := w) (t := t) (v := a.eval pv) (off := j * r.ks.length + off) (by rw [hsize]; exact hn) hh (by rw [hsize]; omega) one
  unfold Oper.wp
  have hex : (execOp a.eval o).run P w = .ok .skip (w.setRow b (spl cs.toList (j * r.ks.length + off) (a.eval pv).cells.toList).toArray) := by
    simp only [execOp, ho, hpe, Sem.run_bind, hrun, Result.andThen_ok, Sem.run_pure]
    simp [spl]
  rw [hex, Oper.upon_skip, hd]
  have hcells : ∀ q, ((spl cs.toList (j * r.ks.length + off) (a.eval pv).cells.toList).toArray).getD q undef = if j * r.ks.length + off ≤ q ∧ q < j * r.ks.length + off + n then (a.eval pv).cells.toList.getD (q - (j * r.ks.length + off)) undef else cs.getD q undef := by
    intro q
    have := spl_getD (es := cs.toList) (ys := (a.eval pv).cells.toList) (off := j * r.ks.length + off) (by rw [l2]; simp; omega) q undef
    rw [l2] at this
    rw [Array.getD_eq_getD_getElem?, List.getElem?_toArray, ← List.getD_eq_getElem?_getD, this]
    split
    · rfl
    · rw [Array.getD_eq_getD_getElem?, List.getD_eq_getElem?_getD, Array.getElem?_toList]
  -- the new row
  have hni : id ∉ ids := hnd.1
  let fps' : Nat → Nat → List Nat := fun i c => if i = j ∧ off ≤ c ∧ c < off + n then fpn (c - off) else fps i c
  let E : D := .lst (spl es off (xs.map (X.den env)))
  let w1 := w.setRow b (spl cs.toList (j * r.ks.length + off) (a.eval pv).cells.toList).toArray
  have hold : ∀ c, c ≠ b → w1.heap[c]? = w.heap[c]? := fun c hne => setRow_old w _ hne
  have gone_fp : ∀ c b', c < n → b' ∈ fpn c → ∃ q ∈ ids, ∃ rq, ρ q = some rq ∧ b' ∈ rq.fp := fun c b' hcn hb' => by
    obtain ⟨q, hq, rq, h5, h6⟩ := (f1 c hcn).2.2 b' hb'
    exact ⟨q, f2 c q hq, rq, h5, h6⟩
  have gone_ne : ∀ c b', c < n → b' ∈ fpn c → b' ∉ b :: fpAll xs0.length r.ks.length fps := fun c b' hcn hb' hmem => by
    obtain ⟨q, hq, rq, h5, h6⟩ := gone_fp c b' hcn hb'
    have := hS.rows q id rq _ b' h5 e1 h6 hmem
    exact hni (this ▸ hq)
  have hOwn : Own w1 (.sl r.ks) (.lst (xs0.set j E)) (.slice (some ⟨b, 0, none⟩) xs0.length cap) (b :: fpAll xs0.length r.ks.length fps') := by
    have := Own.sl (w := w1) (ks := r.ks) b cap (spl cs.toList (j * r.ks.length + off) (a.eval pv).cells.toList).toArray T (xs0.set j E) fps' (setRow_heap w b cs _ T _ hh)
      (by rw [List.size_toArray, spl_length (by rw [l2]; simp; omega)]; simpa using hsz) (by simpa using hcap) (by simpa using hmax) (fun q hq => ?_) (fun q c hq hcq => ?_)
    · simpa using this
    · rw [List.length_set] at hq
      by_cases hqj : q = j
      · subst hqj
        refine ⟨spl es off (xs.map (X.den env)), by simp [List.getD_eq_getElem?_getD, hq, E], ?_⟩
        rw [spl_length (by simp; omega), hes]
      · have : (xs0.set j E).getD q default = xs0.getD q default := by simp [List.getD_eq_getElem?_getD, Ne.symm hqj]
        rw [this]
        exact hsh q hq
    · rw [List.length_set] at hq
      rw [hcells]
      by_cases hin : q = j ∧ off ≤ c ∧ c < off + n
      · rw [if_pos ((idx_in hcq h2).2 hin)]
        obtain ⟨rfl, hc1, hc2⟩ := hin
        have g1 : (xs0.set q E).getD q default = E := by simp [List.getD_eq_getElem?_getD, hq]
        have g2 : E.fld c = (xs.map (X.den env)).getD (c - off) default := by
          change (spl es off (xs.map (X.den env))).getD c default = _
          rw [spl_getD (by simp; omega), if_pos ⟨hc1, by simp; omega⟩]
        have g3 : q * r.ks.length + c - (q * r.ks.length + off) = c - off := by omega
        have g4 : r.ks.getD c default = ((r.ks.drop off).take n).getD (c - off) default := by
          rw [getD_drop_take _ _ _ _ _ (by omega)]
          congr 1; omega
        rw [g1, g2, g3, g4]
        have := (f1 (c - off) (by omega)).1
        have hfr : fps' q c = fpn (c - off) := by simp [fps', hc1, hc2]
        rw [hfr]
        exact this.frame fun b' hb' => hold b' fun he => gone_ne (c - off) b' (by omega) hb' (by rw [he]; simp)
      · rw [if_neg fun h => hin ((idx_in hcq h2).1 h)]
        have hfr : fps' q c = fps q c := by simp only [fps']; rw [if_neg hin]
        rw [hfr]
        have g1 : ((xs0.set j E).getD q default).fld c = (xs0.getD q default).fld c := by
          by_cases hqj : q = j
          · subst hqj
            have g1 : (xs0.set q E).getD q default = E := by simp [List.getD_eq_getElem?_getD, hq]
            rw [g1, he]
            change (spl es off (xs.map (X.den env))).getD c default = es.getD c default
            rw [spl_getD (by simp; omega), if_neg (by simp; intro h; have : ¬ (c < off + n) := fun h' => hin ⟨rfl, h, h'⟩; omega)]
          · congr 1
            simp [List.getD_eq_getElem?_getD, Ne.symm hqj]
        rw [g1]
        exact (hown q c hq hcq).frame fun b' hb' => hold b' fun he => hbfp (he ▸ mem_fpAll hq hcq hb')
  have hfp' : ∀ b' ∈ fpAll xs0.length r.ks.length fps', (b' ∈ fpAll xs0.length r.ks.length fps) ∨ ∃ c, c < n ∧ b' ∈ fpn c := by
    intro b' hb'
    obtain ⟨q, c, hq, hcq, hm⟩ := fpAll_mem hb'
    simp only [fps'] at hm
    split at hm
    · rename_i hin; exact .inr ⟨c - off, by omega, hm⟩
    · exact .inl (mem_fpAll hq hcq hm)
  have hnd' : (b :: fpAll xs0.length r.ks.length fps').Nodup := by
    refine List.nodup_cons.2 ⟨fun hmem => ?_, fpAll_nodup (fun q c hq hcq => ?_) (fun q c q' c' hq hcq hq' hcq' hne b' hb' hb'' => ?_)⟩
    · rcases hfp' b hmem with h | ⟨c, hcn, h⟩
      · exact hbfp h
      · exact gone_ne c b hcn h (by simp)
    · simp only [fps']
      split
      · exact (f1 _ (by omega)).2.1
      · exact nd1 q c hq hcq
    · simp only [fps'] at hb' hb''
      split at hb' <;> split at hb''
      · rename_i i1 i2
        obtain ⟨id1, k1, r1, k2, k3⟩ := (f1 (c - off) (by omega)).2.2 b' hb'
        obtain ⟨id2, k4, r2, k5, k6⟩ := (f1 (c' - off) (by omega)).2.2 b' hb''
        have hcc : c - off ≠ c' - off := fun h => hne (by rw [i1.1, i2.1]; congr 1; omega)
        have := hS.rows id1 id2 r1 r2 b' k2 k5 k3 k6
        subst this
        exact f3 hnd.2 (c - off) (c' - off) (by omega) (by omega) hcc id1 k1 k4
      · exact gone_ne (c - off) b' (by omega) hb' (List.mem_cons_of_mem _ (mem_fpAll hq' hcq' hb''))
      · exact gone_ne (c' - off) b' (by omega) hb'' (List.mem_cons_of_mem _ (mem_fpAll hq hcq hb'))
      · exact nd2 q c q' c' hq hcq hq' hcq' hne b' hb' hb''
  have hcd := newC_den (n := n) (off := off) (r := r) e2 q1 e3 he hes l1 h2
  have hbS := (hS.rowOwn id _ b e1 (by simp)).1
  refine hK _ w1 m _ (R.change hc (rc' := ⟨xs0.set j E, some ⟨b, 0, none⟩, cap, r.ks.length, b :: fpAll xs0.length r.ks.length fps'⟩) e1 hni ⟨rfl, rfl, rfl, by simp⟩ (fun b' hb' => ?_) hnd' (fun b' hb' => hold b' fun he => hb' (by rw [he]; simp)) (R.kept.setRow hbS _)
    (by simp [w1]) (fun b' hb' => by cases hb'; simp) ⟨hcd, rfl, by simpa using hOwn⟩ ht)
  rcases List.mem_cons.1 hb' with rfl | hb'
  · exact .inl (by simp)
  · rcases hfp' b' hb' with h | ⟨c, hcn, h⟩
    · exact .inl (List.mem_cons_of_mem _ h)
    · exact .inr (gone_fp c b' hcn h)
end
end Go.Proofs.Ytfbahdalemajcaa.Eng

/-
  The engine: what an append comes to.
-/
namespace Go.Proofs.Ytfbahdalemajcaa.Eng
/-- What is appended. -/
structure SrcOk (P : Program) (w : World) (t : TypeId) (ks : List CK) (v : Value) (ys : List D) (news : List Value) (fps : Nat → Nat → List Nat) : Prop where
  src : Go.Src P ks.length t v ys.length news w
  shp : ∀ i, i < ys.length → Shp ks.length (ys.getD i default)
  own : ∀ i c, i < ys.length → c < ks.length → Own w (ks.getD c default) ((ys.getD i default).fld c) (news.getD (i * ks.length + c) undef) (fps i c)
  nodup : (fpAll ys.length ks.length fps).Nodup
  max : ys.length ≤ maxL
section
variable {P : Program} {cx : Cx} {w0 w w' : World} {m m' : BoxM} {ρ ρ' : RowM} {env : List D} {st : St} {g : Conds} {a : Act} {o : Oper} {ops : Array Oper} {clo : Nat → CloD} {Qd : List D → Prop} {κ : Nat → List D → Prop} {k : T}
  {K : Act → World → Prop} {Q : Exit → Act → World → Prop}
theorem fpAll_nil (n k : Nat) : fpAll n k (fun _ _ => []) = [] := by simp [fpAll]
theorem grid_getD {n k : Nat} {u : Nat → Nat → Value} {i c : Nat} (hi : i < n) (hc : c < k) : ((List.range (n * k)).map fun q => u (q / k) (q % k)).getD (i * k + c) undef = u i c := by
  have h1 := idx_lt hi hc
  have hk : 0 < k := by omega
  have hd : (i * k + c) / k = i := by rw [Nat.add_comm, Nat.add_mul_div_right _ _ hk, Nat.div_eq_of_lt hc, Nat.zero_add]
  have hm : (i * k + c) % k = c := by rw [Nat.add_comm, Nat.add_mul_mod_self_right, Nat.mod_eq_of_lt hc]
  simp [List.getD_eq_getElem?_getD, h1, hd, hm]
theorem allFlat {ks : List CK} (h : ks.all CK.flat = true) {c : Nat} (hc : c < ks.length) : (ks.getD c default).flat = true := by
  have := List.all_eq_true.1 h ks[c] (List.getElem_mem hc)
  simpa [List.getD_eq_getElem?_getD, List.getElem?_eq_getElem hc] using this
theorem Snap.flat_inv {S : Nat → Prop} {ck : CK} {d : D} {v : Value} (h : Snap w S ck d v) (hf : ck.flat = true) : Flat ck d v := by
  cases h with
  | flat h => exact h
  | nil => simp [CK.flat] at hf
  | sl => simp [CK.flat] at hf
/-- Plain cells, wherever they lie. -/
theorem src_flat {t e : TypeId} {ks : List CK} (hu : P.underlying t = some (.slice e)) (hf : ks.all CK.flat = true) {S : Nat → Prop} {d : D} {v : Value} (h : Snap w S (.sl ks) d v) :
    ∃ ys news, d = .lst ys ∧ SrcOk P w t ks v ys news fun _ _ => [] := by
  cases h with
  | flat h => cases h
  | nil ad cap =>
    refine ⟨[], [], rfl, ?_, by simp, by simp, by rw [fpAll_nil]; simp, by simp⟩
    cases ad with
    | none => exact Go.Src.ofNil w hu cap
    | some ad => exact Go.Src.ofSlice w hu ad 0 cap [] (by simp) (by simp) (by simp)
  | sl b off cap xs u hb hcap hmax hsh hc hs =>
    have hcell : ∀ q, q < xs.length * ks.length → q / ks.length < xs.length ∧ q % ks.length < ks.length := fun q hq => by
      have hk : 0 < ks.length := Nat.pos_of_ne_zero fun h0 => by rw [h0] at hq; omega
      exact ⟨Nat.div_lt_of_lt_mul (by rwa [Nat.mul_comm]), Nat.mod_lt _ hk⟩
    refine ⟨xs, (List.range (xs.length * ks.length)).map fun q => u (q / ks.length) (q % ks.length), rfl, Go.Src.ofSlice w hu _ _ cap _ (by simp) (fun j x hj => ?_) (fun x hx => ?_), hsh, fun i c hi hcc => ?_, by rw [fpAll_nil]; simp, hmax⟩
    · obtain ⟨hj1, hj2⟩ := List.getElem?_eq_some_iff.1 hj
      have hj1' : j < xs.length * ks.length := by simpa using hj1
      have := hcell j hj1'
      rw [addr_add]
      have h2 := hc _ _ this.1 this.2
      rw [Nat.div_add_mod' j ks.length] at h2
      simp at hj2
      rw [h2, hj2]
    · obtain ⟨q, hq, rfl⟩ := List.mem_map.1 hx
      have := hcell q (List.mem_range.1 hq)
      exact ((hs _ _ this.1 this.2).flat_inv (allFlat hf this.2)).one
    · rw [grid_getD hi hcc]
      exact .flat ((hs i c hi hcc).flat_inv (allFlat hf hcc))
theorem run_append_none {t e ty : TypeId} {i : TypeInfo} (ht : P.underlying t = some (.slice e)) (hi : P.info? e = some i) {v : Value} (hs : Go.Src P i.size t v 0 [] w) : (Builtin.append_ #[t, t] ty #[.slice none 0 0, v]).run P w = .ok (.slice none 0 0) w := by
  rcases hs.kind with ⟨e', hk⟩ | hk
  · simp [Builtin.append_, run_underlying ht, sizeOf, typeInfo, hi, hs.len, hs.cells]
  · rw [ht] at hk; cases hk
theorem run_append_here {t e ty : TypeId} {i : TypeInfo} (ht : P.underlying t = some (.slice e)) (hi : P.info? e = some i) {b sLen sCap n : Nat} {v : Value} {news : List Value} (hs : Go.Src P i.size t v n news w) {cur : Array Value} {T : TypeId}
    (hh : w.heap[b]? = some (.cells cur T (0, 0))) (hroom : sLen + n ≤ sCap) (hfit : sLen * i.size + news.length ≤ cur.size) :
    (Builtin.append_ #[t, t] ty #[.slice (some ⟨b, 0, none⟩) sLen sCap, v]).run P w = .ok (.slice (some ⟨b, 0, none⟩) (sLen + n) sCap) (w.setRow b (spl cur.toList (sLen * i.size) news).toArray) := by
  have hst := run_storeCells_at P b (sLen * i.size) T news 0 cur w hh (by simpa using hfit) hs.one
  simp only [Nat.add_zero] at hst
  rcases hs.kind with ⟨e', hk⟩ | hk
  · simp [Builtin.append_, run_underlying ht, sizeOf, typeInfo, hi, hs.len, hroom, hs.cells, Addr.add_lit, hst, spl]
  · rw [ht] at hk; cases hk
/-- Two owned lists of elements, one behind the other in new cells. -/
theorem own_both {w1 : World} {ks : List CK} {xs ys : List D} {fps fpn : Nat → Nat → List Nat} {b cap : Nat} {cells : Array Value} {T : TypeId} (hh : w1.heap[b]? = some (.cells cells T (0, 0))) (hsz : cap * ks.length ≤ cells.size)
    (hcap : xs.length + ys.length ≤ cap) (hmax : xs.length + ys.length ≤ maxL) (hs1 : ∀ i, i < xs.length → Shp ks.length (xs.getD i default)) (hs2 : ∀ i, i < ys.length → Shp ks.length (ys.getD i default))
    (h1 : ∀ i c, i < xs.length → c < ks.length → Own w1 (ks.getD c default) ((xs.getD i default).fld c) (cells.getD (i * ks.length + c) undef) (fps i c))
    (h2 : ∀ i c, i < ys.length → c < ks.length → Own w1 (ks.getD c default) ((ys.getD i default).fld c) (cells.getD ((xs.length + i) * ks.length + c) undef) (fpn i c)) :
    Own w1 (.sl ks) (.lst (xs ++ ys)) (.slice (some ⟨b, 0, none⟩) (xs.length + ys.length) cap) (b :: fpAll (xs.length + ys.length) ks.length fun i c => if i < xs.length then fps i c else fpn (i - xs.length) c) := by
  have g1 : ∀ i, i < xs.length → (xs ++ ys).getD i default = xs.getD i default := fun i hi => by simp [List.getD_eq_getElem?_getD, List.getElem?_append_left hi]
  have g2 : ∀ i, ¬ i < xs.length → (xs ++ ys).getD i default = ys.getD (i - xs.length) default := fun i hi => by simp [List.getD_eq_getElem?_getD, List.getElem?_append_right (Nat.le_of_not_lt hi)]
  have := Own.sl (w := w1) (ks := ks) b cap cells T (xs ++ ys) (fun i c => if i < xs.length then fps i c else fpn (i - xs.length) c) hh hsz (by simpa using hcap) (by simpa using hmax) (fun i hi => ?_) (fun i c hi hc => ?_)
  · simpa using this
  · rw [List.length_append] at hi
    by_cases hlt : i < xs.length
    · rw [g1 i hlt]; exact hs1 i hlt
    · rw [g2 i hlt]; exact hs2 _ (by omega)
  · rw [List.length_append] at hi
    by_cases hlt : i < xs.length
    · rw [g1 i hlt, if_pos hlt]; exact h1 i c hlt hc
    · rw [g2 i hlt, if_neg hlt]
      have := h2 (i - xs.length) c (by omega) hc
      rwa [show xs.length + (i - xs.length) = i by omega] at this
theorem both_nodup {n1 n2 k : Nat} {fps fpn : Nat → Nat → List Nat} (h1 : (fpAll n1 k fps).Nodup) (h2 : (fpAll n2 k fpn).Nodup) (h : ∀ b ∈ fpAll n1 k fps, b ∉ fpAll n2 k fpn) :
    (fpAll (n1 + n2) k fun i c => if i < n1 then fps i c else fpn (i - n1) c).Nodup ∧ ∀ b ∈ (fpAll (n1 + n2) k fun i c => if i < n1 then fps i c else fpn (i - n1) c), b ∈ fpAll n1 k fps ∨ b ∈ fpAll n2 k fpn := by
  obtain ⟨a1, a2⟩ := fpAll_inv h1
  obtain ⟨b1, b2⟩ := fpAll_inv h2
  refine ⟨fpAll_nodup (fun i c hi hc => ?_) (fun i c i' c' hi hc hi' hc' hne b hb hb' => ?_), fun b hb => ?_⟩
  · by_cases hlt : i < n1
    · rw [if_pos hlt]; exact a1 i c hlt hc
    · rw [if_neg hlt]; exact b1 _ c (by omega) hc
  · by_cases hlt : i < n1 <;> by_cases hlt' : i' < n1
    · rw [if_pos hlt] at hb; rw [if_pos hlt'] at hb'; exact a2 i c i' c' hlt hc hlt' hc' hne b hb hb'
    · rw [if_pos hlt] at hb; rw [if_neg hlt'] at hb'; exact h b (mem_fpAll hlt hc hb) (mem_fpAll (by omega) hc' hb')
    · rw [if_neg hlt] at hb; rw [if_pos hlt'] at hb'; exact h b (mem_fpAll hlt' hc' hb') (mem_fpAll (by omega) hc hb)
    · rw [if_neg hlt] at hb; rw [if_neg hlt'] at hb'
      exact b2 (i - n1) c (i' - n1) c' (by omega) hc (by omega) hc' (fun e => hne (by rw [Prod.mk.injEq] at e ⊢; exact ⟨by omega, e.2⟩)) b hb hb'
  · obtain ⟨i, c, hi, hc, hm⟩ := fpAll_mem hb
    by_cases hlt : i < n1
    · rw [if_pos hlt] at hm; exact .inl (mem_fpAll hlt hc hm)
    · rw [if_neg hlt] at hm; exact .inr (mem_fpAll (i := i - n1) (by omega) hc hm)
/-- The world behind an append. -/
structure Appended (P : Program) (w : World) (t ty : TypeId) (ks : List CK) (xs ys : List D) (ad : Option Addr) (cap : Nat) (v : Value) (fp fn : List Nat) : Prop where
  ex : ∃ (w' : World) (ad' : Option Addr) (cap' : Nat) (fp' : List Nat), (Builtin.append_ #[t, t] ty #[.slice ad xs.length cap, v]).run P w = .ok (.slice ad' (xs.length + ys.length) cap') w' ∧
    Own w' (.sl ks) (.lst (xs ++ ys)) (.slice ad' (xs.length + ys.length) cap') fp' ∧ fp'.Nodup ∧ (∀ b ∈ fp', b ∈ fp ∨ b ∈ fn ∨ (w.heap.size ≤ b ∧ b < w'.heap.size)) ∧
    (∀ b, b < w.heap.size → b ∉ fp → w'.heap[b]? = w.heap[b]?) ∧ w'.os = w.os ∧ w'.tape = w.tape ∧ w'.output = w.output ∧ w.heap.size ≤ w'.heap.size
theorem append_run {t e ty : TypeId} {ks : List CK} {i : TypeInfo} {xs ys : List D} {ad : Option Addr} {cap : Nat} {v : Value} {fp : List Nat} {news : List Value} {fpn : Nat → Nat → List Nat} (he : sliceElem P t = some (e, ks)) (hi : P.info? e = some i) (hz : ∃ z, i.zero = some z ∧ z.cells.size = i.size)
    (hd : Own w (.sl ks) (.lst xs) (.slice ad xs.length cap) fp) (hnd : fp.Nodup) (hlt : ∀ b ∈ fpAll ys.length ks.length fpn, b < w.heap.size) (hs : SrcOk P w t ks v ys news fpn) (hdis : ∀ b ∈ fp, b ∉ fpAll ys.length ks.length fpn)
    (hfit : (xs.length + ys.length) * Nat.max i.bytes 1 ≤ 140737488355328) : Appended P w t ty ks xs ys ad cap v fp (fpAll ys.length ks.length fpn) := by
  obtain ⟨u1, u2, u3, u4⟩ := sliceElem_ok he
  have hsz : i.size = ks.length := by
    simp only [sizeT, hi, Option.map_some, Option.some.injEq] at u3
    exact u3
  have hsrc := hs.src
  rw [← hsz] at hsrc
  have hb1 : (xs.length + ys.length) * 1 ≤ (xs.length + ys.length) * Nat.max i.bytes 1 := Nat.mul_le_mul_left _ (Nat.le_max_right _ _)
  have hb2 : (xs.length + ys.length) * i.bytes ≤ (xs.length + ys.length) * Nat.max i.bytes 1 := Nat.mul_le_mul_left _ (Nat.le_max_left _ _)
  have hmax : xs.length + ys.length ≤ maxL := by unfold maxL; omega
  have hnl : news.length = ys.length * ks.length := by rw [hsrc.newsLen, hsz]
  by_cases hroom : xs.length + ys.length ≤ cap
  · -- there is room
    generalize hv : Value.slice ad xs.length cap = sv at hd
    generalize hx : D.lst xs = dx at hd
    cases hd with
    | flat h => cases h
    | nil =>
      cases hx
      cases hv
      have hy : ys = [] := List.eq_nil_of_length_eq_zero (by simpa using hroom)
      subst hy
      have hn0 : news = [] := List.eq_nil_of_length_eq_zero (by rw [hnl]; simp)
      subst hn0
      exact ⟨w, none, 0, [], run_append_none u1 hi hsrc, .nil, by simp, by simp, fun _ _ _ => rfl, rfl, rfl, rfl, Nat.le_refl _⟩
    | sl b cap' cs T xs' fps hh hcs hcap hmax' hsh hown =>
      cases hx
      cases hv
      have hk1 := Nat.mul_le_mul_right ks.length hroom
      rw [Nat.add_mul] at hk1
      have hrun := run_append_here (ty := ty) u1 hi hsrc hh hroom (by rw [hsz, hnl]; omega)
      rw [hsz] at hrun
      have hbn := List.nodup_cons.1 hnd
      have hcell : ∀ q, ((spl cs.toList (xs.length * ks.length) news).toArray).getD q undef = if xs.length * ks.length ≤ q ∧ q < xs.length * ks.length + news.length then news.getD (q - xs.length * ks.length) undef else cs.getD q undef := by
        intro q
        have := spl_getD (es := cs.toList) (ys := news) (off := xs.length * ks.length) (by simp; omega) q undef
        rw [Array.getD_eq_getD_getElem?, List.getElem?_toArray, ← List.getD_eq_getElem?_getD, this]
        split
        · rfl
        · rw [Array.getD_eq_getD_getElem?, List.getD_eq_getElem?_getD, Array.getElem?_toList]
      have old : ∀ c, c ≠ b → (w.setRow b (spl cs.toList (xs.length * ks.length) news).toArray).heap[c]? = w.heap[c]? := fun c hne => setRow_old w _ hne
      have hboth := both_nodup hbn.2 hs.nodup fun b' hb' => hdis b' (List.mem_cons_of_mem _ hb')
      refine ⟨_, _, _, _, hrun, own_both (setRow_heap w b cs _ T _ hh) (by rw [List.size_toArray, spl_length (by simp; omega)]; simpa using hcs) hroom hmax hsh hs.shp (fps := fps) (fpn := fpn) (fun q c hq hc => ?_) (fun q c hq hc => ?_),
        List.nodup_cons.2 ⟨fun hm => ?_, hboth.1⟩, fun b' hb' => ?_, fun b' _ hb' => old b' fun h => hb' (by rw [h]; simp), rfl, rfl, rfl, by simp⟩
      · have hq2 := idx_lt hq hc
        rw [hcell, if_neg (by omega)]
        exact (hown q c hq hc).frame fun b' hb' => old b' fun h => hbn.1 (h ▸ mem_fpAll hq hc hb')
      · have hq2 := idx_lt hq hc
        rw [hcell, Nat.add_mul, if_pos ⟨by omega, by omega⟩, show xs.length * ks.length + q * ks.length + c - xs.length * ks.length = q * ks.length + c by omega]
        exact (hs.own q c hq hc).frame fun b' hb' => old b' fun h => hdis b (by simp) (h ▸ mem_fpAll hq hc hb')
      · rcases hboth.2 b hm with h | h
        · exact hbn.1 h
        · exact hdis b (by simp) h
      · rcases List.mem_cons.1 hb' with rfl | hb'
        · exact .inl (by simp)
        · rcases hboth.2 b' hb' with h | h
          · exact .inl (List.mem_cons_of_mem _ h)
          · exact .inr (.inl h)
  · -- there is none
    have hg : cap < xs.length + ys.length := Nat.lt_of_not_le hroom
    obtain ⟨z, hz1, hz2⟩ := hz
    have hgf := growslice_fits (bytes := i.bytes) hg (by omega)
    -- what was there
    have holds : ∃ (olds : List Value) (fps : Nat → Nat → List Nat), olds.length = xs.length * ks.length ∧ (Builtin.firstCells i.size xs.length (.slice ad xs.length cap)).run P w.drew = .ok olds.toArray w.drew ∧ (∀ q, q < xs.length → Shp ks.length (xs.getD q default)) ∧
        (∀ q c, q < xs.length → c < ks.length → Own w (ks.getD c default) ((xs.getD q default).fld c) (olds.getD (q * ks.length + c) undef) (fps q c)) ∧ (fpAll xs.length ks.length fps).Nodup ∧ ∀ b ∈ fpAll xs.length ks.length fps, b ∈ fp := by
      generalize hv : Value.slice ad xs.length cap = sv at hd
      generalize hx : D.lst xs = dx at hd
      cases hd with
      | flat h => cases h
      | nil =>
        cases hx
        cases hv
        refine ⟨[], fun _ _ => [], by simp, ?_, by simp, by simp, by rw [fpAll_nil]; simp, by rw [fpAll_nil]; simp⟩
        exact run_firstCells_none (P := P) w.drew i.size 0 0 0
      | sl b cap' cs T xs' fps hh hcs hcap hmax' hsh hown =>
        cases hx
        cases hv
        have hk2 := Nat.mul_le_mul_right ks.length hcap
        refine ⟨cs.toList.take (xs.length * ks.length), fps, by simp; omega, ?_, hsh, fun q c hq hc => ?_, (List.nodup_cons.1 hnd).2, fun b' hb' => List.mem_cons_of_mem _ hb'⟩
        · refine run_firstCells_some (P := P) w.drew i.size xs.length ⟨b, 0, none⟩ xs.length cap _ (by rw [hsz]; simp; omega) fun j u hj => ?_
          rw [addr_add, Nat.zero_add]
          obtain ⟨hj1, hj2⟩ := List.getElem?_eq_some_iff.1 hj
          have hj3 : j < cs.size := by simp at hj1; omega
          have hh' : w.drew.heap[b]? = some (.cells cs T (0, 0)) := hh
          simp only [World.cell?, hh', Option.isSome_none, Bool.false_eq_true, if_false]
          rw [Array.getElem?_eq_getElem hj3]
          simp at hj2
          rw [hj2]
        · have hq2 := idx_lt hq hc
          have : (cs.toList.take (xs.length * ks.length)).getD (q * ks.length + c) undef = cs.getD (q * ks.length + c) undef := by
            simp [List.getD_eq_getElem?_getD, Array.getD_eq_getD_getElem?, hq2]
          rw [this]
          exact hown q c hq hc
    obtain ⟨olds, fps, o1, o2, o3, o4, o5, o6⟩ := holds
    have hrun := run_append_grow_src w t t ty e i z u1 hi hz1 ad xs.length cap olds o2 v ys.length news hsrc hg (by omega) hgf
    have hgc : xs.length + ys.length ≤ grownCap w (xs.length + ys.length) cap e := by
      exact grownCap_ge w _ _ e
    have hcell : ∀ q, q < (xs.length + ys.length) * ks.length → ((olds ++ news).toArray ++ Builtin.zeroCells z.cells (grownCap w (xs.length + ys.length) cap e - (xs.length + ys.length))).getD q undef = if q < xs.length * ks.length then olds.getD q undef else news.getD (q - xs.length * ks.length) undef := by
      intro q hq
      rw [Nat.add_mul] at hq
      rw [Array.getD_eq_getD_getElem?, Array.getElem?_append_left (by simp; omega), List.getElem?_toArray]
      split
      · rw [List.getElem?_append_left (by omega), List.getD_eq_getElem?_getD]
      · rw [List.getElem?_append_right (by omega), o1, List.getD_eq_getElem?_getD]
    have old : ∀ c, c < w.heap.size → ∀ ob, (w.drew.alloc ob).heap[c]? = w.heap[c]? := fun c hc ob => heap_old w.drew ob hc
    have hboth := both_nodup o5 hs.nodup fun b' hb' => hdis b' (o6 b' hb')
    refine ⟨_, _, _, _, hrun, own_both (heap_new w.drew _) ?_ hgc hmax o3 hs.shp (fps := fps) (fpn := fpn) (fun q c hq hc => ?_) (fun q c hq hc => ?_), List.nodup_cons.2 ⟨fun hm => ?_, hboth.1⟩, fun b' hb' => ?_, fun b' hb' _ => old b' hb' _, rfl, rfl, rfl, by simp⟩
    · rw [Array.size_append, size_zeroCells, List.size_toArray, List.length_append, o1, hnl, hz2, hsz, ← Nat.add_mul, ← Nat.add_mul]
      exact Nat.mul_le_mul_right _ (by omega)
    · have hq2 := idx_lt hq hc
      rw [hcell _ (by rw [Nat.add_mul]; omega), if_pos hq2]
      exact (o4 q c hq hc).frame fun b' hb' => old b' (hd.lt b' (o6 b' (mem_fpAll hq hc hb'))) _
    · have hq2 := idx_lt hq hc
      rw [hcell _ (by rw [Nat.add_mul, Nat.add_mul]; omega), Nat.add_mul, if_neg (by omega), show xs.length * ks.length + q * ks.length + c - xs.length * ks.length = q * ks.length + c by omega]
      exact (hs.own q c hq hc).frame fun b' hb' => old b' (hlt b' (mem_fpAll hq hc hb')) _
    · rcases hboth.2 _ hm with h | h
      · have := hd.lt _ (o6 _ h); simp at this
      · have := hlt _ h; simp at this
    · rcases List.mem_cons.1 hb' with rfl | hb'
      · exact .inr (.inr (by simp))
      · rcases hboth.2 b' hb' with h | h
        · exact .inl (o6 b' h)
        · exact .inr (.inl h)
end
end Go.Proofs.Ytfbahdalemajcaa.Eng

/-
  The engine: rows that go into a new one.
-/
namespace Go.Proofs.Ytfbahdalemajcaa.Eng
section
variable {P : Program} {cx : Cx} {w0 w w' : World} {m m' : BoxM} {ρ ρ' : RowM} {env : List D} {st : St} {g : Conds} {a : Act} {o : Oper} {ops : Array Oper} {clo : Nat → CloD} {Qd : List D → Prop} {κ : Nat → List D → Prop} {k : T}
  {K : Act → World → Prop} {Q : Exit → Act → World → Prop}
theorem Rel.renew (hc : CxOk cx w0) (R : Rel cx w0 env st a w m ρ) {ids : List Nat} {d : Nat} {rc' : RowC} {r' : Row} (hfp : ∀ b ∈ rc'.fp, (∃ j ∈ ids, ∃ c, ρ j = some c ∧ b ∈ c.fp) ∨ (w.heap.size ≤ b ∧ b < w'.heap.size)) (hnd : rc'.fp.Nodup)
    (had : ∀ b, rc'.addr = some ⟨b, 0, none⟩ → b ∈ rc'.fp) (hw : ∀ b, b < w.heap.size → (∀ j ∈ ids, ∀ c, ρ j = some c → b ∉ c.fp) → w'.heap[b]? = w.heap[b]?) (hk : Kept cx w0 w') (hsz : w.heap.size ≤ w'.heap.size)
    (hrow : RowR w' env r' rc') (hnew : newOk st ids d = true) (hd : d < st.nt.1 ∧ st.nt.2 ≤ d) :
    Rel cx w0 env (newSt st ids d r') (a.put (some d) (.slice rc'.addr rc'.xs.length rc'.cap)) w' m (setM (goneM ρ ids) d (some rc')) := by
  rw [newOk, Bool.and_eq_true] at hnew
  obtain ⟨hf, ht⟩ := hnew
  have hS := R.heap.sep
  obtain ⟨L, hrows⟩ := Less.gone (env := env) hS hc.gs ids st
  simp only [fresh, Bool.and_eq_true] at hf
  have hrd : look (st.gone ids).rows d = none := by
    have := hf.1.2
    split at this
    · assumption
    · cases this
  have hρ : ∀ i rc1, setM (goneM ρ ids) d (some rc') i = some rc1 → (i = d ∧ rc1 = rc') ∨ (i ≠ d ∧ i ∉ ids ∧ ρ i = some rc1) := by
    intro i rc1 h
    unfold setM at h
    split at h
    · cases h; exact .inl ⟨‹_›, rfl⟩
    · exact .inr ⟨‹_›, goneM_some h⟩
  have old : ∀ b, b < w.heap.size → (∀ i rc1, ρ i = some rc1 → b ∈ rc1.fp → i ∉ ids) → w'.heap[b]? = w.heap[b]? := fun b hb h => hw b hb fun j hj c hjc hbc => h j c hjc hbc hj
  have T : Turn cx w w' ρ (goneM ρ ids) [] ids := by
    refine ⟨fun b hb => old b ?_ fun i r1 hi hm _ => (hS.rowOwn i r1 b hi hm).1 hb, fun i r1 hi h1 h2 => ⟨by rw [goneM_of h2]; exact hi, fun b hb => old b (hS.rowOwn i r1 b hi hb).2.2 fun j r2 hj hm hji => ?_⟩, fun i r1 hi h1 => by cases h1⟩
    · exact Nat.lt_of_lt_of_le (hc.lt b hb) R.kept.size
    · have := hS.rows i j r1 r2 b hi hj hb hm
      exact h2 (this ▸ hji)
  have tr : ∀ sv v, SVR cx w m ρ env sv v → sv.clean [] = true → sv.free ids = true → sv.free [d] = true → SVR cx w' m (setM (goneM ρ ids) d (some rc')) env sv v :=
    fun sv v h h1 h2 h3 => (h.turn hc.gs (fun i rc b h1 h2 => hS.addrIn i rc b h1 h2) T h1 h2).upd (js := [d]) (fun _ _ => rfl) (fun i hi => setM_ne hi) h3
  have own : ∀ b ∈ rc'.fp, (∃ i rc1, ρ i = some rc1 ∧ b ∈ rc1.fp ∧ i ∈ ids) ∨ w.heap.size ≤ b := fun b hb => by
    rcases hfp b hb with ⟨j, hj, c, h1, h2⟩ | h
    · exact .inl ⟨j, c, h1, h2, hj⟩
    · exact .inr h.1
  refine ⟨hk, ⟨fun i c cs b hl hm hg => ?_, fun i c r rc1 hl hi hg => ?_, ⟨hS.boxes, fun i j r1 r2 b hi hj hb hb' => ?_, fun i r1 hi => ?_, fun i j r1 b hi hj hb => ?_, fun i b hi => ?_, fun i r1 b hi hb => ?_, fun i r1 b hi hb => ?_⟩⟩, fun t c sv hl => ?_, R.defers, ?_, ?_⟩
  · obtain ⟨cs0, h1, h2⟩ := L.boxes i c cs hl
    obtain ⟨vs, T', h3, h4⟩ := R.heap.boxes i c cs0 b h1 hm hg
    refine ⟨vs, T', (old b (hS.boxOwn i b hm).2.2 fun j r1 hj hb _ => hS.apart i j r1 b hm hj hb).trans h3, (h2 vs h4).map fun q hq v hv => ?_⟩
    have := turned_box ht hl
    exact tr _ v hv (SV.cleans_getD this.1 q hq) (SV.frees_getD this.2 q hq) (SV.frees_getD (free_box hf.2 hl) q hq)
  · simp only [newSt] at hl
    rw [look_cons] at hl
    split at hl
    · rename_i he
      cases hl
      subst he
      simp only [setM, if_true] at hi
      cases hi
      exact hrow
    · rename_i hne
      rcases hρ i rc1 hi with ⟨he, _⟩ | ⟨_, h1, h2⟩
      · exact absurd he.symm hne
      · rw [hrows, if_neg h1] at hl
        obtain ⟨e1, e2, e3⟩ := R.heap.rows i c r rc1 hl h2 hg
        exact ⟨e1, e2, e3.frame fun b hb => old b (hS.rowOwn i rc1 b h2 hb).2.2 fun j r2 hj hm hji => h1 (hS.rows i j rc1 r2 b h2 hj hb hm ▸ hji)⟩
  · rcases hρ i r1 hi with ⟨rfl, rfl⟩ | ⟨n1, n2, n3⟩ <;> rcases hρ j r2 hj with ⟨rfl, rfl⟩ | ⟨k1, k2, k3⟩
    · rfl
    · rcases own b hb with ⟨q, rq, q1, q2, q3⟩ | h
      · have := hS.rows q j rq r2 b q1 k3 q2 hb'
        subst this
        exact absurd q3 k2
      · have := (hS.rowOwn j r2 b k3 hb').2.2; omega
    · rcases own b hb' with ⟨q, rq, q1, q2, q3⟩ | h
      · have := hS.rows q i rq r1 b q1 n3 q2 hb
        subst this
        exact absurd q3 n2
      · have := (hS.rowOwn i r1 b n3 hb).2.2; omega
    · exact hS.rows i j r1 r2 b n3 k3 hb hb'
  · rcases hρ i r1 hi with ⟨rfl, rfl⟩ | ⟨n1, n2, n3⟩
    · exact hnd
    · exact hS.nodup i r1 n3
  · rcases hρ j r1 hj with ⟨rfl, rfl⟩ | ⟨n1, n2, n3⟩
    · rcases own b hb with ⟨q, rq, q1, q2, _⟩ | h
      · exact hS.apart i q rq b hi q1 q2
      · have := (hS.boxOwn i b hi).2.2; omega
    · exact hS.apart i j r1 b hi n3 hb
  · have := hS.boxOwn i b hi
    exact ⟨this.1, this.2.1, Nat.lt_of_lt_of_le this.2.2 hsz⟩
  · rcases hρ i r1 hi with ⟨rfl, rfl⟩ | ⟨n1, n2, n3⟩
    · rcases hfp b hb with ⟨q, hq, rq, q1, q2⟩ | h
      · have := hS.rowOwn q rq b q1 q2
        exact ⟨this.1, this.2.1, Nat.lt_of_lt_of_le this.2.2 hsz⟩
      · refine ⟨fun h' => ?_, .inl ?_, h.2⟩
        · have := hc.lt b h'; have := R.kept.size; omega
        · rw [hc.n]; have := R.kept.size; omega
    · have := hS.rowOwn i r1 b n3 hb
      exact ⟨this.1, this.2.1, Nat.lt_of_lt_of_le this.2.2 hsz⟩
  · rcases hρ i r1 hi with ⟨rfl, rfl⟩ | ⟨n1, n2, n3⟩
    · exact had b hb
    · exact hS.addrIn i r1 b n3 hb
  · simp only [newSt, look_upd] at hl
    rw [put_tmps]
    split at hl
    · rename_i he
      cases hl
      subst he
      exact .new (by rw [R.size.1]; exact hd.1) (fun _ => .ov (by simp [setM]) (Nat.le_refl _) (fun _ => rfl) (fun _ h => by cases h)) (fun h => absurd trivial h)
    · rename_i hne
      obtain ⟨sv0, h1, h2⟩ := L.slots t c sv hl
      have := turned_slot ht hl
      exact ((R.slots t c sv0 h1).map Iff.rfl fun v hv => tr sv v (h2 v hv) this.1 this.2 (free_slot hf.2 hl)).put hne
  · have := R.size.put (v := .slice rc'.addr rc'.xs.length rc'.cap) hd
    rw [← L.nt] at this
    exact this
  · rw [R.nv]; exact L.nv.symm
/-- The prefix of an owned row, as a row. -/
theorem ov_own {id : Nat} {pre : Option X} {rw : Row} (H : HeapR cx w m ρ env st.boxes st.rows) (hg : g.den env) (hrw : st.row g id = some rw) {v : Value} (hv : SVR cx w m ρ env (.ov id pre) v) :
    ∃ rc xs fp', ρ id = some rc ∧ v = .slice rc.addr xs.length rc.cap ∧ (preC rw pre).den env = .lst xs ∧ (preLen rw pre).den env = .int xs.length ∧ Own w (.sl rw.ks) (.lst xs) v fp' ∧ fp'.Sublist rc.fp ∧ rc.k = rw.ks.length := by
  cases hv with
  | ov h1 h2 h3 h4 =>
    rename_i rc q
    obtain ⟨r1, r2, r3⟩ := row_get H hg hrw h1
    obtain ⟨fp', o1, o2⟩ := r3.take h2
    have hl : (rc.xs.take q).length = q := by simp; omega
    refine ⟨rc, rc.xs.take q, fp', h1, by rw [hl], ?_, ?_, o1, o2, r2⟩
    · cases pre with
      | none => simp only [preC, r1]; rw [h3 rfl, List.take_length]
      | some y => simp only [preC, X.den, O2.den, r1, h4 y rfl, D.toL, D.toI, Int.toNat_natCast]
    · rw [hl]
      cases pre with
      | none => simp only [preLen]; rw [h3 rfl]; exact len_den r1
      | some y => exact h4 y rfl
theorem ow_snap {id : Nat} {lo hi : X} {rw : Row} (H : HeapR cx w m ρ env st.boxes st.rows) (hg : g.den env) (hrw : st.row g id = some rw) {v : Value} (hv : SVR cx w m ρ env (.ow id lo hi) v) :
    ∃ rc, ρ id = some rc ∧ Snap w (· ∈ rc.fp) (.sl rw.ks) ((winX rw lo hi).den env) v := by
  cases hv with
  | ow h1 h2 h3 h4 h5 h6 h7 =>
    rename_i rc l h ad cap
    obtain ⟨r1, r2, r3⟩ := row_get H hg hrw h1
    refine ⟨rc, h1, ?_⟩
    have hs := r3.snap (S := (· ∈ rc.fp)) (fun _ h => h)
    have hden : (winX rw lo hi).den env = .lst ((rc.xs.take h).drop l) := by simp [winX, X.den, O2.den, r1, h2, h3, D.toL, D.toI]
    rw [hden]
    by_cases h0 : h - l = 0
    · have : (rc.xs.take h).drop l = [] := List.drop_of_length_le (by simp; omega)
      rw [this, h0]
      exact .nil _ _
    · obtain ⟨b, e1, e2⟩ := h7 (by omega)
      obtain ⟨x1, x2⟩ := row_max ⟨r1, r2, r3⟩
      have hw := hs.window (l := l) (h := h) rfl h4 h5
      rw [if_neg (by omega), e1, Option.map_some, addr_add, Nat.zero_add] at hw
      rw [e2, r2]
      -- the capacity is another
      generalize hdx : D.lst ((rc.xs.take h).drop l) = dx at hw ⊢
      generalize hsv : Value.slice (some ⟨b, l * rw.ks.length, none⟩) (h - l) (rc.cap - l) = sv at hw
      cases hw with
      | flat h => cases h
      | nil => injection hsv with q1 q2 q3; omega
      | sl b' off cap' xs u hb hcap hmax hsh hc hcs =>
        injection hsv with q1 q2 q3
        injection q1 with q1
        injection q1 with q4 q5
        subst q4 q5
        rw [q2]
        exact Snap.sl (w := w) (S := (· ∈ rc.fp)) (ks := rw.ks) b (l * rw.ks.length) cap xs u hb (by omega) hmax hsh hc hcs
end
end Go.Proofs.Ytfbahdalemajcaa.Eng

/-
  The engine: appends, literals of owned parts, prefixes, comparisons with nil.
-/
namespace Go.Proofs.Ytfbahdalemajcaa.Eng
section
variable {P : Program} {cx : Cx} {w0 w w' : World} {m m' : BoxM} {ρ ρ' : RowM} {env : List D} {st : St} {g : Conds} {a : Act} {o : Oper} {ops : Array Oper} {clo : Nat → CloD} {Qd : List D → Prop} {κ : Nat → List D → Prop} {k : T}
  {K : Act → World → Prop} {Q : Exit → Act → World → Prop}
/-- An owned row as what is appended. -/
theorem src_own {t e : TypeId} {ks : List CK} (hu : P.underlying t = some (.slice e)) {xs : List D} {v : Value} {fp : List Nat} (h : Own w (.sl ks) (.lst xs) v fp) (hnd : fp.Nodup) :
    ∃ news fpn, SrcOk P w t ks v xs news fpn ∧ ∀ b ∈ fpAll xs.length ks.length fpn, b ∈ fp := by
  cases h with
  | flat h => cases h
  | nil => exact ⟨[], fun _ _ => [], ⟨Go.Src.ofNil w hu 0, by simp, by simp, by rw [fpAll_nil]; simp, by simp⟩, by rw [fpAll_nil]; simp⟩
  | sl b cap cs T xs fps hh hcs hcap hmax hsh hown =>
    have hk2 := Nat.mul_le_mul_right ks.length hcap
    have hg : ∀ q, q < xs.length * ks.length → (cs.toList.take (xs.length * ks.length)).getD q undef = cs.getD q undef := fun q hq => by simp [List.getD_eq_getElem?_getD, Array.getD_eq_getD_getElem?, hq]
    refine ⟨cs.toList.take (xs.length * ks.length), fps, ⟨Go.Src.ofSlice w hu _ _ cap _ (by simp; omega) (fun j u hj => ?_) (fun u hu' => ?_), hsh, fun i c hi hc => ?_, (List.nodup_cons.1 hnd).2, hmax⟩, fun b' hb' => List.mem_cons_of_mem _ hb'⟩
    · rw [addr_add, Nat.zero_add]
      obtain ⟨hj1, hj2⟩ := List.getElem?_eq_some_iff.1 hj
      have hj3 : j < cs.size := by simp at hj1; omega
      simp only [World.cell?, hh, Option.isSome_none, Bool.false_eq_true, if_false]
      rw [Array.getElem?_eq_getElem hj3]
      simp at hj2
      rw [hj2]
    · obtain ⟨q, hq, rfl⟩ := List.mem_iff_getElem.1 hu'
      have hq' : q < xs.length * ks.length := by simp at hq; omega
      have hk : 0 < ks.length := Nat.pos_of_ne_zero fun h0 => by rw [h0] at hq'; omega
      have := (hown (q / ks.length) (q % ks.length) (Nat.div_lt_of_lt_mul (by rwa [Nat.mul_comm])) (Nat.mod_lt _ hk)).one
      rw [Nat.div_add_mod' q ks.length, ← hg q hq'] at this
      simpa [List.getD_eq_getElem?_getD, List.getElem?_eq_getElem hq] using this
    · rw [hg _ (idx_lt hi hc)]
      exact hown i c hi hc
theorem srcX_ok (R : Rel cx w0 env st a w m ρ) {t e : TypeId} {ks : List CK} {sv : SV} {v : Value} {x : X} {ids : List Nat} (hu : P.underlying t = some (.slice e)) (h : srcX st ks sv = some (x, ids)) (hv : SVR cx w m ρ env sv v) :
    ∃ ys news fpn, x.den env = .lst ys ∧ SrcOk P w t ks v ys news fpn ∧ ∀ b ∈ fpAll ys.length ks.length fpn, ∃ id ∈ ids, ∃ rc, ρ id = some rc ∧ b ∈ rc.fp := by
  have flat : ∀ S, ks.all CK.flat = true → Snap w S (.sl ks) (x.den env) v → ∃ ys news fpn, x.den env = .lst ys ∧ SrcOk P w t ks v ys news fpn ∧ ∀ b ∈ fpAll ys.length ks.length fpn, ∃ id ∈ ids, ∃ rc, ρ id = some rc ∧ b ∈ rc.fp := by
    intro S hf hs
    obtain ⟨ys, news, h1, h2⟩ := src_flat (t := t) hu hf hs
    exact ⟨ys, news, _, h1, h2, by rw [fpAll_nil]; simp⟩
  unfold srcX at h
  split at h
  · split at h
    · rename_i hk
      cases h
      simp only [Bool.and_eq_true] at hk
      have := CK.beqs_eq _ _ hk.1.1
      subst this
      cases hv with
      | sl h1 h2 => exact flat _ hk.2 h2
    · cases h
  · rename_i id pre
    split at h
    · rename_i r hr
      split at h
      · rename_i hk
        have := CK.beqs_eq _ _ hk
        subst this
        obtain ⟨rc, xs, fp', o1, o2, o3, o4, o5, o6, o7⟩ := ov_own R.heap (g := []) trivial hr hv
        by_cases hf : r.ks.all CK.flat = true
        · rw [if_pos hf] at h
          cases h
          exact flat (· ∈ fp') hf (by rw [o3]; exact o5.snap fun _ h => h)
        · rw [if_neg hf] at h
          cases h
          obtain ⟨news, fpn, s1, s2⟩ := src_own (P := P) (t := t) hu o5 (o6.nodup (R.heap.sep.nodup id rc o1))
          exact ⟨xs, news, fpn, o3, s1, fun b hb => ⟨id, by simp, rc, o1, o6.subset (s2 b hb)⟩⟩
      · cases h
    · cases h
  · split at h
    · rename_i r hr
      split at h
      · rename_i hk
        cases h
        simp only [Bool.and_eq_true] at hk
        have := CK.beqs_eq _ _ hk.1
        subst this
        obtain ⟨rc, h1, h2⟩ := ow_snap R.heap (g := []) trivial hr hv
        exact flat _ hk.2 h2
      · cases h
    · cases h
  · split at h
    · rename_i ks' y hy
      split at h
      · rename_i hk
        cases h
        simp only [Bool.and_eq_true] at hk
        have := CK.beqs_eq _ _ hk.1
        subst this
        obtain ⟨rc, fp, h1, h2, h3⟩ := nest_own R.heap (g := []) trivial hy hv
        exact flat (· ∈ rc.fp) hk.2 (h2.snap h3)
      · cases h
    · cases h
  · cases h
    cases hv
    exact ⟨[], [], fun _ _ => [], rfl, ⟨Go.Src.ofNil w hu 0, by simp, by simp, by rw [fpAll_nil]; simp, by simp⟩, by rw [fpAll_nil]; simp⟩
  · cases h
theorem eval_append {t ty : TypeId} {x y : Operand} {v : Value} {w' : World} (ho : o.op = .call { callee := .builtin .append, args := #[x, y], argTypes := #[t, t] }) (hty : o.type = ty) (h : (Builtin.append_ #[t, t] ty #[a.eval x, a.eval y]).run P w = .ok v w') :
    (execOp a.eval o).run P w = .ok (.value v) w' := by
  subst hty
  simp [execOp, ho, resolve, invoke, builtin, h]
theorem own_addr {ks : List CK} {d : D} {ad : Option Addr} {n cap b : Nat} {fp : List Nat} (h : Own w (.sl ks) d (.slice ad n cap) fp) (hb : ad = some ⟨b, 0, none⟩) : b ∈ fp := by
  subst hb
  cases h with
  | flat h => cases h
  | sl => simp
/-- An append onto an owned list: a new row. -/
theorem append_step (hc : CxOk cx w0) (R : Rel cx w0 env st a w m ρ) {t e : TypeId} {x y : Operand} {ks : List CK} {zs : List SV} {ids : List Nat} {d : Nat} {xs ys : List D} {ad : Option Addr} {cap : Nat} {fp : List Nat} {news : List Value} {fpn : Nat → Nat → List Nat} {c : X}
    (ho : o.op = .call { callee := .builtin .append, args := #[x, y], argTypes := #[t, t] }) (hod : o.dst = some d) (he : sliceElem P t = some (e, ks)) (hz : zeroCells' P e = some zs) (hx : a.eval x = .slice ad xs.length cap)
    (hown : Own w (.sl ks) (.lst xs) (.slice ad xs.length cap) fp) (hnd : fp.Nodup) (hfp : ∀ b ∈ fp, ∃ id ∈ ids, ∃ rc, ρ id = some rc ∧ b ∈ rc.fp) (hs : SrcOk P w t ks (a.eval y) ys news fpn)
    (hfn : ∀ b ∈ fpAll ys.length ks.length fpn, ∃ id ∈ ids, ∃ rc, ρ id = some rc ∧ b ∈ rc.fp) (hdis : ∀ b ∈ fp, b ∉ fpAll ys.length ks.length fpn) (hfit : ((xs.length : Int) + ys.length) * (Nat.max (bytesT P e) 1 : Nat) ≤ 140737488355328)
    (hcd : c.den env = .lst (xs ++ ys)) (ht : newOk st ids d = true) (hd : d < st.nt.1 ∧ st.nt.2 ≤ d)
    (hK : ∀ a' w' m' ρ', Rel cx w0 env (newSt st ids d ⟨ks, c⟩) a' w' m' ρ' → K a' w') : o.wp P a w K Q := by
  obtain ⟨i, z, i1, i2, i3, i4, i5, i6⟩ := zeroInfo hz
  rw [bytesT_eq i1] at hfit
  have hfit' : (xs.length + ys.length) * Nat.max i.bytes 1 ≤ 140737488355328 := Int.ofNat_le.1 (by rw [Int.natCast_mul, Int.natCast_add]; exact hfit)
  obtain ⟨w', ad', cap', fp', r1, r2, r3, r4, r5, r6, r7, r8, r9⟩ := (append_run (ty := o.type) he i1 ⟨z, i2, i3.symm⟩ hown hnd (fun b hb => by obtain ⟨id, _, rc, h1, h2⟩ := hfn b hb; exact (R.heap.sep.rowOwn id rc b h1 h2).2.2) hs hdis hfit').ex
  rw [← hx] at r1
  unfold Oper.wp
  rw [eval_append ho rfl r1, Oper.upon_value, hod]
  have hS := R.heap.sep
  have hwS : ∀ b, cx.S b → w'.heap[b]? = w.heap[b]? := fun b hb => r5 b (Nat.lt_of_lt_of_le (hc.lt b hb) R.kept.size) fun h => by
    obtain ⟨id, _, rc, h1, h2⟩ := hfp b h
    exact (hS.rowOwn id rc b h1 h2).1 hb
  have := R.renew hc (w' := w') (rc' := ⟨xs ++ ys, ad', cap', ks.length, fp'⟩) (r' := ⟨ks, c⟩) (d := d) (ids := ids) (fun b hb => ?_) r3 (fun b hb => ?_) (fun b hb h => r5 b hb fun h' => ?_) ⟨r6.trans R.kept.os, r7.trans R.kept.tape, r8.trans R.kept.output, Nat.le_trans R.kept.size r9, fun b hb => (hwS b hb).trans (R.kept.block b hb)⟩ r9
    ⟨hcd, rfl, by simpa using r2⟩ ht hd
  · simp only [List.length_append] at this
    exact hK _ w' m _ this
  · rcases r4 b hb with h | h | h
    · obtain ⟨id, h1, rc, h2, h3⟩ := hfp b h; exact .inl ⟨id, h1, rc, h2, h3⟩
    · obtain ⟨id, h1, rc, h2, h3⟩ := hfn b h; exact .inl ⟨id, h1, rc, h2, h3⟩
    · exact .inr h
  · exact own_addr r2 hb
  · obtain ⟨id, h1, rc, h2, h3⟩ := hfp b h'
    exact h id h1 rc h2 h3
theorem buildEff_sound {t e : TypeId} {n d : Nat} {parts : Array (Nat × Operand)} {ks : List CK} {xs : List X} {zs : List SV} {ids : List Nat} (hc : CxOk cx w0) (R : Rel cx w0 env st a w m ρ) (ho : o.op = .buildSlice t n parts) (hod : o.dst = some d) (he : sliceElem P t = some (e, ks))
    (hx : partsX st [] ks 0 parts.toList = some (xs, ids)) (hz : zeroCells' P e = some zs) (hn : xs.length = n) (hle : n * ks.length ≤ 65536) (hnd : noDup ids = true) (ht : newOk st ids d = true) (hd : d < st.nt.1 ∧ st.nt.2 ≤ d)
    (hK : ∀ a' w' m' ρ', Rel cx w0 env (newSt st ids d ⟨ks, X.many xs⟩) a' w' m' ρ' → K a' w') : o.wp P a w K Q := by
  obtain ⟨u1, u2, u3, u4⟩ := sliceElem_ok he
  have hS := R.heap.sep
  obtain ⟨m1, m2, m3, fps, idf, m4, m5, m6⟩ := partsX_ok (ev := a.eval) R.heap (g := []) trivial (by simp) parts.toList 0 xs ids hx (fun p hp sv hsv => eval_get R (g' := []) trivial hsv) u4
  have hr := run_buildSlice (w := w) (parts := parts.map fun p => (p.1, a.eval p.2)) he hz (parts.toList.map fun p => a.eval p.2) (n := n) (by simpa [m1] using hn) (by simpa using m2) m3 hle
  have hlen : (parts.toList.map fun p => a.eval p.2).length = n := by simpa [m1] using hn
  have hpl : parts.toList.length = n := by simpa using hlen
  unfold Oper.wp
  have hex : (execOp a.eval o).run P w = .ok (.value (.slice (some ⟨w.heap.size, 0, none⟩) n n)) (w.alloc (.cells ((parts.toList.map fun p => a.eval p.2).flatMap fun v => v.cells.toList).toArray e (0, 0))) := by
    simp only [execOp, ho, Sem.run_bind, hr, Result.andThen_ok, Sem.run_pure]
  rw [hex, Oper.upon_value, hod]
  have hmax : n ≤ maxL := by
    have := Nat.le_mul_of_pos_right n (show 0 < ks.length by omega)
    unfold maxL; omega
  have old : ∀ b, b < w.heap.size → ∀ ob, (w.alloc ob).heap[b]? = w.heap[b]? := fun b hb ob => heap_old w ob hb
  have hlt : ∀ i c, i < n → c < ks.length → ∀ b ∈ fps i c, b < w.heap.size := fun i c hi hc' b hb => by
    obtain ⟨id, _, rc, h1, h2⟩ := (m4 i c (by omega) hc').2.2 b hb
    exact (hS.rowOwn id rc b h1 h2).2.2
  have hfl : ∀ (l : List Value), (∀ v ∈ l, v.cells.size = ks.length) → (l.flatMap fun v => v.cells.toList).length = l.length * ks.length := by
    intro l hl
    induction l with
    | nil => simp
    | cons v l ih =>
      rw [List.flatMap_cons, List.length_append, ih (fun u hu => hl u (by simp [hu])), Array.length_toList, hl v (by simp), List.length_cons, Nat.add_mul, Nat.one_mul]
      omega
  have hOwn := Own.sl (w := w.alloc (.cells ((parts.toList.map fun p => a.eval p.2).flatMap fun v => v.cells.toList).toArray e (0, 0))) (ks := ks) w.heap.size n _ e (xs.map (X.den env)) fps (heap_new w _)
    (by rw [List.size_toArray, hfl _ m3, hlen]; exact Nat.le_refl _) (by simp [hn]) (by simpa [hn] using hmax) (fun j hj => partsX_shp parts.toList 0 xs ids hx j (by simpa using hj)) (fun i c hi hc' => by
      rw [List.length_map, hn] at hi
      have h1 := (m4 i c (by omega) hc').1
      have hg2 : ((parts.toList.map fun p => a.eval p.2).flatMap fun v => v.cells.toList).toArray.getD (i * ks.length + c) undef = ((parts.toList.map fun p => a.eval p.2).getD i undef).cells.toList.getD c undef := by
        rw [← getD_flat m3 (by omega) hc']
        simp [Array.getD_eq_getD_getElem?, List.getD_eq_getElem?_getD]
      rw [hg2]
      exact h1.frame fun b hb => old b (hlt i c hi hc' b hb) _)
  rw [List.length_map, hn] at hOwn
  have hfpn : (w.heap.size :: fpAll n ks.length fps).Nodup := by
    refine List.nodup_cons.2 ⟨fun hm => ?_, fpAll_nodup (fun i c hi hc' => (m4 i c (by omega) hc').2.1) fun i c i' c' hi hc1 hi' hc2 hne b hb hb' => ?_⟩
    · obtain ⟨i, c, hi, hc', hm⟩ := fpAll_mem hm
      have := hlt i c hi hc' _ hm; omega
    · obtain ⟨id1, k1, r1, k2, k3⟩ := (m4 i c (by omega) hc1).2.2 b hb
      obtain ⟨id2, k4, r2, k5, k6⟩ := (m4 i' c' (by omega) hc2).2.2 b hb'
      have := hS.rows id1 id2 r1 r2 b k2 k5 k3 k6
      subst this
      exact m6 (noDup_iff.1 hnd) i c i' c' (by omega) hc1 (by omega) hc2 hne id1 k1 k4
  have hxl : (xs.map (X.den env)).length = n := by simp [hn]
  have := R.renew hc (w' := w.alloc (.cells ((parts.toList.map fun p => a.eval p.2).flatMap fun v => v.cells.toList).toArray e (0, 0))) (rc' := ⟨xs.map (X.den env), some ⟨w.heap.size, 0, none⟩, n, ks.length, w.heap.size :: fpAll n ks.length fps⟩) (r' := ⟨ks, X.many xs⟩) (d := d) (ids := ids)
    (fun b hb => ?_) hfpn (fun b hb => by cases hb; simp) (fun b hb _ => old b hb _) (R.kept.alloc hc _) (by simp) ⟨many_den xs, rfl, by simpa [hn] using hOwn⟩ ht hd
  · simp only [hxl] at this
    exact hK _ _ m _ this
  · rcases List.mem_cons.1 hb with rfl | hb
    · exact .inr ⟨Nat.le_refl _, by simp⟩
    · obtain ⟨i, c, hi, hc', hm⟩ := fpAll_mem hb
      obtain ⟨id, h1, rc, h2, h3⟩ := (m4 i c (by omega) hc').2.2 b hm
      exact .inl ⟨id, m5 i c id h1, rc, h2, h3⟩
theorem assignEff_sound {x : Operand} {id d : Nat} {n : X} {r : Row} (hc : CxOk cx w0) (R : Rel cx w0 env st a w m ρ) (ho : o.op = .assign x) (hod : o.dst = some d) (hx : st.get [] x = some (.ov id (some n))) (hr : st.row [] id = some r) (ht : newOk st [id] d = true) (hd : d < st.nt.1 ∧ st.nt.2 ≤ d)
    (hK : ∀ a' w' m' ρ', Rel cx w0 env (newSt st [id] d ⟨r.ks, .o2 .take r.c n⟩) a' w' m' ρ' → K a' w') : o.wp P a w K Q := by
  obtain ⟨rc, xs, fp', o1, o2, o3, o4, o5, o6, o7⟩ := ov_own R.heap (g := []) trivial hr (eval_get R (g' := []) trivial hx)
  unfold Oper.wp
  have hex : (execOp a.eval o).run P w = .ok (.value (.slice rc.addr xs.length rc.cap)) w := by simp [execOp, ho, o2]
  rw [hex, Oper.upon_value, hod]
  rw [o2] at o5
  have := R.renew hc (w' := w) (rc' := ⟨xs, rc.addr, rc.cap, rc.k, fp'⟩) (r' := ⟨r.ks, .o2 .take r.c n⟩) (d := d) (ids := [id]) (fun b hb => .inl ⟨id, by simp, rc, o1, o6.subset hb⟩) (o6.nodup (R.heap.sep.nodup id rc o1)) (fun b hb => own_addr o5 hb)
    (fun _ _ _ => rfl) R.kept (Nat.le_refl _) ⟨o3, o7, o5⟩ ht hd
  exact hK _ w m _ this
end
end Go.Proofs.Ytfbahdalemajcaa.Eng

/-
  The engine: more variables; comparisons with nil; all operations that change what is there.
-/
namespace Go.Proofs.Ytfbahdalemajcaa.Eng
section
variable {P : Program} {cx : Cx} {w0 w w' : World} {m m' : BoxM} {ρ ρ' : RowM} {env : List D} {st : St} {g : Conds} {a : Act} {o : Oper} {ops : Array Oper} {clo : Nat → CloD} {Qd : List D → Prop} {κ : Nat → List D → Prop} {k : T}
  {K : Act → World → Prop} {Q : Exit → Act → World → Prop}
theorem lt_slot {n : Nat} (h : st.lt n = true) {t : Nat} {c : Conds} {sv : SV} (hl : look st.slots t = some (c, sv)) : Conds.lt n c = true ∧ sv.lt n = true := by
  simp only [St.lt, Bool.and_eq_true, List.all_eq_true] at h
  exact h.1.1 _ (look_mem hl)
theorem lt_box {n : Nat} (h : st.lt n = true) {t : Nat} {c : Conds} {cs : List SV} (hl : look st.boxes t = some (c, cs)) : Conds.lt n c = true ∧ SV.lts n cs = true := by
  simp only [St.lt, Bool.and_eq_true, List.all_eq_true] at h
  exact h.1.2 _ (look_mem hl)
theorem lt_row {n : Nat} (h : st.lt n = true) {t : Nat} {c : Conds} {r : Row} (hl : look st.rows t = some (c, r)) : Conds.lt n c = true ∧ r.c.lt n = true := by
  simp only [St.lt, Bool.and_eq_true, List.all_eq_true] at h
  exact h.2 _ (look_mem hl)
theorem Rel.ext (R : Rel cx w0 env st a w m ρ) (h : st.lt st.nv = true) (o : List D) : Rel cx w0 (env ++ o) { st with nv := st.nv + o.length } a w m ρ := by
  rw [← R.nv] at h
  refine ⟨R.kept, ⟨fun id c cs b hl hm hg => ?_, fun id c r rc hl hm hg => ?_, R.heap.sep⟩, fun t c sv hl => ?_, R.defers, R.size, by rw [List.length_append, R.nv]⟩
  · obtain ⟨h1, h2⟩ := lt_box h hl
    obtain ⟨vs, T, h3, h4⟩ := R.heap.boxes id c cs b hl hm ((Conds.den_ext c h1).1 hg)
    exact ⟨vs, T, h3, h4.map fun i hi v hv => hv.ext (SV.lts_getD h2 i hi)⟩
  · obtain ⟨h1, h2⟩ := lt_row h hl
    obtain ⟨h3, h4, h5⟩ := R.heap.rows id c r rc hl hm ((Conds.den_ext c h1).1 hg)
    exact ⟨by rw [X.den_ext _ h2]; exact h3, h4, h5⟩
  · obtain ⟨h1, h2⟩ := lt_slot h hl
    exact (R.slots t c sv hl).map (Conds.den_ext c h1) fun v hv => hv.ext h2
theorem Rel.put (R : Rel cx w0 env st a w m ρ) (hd : dstOk st o = true) {sv : SV} {v : Value} (h1 : g.den env → SVR cx w m ρ env sv v) (h2 : ¬ g.den env → v = undef) : Rel cx w0 env (st.put o.dst g sv) (a.put o.dst v) w m ρ := by
  refine ⟨R.kept, ?_, slots_put R hd R.slots h1 h2, by rw [put_defers]; exact R.defers, by rw [(st_put_boxes st o.dst g sv).2.2.2]; exact R.size.putD hd, by rw [(st_put_boxes st o.dst g sv).2.2.1]; exact R.nv⟩
  rw [(st_put_boxes st o.dst g sv).1, (st_put_boxes st o.dst g sv).2.1]
  exact R.heap
theorem run_equal_nil {xt : TypeId} {e : TypeId} (hu : P.underlying xt = some (.slice e)) (ad : Option Addr) (n cap : Nat) : (Op.equal xt (.slice ad n cap) (.slice none 0 0)).run P w = .ok ad.isNone w := by
  unfold Op.equal
  rw [show Op.maxDepth = 9999 + 1 from rfl]
  unfold Op.equalIn
  cases ad <;> simp [run_underlying hu]
theorem nil_run {op : BinOp} {xt yt e : TypeId} {x y : Operand} {ad : Option Addr} {n cap : Nat} (ho : o.op = .binOp op xt x y yt) (hu : P.underlying xt = some (.slice e)) (hx : a.eval x = .slice ad n cap) (hy : a.eval y = .slice none 0 0) :
    (op = .eql → (execOp a.eval o).run P w = .ok (.value (.bool ad.isNone)) w) ∧ (op = .neq → (execOp a.eval o).run P w = .ok (.value (.bool (!ad.isNone))) w) := by
  constructor
  · rintro rfl
    simp [execOp, ho, hx, hy, eqGuard, binOp, run_equal_nil hu]
  · rintro rfl
    simp [execOp, ho, hx, hy, eqGuard, binOp, run_equal_nil hu]
theorem stepNil_sound {items : List Item} {st' : St} (R : Rel cx w0 env st a w m ρ) (hs : stepNil P st o = some (items, st')) (hdst : dstOk st o = true) (hd : (Item.wrap items k).den P clo Qd κ env)
    (hK : ∀ env' a' w' m' ρ', env <+: env' → k.den P clo Qd κ env' → Rel cx w0 env' st' a' w' m' ρ' → K a' w') : o.wp P a w K Q := by
  unfold stepNil at hs
  split at hs
  rotate_left
  · cases hs
  rename_i op xt x y yt ho
  have key : ∀ e src ks l (X' : SV), P.underlying xt = some (.slice e) → st.get [] x = some (.sl src ks l) → st.get [] y = some .nilsl → st.lt st.nv = true → (op = .eql ∧ X' = .boo (.var st.nv) ∨ op = .neq ∧ X' = .boo (.o1 .not (.var st.nv))) →
      some ([Item.nilq l], { st.put o.dst [] X' with nv := st.nv + 1 }) = some (items, st') → o.wp P a w K Q := by
    intro e src ks l X' hu hx hy hlt hop heq
    cases heq
    have hvx := eval_get R (g' := []) trivial hx
    have hvy := eval_get R (g' := []) trivial hy
    generalize hyv : a.eval y = vy at hvy
    cases hvy
    generalize hxv : a.eval x = vx at hvx
    cases hvx with
    | sl h1 h2 =>
    obtain ⟨xs, ad, cap, d1, d2, d3, d4⟩ := h2.shape
    rw [d2] at hxv
    have hrun := nil_run (w := w) ho hu hxv hyv
    have hnil : ad.isNone = true → (l.den env).toL = [] := by
      intro hn
      rw [d1]
      cases ad with
      | some _ => cases hn
      | none =>
        rw [d1, d2] at h2
        generalize hv : Value.slice none xs.length cap = v at h2
        generalize hdx : D.lst xs = dx at h2 ⊢
        cases h2 with
        | flat h => cases h
        | nil => rfl
        | sl => cases hv
    simp only [Item.wrap, T.den] at hd
    have hk := hd ad.isNone hnil
    have hev : ∀ b : Bool, (X.var st.nv).den (env ++ [.bool b]) = .bool b := fun b => by
      have : st.nv = env.length := R.nv.symm
      simp [X.den, this, List.getD_eq_getElem?_getD]
    have R' := R.ext hlt [.bool ad.isNone]
    have hdst' : dstOk { st with nv := st.nv + [D.bool ad.isNone].length } o = true := hdst
    have hput : ∀ (v : Value), SVR cx w m ρ (env ++ [.bool ad.isNone]) X' v → K (a.put o.dst v) w := by
      intro v hv
      have := R'.put (g := []) hdst' (fun _ => hv) (fun h => absurd trivial h)
      refine hK _ _ w m ρ (List.prefix_append _ _) hk ?_
      have e2 : ({ st with nv := st.nv + [D.bool ad.isNone].length } : St).put o.dst [] X' = { st.put o.dst [] X' with nv := st.nv + 1 } := by
        cases o.dst <;> rfl
      rw [e2] at this
      exact this
    unfold Oper.wp
    rcases hop with ⟨rfl, rfl⟩ | ⟨rfl, rfl⟩
    · rw [hrun.1 rfl, Oper.upon_value]
      exact hput _ (.boo (hev _))
    · rw [hrun.2 rfl, Oper.upon_value]
      refine hput _ (.boo ?_)
      change O1.den .not ((X.var st.nv).den _) = _
      rw [hev]
      rfl
  split at hs
  · rename_i e src ks l hu hx hy
    split at hs
    · rename_i hc
      simp only [Bool.and_eq_true] at hc
      exact key _ _ _ _ _ hu hx hy hc.1 (.inl ⟨rfl, rfl⟩) hs
    · cases hs
  · rename_i e src ks l hu hx hy
    split at hs
    · rename_i hc
      simp only [Bool.and_eq_true] at hc
      exact key _ _ _ _ _ hu hx hy hc.1 (.inr ⟨rfl, rfl⟩) hs
    · cases hs
  · cases hs
theorem stepEff_sound {items : List Item} {st' : St} (hc : CxOk cx w0) (R : Rel cx w0 env st a w m ρ) (hs : stepEff P st o = some (items, st')) (hdst : dstOk st o = true) (hd : (Item.wrap items k).den P clo Qd κ env)
    (hK : ∀ a' w' m' ρ', k.den P clo Qd κ env → Rel cx w0 env st' a' w' m' ρ' → K a' w') : o.wp P a w K Q := by
  have hgone : ∀ ids, (st.gone ids).nt = st.nt := fun ids => ((Less.gone (env := env) R.heap.sep hc.gs ids st).1).nt
  unfold stepEff at hs
  split at hs
  · rename_i t pa pv ho
    split at hs
    · rename_i id off v n ha hv hn hod
      split at hs
      · rename_i cells hb
        split at hs
        · rename_i hcd
          simp only [Bool.and_eq_true] at hcd
          cases hs
          exact storeBox_sound hc R ho hod ha hv hn hb (nbeq hcd.1.1.1) (nble hcd.1.1.2) hcd.1.2 (nble hcd.2) fun a' w' m' ρ' R' => hK a' w' m' ρ' hd R'
        · cases hs
      · cases hs
    · rename_i id i off v n ha hv hn hod
      split at hs
      · rename_i r hb
        split at hs
        · rename_i xs ids hx
          split at hs
          · rename_i hcd
            simp only [Bool.and_eq_true] at hcd
            split at hs
            · rename_i ht
              cases hs
              exact storeRow_sound hc R ho hod ha hv hn hb hx (nbeq hcd.1.1.1) (nble hcd.1.1.2) hcd.1.2 (nble hcd.2) ht fun a' w' m' ρ' R' => hK a' w' m' ρ' hd R'
            · cases hs
          · cases hs
        · cases hs
      · cases hs
    · cases hs
  · rename_i args argTypes ho
    split at hs
    · rename_i x y t t' d hargs htypes hod
      have ha' : args = #[x, y] := by rw [← hargs]
      have ht' : argTypes = #[t, t'] := by rw [← htypes]
      subst ha' ht'
      have hdlt : d < st.nt.1 ∧ st.nt.2 ≤ d := dstOk_lt hdst hod
      split at hs
      · rename_i e ks sa sb he hx hy
        split at hs
        · rename_i hcd
          simp only [Bool.and_eq_true] at hcd
          have htt := nbeq hcd.1
          subst htt
          obtain ⟨zs, hz⟩ := Option.isSome_iff_exists.1 hcd.2
          obtain ⟨u1, _, _, _⟩ := sliceElem_ok he
          split at hs
          · rename_i xx ids hsrc
            obtain ⟨ys, news, fpn, s1, s2, s3⟩ := srcX_ok (P := P) (t := t) R u1 hsrc (eval_get R (g' := []) trivial hy)
            split at hs
            · rename_i id pre
              split at hs
              · rename_i r hr
                split at hs
                · rename_i hcd2
                  rw [Bool.and_eq_true, Bool.and_eq_true, Bool.and_eq_true] at hcd2
                  cases hs
                  have hk := CK.beqs_eq _ _ hcd2.1.1.1
                  subst hk
                  have hnd := List.nodup_cons.1 (noDup_iff.1 hcd2.1.1.2)
                  obtain ⟨rc, xs, fp', o1, o2, o3, o4, o5, o6, o7⟩ := ov_own R.heap (g := []) trivial hr (eval_get R (g' := []) trivial hx)
                  simp only [Item.wrap, T.den] at hd
                  have hfit := hd.1 trivial
                  have hlen : (X.len xx).den env = .int ys.length := len_den s1
                  simp only [X.den, O2.den, o4, hlen, D.toI, D.toB, decide_eq_true_eq] at hfit
                  rw [o2] at o5
                  have hxl : (xx.den env).toL.length = ys.length := by rw [s1]; rfl
                  refine append_step hc R (ids := id :: ids) (c := .o2 .app (preC r pre) xx) ho hod he hz o2 o5 (o6.nodup (R.heap.sep.nodup id rc o1)) (fun b hb => ⟨id, by simp, rc, o1, o6.subset hb⟩) s2 (fun b hb => ?_) (fun b hb hb' => ?_) hfit ?_ hcd2.2 hdlt
                    fun a' w' m' ρ' R' => hK a' w' m' ρ' hd.2 R'
                  · obtain ⟨q, h1, h2⟩ := s3 b hb
                    exact ⟨q, List.mem_cons_of_mem _ h1, h2⟩
                  · obtain ⟨q, h1, rq, h2, h3⟩ := s3 b hb'
                    have := R.heap.sep.rows id q rc rq b o1 h2 (o6.subset hb) h3
                    exact hnd.1 (this ▸ h1)
                  · simp only [X.den, O2.den, o3, s1, D.toL]
                · cases hs
              · cases hs
            · split at hs
              · rename_i hcd2
                rw [Bool.and_eq_true] at hcd2
                cases hs
                have hvx := eval_get R (g' := []) trivial hx
                generalize hxv : a.eval x = vx at hvx
                cases hvx
                simp only [Item.wrap, T.den] at hd
                have hfit := hd.1 trivial
                have hlen : (X.len xx).den env = .int ys.length := len_den s1
                simp only [X.den, O2.den, hlen, D.toI, D.toB, decide_eq_true_eq] at hfit
                refine append_step hc R (ids := ids) (xs := []) (fp := []) (c := xx) ho hod he hz hxv .nil (by simp) (by simp) s2 s3 (by simp) (by simpa using hfit) (by rw [s1]; simp) hcd2.2 hdlt
                  fun a' w' m' ρ' R' => hK a' w' m' ρ' hd.2 R'
              · cases hs
            · cases hs
          · cases hs
        · cases hs
      · cases hs
    · cases hs
  · rename_i t n parts ho
    split at hs
    · rename_i e ks d he hod
      split at hs
      · rename_i xs ids zs hx hz
        split at hs
        · rename_i hcd
          rw [Bool.and_eq_true, Bool.and_eq_true, Bool.and_eq_true] at hcd
          cases hs
          exact buildEff_sound hc R ho hod he hx hz (nbeq hcd.1.1.1) (nble hcd.1.1.2) hcd.1.2 hcd.2 (dstOk_lt hdst hod) fun a' w' m' ρ' R' => hK a' w' m' ρ' hd R'
        · cases hs
      · cases hs
    · cases hs
  · rename_i x ho
    split at hs
    · rename_i id n d hx hod
      split at hs
      · rename_i r hr
        split at hs
        · rename_i hcd
          cases hs
          exact assignEff_sound hc R ho hod hx hr hcd (dstOk_lt hdst hod) fun a' w' m' ρ' R' => hK a' w' m' ρ' hd R'
        · cases hs
      · cases hs
    · cases hs
  · cases hs
    simp only [Item.wrap, T.den] at hd
    exact absurd (hd.1 trivial) (by simp [X.den, D.toB])
  · cases hs
    simp only [Item.wrap, T.den] at hd
    exact absurd (hd.1 trivial) (by simp [X.den, D.toB])
  · cases hs
end
end Go.Proofs.Ytfbahdalemajcaa.Eng
