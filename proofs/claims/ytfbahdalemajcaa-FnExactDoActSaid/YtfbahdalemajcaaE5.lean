/- The engine of this claim: a symbolic executor over the model and the proof that what it says of a function is so. Part E5. -/
import Derived.Test.YtfbahdalemajcaaE4
/-
  The engine: a list of operations, in the text's order.
-/
namespace Go.Proofs.Ytfbahdalemajcaa.Eng
section
variable {P : Program} {cx : Cx} {w0 w w' : World} {m m' : BoxM} {ρ ρ' : RowM} {env : List D} {st : St} {g : Conds} {a : Act} {o : Oper} {ops : Array Oper} {clo : Nat → CloD} {Qd : List D → Prop} {κ : Nat → List D → Prop} {k : T}
  {K : Act → World → Prop} {Q : Exit → Act → World → Prop}
theorem stepOp_sound {md : Modes} {items : List Item} {st' : St} (hc : CxOk cx w0) (hclo : CloOk cx w0 clo) (R : Rel cx w0 env st a w m ρ) (hs : stepOp P md ops st o = some (items, st'))
    (hd : (Item.wrap items k).den P clo Qd κ env) (hK : ∀ env' a' w' m' ρ', env <+: env' → k.den P clo Qd κ env' → Rel cx w0 env' st' a' w' m' ρ' → K a' w') : stepWp P ops o a w K Q := by
  unfold stepOp at hs
  split at hs
  · cases hs
  rename_i g hgo
  split at hgo
  rotate_left
  · cases hgo
  rename_i hdst
  split at hs
  · rename_i r he
    exact stepPure_sound hc R hgo he hs hdst hd fun a' w' m' ρ' h1 h2 => hK env a' w' m' ρ' List.prefix_rfl h1 h2
  split at hs
  · rename_i r he
    exact stepCall_sound hc hclo R hgo he hs hdst hd hK
  split at hs
  rotate_left
  · cases hs
  have hw := wanted_iff (ops := ops) R hgo
  unfold stepWp
  rw [if_pos (hw.2 trivial)]
  left
  split at hs
  · rename_i r he
    cases hs
    exact stepEff_sound hc R he hdst hd fun a' w' m' ρ' h1 h2 => hK env a' w' m' ρ' List.prefix_rfl h1 h2
  · exact stepNil_sound R hs hdst hd hK
theorem execOps_sound {md : Modes} {Kt : St → T} (hc : CxOk cx w0) (hclo : CloOk cx w0 clo) : ∀ (l : List Oper) (st : St) (env : List D) (a : Act) (w : World) (m : BoxM) (ρ : RowM), Rel cx w0 env st a w m ρ → (execOps P md ops l st Kt).den P clo Qd κ env →
    (∀ env' st' a' w' m' ρ', env <+: env' → (Kt st').den P clo Qd κ env' → Rel cx w0 env' st' a' w' m' ρ' → Q .normal a' w') → wpList P ops Q l a w
  | [], st, env, a, w, m, ρ, R, hd, hK => hK env st a w m ρ List.prefix_rfl hd R
  | o :: rest, st, env, a, w, m, ρ, R, hd, hK => by
    simp only [execOps] at hd
    split at hd
    · rename_i items st' hs
      exact stepOp_sound (K := wpList P ops Q rest) hc hclo R hs hd fun env' a' w' m' ρ' hp h1 h2 => execOps_sound hc hclo rest st' env' a' w' m' ρ' h2 h1 fun env'' st'' a'' w'' m'' ρ'' hp' => hK env'' st'' a'' w'' m'' ρ'' (hp.trans hp')
    · exact hd.elim
end
end Go.Proofs.Ytfbahdalemajcaa.Eng

/-
  The engine: regions that draw their order: maps, closures, records.
-/
namespace Go.Proofs.Ytfbahdalemajcaa.Eng
mutual
theorem SV.beq_eq : ∀ (a b : SV), SV.beq a b = true → a = b
  | .num k x, b, h => by cases b <;> simp_all [SV.beq]
  | .boo x, b, h => by cases b <;> simp_all [SV.beq]
  | .txt x, b, h => by cases b <;> simp_all [SV.beq]
  | .sl s ks x, b, h => by
    cases b <;> simp only [SV.beq, Bool.and_eq_true, Bool.false_eq_true] at h
    rw [CK.beqs_eq _ _ h.1.2, eq_of_beq h.1.1, eq_of_beq h.2]
  | .agg cs, b, h => by
    cases b <;> simp only [SV.beq, Bool.false_eq_true] at h
    rw [SV.beqs_eq _ _ h]
  | .tup cs, b, h => by
    cases b <;> simp only [SV.beq, Bool.false_eq_true] at h
    rw [SV.beqs_eq _ _ h]
  | .bp id off, b, h => by cases b <;> simp_all [SV.beq]
  | .ep s ks x o, b, h => by
    cases b <;> simp only [SV.beq, Bool.and_eq_true, Bool.false_eq_true] at h
    rw [CK.beqs_eq _ _ h.1.1.2, eq_of_beq h.1.1.1, eq_of_beq h.1.2, eq_of_beq h.2]
  | .ov id p, b, h => by cases b <;> simp_all [SV.beq]
  | .ow id x y, b, h => by cases b <;> simp_all [SV.beq]
  | .nv id x c, b, h => by cases b <;> simp_all [SV.beq]
  | .oep id x o, b, h => by cases b <;> simp_all [SV.beq]
  | .clo f cs, b, h => by
    cases b <;> simp only [SV.beq, Bool.and_eq_true, Bool.false_eq_true] at h
    rw [SV.beqs_eq _ _ h.2, eq_of_beq h.1]
  | .clop j, b, h => by cases b <;> simp_all [SV.beq]
  | .nilsl, b, h => by cases b <;> simp_all [SV.beq]
  | .ai k, b, h => by cases b <;> simp_all [SV.beq]
  | .an, b, h => by cases b <;> simp_all [SV.beq]
  | .top, b, h => by cases b <;> simp_all [SV.beq]
theorem SV.beqs_eq : ∀ (a b : List SV), SV.beqs a b = true → a = b
  | [], [], _ => rfl
  | [], _ :: _, h => by simp [SV.beqs] at h
  | _ :: _, [], h => by simp [SV.beqs] at h
  | a :: l, b :: m, h => by
    simp only [SV.beqs, Bool.and_eq_true] at h
    rw [SV.beq_eq _ _ h.1, SV.beqs_eq _ _ h.2]
end
theorem Row.beq_eq {a b : Row} (h : a.beq b = true) : a = b := by
  obtain ⟨k, c⟩ := a
  obtain ⟨k', c'⟩ := b
  simp only [Row.beq, Bool.and_eq_true] at h
  rw [CK.beqs_eq _ _ h.1, eq_of_beq h.2]
theorem rowEntry_eq {m : List (Nat × Conds × Row)} {e : Nat × Conds × Row} (h : rowEntry m e = true) : look m e.1 = some e.2 := by
  unfold rowEntry at h
  split at h
  · rename_i c r hl
    rw [Bool.and_eq_true] at h
    rw [hl, eq_of_beq h.1, Row.beq_eq h.2]
  · cases h
theorem boxEntry_eq {m : List (Nat × Conds × List SV)} {e : Nat × Conds × List SV} (h : boxEntry m e = true) : look m e.1 = some e.2 := by
  unfold boxEntry at h
  split at h
  · rename_i c r hl
    rw [Bool.and_eq_true] at h
    rw [hl, eq_of_beq h.1, SV.beqs_eq _ _ h.2]
  · cases h
theorem slotEntry_eq {m : List (Nat × Conds × SV)} {t : Nat} {g : Conds} {sv : SV} (h : slotEntry m t g sv = true) : look m t = some (g, sv) := by
  unfold slotEntry at h
  split at h
  · rename_i c r hl
    rw [Bool.and_eq_true] at h
    rw [hl, eq_of_beq h.1, SV.beq_eq _ _ h.2]
  · cases h
/-! ### maps -/
section
variable {α : Type}
def filterK (p : Nat → Bool) (l : List (Nat × α)) : List (Nat × α) := l.filter fun e => p e.1
theorem look_filterK (p : Nat → Bool) : ∀ (l : List (Nat × α)) (i : Nat), look (filterK p l) i = if p i then look l i else none
  | [], i => by simp [filterK, look]
  | (j, a) :: l, i => by
    have ih := look_filterK p l i
    unfold filterK at ih ⊢
    rw [List.filter_cons]
    split
    · rename_i hp
      rw [look_cons, look_cons, ih]
      split
      · rename_i he; subst he; simp at hp; simp [hp]
      · rfl
    · rename_i hp
      rw [ih, look_cons]
      split
      · rename_i he
        split
        · rename_i hj; subst hj; exact absurd he hp
        · rfl
      · rfl
theorem look_filterK_some {p : Nat → Bool} {l : List (Nat × α)} {i : Nat} {x : α} (h : look (filterK p l) i = some x) : p i = true ∧ look l i = some x := by
  rw [look_filterK] at h
  split at h
  · exact ⟨‹_›, h⟩
  · cases h
theorem look_updAll : ∀ (l m : List (Nat × α)) (i : Nat), (∀ p ∈ l, p.1 ≠ i) → look (updAll m l) i = look m i
  | [], m, i, _ => rfl
  | (j, a) :: l, m, i, h => by
    rw [updAll, look_updAll l _ i fun p hp => h p (List.mem_cons_of_mem _ hp), look_upd, if_neg (h (j, a) (by simp))]
theorem newSlots_mem {m : List (Nat × Conds × SV)} : ∀ (l : List (Nat × Oper)) (p : Nat × Conds × SV), p ∈ newSlots m l → ∃ q ∈ l, q.2.dst = some p.1
  | [], p, h => by simp [newSlots] at h
  | (i, o) :: l, p, h => by
    have tl : p ∈ newSlots m l → ∃ q ∈ (i, o) :: l, q.2.dst = some p.1 := fun h => by
      obtain ⟨q, h1, h2⟩ := newSlots_mem l p h
      exact ⟨q, List.mem_cons_of_mem _ h1, h2⟩
    simp only [newSlots] at h
    split at h
    · rename_i t ht
      split at h
      · rcases List.mem_cons.1 h with rfl | h
        · exact ⟨(i, o), by simp, ht⟩
        · exact tl h
      · exact tl h
    · exact tl h
theorem dstA_none : ∀ (l : List (Nat × Oper)) (t : Nat), dstA l t = none → ∀ q ∈ l, q.2.dst ≠ some t
  | [], t, _ => by simp
  | (i, o) :: l, t, h => by
    simp only [dstA] at h
    intro q hq
    split at h
    · rename_i u hu
      cases hb : Nat.beq u t with
      | true => rw [hb] at h; cases h
      | false =>
        rw [hb] at h
        rcases List.mem_cons.1 hq with rfl | hq
        · simp only [hu]; intro he; cases he; rw [Nat.beq_refl] at hb; cases hb
        · exact dstA_none l t h q hq
    · rename_i hu
      rcases List.mem_cons.1 hq with rfl | hq
      · simp [hu]
      · exact dstA_none l t h q hq
theorem dstA_some : ∀ (l : List (Nat × Oper)) (t j : Nat), dstA l t = some j → ∃ q ∈ l, q.1 = j ∧ q.2.dst = some t
  | [], t, j, h => by simp [dstA] at h
  | (i, o) :: l, t, j, h => by
    have tl : dstA l t = some j → ∃ q ∈ (i, o) :: l, q.1 = j ∧ q.2.dst = some t := fun h => by
      obtain ⟨q, h1, h2⟩ := dstA_some l t j h
      exact ⟨q, List.mem_cons_of_mem _ h1, h2⟩
    simp only [dstA] at h
    split at h
    · rename_i u hu
      cases hb : Nat.beq u t with
      | true => rw [hb] at h; cases h; exact ⟨(i, o), by simp, rfl, by rw [hu, nbeq hb]⟩
      | false => rw [hb] at h; exact tl h
    · exact tl h
theorem look_newKeys {old m : List (Nat × α)} {i : Nat} (h : ∀ p ∈ newKeys old m, p.1 ≠ i) : look (newKeys old m ++ old) i = look old i := by
  rw [look_append]
  cases hl : look (newKeys old m) i with
  | none => rfl
  | some x => exact absurd rfl (h _ (look_mem hl))
end
/-! ### what comes before what -/
theorem number_mem : ∀ (l : List Oper) (n i : Nat) (o : Oper), (i, o) ∈ number n l → n ≤ i ∧ l[i - n]? = some o
  | [], n, i, o, h => by simp [number] at h
  | x :: l, n, i, o, h => by
    simp only [number] at h
    rcases List.mem_cons.1 h with h | h
    · cases h; simp
    · obtain ⟨h1, h2⟩ := number_mem l (n + 1) i o h
      refine ⟨by omega, ?_⟩
      have : i - n = (i - (n + 1)) + 1 := by omega
      rw [this]; simpa using h2
theorem mem_number : ∀ (l : List Oper) (n i : Nat) (o : Oper), l[i]? = some o → (n + i, o) ∈ number n l
  | [], n, i, o, h => by simp at h
  | x :: l, n, i, o, h => by
    simp only [number]
    cases i with
    | zero => simp at h; subst h; simp
    | succ i =>
      have := mem_number l (n + 1) i o (by simpa using h)
      have e : n + (i + 1) = n + 1 + i := by omega
      rw [e]; exact List.mem_cons_of_mem _ this
theorem mem_addN : ∀ (l s : List Nat) (k : Nat), k ∈ addN l s → k ∈ l ∨ k ∈ s
  | [], s, k, h => .inr h
  | i :: l, s, k, h => by
    simp only [addN] at h
    split at h
    · rcases mem_addN l s k h with h | h
      · exact .inl (List.mem_cons_of_mem _ h)
      · exact .inr h
    · rcases mem_addN l _ k h with h | h
      · exact .inl (List.mem_cons_of_mem _ h)
      · rcases List.mem_cons.1 h with rfl | h
        · exact .inl (by simp)
        · exact .inr h
theorem mem_clFold {acc : List (List Nat)} : ∀ (es : List Edge) (s : List Nat) (k : Nat), k ∈ es.foldl (fun s e => if Region.binds .any e then addN (e.on :: acc.getD e.on []) s else s) s →
    k ∈ s ∨ ∃ e ∈ es, Region.binds .any e = true ∧ (k = e.on ∨ k ∈ acc.getD e.on [])
  | [], s, k, h => .inl h
  | e :: es, s, k, h => by
    simp only [List.foldl_cons] at h
    rcases mem_clFold es _ k h with h | ⟨e', h1, h2⟩
    · split at h
      · rename_i hb
        rcases mem_addN _ _ k h with h | h
        · exact .inr ⟨e, by simp, hb, by simpa using h⟩
        · exact .inl h
      · exact .inl h
    · exact .inr ⟨e', List.mem_cons_of_mem _ h1, h2⟩
theorem closure_keep : ∀ (l : List Oper) (acc : List (List Nat)) (i : Nat), i < acc.length → (closure l acc).getD i [] = acc.getD i []
  | [], acc, i, _ => rfl
  | o :: l, acc, i, h => by
    rw [closure, closure_keep l _ i (by simp; omega)]
    simp [List.getD_eq_getElem?_getD, List.getElem?_append, h]
theorem closure_spec : ∀ (l : List Oper) (acc : List (List Nat)) (i : Nat) (o : Oper), l[i]? = some o → (∀ e ∈ o.after.toList, Region.binds .any e = true → e.on < acc.length + i) → ∀ k ∈ (closure l acc).getD (acc.length + i) [],
    ∃ e ∈ o.after.toList, Region.binds .any e = true ∧ (k = e.on ∨ k ∈ (closure l acc).getD e.on [])
  | [], acc, i, o, h, _, _, _ => by simp at h
  | x :: l, acc, i, o, h, hlow, k, hk => by
    rw [closure] at hk ⊢
    cases i with
    | zero =>
      simp only [List.getElem?_cons_zero, Option.some.injEq] at h
      subst h
      rw [closure_keep l _ _ (by simp)] at hk
      simp only [Nat.add_zero, List.getD_eq_getElem?_getD, List.getElem?_append_right (Nat.le_refl _), Nat.sub_self, List.getElem?_cons_zero, Option.getD_some] at hk
      rcases mem_clFold _ _ k hk with h | ⟨e, h1, h2, h3⟩
      · simp at h
      · refine ⟨e, h1, h2, h3.imp id fun h => ?_⟩
        have := hlow e h1 h2
        rw [closure_keep l _ _ (by simp; omega)]
        simpa [List.getD_eq_getElem?_getD, List.getElem?_append, show e.on < acc.length by omega] using h
    | succ i =>
      have := closure_spec l (acc ++ [x.after.toList.foldl (fun s e => if Region.binds .any e then addN (e.on :: acc.getD e.on []) s else s) []]) i o (by simpa using h)
        (fun e h1 h2 => by have := hlow e h1 h2; simp; omega) k (by simpa [Nat.add_assoc, Nat.add_comm 1 i] using hk)
      exact this
/-! ### the records -/
def Rec.kind (P : Program) (md : Modes) (st : St) (e : Rec) : Prop :=
  match e.k with
  | .pure r => evalPure P st e.g e.o.op = some r
  | .call _ r => evalCall P md st e.g e.o = some r
/-- The calls' variables, one behind the other. -/
def callNums : Nat → List Rec → Prop
  | _, [] => True
  | v, e :: l => match e.k with
    | .pure _ => callNums v l
    | .call v' r => v' = v ∧ callNums (v + r.rs.length) l
theorem recsOf_ok {P : Program} {md : Modes} {ops : Array Oper} {st : St} : ∀ (l : List (Nat × Oper)) (v : Nat) (recs : List Rec), recsOf P md ops st v l = some recs →
    recs.map (fun e => (e.i, e.o)) = l ∧ (∀ e ∈ recs, guardOf st ops e.o = some e.g ∧ e.o.dst = some e.t ∧ e.kind P md st) ∧ callNums v recs
  | [], v, recs, h => by simp only [recsOf] at h; cases h; simp [callNums]
  | (i, o) :: l, v, recs, h => by
    simp only [recsOf] at h
    split at h
    · rename_i g t hg ht
      split at h
      · rename_i r hr
        split at h
        · rename_i l' hl
          cases h
          obtain ⟨h1, h2, h3⟩ := recsOf_ok l v l' hl
          refine ⟨by simp [h1], fun e he => ?_, h3⟩
          rcases List.mem_cons.1 he with rfl | he
          · exact ⟨hg, ht, hr⟩
          · exact h2 e he
        · cases h
      · split at h
        · rename_i r hr
          split at h
          · rename_i l' hl
            cases h
            obtain ⟨h1, h2, h3⟩ := recsOf_ok l _ l' hl
            refine ⟨by simp [h1], fun e he => ?_, rfl, h3⟩
            rcases List.mem_cons.1 he with rfl | he
            · exact ⟨hg, ht, hr⟩
            · exact h2 e he
          · cases h
        · cases h
    · cases h
theorem runA_tail {P : Program} {md : Modes} {ops : Array Oper} : ∀ (l : List (Nat × Oper)) (st : St), ∀ p ∈ (runA P md ops l st).2, p ∈ l
  | [], st => by simp [runA]
  | (i, o) :: l, st => by
    intro p hp
    simp only [runA] at hp
    split at hp
    · exact hp
    · split at hp
      · split at hp
        · exact List.mem_cons_of_mem _ (runA_tail l _ p hp)
        · exact hp
      · split at hp
        · split at hp
          · exact List.mem_cons_of_mem _ (runA_tail l _ p hp)
          · exact hp
        · exact hp
theorem X.top_le {n : Nat} : ∀ {x : X}, x.lt n = true → x.top ≤ n
  | .var i, h => by simp only [X.lt] at h; exact Nat.lt_of_lt_of_le (Nat.lt_succ_self i) (by simpa [X.top, Nat.blt] using h)
  | .int _, _ | .bool _, _ | .str _, _ | .nil, _ => Nat.zero_le _
  | .o1 _ x, h => X.top_le (x := x) h
  | .o2 _ x y, h => by simp only [X.lt, Bool.and_eq_true] at h; exact Nat.max_le.2 ⟨X.top_le h.1, X.top_le h.2⟩
  | .o3 _ x y z, h => by simp only [X.lt, Bool.and_eq_true] at h; exact Nat.max_le.2 ⟨X.top_le h.1.1, Nat.max_le.2 ⟨X.top_le h.1.2, X.top_le h.2⟩⟩
theorem X.lt_of_top {n : Nat} : ∀ {x : X}, x.top ≤ n → x.lt n = true
  | .var i, h => by simpa [X.lt, X.top, Nat.blt] using h
  | .int _, _ | .bool _, _ | .str _, _ | .nil, _ => rfl
  | .o1 _ x, h => X.lt_of_top (x := x) h
  | .o2 _ x y, h => by have h := Nat.max_le.1 h; simp only [X.lt, Bool.and_eq_true]; exact ⟨X.lt_of_top h.1, X.lt_of_top h.2⟩
  | .o3 _ x y z, h => by have h := Nat.max_le.1 h; have h2 := Nat.max_le.1 h.2; simp only [X.lt, Bool.and_eq_true]; exact ⟨⟨X.lt_of_top h.1, X.lt_of_top h2.1⟩, X.lt_of_top h2.2⟩
theorem Conds.top_le {n : Nat} : ∀ {g : Conds}, Conds.lt n g = true → Conds.top g ≤ n
  | [], _ => Nat.zero_le _
  | (x, _) :: g, h => by simp only [Conds.lt, Bool.and_eq_true] at h; exact Nat.max_le.2 ⟨X.top_le h.1, Conds.top_le h.2⟩
theorem Conds.lt_of_top {n : Nat} : ∀ {g : Conds}, Conds.top g ≤ n → Conds.lt n g = true
  | [], _ => rfl
  | (x, _) :: g, h => by have h := Nat.max_le.1 h; simp only [Conds.lt, Bool.and_eq_true]; exact ⟨X.lt_of_top h.1, Conds.lt_of_top h.2⟩
end Go.Proofs.Ytfbahdalemajcaa.Eng

/-
  The engine: regions that draw their order: what the state says when some of the operations have run.
-/
namespace Go.Proofs.Ytfbahdalemajcaa.Eng
section
variable {P : Program} {cx : Cx} {w0 w w' : World} {m m' : BoxM} {ρ ρ' : RowM} {env : List D} {st stF : St} {g : Conds} {a : Act} {o : Oper} {ops : Array Oper} {clo : Nat → CloD} {Qd : List D → Prop} {κ : Nat → List D → Prop} {k : T}
  {K : Act → World → Prop} {Q : Exit → Act → World → Prop} {md : Modes} {opsA tail : List (Nat × Oper)} {cl : List (List Nat)} {recs : List Rec} {S S' : Nat → Bool} {e : Rec} {nv : Nat}
/-- What the check has found. -/
structure Drawn (P : Program) (md : Modes) (ops : Array Oper) (st stF : St) (opsA tail : List (Nat × Oper)) (cl : List (List Nat)) (recs : List Rec) : Prop where
  lt : st.lt st.nv = true
  noSel : Region.noSelect ops = true
  low : ∀ i o, ops[i]? = some o → ∀ e ∈ o.after.toList, Region.binds .any e = true → e.on < i
  clo : ∀ i o, ops[i]? = some o → ∀ k ∈ cl.getD i [], ∃ e ∈ o.after.toList, Region.binds .any e = true ∧ (k = e.on ∨ k ∈ cl.getD e.on [])
  hA : ∀ p ∈ opsA, ops[p.1]? = some p.2
  hT : ∀ p ∈ tail, ops[p.1]? = some p.2
  all : ∀ i o, ops[i]? = some o → (∃ p ∈ tail, p.1 = i) ∨ (i, o) ∈ opsA
  disj : ∀ p ∈ opsA, ∀ q ∈ tail, p.1 ≠ q.1
  tailNd : (tail.map (·.1)).Nodup
  map : recs.map (fun e => (e.i, e.o)) = opsA
  uniq : ∀ e ∈ recs, ∀ q ∈ recs, e.i = q.i → e = q
  kind : ∀ e ∈ recs, guardOf stF ops e.o = some e.g ∧ e.o.dst = some e.t ∧ e.kind P md stF
  nums : callNums st.nv recs
  ok : ∀ e ∈ recs, e.ok ops opsA cl stF recs = true
  ord : callsOrd cl [] recs = true
  tailOk : tailOk cl (opsA.map (·.1)) tail = true
  slotsF : ∀ t, dstA opsA t = none → look stF.slots t = look st.slots t
  boxesF : ∀ id, id ∉ recs.flatMap Rec.bornB → look stF.boxes id = look st.boxes id
  rowsF : ∀ id, id ∉ recs.flatMap Rec.bornR → look stF.rows id = look st.rows id
  freeS : ∀ t c sv, look st.slots t = some (c, sv) → sv.free (recs.flatMap Rec.born) = true
  freeB : ∀ id c cs, look st.boxes id = some (c, cs) → SV.frees (recs.flatMap Rec.born) cs = true
  nvF : stF.nv = st.nv + callVars recs
  ntF : stF.nt = st.nt
theorem rec_of (Dw : Drawn P md ops st stF opsA tail cl recs) {i : Nat} {o : Oper} (h : (i, o) ∈ opsA) : ∃ e ∈ recs, e.i = i ∧ e.o = o := by
  rw [← Dw.map] at h
  obtain ⟨e, h1, h2⟩ := List.mem_map.1 h
  cases h2
  exact ⟨e, h1, rfl, rfl⟩
theorem rec_mem (Dw : Drawn P md ops st stF opsA tail cl recs) (he : e ∈ recs) : (e.i, e.o) ∈ opsA := by
  rw [← Dw.map]; exact List.mem_map.2 ⟨e, he, rfl⟩
/-- The facts of one record. -/
structure RecF (ops : Array Oper) (opsA : List (Nat × Oper)) (cl : List (List Nat)) (st : St) (recs : List Rec) (e : Rec) : Prop where
  dst : dstA opsA e.t = some e.i
  deps : depsOk ops opsA (cl.getD e.i []) e.o = true
  lt : e.t < st.nt.1 ∧ st.nt.2 ≤ e.t
  slot : look st.slots e.t = some (e.g, e.res.1)
  rows : ∀ p ∈ e.res.2.1, look st.rows p.1 = some p.2
  boxes : ∀ p ∈ e.res.2.2, look st.boxes p.1 = some p.2
  pure : ∀ r, e.k = .pure r → r.box = none ∨ r.row = none
  call : ∀ v r, e.k = .call v r → r.still = true ∧ r.cu.Nodup ∧ (∀ id ∈ r.cu, lookAi st.boxes id = true ∧ id ∉ e.born) ∧ Conds.lt v e.g = true ∧ ∀ q ∈ recs, q.i = e.i ∨ e.i ∈ cl.getD q.i [] ∨ q.lt v = true
  free : e.born ≠ [] → ∀ q ∈ recs, q.i = e.i ∨ e.i ∈ cl.getD q.i [] ∨ q.free e.born = true
theorem rec_facts (Dw : Drawn P md ops st stF opsA tail cl recs) (he : e ∈ recs) : RecF ops opsA cl stF recs e := by
  have h := Dw.ok e he
  simp only [Rec.ok, Bool.and_eq_true] at h
  obtain ⟨⟨⟨⟨⟨⟨⟨⟨h1, h2⟩, h3⟩, h3b⟩, h4⟩, h5⟩, h6⟩, h7⟩, h8⟩ := h
  refine ⟨?_, h2, ?_, slotEntry_eq h4, fun p hp => rowEntry_eq (List.all_eq_true.1 h5 p hp), fun p hp => boxEntry_eq (List.all_eq_true.1 h6 p hp), fun r hr => ?_, fun v r hr => ?_, fun hne q hq => ?_⟩
  · split at h1
    · rename_i j hj; rw [hj, nbeq h1]
    · cases h1
  · exact ⟨Nat.lt_of_succ_le (Nat.le_of_ble_eq_true h3), nble h3b⟩
  · rw [hr] at h7
    simp only at h7
    split at h7
    · cases h7
    · rename_i hn
      cases hb : r.box with
      | none => exact .inl rfl
      | some b => cases hw : r.row with
        | none => exact .inr rfl
        | some x => exact absurd hw (hn b x hb)
  · rw [hr] at h7
    simp only [Bool.and_eq_true, List.all_eq_true] at h7
    obtain ⟨⟨⟨⟨a1, a2⟩, a3⟩, a4⟩, a5⟩ := h7
    refine ⟨a1, noDup_iff.1 a2, fun id hid => by have := a3 id hid; rw [Bool.not_eq_true'] at this; exact ⟨this.1, memN_false.1 this.2⟩, a4, fun q hq => ?_⟩
    have := a5 q hq
    simp only [Bool.or_eq_true] at this
    rcases this with (h | h) | h
    · exact .inl (nbeq h)
    · exact .inr (.inl (memN_iff.1 h))
    · exact .inr (.inr h)
  · split at h8
    · rename_i hb; exact absurd hb hne
    · have := List.all_eq_true.1 h8 q hq
      simp only [Bool.or_eq_true] at this
      rcases this with (h | h) | h
      · exact .inl (nbeq h)
      · exact .inr (.inl (memN_iff.1 h))
      · exact .inr (.inr h)
/-! ### the state, so far -/
def shownT (opsA : List (Nat × Oper)) (S : Nat → Bool) (t : Nat) : Bool := match dstA opsA t with | some j => S j | none => true
def shownI (f : Rec → List Nat) (recs : List Rec) (S : Nat → Bool) (id : Nat) : Bool := recs.all fun e => !memN id (f e) || S e.i
def view (stF : St) (opsA : List (Nat × Oper)) (recs : List Rec) (S : Nat → Bool) (nv : Nat) : St :=
  { slots := filterK (shownT opsA S) stF.slots, boxes := filterK (shownI Rec.bornB recs S) stF.boxes, rows := filterK (shownI Rec.bornR recs S) stF.rows, nv := nv, nt := stF.nt }
theorem shownI_iff {f : Rec → List Nat} {id : Nat} : shownI f recs S id = true ↔ ∀ e ∈ recs, id ∈ f e → S e.i = true := by
  simp only [shownI, List.all_eq_true, Bool.or_eq_true, Bool.not_eq_true', memN_false]
  constructor
  · intro h e he hb
    exact (h e he).resolve_left fun hn => hn hb
  · intro h e he
    by_cases hb : id ∈ f e
    · exact .inr (h e he hb)
    · exact .inl hb
theorem shownI_false {f : Rec → List Nat} {id : Nat} (h : shownI f recs S id = false) : ∃ e ∈ recs, id ∈ f e ∧ S e.i = false := by
  simp only [shownI, List.all_eq_false] at h
  obtain ⟨e, h1, h2⟩ := h
  simp only [Bool.or_eq_true, Bool.not_eq_true', not_or, Bool.not_eq_true] at h2
  refine ⟨e, h1, ?_, h2.2⟩
  have := h2.1
  rw [Bool.not_eq_false, memN_iff] at this
  exact this
/-- A state that says less. -/
theorem Rel.sub {st' : St} (R : Rel cx w0 env st a w m ρ) (h1 : ∀ t x, look st'.slots t = some x → look st.slots t = some x) (h2 : ∀ t x, look st'.boxes t = some x → look st.boxes t = some x) (h3 : ∀ t x, look st'.rows t = some x → look st.rows t = some x)
    (h4 : st'.nv = st.nv) (h5 : st'.nt = st.nt) : Rel cx w0 env st' a w m ρ :=
  ⟨R.kept, ⟨fun id c cs b hl => R.heap.boxes id c cs b (h2 _ _ hl), fun id c r rc hl => R.heap.rows id c r rc (h3 _ _ hl), R.heap.sep⟩, fun t c sv hl => R.slots t c sv (h1 _ _ hl), R.defers, by rw [h5]; exact R.size, by rw [h4]; exact R.nv⟩
/-- Boxes and rows that nothing speaks of may be forgotten. -/
def hideM {α : Type} (m : Nat → Option α) (js : Nat → Bool) : Nat → Option α := fun i => if js i then none else m i
theorem hideM_some {α : Type} {m : Nat → Option α} {js : Nat → Bool} {i : Nat} {x : α} (h : hideM m js i = some x) : js i = false ∧ m i = some x := by
  unfold hideM at h
  split at h
  · cases h
  · rename_i hj; exact ⟨by simpa using hj, h⟩
theorem Rel.hide (R : Rel cx w0 env st a w m ρ) (p q : Nat → Bool) (js : List Nat) (hp : ∀ i, p i = true → i ∈ js) (hq : ∀ i, q i = true → i ∈ js) (h1 : ∀ t c sv, look st.slots t = some (c, sv) → sv.free js = true) (h2 : ∀ t c cs, look st.boxes t = some (c, cs) → SV.frees js cs = true) :
    Rel cx w0 env st a w (hideM m p) (hideM ρ q) := by
  have hn : ∀ i, memN i js = false → p i = false := fun i hi => by
    cases hpi : p i with
    | false => rfl
    | true => exact absurd (hp i hpi) (memN_false.1 hi)
  have hn2 : ∀ i, memN i js = false → q i = false := fun i hi => by
    cases hpi : q i with
    | false => rfl
    | true => exact absurd (hq i hpi) (memN_false.1 hi)
  have tr : ∀ sv v, SVR cx w m ρ env sv v → sv.free js = true → SVR cx w (hideM m p) (hideM ρ q) env sv v := fun sv v h hf =>
    h.upd (js := js) (fun i hi => by simp [hideM, hn i hi]) (fun i hi => by simp [hideM, hn2 i hi]) hf
  have hS := R.heap.sep
  refine ⟨R.kept, ⟨fun id c cs b hl hm hg => ?_, fun id c r rc hl hm hg => R.heap.rows id c r rc hl (hideM_some hm).2 hg, ?_⟩, fun t c sv hl => (R.slots t c sv hl).map Iff.rfl fun v hv => tr sv v hv (h1 t c sv hl), R.defers, R.size, R.nv⟩
  · obtain ⟨vs, T, e1, e2⟩ := R.heap.boxes id c cs b hl (hideM_some hm).2 hg
    exact ⟨vs, T, e1, e2.map fun i hi v hv => tr _ v hv (SV.frees_getD (h2 _ _ _ hl) i hi)⟩
  · exact ⟨fun i j b hi hj => hS.boxes i j b (hideM_some hi).2 (hideM_some hj).2, fun i j x y b hi hj => hS.rows i j x y b (hideM_some hi).2 (hideM_some hj).2, fun i x hi => hS.nodup i x (hideM_some hi).2,
      fun i j x b hi hj => hS.apart i j x b (hideM_some hi).2 (hideM_some hj).2, fun i b hi => hS.boxOwn i b (hideM_some hi).2, fun i x b hi => hS.rowOwn i x b (hideM_some hi).2, fun i x b hi => hS.addrIn i x b (hideM_some hi).2⟩
/-! ### at the start and at the end -/
theorem born_mem (he : e ∈ recs) {id : Nat} (h : id ∈ e.born) : id ∈ recs.flatMap Rec.born := List.mem_flatMap.2 ⟨e, he, h⟩
theorem bornB_sub {id : Nat} (h : id ∈ recs.flatMap Rec.bornB) : id ∈ recs.flatMap Rec.born := by
  obtain ⟨e, h1, h2⟩ := List.mem_flatMap.1 h
  exact born_mem h1 (List.mem_append_right _ h2)
theorem bornR_sub {id : Nat} (h : id ∈ recs.flatMap Rec.bornR) : id ∈ recs.flatMap Rec.born := by
  obtain ⟨e, h1, h2⟩ := List.mem_flatMap.1 h
  exact born_mem h1 (List.mem_append_left _ h2)
theorem view_start (Dw : Drawn P md ops st stF opsA tail cl recs) (hS : ∀ p ∈ opsA, S p.1 = false) (R : Rel cx w0 env st a w m ρ) : Rel cx w0 env (view stF opsA recs S st.nv) a w m ρ := by
  have hI : ∀ (f : Rec → List Nat) id, shownI f recs S id = true → id ∉ recs.flatMap f := fun f id h hm => by
    obtain ⟨e, h1, h2⟩ := List.mem_flatMap.1 hm
    have := shownI_iff.1 h e h1 h2
    rw [hS _ (rec_mem Dw h1)] at this
    cases this
  refine R.sub (fun t x h => ?_) (fun t x h => ?_) (fun t x h => ?_) rfl Dw.ntF
  · obtain ⟨h1, h2⟩ := look_filterK_some h
    rw [← Dw.slotsF t]
    · exact h2
    · unfold shownT at h1
      split at h1
      · rename_i j hj
        obtain ⟨q, q1, q2, _⟩ := dstA_some _ _ _ hj
        rw [← q2, hS q q1] at h1
        cases h1
      · assumption
  · obtain ⟨h1, h2⟩ := look_filterK_some h
    rwa [← Dw.boxesF t (hI _ t h1)]
  · obtain ⟨h1, h2⟩ := look_filterK_some h
    rwa [← Dw.rowsF t (hI _ t h1)]
theorem view_end (Dw : Drawn P md ops st stF opsA tail cl recs) (hS : ∀ p ∈ opsA, S p.1 = true) (hn : nv = stF.nv) (R : Rel cx w0 env (view stF opsA recs S nv) a w m ρ) : Rel cx w0 env stF a w m ρ := by
  have hI : ∀ (f : Rec → List Nat) id, shownI f recs S id = true := fun f id => shownI_iff.2 fun e he _ => hS _ (rec_mem Dw he)
  refine R.sub (fun t x h => ?_) (fun t x h => ?_) (fun t x h => ?_) hn.symm rfl
  · simp only [view, look_filterK]
    rw [if_pos]
    · exact h
    · unfold shownT
      split
      · rename_i j hj
        obtain ⟨q, q1, q2, _⟩ := dstA_some _ _ _ hj
        rw [← q2]; exact hS q q1
      · rfl
  · simp only [view, look_filterK, hI, if_true]; exact h
  · simp only [view, look_filterK, hI, if_true]; exact h
theorem view_mono {nv : Nat} (h : ∀ j, S j = S' j) : view stF opsA recs S nv = view stF opsA recs S' nv := by
  have : S = S' := funext h
  rw [this]
/-- What is shown speaks of nothing that is hidden. -/
theorem free_mono_aux (js js' : List Nat) (h : ∀ i ∈ js', i ∈ js) (i : Nat) (hm : memN i js = false) : memN i js' = false := memN_false.2 fun hc => memN_false.1 hm (h i hc)
mutual
theorem SV.free_mono {js js' : List Nat} (h : ∀ i ∈ js', i ∈ js) : ∀ sv : SV, sv.free js = true → sv.free js' = true
  | .num _ _, _ | .boo _, _ | .txt _, _ | .clop _, _ | .nilsl, _ | .ai _, _ | .an, _ | .top, _ => by simp [SV.free]
  | .sl (.st _) _ _, _ | .ep (.st _) _ _ _, _ => by simp [SV.free]
  | .sl (.row _) _ _, hf | .ep (.row _) _ _ _, hf | .ov _ _, hf | .ow _ _ _, hf | .nv _ _ _, hf | .oep _ _ _, hf | .bp _ _, hf => by
    simp only [SV.free, Bool.not_eq_true'] at hf ⊢; exact free_mono_aux js js' h _ hf
  | .agg cs, hf | .tup cs, hf | .clo _ cs, hf => by simp only [SV.free] at hf ⊢; exact SV.frees_mono h cs hf
theorem SV.frees_mono {js js' : List Nat} (h : ∀ i ∈ js', i ∈ js) : ∀ l : List SV, SV.frees js l = true → SV.frees js' l = true
  | [], _ => rfl
  | a :: l, hf => by simp only [SV.frees, Bool.and_eq_true] at hf ⊢; exact ⟨SV.free_mono h a hf.1, SV.frees_mono h l hf.2⟩
end
mutual
theorem SV.free_of {js : List Nat} : ∀ sv : SV, (∀ j ∈ js, sv.free [j] = true) → sv.free js = true
  | .num _ _, _ | .boo _, _ | .txt _, _ | .clop _, _ | .nilsl, _ | .ai _, _ | .an, _ | .top, _ => by simp [SV.free]
  | .sl (.st _) _ _, _ | .ep (.st _) _ _ _, _ => by simp [SV.free]
  | .sl (.row id) _ _, hf | .ep (.row id) _ _ _, hf | .ov id _, hf | .ow id _ _, hf | .nv id _ _, hf | .oep id _ _, hf | .bp id _, hf => by
    simp only [SV.free, Bool.not_eq_true'] at hf ⊢
    exact memN_false.2 fun hc => memN_false.1 (hf id hc) (by simp)
  | .agg cs, hf | .tup cs, hf | .clo _ cs, hf => by simp only [SV.free] at hf ⊢; exact SV.frees_of cs hf
theorem SV.frees_of {js : List Nat} : ∀ l : List SV, (∀ j ∈ js, SV.frees [j] l = true) → SV.frees js l = true
  | [], _ => rfl
  | a :: l, hf => by
    simp only [SV.frees, Bool.and_eq_true] at hf ⊢; exact ⟨SV.free_of a fun j hj => (hf j hj).1, SV.frees_of l fun j hj => (hf j hj).2⟩
end
/-- The ids that are not there yet. -/
def hidden (recs : List Rec) (S : Nat → Bool) : List Nat := (recs.filter fun e => !S e.i).flatMap Rec.born
theorem hidden_mem {id : Nat} : id ∈ hidden recs S ↔ ∃ e ∈ recs, S e.i = false ∧ id ∈ e.born := by
  simp only [hidden, List.mem_flatMap, List.mem_filter, Bool.not_eq_true']
  constructor
  · rintro ⟨e, ⟨h1, h2⟩, h3⟩; exact ⟨e, h1, h2, h3⟩
  · rintro ⟨e, h1, h2, h3⟩; exact ⟨e, ⟨h1, h2⟩, h3⟩
theorem dst_rec (Dw : Drawn P md ops st stF opsA tail cl recs) {t j : Nat} (h : dstA opsA t = some j) : ∃ q ∈ recs, q.i = j ∧ q.t = t := by
  obtain ⟨q, q1, q2, q3⟩ := dstA_some _ _ _ h
  obtain ⟨e, e1, e2, e3⟩ := rec_of (i := q.1) (o := q.2) Dw q1
  have := (Dw.kind e e1).2.1
  rw [e3, q3] at this
  cases this
  exact ⟨e, e1, e2.trans q2, rfl⟩
theorem view_free (Dw : Drawn P md ops st stF opsA tail cl recs) (hcl : ∀ e ∈ recs, S e.i = true → ∀ k ∈ cl.getD e.i [], S k = true) : (∀ t c sv, look (view stF opsA recs S nv).slots t = some (c, sv) → sv.free (hidden recs S) = true) ∧
    ∀ t c cs, look (view stF opsA recs S nv).boxes t = some (c, cs) → SV.frees (hidden recs S) cs = true := by
  have hq : ∀ q ∈ recs, S q.i = true → ∀ j ∈ hidden recs S, q.free [j] = true := by
    intro q hq hs j hj
    obtain ⟨e, e1, e2, e3⟩ := hidden_mem.1 hj
    have hf := (rec_facts Dw e1).free (fun h => by rw [h] at e3; simp at e3) q hq
    rcases hf with h | h | h
    · rw [h, e2] at hs; cases hs
    · rw [hcl q hq hs _ h] at e2; cases e2
    · unfold Rec.free at h ⊢
      split at h
      · rename_i hb; rw [hb] at e3; simp at e3
      · simp only [Bool.and_eq_true, List.all_eq_true] at h ⊢
        exact ⟨SV.free_mono (fun i hi => by simp at hi; rw [hi]; exact e3) _ h.1, fun p hp => SV.frees_mono (fun i hi => by simp at hi; rw [hi]; exact e3) _ (h.2 p hp)⟩
  have hsub : ∀ i ∈ hidden recs S, i ∈ recs.flatMap Rec.born := fun i hi => by
    obtain ⟨e, e1, _, e3⟩ := hidden_mem.1 hi
    exact born_mem e1 e3
  refine ⟨fun t c sv hl => ?_, fun t c cs hl => ?_⟩
  · obtain ⟨h1, h2⟩ := look_filterK_some hl
    unfold shownT at h1
    split at h1
    · rename_i j hj
      obtain ⟨q, q1, q2, q3⟩ := dst_rec Dw hj
      have := (rec_facts Dw q1).slot
      rw [q3, h2] at this
      cases this
      refine SV.free_of _ fun i hi => ?_
      have := hq q q1 (by rw [q2]; exact h1) i hi
      simp only [Rec.free, Bool.and_eq_true] at this
      exact this.1
    · rename_i hj
      rw [Dw.slotsF t hj] at h2
      exact SV.free_mono hsub _ (Dw.freeS t c sv h2)
  · obtain ⟨h1, h2⟩ := look_filterK_some hl
    by_cases hb : t ∈ recs.flatMap Rec.bornB
    · obtain ⟨q, q1, q2⟩ := List.mem_flatMap.1 hb
      have hs := shownI_iff.1 h1 q q1 q2
      obtain ⟨p, p1, p2⟩ := List.mem_map.1 q2
      have := (rec_facts Dw q1).boxes p p1
      rw [p2, h2] at this
      have he := Option.some.inj this
      refine SV.frees_of _ fun i hi => ?_
      have := hq q q1 hs i hi
      simp only [Rec.free, Bool.and_eq_true, List.all_eq_true] at this
      have := this.2 p p1
      rw [← he] at this
      exact this
    · rw [Dw.boxesF t hb] at h2
      exact SV.frees_mono hsub _ (Dw.freeB t c cs h2)
end
end Go.Proofs.Ytfbahdalemajcaa.Eng

/-
  The engine: regions that draw their order: one operation more.
-/
namespace Go.Proofs.Ytfbahdalemajcaa.Eng
/-! ### more variables -/
theorem X.lt_mono {n n' : Nat} (h : n ≤ n') {x : X} (hx : x.lt n = true) : x.lt n' = true := X.lt_of_top (Nat.le_trans (X.top_le hx) h)
theorem Conds.lt_mono {n n' : Nat} (h : n ≤ n') {g : Conds} (hx : Conds.lt n g = true) : Conds.lt n' g = true := Conds.lt_of_top (Nat.le_trans (Conds.top_le hx) h)
mutual
theorem SV.lt_mono {n n' : Nat} (h : n ≤ n') : ∀ sv : SV, sv.lt n = true → sv.lt n' = true
  | .num _ _, hf | .boo _, hf | .txt _, hf | .sl _ _ _, hf | .ep _ _ _ _, hf | .oep _ _ _, hf | .nv _ _ _, hf | .ov _ (some _), hf => by simp only [SV.lt] at hf ⊢; exact X.lt_mono h hf
  | .ow _ _ _, hf => by simp only [SV.lt, Bool.and_eq_true] at hf ⊢; exact ⟨X.lt_mono h hf.1, X.lt_mono h hf.2⟩
  | .ov _ none, _ | .bp _ _, _ | .clop _, _ | .nilsl, _ | .ai _, _ | .an, _ | .top, _ => by simp [SV.lt]
  | .agg cs, hf | .tup cs, hf | .clo _ cs, hf => by simp only [SV.lt] at hf ⊢; exact SV.lts_mono h cs hf
theorem SV.lts_mono {n n' : Nat} (h : n ≤ n') : ∀ l : List SV, SV.lts n l = true → SV.lts n' l = true
  | [], _ => rfl
  | a :: l, hf => by simp only [SV.lts, Bool.and_eq_true] at hf ⊢; exact ⟨SV.lt_mono h a hf.1, SV.lts_mono h l hf.2⟩
end
section
variable {P : Program} {cx : Cx} {w0 w w' : World} {m m' : BoxM} {ρ ρ' : RowM} {env : List D} {st stF : St} {g : Conds} {a : Act} {o : Oper} {ops : Array Oper} {clo : Nat → CloD} {Qd : List D → Prop} {κ : Nat → List D → Prop} {k : T}
  {K : Act → World → Prop} {Q : Exit → Act → World → Prop} {md : Modes} {opsA tail : List (Nat × Oper)} {cl : List (List Nat)} {recs : List Rec} {S S' : Nat → Bool} {e : Rec} {nv : Nat}
theorem Rel.extL (R : Rel cx w0 env st a w m ρ) (hs : ∀ t c sv, look st.slots t = some (c, sv) → Conds.lt st.nv c = true ∧ sv.lt st.nv = true) (hb : ∀ t c cs, look st.boxes t = some (c, cs) → Conds.lt st.nv c = true ∧ SV.lts st.nv cs = true)
    (hr : ∀ t c r, look st.rows t = some (c, r) → Conds.lt st.nv c = true ∧ r.c.lt st.nv = true) (o : List D) : Rel cx w0 (env ++ o) { st with nv := st.nv + o.length } a w m ρ := by
  rw [← R.nv] at hs hb hr
  refine ⟨R.kept, ⟨fun id c cs b hl hm hg => ?_, fun id c r rc hl hm hg => ?_, R.heap.sep⟩, fun t c sv hl => ?_, R.defers, R.size, by rw [List.length_append, R.nv]⟩
  · obtain ⟨h1, h2⟩ := hb _ _ _ hl
    obtain ⟨vs, T, h3, h4⟩ := R.heap.boxes id c cs b hl hm ((Conds.den_ext c h1).1 hg)
    exact ⟨vs, T, h3, h4.map fun i hi v hv => hv.ext (SV.lts_getD h2 i hi)⟩
  · obtain ⟨h1, h2⟩ := hr _ _ _ hl
    obtain ⟨h3, h4, h5⟩ := R.heap.rows id c r rc hl hm ((Conds.den_ext c h1).1 hg)
    exact ⟨by rw [X.den_ext _ h2]; exact h3, h4, h5⟩
  · obtain ⟨h1, h2⟩ := hs _ _ _ hl
    exact (R.slots t c sv hl).map (Conds.den_ext c h1) fun v hv => hv.ext h2
/-- The set of those that have run, and one more. -/
def setS (S : Nat → Bool) (i : Nat) : Nat → Bool := fun j => if j = i then true else S j
theorem setS_self {i : Nat} : setS S i i = true := by simp [setS]
theorem setS_of {i j : Nat} (h : S j = true) : setS S i j = true := by unfold setS; split <;> first | rfl | exact h
theorem setS_inv {i j : Nat} (h : setS S i j = true) : j = i ∨ S j = true := by
  unfold setS at h; split at h
  · exact .inl ‹_›
  · exact .inr h
theorem shown_back {f : Rec → List Nat} (Dw : Drawn P md ops st stF opsA tail cl recs) (he : e ∈ recs) {id : Nat} (h : shownI f recs (setS S e.i) id = true) (hn : id ∉ f e) : shownI f recs S id = true :=
  shownI_iff.2 fun q hq hid => by
    rcases setS_inv (shownI_iff.1 h q hq hid) with h1 | h1
    · have := Dw.uniq q hq e he h1
      subst this
      exact absurd hid hn
    · exact h1
theorem view_step {u : Value} (Dw : Drawn P md ops st stF opsA tail cl recs) (he : e ∈ recs) (R : Rel cx w0 env (view stF opsA recs S nv) a w m ρ) (hk : Kept cx w0 w')
    (hsv : ∀ sv v, SVR cx w m ρ env sv v → SVR cx w' m' ρ' env sv v)
    (hbox : ∀ id c cs b, id ∉ e.bornB → look (view stF opsA recs S nv).boxes id = some (c, cs) → m' id = some b → m id = some b ∧ (c.den env → BoxR cx w m ρ env cs b → BoxR cx w' m' ρ' env cs b))
    (hrow : ∀ id rc, id ∉ e.bornR → ρ' id = some rc → ρ id = some rc ∧ ∀ r, RowR w env r rc → RowR w' env r rc)
    (hnb : ∀ p ∈ e.res.2.2, ∀ b, m' p.1 = some b → p.2.1.den env → BoxR cx w' m' ρ' env p.2.2 b)
    (hnr : ∀ p ∈ e.res.2.1, ∀ rc, ρ' p.1 = some rc → p.2.1.den env → RowR w' env p.2.2 rc)
    (hsep : Sep cx w' m' ρ') (h1 : e.g.den env → SVR cx w' m' ρ' env e.res.1 u) (h2 : ¬ e.g.den env → u = undef) :
    Rel cx w0 env (view stF opsA recs (setS S e.i) nv) (a.put (some e.t) u) w' m' ρ' := by
  have F := rec_facts Dw he
  refine ⟨hk, ⟨fun id c cs b hl hm hg => ?_, fun id c r rc hl hm hg => ?_, hsep⟩, fun t c sv hl => ?_, by rw [put_defers]; exact R.defers, R.size.put F.lt, R.nv⟩
  · obtain ⟨q1, q2⟩ := look_filterK_some hl
    by_cases hid : id ∈ e.bornB
    · obtain ⟨p, p1, p2⟩ := List.mem_map.1 hid
      have := F.boxes p p1
      rw [p2, q2] at this
      have he := Option.some.inj this
      subst p2
      have h3 := hnb p p1 b hm (by rw [← he]; exact hg)
      rw [← he] at h3
      exact h3
    · have hl' : look (view stF opsA recs S nv).boxes id = some (c, cs) := by
        simp only [view, look_filterK, shown_back Dw he q1 hid, if_true]; exact q2
      obtain ⟨r1, r2⟩ := hbox id c cs b hid hl' hm
      exact r2 hg (R.heap.boxes id c cs b hl' r1 hg)
  · obtain ⟨q1, q2⟩ := look_filterK_some hl
    by_cases hid : id ∈ e.bornR
    · obtain ⟨p, p1, p2⟩ := List.mem_map.1 hid
      have := F.rows p p1
      rw [p2, q2] at this
      have he := Option.some.inj this
      subst p2
      have h3 := hnr p p1 rc hm (by rw [← he]; exact hg)
      rw [← he] at h3
      exact h3
    · have hl' : look (view stF opsA recs S nv).rows id = some (c, r) := by
        simp only [view, look_filterK, shown_back Dw he q1 hid, if_true]; exact q2
      obtain ⟨r1, r2⟩ := hrow id rc hid hm
      exact r2 r (R.heap.rows id c r rc hl' r1 hg)
  · obtain ⟨q1, q2⟩ := look_filterK_some hl
    rw [put_tmps]
    by_cases ht : e.t = t
    · subst ht
      have := F.slot
      rw [q2] at this
      cases this
      refine .new ?_ h1 h2
      rw [R.size.1]; exact F.lt.1
    · refine ((R.slots t c sv ?_).map Iff.rfl fun v hv => hsv sv v hv).put ht
      simp only [view, look_filterK]
      rw [if_pos]
      · exact q2
      · unfold shownT at q1 ⊢
        split at q1
        · rename_i j hj
          rcases setS_inv q1 with h | h
          · obtain ⟨q, r1, r2, r3⟩ := dst_rec Dw hj
            have := Dw.uniq q r1 e he (r2.trans h)
            subst this
            exact absurd r3 ht
          · exact h
        · rfl
/-! ### what is known when the operation runs -/
theorem view_look {t : Nat} (h : shownT opsA S t = true) : look (view stF opsA recs S nv).slots t = look stF.slots t := by
  simp only [view, look_filterK, h, if_true]
theorem deps_shown {cls : List Nat} (hd : depsOk ops opsA cls o = true) (hcl : ∀ k ∈ cls, S k = true) : (∀ u ∈ slotsOf o, shownT opsA S u = true) ∧ ∀ j b u, o.guard = some (j, b) → (ops[j]?).bind (·.dst) = some u → shownT opsA S u = true := by
  simp only [depsOk, Bool.and_eq_true, List.all_eq_true] at hd
  refine ⟨fun u hu => ?_, fun j b u hg hj => ?_⟩
  · have := hd.1 u hu
    unfold shownT
    split at this
    · rename_i j hj; rw [hj]; exact hcl j (memN_iff.1 this)
    · rename_i hj; rw [hj]
  · have := hd.2
    rw [hg] at this
    simp only [hj] at this
    unfold shownT
    split at this
    · rename_i j hj; rw [hj]; exact hcl j (memN_iff.1 this)
    · rename_i hj; rw [hj]
theorem view_guard (hd : depsOk ops opsA (cl.getD e.i []) e.o = true) (hcl : ∀ k ∈ cl.getD e.i [], S k = true) : guardOf (view stF opsA recs S nv) ops e.o = guardOf stF ops e.o := by
  unfold guardOf
  split
  · rfl
  · rename_i j want hg
    split
    · rename_i u hu
      rw [view_look ((deps_shown hd hcl).2 j want u hg hu)]
    · rfl
theorem view_get (hd : depsOk ops opsA (cl.getD e.i []) e.o = true) (hcl : ∀ k ∈ cl.getD e.i [], S k = true) {x : Operand} (hx : x ∈ e.o.op.operands) {g' : Conds} : (view stF opsA recs S nv).get g' x = stF.get g' x := by
  unfold St.get
  have : (view stF opsA recs S nv).eval x = stF.eval x := by
    cases x with
    | tmp u =>
      simp only [St.eval]
      refine view_look ((deps_shown hd hcl).1 u ?_)
      simp only [slotsOf, List.mem_filterMap]
      exact ⟨.tmp u, Array.mem_toList_iff.2 hx, rfl⟩
    | const v => rfl
    | func f => rfl
    | global g => rfl
  rw [this]
/-- The hidden boxes and rows are nowhere. -/
def Hid (recs : List Rec) (S : Nat → Bool) (m : BoxM) (ρ : RowM) : Prop := (∀ id b, m id = some b → shownI Rec.bornB recs S id = true) ∧ ∀ id rc, ρ id = some rc → shownI Rec.bornR recs S id = true
theorem view_hide (Dw : Drawn P md ops st stF opsA tail cl recs) (hcl : ∀ e ∈ recs, S e.i = true → ∀ k ∈ cl.getD e.i [], S k = true) (R : Rel cx w0 env (view stF opsA recs S nv) a w m ρ) :
    ∃ m' ρ', Rel cx w0 env (view stF opsA recs S nv) a w m' ρ' ∧ Hid recs S m' ρ' := by
  obtain ⟨f1, f2⟩ := view_free (nv := nv) Dw hcl
  refine ⟨_, _, R.hide (fun id => !shownI Rec.bornB recs S id) (fun id => !shownI Rec.bornR recs S id) (hidden recs S) (fun i hi => ?_) (fun i hi => ?_) f1 f2, fun id b h => ?_, fun id rc h => ?_⟩
  · obtain ⟨e, e1, e2, e3⟩ := shownI_false (by simpa using hi)
    exact hidden_mem.2 ⟨e, e1, e3, List.mem_append_right _ e2⟩
  · obtain ⟨e, e1, e2, e3⟩ := shownI_false (by simpa using hi)
    exact hidden_mem.2 ⟨e, e1, e3, List.mem_append_left _ e2⟩
  · simpa using (hideM_some h).1
  · simpa using (hideM_some h).1
theorem view_here (F : RecF ops opsA cl stF recs e) (hcl : ∀ k ∈ cl.getD e.i [], S k = true) (R : Rel cx w0 env (view stF opsA recs S nv) a w m ρ) (H : Hid recs S m ρ) (hg : e.g.den env) : Here P cx w m ρ env stF e.g a e.o := by
  refine ⟨hg, fun x hx g' sv hg' h => ?_, fun id c cs b hl hm hc => ?_, fun id c r rc hl hm hc => ?_, R.heap.sep⟩
  · rw [← view_get (recs := recs) (nv := nv) F.deps hcl hx] at h
    exact eval_get R hg' h
  · refine R.heap.boxes id c cs b ?_ hm hc
    simp only [view, look_filterK, H.1 id b hm, if_true]; exact hl
  · refine R.heap.rows id c r rc ?_ hm hc
    simp only [view, look_filterK, H.2 id rc hm, if_true]; exact hl
theorem not_born {f : Rec → List Nat} (he : e ∈ recs) (hi : S e.i = false) {id : Nat} (h : shownI f recs S id = true) : id ∉ f e := fun hb => by
  rw [shownI_iff.1 h e he hb] at hi; cases hi
/-- An operation that does not run. -/
theorem view_skip (Dw : Drawn P md ops st stF opsA tail cl recs) (he : e ∈ recs) (hi : S e.i = false) (R : Rel cx w0 env (view stF opsA recs S nv) a w m ρ) (H : Hid recs S m ρ) (hg : ¬ e.g.den env) :
    Rel cx w0 env (view stF opsA recs (setS S e.i) nv) (a.put (some e.t) undef) w m ρ := by
  refine view_step (u := undef) Dw he R R.kept (fun _ _ h => h) (fun id c cs b _ _ h => ⟨h, fun _ h => h⟩) (fun id rc _ h => ⟨h, fun _ h => h⟩) (fun p hp b hm _ => ?_) (fun p hp rc hm _ => ?_) R.heap.sep (fun h => absurd h hg) (fun _ => rfl)
  · exact absurd (List.mem_map.2 ⟨p, hp, rfl⟩) (not_born he hi (H.1 _ _ hm))
  · exact absurd (List.mem_map.2 ⟨p, hp, rfl⟩) (not_born he hi (H.2 _ _ hm))
theorem draw_pure {r : PR} (hc : CxOk cx w0) (Dw : Drawn P md ops st stF opsA tail cl recs) (he : e ∈ recs) (hi : S e.i = false) (hcl : ∀ k ∈ cl.getD e.i [], S k = true) (hk : e.k = .pure r) (R : Rel cx w0 env (view stF opsA recs S nv) a w m ρ) (H : Hid recs S m ρ)
    (hn : e.g.den env → ∀ x ∈ r.needs, (x.den env).toB = true)
    (hK : ∀ a' w' m' ρ', Rel cx w0 env (view stF opsA recs (setS S e.i) nv) a' w' m' ρ' → (e.g.den env → ∀ x ∈ r.knows, (x.den env).toL.length ≤ maxL) → K a' w') : stepWp P ops e.o a w K Q := by
  have F := rec_facts Dw he
  obtain ⟨k1, k2, k3⟩ := Dw.kind e he
  simp only [Rec.kind, hk] at k3
  have hw := wanted_iff (ops := ops) R ((view_guard F.deps hcl).trans k1)
  unfold stepWp
  by_cases hg : e.g.den env
  rotate_left
  · rw [if_neg (fun h => hg (hw.1 h)), k2]
    exact hK _ _ _ _ (view_skip Dw he hi R H hg) fun h => absurd h hg
  rw [if_pos (hw.2 hg)]
  left
  have hp := pure_ok (o := e.o) (view_here (P := P) F hcl R H hg) k3 (hn hg)
  have hkn := hp.1
  have hp2 := hp.2
  have hres : e.res = (r.value e.t, (match r.row with | some row => [(e.t, e.g, row)] | none => []), (match r.box with | some cs => [(e.t, e.g, cs)] | none => [])) := by
    simp only [Rec.res, hk]
    try (cases r.row <;> cases r.box <;> rfl)
  have hS := R.heap.sep
  obtain ⟨sv, needs, knows, box, row⟩ := r
  unfold Oper.wp
  cases box <;> cases row <;> simp only at hp2 hres hkn
  · obtain ⟨v, h1, h2⟩ := hp2
    rw [h1, Oper.upon_value, k2]
    refine hK _ _ _ _ (view_step Dw he R R.kept (fun _ _ h => h) (fun id c cs b _ _ h => ⟨h, fun _ h => h⟩) (fun id rc _ h => ⟨h, fun _ h => h⟩) (fun p hp b hm _ => ?_) (fun p hp rc hm _ => ?_) hS (fun _ => ?_) (fun h => absurd hg h)) fun _ => hkn
    · rw [hres] at hp; simp at hp
    · rw [hres] at hp; simp at hp
    · rw [hres]; exact h2
  · rename_i row
    obtain ⟨T, cs, xs, h1, h2, h3, h4, h6, h5⟩ := hp2
    rw [h1, Oper.upon_value, k2]
    have hbr : e.bornR = [e.t] := by rw [Rec.bornR, hres]; rfl
    have hb0 : e.bornB = [] := by rw [Rec.bornB, hres]; rfl
    have hnone : ρ e.t = none := by
      cases hx : ρ e.t with
      | none => rfl
      | some rc => exact absurd (by rw [hbr]; simp) (not_born he hi (H.2 _ _ hx))
    have hmore : ∀ i rc, ρ i = some rc → setM ρ e.t (some ⟨xs, some ⟨w.heap.size, 0, none⟩, xs.length, row.ks.length, [w.heap.size]⟩) i = some rc := fun i rc h => by
      have : i ≠ e.t := fun hh => by rw [hh, hnone] at h; cases h
      simp [setM, this, h]
    have hsv : ∀ sv v, SVR cx w m ρ env sv v → SVR cx (w.alloc (.cells cs T (0, 0))) m (setM ρ e.t (some ⟨xs, some ⟨w.heap.size, 0, none⟩, xs.length, row.ks.length, [w.heap.size]⟩)) env sv v :=
      fun sv v h => (h.alloc hc R.kept hS _).more (fun _ _ h => h) hmore
    refine hK _ (w.alloc (.cells cs T (0, 0))) m (setM ρ e.t (some ⟨xs, some ⟨w.heap.size, 0, none⟩, xs.length, row.ks.length, [w.heap.size]⟩)) (view_step Dw he R (R.kept.alloc hc _) hsv (fun id c cs' b _ _ h => ⟨h, ?_⟩) (fun id rc hid h => ?_) (fun p hp b hm _ => ?_) (fun p hp rc hm _ => ?_) (hS.newRow hc R.kept _ _ rfl rfl) (fun _ => ?_) (fun h => absurd hg h)) fun _ => hkn
    · rintro _ ⟨us, T', e1, e2⟩
      exact ⟨us, T', (heap_old _ _ (hS.boxOwn id b h).2.2).trans e1, e2.map fun i hi v hv => hsv _ v hv⟩
    · have : id ≠ e.t := fun hh => hid (by rw [hbr, hh]; simp)
      have h' : ρ id = some rc := by simpa [setM, this] using h
      exact ⟨h', fun r hr => hr.alloc (fun b hb => (hS.rowOwn id rc b h' hb).2.2) _⟩
    · rw [hres] at hp; simp at hp
    · rw [hres] at hp
      simp only [List.mem_singleton] at hp
      subst hp
      simp only [setM, if_true] at hm
      cases hm
      refine ⟨h2, rfl, ?_⟩
      have := Own.sl (w := w.alloc (.cells cs T (0, 0))) (ks := row.ks) w.heap.size xs.length cs T xs (fun _ _ => []) (heap_new _ _) h3 (Nat.le_refl _) h4 h6 (fun i c hi hcc => (h5 i c hi hcc).frame (by simp))
      have e : fpAll xs.length row.ks.length (fun _ _ => []) = [] := by simp [fpAll]
      rw [e] at this
      exact this
    · rw [hres]
      exact .ov (rc := ⟨xs, some ⟨w.heap.size, 0, none⟩, xs.length, row.ks.length, [w.heap.size]⟩) (by simp [setM]) (Nat.le_refl _) (fun _ => rfl) (fun _ h => by cases h)
  · rename_i cs
    obtain ⟨vs, T, h1, h2⟩ := hp2
    rw [h1, Oper.upon_value, k2]
    have hbr : e.bornB = [e.t] := by rw [Rec.bornB, hres]; rfl
    have hnone : m e.t = none := by
      cases hx : m e.t with
      | none => rfl
      | some rc => exact absurd (by rw [hbr]; simp) (not_born he hi (H.1 _ _ hx))
    have hmore : ∀ i b, m i = some b → setM m e.t (some w.heap.size) i = some b := fun i rc h => by
      have : i ≠ e.t := fun hh => by rw [hh, hnone] at h; cases h
      simp [setM, this, h]
    have hsv : ∀ sv v, SVR cx w m ρ env sv v → SVR cx (w.alloc (.cells vs.toArray T (0, 0))) (setM m e.t (some w.heap.size)) ρ env sv v :=
      fun sv v h => (h.alloc hc R.kept hS _).more hmore (fun _ _ h => h)
    refine hK _ (w.alloc (.cells vs.toArray T (0, 0))) (setM m e.t (some w.heap.size)) ρ (view_step Dw he R (R.kept.alloc hc _) hsv (fun id c cs' b hid _ h => ?_) (fun id rc _ h => ⟨h, fun r hr => hr.alloc (fun b hb => (hS.rowOwn id rc b h hb).2.2) _⟩) (fun p hp b hm _ => ?_) (fun p hp rc hm _ => ?_) (hS.newBox hc R.kept _ _) (fun _ => ?_) (fun h => absurd hg h)) fun _ => hkn
    · have : id ≠ e.t := fun hh => hid (by rw [hbr, hh]; simp)
      have h' : m id = some b := by simpa [setM, this] using h
      refine ⟨h', ?_⟩
      rintro _ ⟨us, T', e1, e2⟩
      exact ⟨us, T', (heap_old _ _ (hS.boxOwn id b h').2.2).trans e1, e2.map fun i hi v hv => hsv _ v hv⟩
    · rw [hres] at hp
      simp only [List.mem_singleton] at hp
      subst hp
      simp only [setM, if_true] at hm
      cases hm
      exact ⟨vs, T, heap_new _ _, h2.map fun i hi v hv => hsv _ v hv⟩
    · rw [hres] at hp; simp at hp
    · rw [hres]
      exact .bp (by simp [setM])
end
end Go.Proofs.Ytfbahdalemajcaa.Eng

/-
  The engine: regions that draw their order: a call.
-/
namespace Go.Proofs.Ytfbahdalemajcaa.Eng
section
variable {P : Program} {cx : Cx} {w0 w w' : World} {m m' : BoxM} {ρ ρ' : RowM} {env : List D} {st stF : St} {g : Conds} {a : Act} {o : Oper} {ops : Array Oper} {clo : Nat → CloD} {Qd : List D → Prop} {κ : Nat → List D → Prop} {k : T}
  {K : Act → World → Prop} {Q : Exit → Act → World → Prop} {md : Modes} {opsA tail : List (Nat × Oper)} {cl : List (List Nat)} {recs : List Rec} {S S' : Nat → Bool} {e : Rec} {nv : Nat}
theorem call_backs {r : CR} (he : evalCall P md st g o = some r) : backs (r.args.map (XArg.ev clo env)) = r.wr.length := by
  obtain ⟨f, args, ts, svs, as, E⟩ := evalCall_inv he
  obtain ⟨fc, hargs⟩ := E.argsof
  have hbk := argsOf_back (clo := clo) (env := env) ts.toList 0 svs as r.wr r.tk r.cu hargs
  rcases E.fn with ⟨fi, cs, caps, _, _, _, _, e⟩ | ⟨j, _, _, e⟩
  · rw [e, List.map_append, backs_append, hbk, List.map_map]
    have : (XArg.ev clo env ∘ fun c : List CK × X => XArg.bx c.1 c.2) = (fun p : List CK × D => DArg.bx p.1 p.2) ∘ fun c : List CK × X => (c.1, c.2.den env) := rfl
    rw [this, ← List.map_map, backs_bx]
    rfl
  · rw [e, hbk]
theorem gets_ltH {n : Nat} (h : ∀ x ∈ o.op.operands, ∀ sv, st.get g x = some sv → sv.lt n = true) : ∀ (l : List Operand) (svs : List SV), (∀ x ∈ l, x ∈ o.op.operands) → st.gets g l = some svs → SV.lts n svs = true
  | [], svs, _, hx => by cases hx; rfl
  | x :: l, svs, hm, hx => by
    simp only [St.gets] at hx
    split at hx
    · rename_i h1 h2
      cases hx
      simp only [SV.lts, Bool.and_eq_true]
      exact ⟨h x (hm x (by simp)) _ h1, gets_ltH h l _ (fun x hx => hm x (List.mem_cons_of_mem _ hx)) h2⟩
    · cases hx
theorem args_mem {f : Operand} {args : Array Operand} {ts : Array TypeId} (ho : o.op = .call { callee := .value f, args, argTypes := ts }) : f ∈ o.op.operands ∧ ∀ x ∈ args.toList, x ∈ o.op.operands := by
  rw [ho]
  simp only [Op.operands, Call.operands]
  exact ⟨Array.mem_append.2 (.inl (by simp)), fun x hx => Array.mem_append.2 (.inr (Array.mem_toList_iff.1 hx))⟩
/-- A call that writes no slice and takes none over: the state that is related may be another than that in which it was read. -/
theorem callD_sound {r : CR} {stE st0 : St} (hc : CxOk cx w0) (hclo : CloOk cx w0 clo) (R : Rel cx w0 env st0 a w m ρ) (Hh : Here P cx w m ρ env stE g a o) (he : evalCall P md stE g o = some r) (hst : r.wr = [] ∧ r.tk = [])
    (hlts : ∀ x ∈ o.op.operands, ∀ sv, stE.get g x = some sv → sv.lt env.length = true) (hok : callOk st0 g o r = true) (hdst : dstOk st0 o = true) (hcu : ∀ id ∈ r.cu, ∀ cells, stE.box g id = some cells → st0.box g id = some cells)
    {Rp : List D → Prop} (hcall : callD P clo r.f (r.args.map (XArg.ev clo env)) r.rs Rp)
    (hK : ∀ ds us w' mr ρr, ds.length = r.rs.length → Rp ds → Rel cx w0 (env ++ ds) (callSt st0 g o r st0.rows) (a.put o.dst (resVal us)) w' (orM mr m) (orM ρr ρ) → (∀ i b, mr i = some b → i ∈ (callRes st0 g o r).2.2.map (·.1)) →
      (∀ i rc, ρr i = some rc → i ∈ (callRes st0 g o r).2.1.map (·.1)) → (∀ b, b < w.heap.size → (∀ id ∈ r.cu, m id ≠ some b) → w'.heap[b]? = w.heap[b]?) → K (a.put o.dst (resVal us)) w') : o.wp P a w K Q := by
  obtain ⟨rf, rargs, rrs, wr, tk, cu⟩ := r
  obtain ⟨e1, e2⟩ := hst
  simp only at e1 e2
  subst e1 e2
  obtain ⟨f, args, ts, svs, as, E⟩ := evalCall_inv he
  obtain ⟨fc, hargs⟩ := E.argsof
  have hbk := argsOf_back (clo := clo) (env := env) ts.toList 0 svs as [] [] cu hargs
  have hok' := hok
  simp only [callOk, Bool.and_eq_true] at hok'
  obtain ⟨⟨⟨⟨⟨⟨⟨⟨ht, hlt⟩, hglt⟩, hnew⟩, hfree⟩, hnd1⟩, hndc⟩, hcs⟩, _⟩ := hok'
  have hndc := noDup_iff.1 hndc
  have hS := R.heap.sep
  have hg := Hh.g
  obtain ⟨hfm, ham⟩ := args_mem E.op
  have hvs : SVRs cx w m ρ env svs (args.toList.map a.eval) := gets_ok Hh _ _ E.gets ham
  have hclo' := hclo.kept R.kept
  obtain ⟨F, hL⟩ := argsOf_ok (js := []) (cu := cu) hc R.kept hclo' Hh.heap hg ts.toList 0 svs (args.toList.map a.eval) as [] [] cu hargs hvs (gets_ltH hlts _ _ ham E.gets) E.free
  obtain ⟨hF, hFn⟩ := hL.lent hS
  have hFn := hFn List.nodup_nil hndc
  have hout := loan_outside (w := w) hF
  obtain ⟨fi, us, caps, hfe, hul, hus, hpc⟩ : ∃ (fi : Nat) (us : List Value) (caps : List (List CK × D)), a.eval f = .func (.func fi) #[] us.toArray ∧ us.length = caps.length ∧
      (∀ i, i < caps.length → ∃ b o, us.getD i undef = .pointer (some ⟨b, o, none⟩) ∧ ElemAt w (outside w F) (caps.getD i default).1 (caps.getD i default).2 b o) ∧
      PC P fi (as.map (XArg.ev clo env) ++ caps.map fun p => .bx p.1 p.2) rrs Rp := by
    rcases E.fn with ⟨fi, cs, caps, h1, h2, h3, h4, h5⟩ | ⟨j, h1, h4, h5⟩
    · have hv := Hh.get f hfm g _ hg h1
      generalize hfv : a.eval f = vf at hv
      cases hv with
      | clo hl hvs' =>
      rename_i us
      have := capX_ok (js := []) (cu := cu) hc R.kept Hh.heap hg cs us caps h2 ⟨hl, hvs'⟩ h3
      refine ⟨fi, us, caps.map fun p => (p.1, p.2.den env), rfl, by rw [List.length_map]; exact this.1, fun i hi => ?_, ?_⟩
      · obtain ⟨b, o, q1, q2⟩ := this.2 i (by simpa using hi)
        exact ⟨b, o, q1, q2.mono hout⟩
      · simp only at h4 h5
        rw [h4, h5] at hcall
        simp only [callD, List.map_append, List.map_map] at hcall ⊢
        exact hcall
    · have hv := Hh.get f hfm g _ hg h1
      generalize hfv : a.eval f = vf at hv
      cases hv
      have hj := hclo' j
      generalize hvj : cx.clo j = vj at hj
      cases hj with
      | clo hl hvs' =>
      rename_i us
      refine ⟨(clo j).1, us, (clo j).2, rfl, hl, fun i hi => ?_, ?_⟩
      · obtain ⟨b, o, q1, q2⟩ := hvs' i hi
        exact ⟨b, o, q1, q2.mono fun b hb => hout b (loan_S hc R.kept hS b hb)⟩
      · simp only at h4 h5
        rw [h4, h5] at hcall
        exact hcall
  obtain ⟨hent, hpc⟩ := hpc
  have hAR := (hL.argsR.mono hout).more hul hus
  have hlen : (args.toList.map a.eval).length = (as.map (XArg.ev clo env)).length := (hL.argsR).len
  have hcalls := hpc w (args.toList.map a.eval ++ us) F cx.G hFn (fun b hb => hout b (loan_S hc R.kept hS b (hc.gs b hb))) hAR
  unfold Oper.wp
  rw [enter_run E.op hfe hent, Oper.upon_enter]
  have harr : args.map a.eval ++ us.toArray = (args.toList.map a.eval ++ us).toArray := by
    apply Array.ext'; simp
  rw [harr]
  refine Calls.mono hcalls fun e w' => ?_
  rintro ⟨v, rfl, us', ds, bs, fr, fb, rfl, hrets, hback, hR, hnd, hfr, hkS⟩
  simp only
  have hback' := BackR.front hlen hul hback
  have hbl : bs.length = 0 := by rw [hback'.len]; exact hbk
  have hbs : bs = [] := List.length_eq_zero_iff.1 hbl
  subst hbs
  have hdl : ds.length = rrs.length := hrets.lens.1
  simp only [List.append_nil] at hR
  have R' := R.ext hlt ds
  have hnds := List.nodup_append.1 hnd
  have hvar1 : ∀ i, i < ds.length → (X.var (st0.nv + i)).den (env ++ ds) = ds.getD i default := fun i hi => by
    have : st0.nv = env.length := R.nv.symm
    simp only [X.den, this, List.getD_eq_getElem?_getD]
    rw [List.getElem?_append_right (by omega)]
    congr 2
    omega
  obtain ⟨n', mr, ρr, _, N⟩ := resSV_ok (cx := cx) (env := env ++ ds) (g := g) (id0 := resId (o.dst.getD 0)) hrets st0.nv 0 hvar1 hnds.1
  have hwf : ∀ b, b < w.heap.size → b ∉ F → w'.heap[b]? = w.heap[b]? := fun b h1 h2 => hkS.block b ⟨h1, h2⟩
  have hg' : g.den (env ++ ds) := by rw [← R.nv] at hglt; rwa [Conds.den_ext g hglt]
  have hkw : Kept cx w w' := hkS.kept fun b hb => hout b (loan_S hc R.kept hS b hb)
  have hRR := call_rel (r := { f := rf, args := rargs, rs := rrs, wr := [], tk := [], cu := cu }) (rows0 := st0.rows) (ρ1 := fun _ => none) (fb := fb) (F := F) hc (by rw [hdl] at R'; exact R') hok hdst hg' hF hwf (R.kept.trans hkw) hkS.size N Restored.nil (fun b h1 h2 => hnds.2.2 b h1 b h2 rfl) hfr (fun b hb => by
      rcases List.mem_append.1 hb with hb | hb
      · exact hrets.lt b hb
      · exact hback.lt b hb) (fun id hid => by
      obtain ⟨cells, x, b, f1, f2, f3, f4, f5⟩ := cu_back (clo := clo) (env := env) ts.toList 0 svs (args.toList.map a.eval) us as (caps.map fun p => .bx p.1 p.2) [] [] cu [] fb hargs hvs hback id hid
      refine ⟨cells, x, b, hcu id hid cells f1, f2, f3, ?_, f5⟩
      have hx : x.lt env.length = true := by
        have f1' := hcu id hid cells f1
        unfold St.box at f1'
        split at f1'
        · rename_i c b' hl
          split at f1'
          · cases f1'; rw [R.nv]; exact curBox_lt f2 (lt_box hlt hl).2
          · cases f1'
        · cases f1'
      rw [X.den_ext x hx]
      exact f4)
  have hmid : midM ρ (fun _ => none) (wrIds ([] : List Wr)) [] = ρ := by funext i; simp [midM, wrIds]
  rw [hmid] at hRR
  refine hK ds us' w' mr ρr hdl hR hRR (fun i b h => (N.domm i b h).1) (fun i rc h => (N.domr i rc h).1) fun b h1 h2 => hwf b h1 fun hb => ?_
  rcases hF b hb with ⟨q, hq, _⟩ | ⟨q, hq, q1⟩
  · simp [wrIds] at hq
  · exact h2 q hq q1
/-! ### what is shown speaks of the variables there are -/
theorem callNums_le : ∀ (recs : List Rec) (n : Nat), callNums n recs → ∀ e ∈ recs, ∀ v r, e.k = .call v r → n ≤ v := by
  intro recs
  induction recs with
  | nil => intro n _ e he; simp at he
  | cons q l ih =>
    intro n h e he v r hk
    cases hq : q.k with
    | pure p =>
      simp only [callNums, hq] at h
      rcases List.mem_cons.1 he with rfl | he
      · rw [hq] at hk; cases hk
      · exact ih n h e he v r hk
    | call v' r' =>
      simp only [callNums, hq] at h
      rcases List.mem_cons.1 he with rfl | he
      · rw [hq] at hk; cases hk; exact Nat.le_of_eq h.1.symm
      · have := ih _ h.2 e he v r hk; omega
theorem view_lt {v : Nat} {r : CR} (Dw : Drawn P md ops st stF opsA tail cl recs) (he : e ∈ recs) (hi : S e.i = false) (hcl : ∀ e ∈ recs, S e.i = true → ∀ k ∈ cl.getD e.i [], S k = true) (hk : e.k = .call v r) :
    (∀ t c sv, look (view stF opsA recs S nv).slots t = some (c, sv) → Conds.lt v c = true ∧ sv.lt v = true) ∧ (∀ t c cs, look (view stF opsA recs S nv).boxes t = some (c, cs) → Conds.lt v c = true ∧ SV.lts v cs = true) ∧
      (∀ t c r, look (view stF opsA recs S nv).rows t = some (c, r) → Conds.lt v c = true ∧ r.c.lt v = true) := by
  have hle := callNums_le _ _ Dw.nums e he v r hk
  have hq : ∀ q ∈ recs, S q.i = true → q.lt v = true := fun q hq hs => by
    rcases ((rec_facts Dw he).call v r hk).2.2.2.2 q hq with h | h | h
    · rw [h, hi] at hs; cases hs
    · rw [hcl q hq hs _ h] at hi; cases hi
    · exact h
  refine ⟨fun t c sv hl => ?_, fun t c cs hl => ?_, fun t c rw hl => ?_⟩
  · obtain ⟨h1, h2⟩ := look_filterK_some hl
    unfold shownT at h1
    split at h1
    · rename_i j hj
      obtain ⟨q, q1, q2, q3⟩ := dst_rec Dw hj
      have := (rec_facts Dw q1).slot
      rw [q3, h2] at this
      cases this
      have := hq q q1 (by rw [q2]; exact h1)
      simp only [Rec.lt, Bool.and_eq_true] at this
      exact ⟨this.1.1.1.1, this.1.1.1.2⟩
    · rename_i hj
      rw [Dw.slotsF t hj] at h2
      have := lt_slot Dw.lt h2
      exact ⟨Conds.lt_mono hle this.1, SV.lt_mono hle _ this.2⟩
  · obtain ⟨h1, h2⟩ := look_filterK_some hl
    by_cases hb : t ∈ recs.flatMap Rec.bornB
    · obtain ⟨q, q1, q2⟩ := List.mem_flatMap.1 hb
      have hs := shownI_iff.1 h1 q q1 q2
      obtain ⟨p, p1, p2⟩ := List.mem_map.1 q2
      have := (rec_facts Dw q1).boxes p p1
      rw [p2, h2] at this
      have he := Option.some.inj this
      have := hq q q1 hs
      simp only [Rec.lt, Bool.and_eq_true, List.all_eq_true] at this
      have := this.1.2 p p1
      rw [← he] at this
      exact this
    · rw [Dw.boxesF t hb] at h2
      have := lt_box Dw.lt h2
      exact ⟨Conds.lt_mono hle this.1, SV.lts_mono hle _ this.2⟩
  · obtain ⟨h1, h2⟩ := look_filterK_some hl
    by_cases hb : t ∈ recs.flatMap Rec.bornR
    · obtain ⟨q, q1, q2⟩ := List.mem_flatMap.1 hb
      have hs := shownI_iff.1 h1 q q1 q2
      obtain ⟨p, p1, p2⟩ := List.mem_map.1 q2
      have := (rec_facts Dw q1).rows p p1
      rw [p2, h2] at this
      have he := Option.some.inj this
      have := hq q q1 hs
      simp only [Rec.lt, Bool.and_eq_true, List.all_eq_true] at this
      have := this.1.1.2 p p1
      rw [← he] at this
      exact this
    · rw [Dw.rowsF t hb] at h2
      have := lt_row Dw.lt h2
      exact ⟨Conds.lt_mono hle this.1, X.lt_mono hle this.2⟩
end
end Go.Proofs.Ytfbahdalemajcaa.Eng

/-
  The engine: regions that draw their order: a call among other operations.
-/
namespace Go.Proofs.Ytfbahdalemajcaa.Eng
mutual
theorem SV.clean_nil : ∀ sv : SV, sv.clean [] = true
  | .num _ _ | .boo _ | .txt _ | .clop _ | .nilsl | .ai _ | .an | .top => by simp [SV.clean]
  | .sl (.st _) _ _ | .sl (.row _) _ _ | .ep (.st _) _ _ _ | .ep (.row _) _ _ _ | .ov _ _ | .ow _ _ _ | .nv _ _ _ | .oep _ _ _ | .bp _ _ => by simp [SV.clean, memN_nil]
  | .agg cs | .tup cs | .clo _ cs => by simp only [SV.clean]; exact SV.cleans_nil cs
theorem SV.cleans_nil : ∀ l : List SV, SV.cleans [] l = true
  | [] => rfl
  | a :: l => by simp only [SV.cleans, Bool.and_eq_true]; exact ⟨SV.clean_nil a, SV.cleans_nil l⟩
end
section
variable {P : Program} {cx : Cx} {w0 w w' : World} {m m' : BoxM} {ρ ρ' : RowM} {env : List D} {st stF : St} {g : Conds} {a : Act} {o : Oper} {ops : Array Oper} {clo : Nat → CloD} {Qd : List D → Prop} {κ : Nat → List D → Prop} {k : T}
  {K : Act → World → Prop} {Q : Exit → Act → World → Prop} {md : Modes} {opsA tail : List (Nat × Oper)} {cl : List (List Nat)} {recs : List Rec} {S S' : Nat → Bool} {e : Rec} {nv : Nat}
theorem argsOf_cuM {f : Callee'} : ∀ (ts : List TypeId) (j : Nat) (svs : List SV) (vs : List Value) (xas : List XArg) (wr : List Wr) (tk cs : List Nat), argsOf P md f st g j ts svs = some (xas, wr, tk, cs) → SVRs cx w m ρ env svs vs → ∀ id ∈ cs, ∃ b cells x, m id = some b ∧ st.box g id = some cells ∧ curBox cells = some x
  | [], j, svs, vs, xas, wr, tk, cs, h, _ => by
    cases svs with
    | nil => simp only [argsOf] at h; cases h; simp
    | cons _ _ => simp [argsOf] at h
  | t :: ts, j, [], vs, xas, wr, tk, cs, h, _ => by simp [argsOf] at h
  | t :: ts, j, sv :: svs, vs, xas, wr, tk, cs, h, hv => by
    cases vs with
    | nil => exact absurd hv.1 (by simp)
    | cons v vs =>
    have hv0 : SVR cx w m ρ env sv v := hv.2 0 (by simp)
    have hvr : SVRs cx w m ρ env svs vs := ⟨by simpa using hv.1, fun i hi => by simpa using hv.2 (i + 1) (by simpa using hi)⟩
    simp only [argsOf] at h
    split at h
    · rename_i xa wr1 tk1 cs1 xas' wrs tks css h1 h2
      cases h
      intro id hid
      rcases List.mem_append.1 hid with hid | hid
      · rcases argOf_cu h1 with ⟨e, _⟩ | ⟨id', x, cells, e1, e2, e3, e4, e5⟩
        · rw [e] at hid; simp at hid
        · rw [e3] at hid
          simp only [List.mem_singleton] at hid
          subst hid
          subst e1
          obtain ⟨b, b1, _⟩ := hv0.bp_inv
          exact ⟨b, cells, x, b1, e4, e5⟩
      · exact argsOf_cuM ts (j + 1) svs vs xas' wrs tks css h2 hvr id hid
    · cases h
theorem curBox_free {cells : List SV} {x : X} (h : curBox cells = some x) (js : List Nat) : SV.frees js cells = true := by
  unfold curBox at h
  split at h
  · simp [SV.frees, SV.free]
  · simp [SV.frees, SV.free]
  · cases h
def cuL (boxes : List (Nat × Conds × List SV)) : List Nat → List (Nat × Conds × List SV)
  | [] => []
  | id :: l => match look boxes id with
    | some p => (id, p) :: cuL boxes l
    | none => cuL boxes l
theorem look_cuL {boxes : List (Nat × Conds × List SV)} : ∀ (l : List Nat) (id : Nat), look (cuL boxes l) id = if id ∈ l then look boxes id else none
  | [], id => by simp [cuL, look]
  | j :: l, id => by
    simp only [cuL]
    split
    · rename_i p hp
      rw [look_cons, look_cuL l id]
      by_cases h : j = id
      · subst h; simp [hp]
      · simp [h, Ne.symm h]
    · rename_i hp
      rw [look_cuL l id]
      by_cases h : id = j
      · subst h; simp [hp]
      · simp [h]
theorem mem_cuL {boxes : List (Nat × Conds × List SV)} : ∀ (l : List Nat) (p : Nat × Conds × List SV), p ∈ cuL boxes l → p.1 ∈ l ∧ look boxes p.1 = some p.2
  | [], p, h => by simp [cuL] at h
  | j :: l, p, h => by
    simp only [cuL] at h
    split at h
    · rename_i x hx
      rcases List.mem_cons.1 h with rfl | h
      · exact ⟨by simp, hx⟩
      · have := mem_cuL l p h; exact ⟨List.mem_cons_of_mem _ this.1, this.2⟩
    · have := mem_cuL l p h; exact ⟨List.mem_cons_of_mem _ this.1, this.2⟩
theorem lookAi_some {boxes : List (Nat × Conds × List SV)} {id : Nat} (h : lookAi boxes id = true) : ∃ c x, look boxes id = some (c, [x, .an, .ai .i64]) := by
  unfold lookAi at h
  split at h
  · rename_i c cs hl
    unfold aiBox at h
    split at h
    · exact ⟨c, _, hl⟩
    · cases h
  · cases h
theorem draw_call {v : Nat} {r : CR} {its : List Item} (hc : CxOk cx w0) (hclo : CloOk cx w0 clo) (Dw : Drawn P md ops st stF opsA tail cl recs) (he : e ∈ recs) (hi : S e.i = false) (hclS : ∀ e ∈ recs, S e.i = true → ∀ k ∈ cl.getD e.i [], S k = true) (hcl : ∀ k ∈ cl.getD e.i [], S k = true)
    (hk : e.k = .call v r) (R : Rel cx w0 env (view stF opsA recs S v) a w m ρ) (H : Hid recs S m ρ) (hd : (Item.wrap (.call e.g r.f r.args r.rs (r.rs.length + r.wr.length) :: its) k).den P clo Qd κ env)
    (hK : ∀ ds a' w' m' ρ', ds.length = r.rs.length → (Item.wrap its k).den P clo Qd κ (env ++ ds) → Rel cx w0 (env ++ ds) (view stF opsA recs (setS S e.i) (v + r.rs.length)) a' w' m' ρ' → K a' w') : stepWp P ops e.o a w K Q := by
  have F := rec_facts Dw he
  obtain ⟨k1, k2, k3⟩ := Dw.kind e he
  simp only [Rec.kind, hk] at k3
  obtain ⟨c1, c2, c3, c4, _⟩ := F.call v r hk
  have hst : r.wr = [] ∧ r.tk = [] := by
    unfold CR.still at c1
    split at c1
    · rename_i h1 h2; exact ⟨h1, h2⟩
    · cases c1
  have hbk := call_backs (clo := clo) (env := env) k3
  rw [hst.1] at hbk
  simp only [Item.wrap, T.den] at hd
  obtain ⟨Rp, hsome, hcall, hkk⟩ := hd
  rw [hbk] at hsome hkk
  simp only [List.length_nil, Nat.add_zero] at hsome hkk
  have hw := wanted_iff (ops := ops) R ((view_guard F.deps hcl).trans k1)
  obtain ⟨l1, l2, l3⟩ := view_lt (nv := v) Dw he hi hclS hk
  have hres : e.res = (tupOf (resSV (resId e.t) e.g v 0 r.rs).1, (resSV (resId e.t) e.g v 0 r.rs).2.1, (resSV (resId e.t) e.g v 0 r.rs).2.2) := by
    simp only [Rec.res, hk]
  have hext : ∀ ds : List D, ds.length = r.rs.length → Rel cx w0 (env ++ ds) (view stF opsA recs S (v + r.rs.length)) a w m ρ := fun ds h => by
    have := R.extL l1 l2 l3 ds
    rw [h] at this
    exact this
  have henv : env.length = v := R.nv
  have hgx : ∀ ds : List D, Conds.den (env ++ ds) e.g ↔ e.g.den env := fun ds => Conds.den_ext _ (by rw [henv]; exact c4)
  unfold stepWp
  by_cases hg : e.g.den env
  rotate_left
  · rw [if_neg (fun h => hg (hw.1 h)), k2]
    rcases hsome with h | ⟨ds, h1, h2⟩
    · rw [h] at hg; exact absurd trivial hg
    exact hK ds _ _ _ _ h1 (hkk ds h1 h2) (view_skip Dw he hi (hext ds h1) H fun h => hg ((hgx ds).1 h))
  rw [if_pos (hw.2 hg)]
  left
  have Hh := view_here (P := P) F hcl R H hg
  have hS := R.heap.sep
  -- the cursors
  have hcub : ∀ id ∈ r.cu, ∃ b c x, m id = some b ∧ look stF.boxes id = some (c, [x, .an, .ai .i64]) ∧ curBox [x, .an, .ai .i64] ≠ none ∧ subC c e.g = true := fun id hid => by
    obtain ⟨f, args, ts, svs, as, E⟩ := evalCall_inv k3
    obtain ⟨fc, hargs⟩ := E.argsof
    obtain ⟨hfm, ham⟩ := args_mem E.op
    obtain ⟨b, cells, x, b1, b2, b3⟩ := argsOf_cuM ts.toList 0 svs _ as r.wr r.tk r.cu hargs (gets_ok Hh _ _ E.gets ham) id hid
    obtain ⟨c, x', e1⟩ := lookAi_some (c3 id hid).1
    unfold St.box at b2
    rw [e1] at b2
    simp only at b2
    split at b2
    · cases b2; exact ⟨b, c, x', b1, e1, by rw [b3]; simp, ‹_›⟩
    · cases b2
  let st0 : St := { slots := [], boxes := cuL stF.boxes r.cu, rows := [], nv := v, nt := stF.nt }
  have R0 : Rel cx w0 env st0 a w m ρ := by
    refine ⟨R.kept, ⟨fun id c cs b hl hm hgc => ?_, fun id c r rc hl => by simp [st0, look] at hl, hS⟩, fun t c sv hl => by simp [st0, look] at hl, R.defers, R.size, R.nv⟩
    have hl' : look stF.boxes id = some (c, cs) := by
      simp only [st0, look_cuL] at hl
      split at hl
      · exact hl
      · cases hl
    exact Hh.heap.boxes id c cs b hl' hm hgc
  have hdo : e.o.dst.getD 0 = e.t := by rw [k2]; rfl
  have hcr : callRes st0 e.g e.o r = resSV (resId e.t) e.g v 0 r.rs := by simp only [callRes, hdo, st0]
  have hb1 : (callRes st0 e.g e.o r).2.2.map (·.1) = e.bornB := by rw [hcr, Rec.bornB, hres]
  have hb2 : (callRes st0 e.g e.o r).2.1.map (·.1) = e.bornR := by rw [hcr, Rec.bornR, hres]
  have hids : callIds st0 e.g e.o r = e.born := by simp only [callIds, hb1, hb2, Rec.born]
  have hcs1 : callSt1 st0 r = st0 := by rw [callSt1, hst.1, hst.2]; rfl
  have hnewIds : ∀ l : List Nat, (∀ i ∈ l, i ∉ r.cu) → newIds st0 l = true := by
    intro l
    induction l with
    | nil => intro _; rfl
    | cons i l ih =>
      intro h
      have h1 : look st0.boxes i = none := by
        simp only [st0, look_cuL]; rw [if_neg (h i (by simp))]
      have h2 : look st0.rows i = none := rfl
      simp only [newIds, h1, h2, Bool.true_and]
      exact ih fun j hj => h j (List.mem_cons_of_mem _ hj)
  have hok : callOk st0 e.g e.o r = true := by
    simp only [callOk, Bool.and_eq_true]
    refine ⟨⟨⟨⟨⟨⟨⟨⟨?_, ?_⟩, c4⟩, ?_⟩, ?_⟩, ?_⟩, noDup_iff.2 c2⟩, ?_⟩, ?_⟩
    · rw [hcs1, hst.1, hst.2]
      simp only [St.turned, Bool.and_eq_true, List.all_eq_true]
      exact ⟨fun p hp => by simp [st0] at hp, fun p _ => ⟨SV.cleans_nil _, SV.frees_nil _⟩⟩
    · simp only [St.lt, Bool.and_eq_true, List.all_eq_true]
      refine ⟨⟨fun p hp => by simp [st0] at hp, fun p hp => ?_⟩, fun p hp => by simp [st0] at hp⟩
      obtain ⟨p1, p2⟩ := mem_cuL r.cu p hp
      obtain ⟨b, c, x, q1, q2, _⟩ := hcub p.1 p1
      refine l2 p.1 p.2.1 p.2.2 ?_
      simp only [view, look_filterK, H.1 _ _ q1, if_true]
      exact p2
    · rw [hids]; exact hnewIds _ fun i h1 h2 => (c3 i h2).2 h1
    · rw [hcs1]
      simp only [St.free, Bool.and_eq_true, List.all_eq_true]
      refine ⟨fun p hp => by simp [st0] at hp, fun p hp => ?_⟩
      obtain ⟨p1, p2⟩ := mem_cuL r.cu p hp
      obtain ⟨b, c, x, q1, q2, q3, _⟩ := hcub p.1 p1
      rw [q2] at p2
      have he := Option.some.inj p2
      obtain ⟨y, hy⟩ := Option.ne_none_iff_exists'.1 q3
      rw [← he]
      exact curBox_free hy _
    · rw [hst.1, hst.2]; rfl
    · rw [c1]; simp
    · rw [c1]; simp
  refine callD_sound (st0 := st0) (stE := stF) hc hclo R0 Hh k3 hst (fun x hx sv h => ?_) hok ?_ (fun id hid cells h => ?_) (hcall hg) fun ds us w' mr ρr hl hR hRR hmb hmr hfr => ?_
  · rw [← view_get (recs := recs) (nv := v) F.deps hcl hx] at h
    rw [henv]
    obtain ⟨c, h1, _⟩ := St.get_eval h
    unfold St.eval at h1
    split at h1
    · exact (l1 _ _ _ h1).2
    · split at h1
      · rename_i hcc; cases h1; exact constSV_lt hcc
      · cases h1
    · cases h1; simp [SV.lt, SV.lts]
    · cases h1
  · simp only [dstOk, k2, st0]
    have := F.lt
    rw [Bool.and_eq_true]
    exact ⟨Nat.ble_eq_true_of_le this.1, Nat.ble_eq_true_of_le this.2⟩
  · obtain ⟨b, c, x, q1, q2, q3, q4⟩ := hcub id hid
    unfold St.box at h ⊢
    rw [q2] at h
    simp only [st0, look_cuL]
    rw [if_pos hid, q2]
    exact h
  · rw [k2] at hRR ⊢
    have R1 := hext ds hl
    have hg1 := (hgx ds).2 hg
    have hmn : ∀ i b, mr i = some b → m i = none := fun i b h => by
      cases hx : m i with
      | none => rfl
      | some b' => exact absurd (by rw [← hb1]; exact hmb i b h) (not_born he hi (H.1 _ _ hx))
    have hrn : ∀ i rc, ρr i = some rc → ρ i = none := fun i b h => by
      cases hx : ρ i with
      | none => rfl
      | some b' => exact absurd (by rw [← hb2]; exact hmr i b h) (not_born he hi (H.2 _ _ hx))
    have more1 : ∀ i b, m i = some b → orM mr m i = some b := fun i b h => by
      unfold orM
      split
      · rename_i x hx; rw [hmn i x hx] at h; cases h
      · exact h
    have more2 : ∀ i b, ρ i = some b → orM ρr ρ i = some b := fun i b h => by
      unfold orM
      split
      · rename_i x hx; rw [hrn i x hx] at h; cases h
      · exact h
    have fS : ∀ b, cx.S b → w'.heap[b]? = w.heap[b]? := fun b hb => hfr b (Nat.lt_of_lt_of_le (hc.lt b hb) R.kept.size) fun id _ hm => (hS.boxOwn id b hm).1 hb
    have fR : ∀ i rc b, ρ i = some rc → b ∈ rc.fp → w'.heap[b]? = w.heap[b]? := fun i rc b h1 h2 => hfr b (hS.rowOwn i rc b h1 h2).2.2 fun id _ hm => hS.apart id i rc b hm h1 h2
    have hsv : ∀ sv v, SVR cx w m ρ (env ++ ds) sv v → SVR cx w' (orM mr m) (orM ρr ρ) (env ++ ds) sv v := fun sv v h =>
      (h.frame hc.gs fS fR fun i rc b h1 h2 => hS.addrIn i rc b h1 h2).more more1 more2
    have hboxes : (callSt st0 e.g e.o r st0.rows).boxes = (callRes st0 e.g e.o r).2.2 ++ cuBoxes r.cu st0.boxes := by simp only [callSt, hcs1]
    have hrows : (callSt st0 e.g e.o r st0.rows).rows = (callRes st0 e.g e.o r).2.1 ++ [] := rfl
    refine hK ds _ w' (orM mr m) (orM ρr ρ) hl (hkk ds hl hR) (view_step Dw he R1 hRR.kept hsv (fun id c cs b hid hlk hmi => ?_) (fun id rc hid hr => ?_) (fun p hp b hmb' hgc => ?_) (fun p hp rc hrc hgc => ?_) hRR.heap.sep (fun _ => ?_) (fun h => absurd hg1 h))
    · have hmi' : m id = some b := by
        unfold orM at hmi
        split at hmi
        · rename_i x hx; exact absurd (by rw [← hb1]; exact hmb id x hx) hid
        · exact hmi
      refine ⟨hmi', fun hcd hbr => ?_⟩
      obtain ⟨h1, h2⟩ := look_filterK_some hlk
      by_cases hcu : id ∈ r.cu
      · obtain ⟨b', c', x, q1, q2, q3, q4⟩ := hcub id hcu
        rw [h2] at q2
        cases q2
        refine hRR.heap.boxes id c _ b ?_ hmi hcd
        rw [hboxes, look_append]
        cases hlk2 : look (callRes st0 e.g e.o r).2.2 id with
        | some y => exact absurd (by rw [← hb1]; exact List.mem_map.2 ⟨_, look_mem hlk2, rfl⟩) hid
        | none =>
          simp only
          rw [look_cuBoxes _ _ _ c2, if_pos hcu]
          simp only [st0, look_cuL]
          rw [if_pos hcu, h2]
          rfl
      · obtain ⟨vs, T, e1, e2⟩ := hbr
        exact ⟨vs, T, (hfr b (hS.boxOwn id b hmi').2.2 fun id' hid' hm' => hcu (hS.boxes id' id b hm' hmi' ▸ hid')).trans e1, e2.map fun i hi v hv => hsv _ v hv⟩
    · have hr' : ρ id = some rc := by
        unfold orM at hr
        split at hr
        · rename_i x hx; exact absurd (by rw [← hb2]; exact hmr id x hx) hid
        · exact hr
      exact ⟨hr', fun rw h => ⟨h.1, h.2.1, h.2.2.frame fun b hb => fR id rc b hr' hb⟩⟩
    · refine hRR.heap.boxes p.1 p.2.1 p.2.2 b ?_ hmb' hgc
      rw [hboxes, look_append]
      have hp' : p ∈ (callRes st0 e.g e.o r).2.2 := by rw [hcr]; rw [hres] at hp; exact hp
      cases hlk2 : look (callRes st0 e.g e.o r).2.2 p.1 with
      | some y =>
        have hy : (p.1, y) ∈ e.res.2.2 := by rw [hres]; rw [hcr] at hlk2; exact look_mem hlk2
        have h1 := F.boxes _ hy
        have h2 := F.boxes p hp
        simp only at h1
        rw [h1] at h2
        cases h2
        rfl
      | none =>
        exfalso
        have hno : ∀ (l : List (Nat × Conds × List SV)) (i : Nat) x, (i, x) ∈ l → look l i ≠ none := by
          intro l
          induction l with
          | nil => intro i x h; simp at h
          | cons q l ih =>
            intro i x h
            obtain ⟨j, y⟩ := q
            rw [look_cons]
            split
            · simp
            · rename_i hne
              rcases List.mem_cons.1 h with h | h
              · cases h; exact absurd rfl hne
              · exact ih i x h
        exact hno _ _ _ hp' hlk2
    · refine hRR.heap.rows p.1 p.2.1 p.2.2 rc ?_ hrc hgc
      rw [hrows, look_append]
      have hp' : p ∈ (callRes st0 e.g e.o r).2.1 := by rw [hcr]; rw [hres] at hp; exact hp
      cases hlk2 : look (callRes st0 e.g e.o r).2.1 p.1 with
      | some y =>
        have hy : (p.1, y) ∈ e.res.2.1 := by rw [hres]; rw [hcr] at hlk2; exact look_mem hlk2
        have h1 := F.rows _ hy
        have h2 := F.rows p hp
        simp only at h1
        rw [h1] at h2
        cases h2
        rfl
      | none =>
        exfalso
        have hno : ∀ (l : List (Nat × Conds × Row)) (i : Nat) x, (i, x) ∈ l → look l i ≠ none := by
          intro l
          induction l with
          | nil => intro i x h; simp at h
          | cons q l ih =>
            intro i x h
            obtain ⟨j, y⟩ := q
            rw [look_cons]
            split
            · simp
            · rename_i hne
              rcases List.mem_cons.1 h with h | h
              · cases h; exact absurd rfl hne
              · exact ih i x h
        exact hno _ _ _ hp' hlk2
    · have hsl : look (callSt st0 e.g e.o r st0.rows).slots e.t = some (e.g, tupOf (callRes st0 e.g e.o r).1) := by
        simp only [callSt, hcs1, k2, St.put, look_upd, if_true]
      have := (hRR.slots _ _ _ hsl).2.1 hg1
      rw [hres, ← hcr]
      have hval : ((a.put (some e.t) (resVal us)).tmps).getD e.t undef = resVal us := by
        rw [put_tmps]
        have hlt : e.t < a.tmps.size := by rw [R.size.1]; exact F.lt.1
        simp [Array.getD_eq_getD_getElem?, hlt]
      rw [hval] at this
      exact this
end
end Go.Proofs.Ytfbahdalemajcaa.Eng

/-
  The engine: regions that draw their order: all orders.
-/
namespace Go.Proofs.Ytfbahdalemajcaa.Eng
section
variable {P : Program} {cx : Cx} {w0 w w' : World} {m m' : BoxM} {ρ ρ' : RowM} {env : List D} {st stF : St} {g : Conds} {a : Act} {o : Oper} {ops : Array Oper} {clo : Nat → CloD} {Qd : List D → Prop} {κ : Nat → List D → Prop} {k : T}
  {K : Act → World → Prop} {Q : Exit → Act → World → Prop} {md : Modes} {opsA tail : List (Nat × Oper)} {cl : List (List Nat)} {recs : List Rec} {S S' : Nat → Bool} {e : Rec} {nv : Nat} {listed : Array Bool}
/-! ### what is listed -/
def inL (listed : Array Bool) (j : Nat) : Bool := listed.getD j false
def unl (n : Nat) (S : Nat → Bool) : Nat := (List.range n).countP fun j => !S j
theorem inL_set {i : Nat} (h : i < listed.size) : inL (listed.setIfInBounds i true) = setS (inL listed) i := by
  funext j
  unfold inL setS
  by_cases hj : j = i
  · subst hj; simp [h]
  · rw [if_neg hj]; exact getD_set_ne false (Ne.symm hj)
theorem countP_less {p q : Nat → Bool} : ∀ (l : List Nat) (i : Nat), i ∈ l → (∀ j, q j = true → p j = true) → p i = true → q i = false → l.countP q < l.countP p
  | [], i, h, _, _, _ => by simp at h
  | x :: l, i, h, h1, h2, h3 => by
    have hle : ∀ l : List Nat, l.countP q ≤ l.countP p := fun l => List.countP_mono_left fun j _ hj => h1 j hj
    rw [List.countP_cons, List.countP_cons]
    rcases List.mem_cons.1 h with rfl | h
    · have := hle l
      simp [h2, h3]; omega
    · have := countP_less l i h h1 h2 h3
      by_cases hq : q x = true
      · simp [hq, h1 x hq]; omega
      · simp only [hq]; simp; omega
theorem unl_set {n i : Nat} (hi : i < n) (h : S i = false) : unl n (setS S i) < unl n S :=
  countP_less _ i (List.mem_range.2 hi) (fun j hj => by
    unfold setS at hj
    split at hj
    · simp at hj
    · exact hj) (by simp [h]) (by simp [setS])
theorem unl_zero {n : Nat} (h : unl n S = 0) : ∀ i, i < n → S i = true := by
  intro i hi
  cases hs : S i with
  | true => rfl
  | false =>
    have := List.countP_eq_zero.1 h i (List.mem_range.2 hi)
    simp [hs] at this
theorem all_listed (hlow : ∀ i o, ops[i]? = some o → ∀ e ∈ o.after.toList, Region.binds .any e = true → e.on < i) (hsz : listed.size = ops.size) (hr : Region.ready .any ops listed = []) : ∀ i, i < ops.size → inL listed i = true := by
  intro i
  induction i using Nat.strongRecOn with
  | ind i ih =>
    intro hi
    cases hs : inL listed i with
    | true => rfl
    | false =>
      exfalso
      have : i ∈ Region.ready .any ops listed := by
        rw [mem_ready]
        refine ⟨?_, ops[i], Array.getElem?_eq_getElem hi, fun e he hb => ?_⟩
        · have hi' : i < listed.size := by omega
          unfold inL at hs
          simpa [Array.getD_eq_getD_getElem?, hi'] using hs
        · have := hlow i _ (Array.getElem?_eq_getElem hi) e (Array.mem_toList_iff.2 he) hb
          exact ih e.on this (by omega)
      rw [hr] at this
      cases this
/-- What is ready, and what that says. -/
theorem ready_facts (Dw : Drawn P md ops st stF opsA tail cl recs) (hcl : ∀ j, inL listed j = true → ∀ k ∈ cl.getD j [], inL listed k = true) {i : Nat} (h : i ∈ Region.ready .any ops listed) :
    ∃ o, ops[i]? = some o ∧ i < listed.size ∧ inL listed i = false ∧ ∀ k ∈ cl.getD i [], inL listed k = true := by
  obtain ⟨h1, o, h2, h3⟩ := mem_ready.1 h
  have hlt : i < listed.size := by
    rcases Nat.lt_or_ge i listed.size with h' | h'
    · exact h'
    · simp [Array.getElem?_eq_none h'] at h1
  refine ⟨o, h2, hlt, ?_, fun k hk => ?_⟩
  · unfold inL; simpa [Array.getD_eq_getD_getElem?, hlt] using h1
  · obtain ⟨e, e1, e2, e3⟩ := Dw.clo i o h2 k hk
    have := h3 e (Array.mem_toList_iff.1 e1) e2
    rcases e3 with rfl | e3
    · exact this
    · exact hcl e.on this k e3
theorem closed_set {i : Nat} (hcl : ∀ j, S j = true → ∀ k ∈ cl.getD j [], S k = true) (hi : ∀ k ∈ cl.getD i [], S k = true) : ∀ j, setS S i j = true → ∀ k ∈ cl.getD j [], setS S i k = true := by
  intro j hj k hk
  rcases setS_inv hj with rfl | h
  · exact setS_of (hi k hk)
  · exact setS_of (hcl j h k hk)
theorem wpOp_some {i : Nat} (h : ops[i]? = some o) : stepWp P ops o a w K Q → wpOp P ops Q i K a w := by
  intro hs
  unfold wpOp
  rw [h]
  exact hs
theorem tailOk_spec : ∀ (tail : List (Nat × Oper)) (before : List Nat), tailOk cl before tail = true → ∀ t1 q t2, tail = t1 ++ q :: t2 → (∀ j ∈ before, j ∈ cl.getD q.1 []) ∧ ∀ p ∈ t1, p.1 ∈ cl.getD q.1 []
  | [], before, _, t1, q, t2, h => by simp at h
  | (i, o) :: l, before, hk, t1, q, t2, h => by
    simp only [tailOk, Bool.and_eq_true, List.all_eq_true] at hk
    cases t1 with
    | nil =>
      simp only [List.nil_append, List.cons.injEq] at h
      obtain ⟨rfl, _⟩ := h
      exact ⟨fun j hj => memN_iff.1 (hk.1 j hj), by simp⟩
    | cons p t1 =>
      simp only [List.cons_append, List.cons.injEq] at h
      obtain ⟨rfl, h⟩ := h
      obtain ⟨h1, h2⟩ := tailOk_spec l _ hk.2 t1 q t2 h
      refine ⟨fun j hj => h1 j (List.mem_cons_of_mem _ hj), fun p hp => ?_⟩
      rcases List.mem_cons.1 hp with rfl | hp
      · exact h1 _ (by simp)
      · exact h2 p hp
/-! ### the rest -/
theorem draw_tail {Kt : St → T} (hc : CxOk cx w0) (hclo : CloOk cx w0 clo) (Dw : Drawn P md ops st stF opsA tail cl recs) {env0 : List D} (hK : ∀ env' st' a' w' m' ρ', env0 <+: env' → (Kt st').den P clo Qd κ env' → Rel cx w0 env' st' a' w' m' ρ' → Q .normal a' w') :
    ∀ (fuel : Nat) (listed : Array Bool) (t1 t2 : List (Nat × Oper)) (stt : St) (env : List D) (a : Act) (w : World) (m : BoxM) (ρ : RowM), env0 <+: env → tail = t1 ++ t2 → listed.size = ops.size → unl ops.size (inL listed) ≤ fuel → (∀ j, inL listed j = true → ∀ k ∈ cl.getD j [], inL listed k = true) →
      (∀ p ∈ opsA, inL listed p.1 = true) → (∀ p ∈ t1, inL listed p.1 = true) → (∀ p ∈ t2, inL listed p.1 = false) → Rel cx w0 env stt a w m ρ → (execOps P md ops (t2.map (·.2)) stt Kt).den P clo Qd κ env → wpAny P .any ops Q fuel listed a w := by
  intro fuel
  have htn := Dw.tailNd
  have fin : ∀ (listed : Array Bool) (t1 t2 : List (Nat × Oper)) (stt : St) (env : List D) (a : Act) (w : World) (m : BoxM) (ρ : RowM), env0 <+: env → tail = t1 ++ t2 → (∀ i, i < ops.size → inL listed i = true) → (∀ p ∈ t2, inL listed p.1 = false) → Rel cx w0 env stt a w m ρ →
      (execOps P md ops (t2.map (·.2)) stt Kt).den P clo Qd κ env → Q .normal a w := by
    intro listed t1 t2 stt env a w m ρ hp0 ht hall h2 R hd
    cases t2 with
    | nil => exact hK env stt a w m ρ hp0 hd R
    | cons q t2 =>
      exfalso
      have h1 := Dw.hT q (by rw [ht]; simp)
      have := hall q.1 (Array.getElem?_eq_some_iff.1 h1).1
      rw [h2 q (by simp)] at this
      cases this
  induction fuel with
  | zero =>
    intro listed t1 t2 stt env a w m ρ hp0 ht hsz hf hcl hA h1 h2 R hd
    have hall := unl_zero (Nat.le_zero.1 hf)
    refine ⟨?_, fin listed t1 t2 stt env a w m ρ hp0 ht hall h2 R hd⟩
    cases hr : Region.ready .any ops listed with
    | nil => rfl
    | cons i l =>
      obtain ⟨o, q1, q2, q3, _⟩ := ready_facts (i := i) Dw hcl (by rw [hr]; simp)
      rw [hall i (by omega)] at q3
      cases q3
  | succ fuel ih =>
    intro listed t1 t2 stt env a w m ρ hp0 ht hsz hf hcl hA h1 h2 R hd
    refine ⟨fun hr => fin listed t1 t2 stt env a w m ρ hp0 ht (all_listed Dw.low hsz hr) h2 R hd, fun i hi => ?_⟩
    obtain ⟨o, q1, q2, q3, q4⟩ := ready_facts Dw hcl hi
    rcases Dw.all i o q1 with ⟨p, p1, p2⟩ | p
    rotate_left
    · rw [hA _ p] at q3; cases q3
    rw [ht] at p1
    rcases List.mem_append.1 p1 with p1 | p1
    · have := h1 p p1
      rw [p2, q3] at this; cases this
    cases t2 with
    | nil => simp at p1
    | cons q t2 =>
      have hpq : p = q := by
        rcases List.mem_cons.1 p1 with h | h
        · exact h
        · exfalso
          obtain ⟨x, y, hxy⟩ := List.append_of_mem h
          have := (tailOk_spec tail _ Dw.tailOk (t1 ++ q :: x) p y (by rw [ht, hxy]; simp)).2 q (by simp)
          rw [p2] at this
          have h3 := h2 q (by simp)
          rw [q4 q.1 this] at h3
          cases h3
      subst hpq
      have hop := Dw.hT p (by rw [ht]; simp)
      rw [p2, q1] at hop
      cases hop
      refine wpOp_some q1 ?_
      simp only [List.map_cons, execOps] at hd
      split at hd
      · rename_i items st' hs
        refine stepOp_sound hc hclo R hs hd fun env' a' w' m' ρ' hp' hd' R' => ?_
        have hnd : ∀ p' ∈ t2, p'.1 ≠ p.1 := fun p' hp' he => by
          rw [ht, List.map_append, List.map_cons] at htn
          have := (List.nodup_append.1 htn).2.1
          exact (List.nodup_cons.1 this).1 (he ▸ List.mem_map.2 ⟨p', hp', rfl⟩)
        rw [← p2] at q2 q3 q4 ⊢
        refine ih _ (t1 ++ [p]) t2 st' env' a' w' m' ρ' (hp0.trans hp') (by rw [ht]; simp) (by simpa using hsz) ?_ ?_ ?_ ?_ ?_ R' hd'
        · rw [inL_set q2]; have := unl_set (n := ops.size) (by omega) q3; omega
        · rw [inL_set q2]; exact closed_set hcl q4
        · rw [inL_set q2]; exact fun p' hp' => setS_of (hA p' hp')
        · rw [inL_set q2]
          intro p' hp'
          rcases List.mem_append.1 hp' with h | h
          · exact setS_of (h1 p' h)
          · simp only [List.mem_singleton] at h; subst h; exact setS_self
        · rw [inL_set q2]
          intro p' hp'
          unfold setS
          rw [if_neg (hnd p' hp')]
          exact h2 p' (List.mem_cons_of_mem _ hp')
      · exact hd.elim
/-! ### what the tree needs -/
def itemFact (env : List D) : Item → Prop
  | .need g x => g.den env → (x.den env).toB = true
  | _ => True
def isNeed : Item → Prop
  | .need _ _ => True
  | _ => False
theorem wrap_ns {r : List Item} : ∀ (l : List Item), (∀ i ∈ l, isNeed i) → (Item.wrap (l ++ r) k).den P clo Qd κ env → (∀ i ∈ l, itemFact env i) ∧ (Item.wrap r k).den P clo Qd κ env
  | [], _, h => ⟨by simp, h⟩
  | i :: l, hn, h => by
    have h1 := hn i (by simp)
    cases i with
    | need g x =>
      simp only [List.cons_append, Item.wrap, T.den] at h
      obtain ⟨h2, h3⟩ := wrap_ns l (fun i hi => hn i (List.mem_cons_of_mem _ hi)) h.2
      refine ⟨fun i hi => ?_, h3⟩
      rcases List.mem_cons.1 hi with rfl | hi
      · exact h.1
      · exact h2 i hi
    | know _ => exact h1.elim
    | nilq _ => exact h1.elim
    | call _ _ _ _ _ => exact h1.elim
theorem wrap_ks {r : List Item} : ∀ (l : List Item), (∀ i ∈ l, ∃ x, i = .know x ∧ (x.den env).toL.length ≤ maxL) → (Item.wrap (l ++ r) k).den P clo Qd κ env → (Item.wrap r k).den P clo Qd κ env
  | [], _, h => h
  | i :: l, hn, h => by
    obtain ⟨x, rfl, hx⟩ := hn i (by simp)
    simp only [List.cons_append, Item.wrap, T.den] at h
    exact wrap_ks l (fun i hi => hn i (List.mem_cons_of_mem _ hi)) (h hx)
/-- What is left of the items. -/
def leftI (nv : Nat) (cs : List Rec) (ns : List Item) : List Item :=
  match cs with
  | [] => []
  | c :: cs => match c.k with
    | .pure _ => []
    | .call _ r => .call c.g r.f r.args r.rs (r.rs.length + r.wr.length) :: hoist (nv + (r.rs.length + r.wr.length)) (cs.flatMap Rec.calls) ns
theorem hoist_left {kn : List Item} {cs : List Rec} {ns : List Item} (hcs : ∀ c ∈ cs, ∃ v r, c.k = .call v r) (hns : ∀ i ∈ ns, isNeed i) (h : (Item.wrap (hoist nv (cs.flatMap Rec.calls) ns ++ kn) k).den P clo Qd κ env) :
    ∃ ns', (∀ i ∈ ns', isNeed i) ∧ (∀ i ∈ ns, (i ∈ ns' ∧ nv < i.top ∧ cs ≠ []) ∨ ((i.top ≤ nv ∨ cs = []) ∧ itemFact env i)) ∧ (Item.wrap (leftI nv cs ns' ++ kn) k).den P clo Qd κ env := by
  cases cs with
  | nil =>
    simp only [List.flatMap_nil, hoist] at h
    obtain ⟨h1, h2⟩ := wrap_ns ns hns h
    exact ⟨[], by simp, fun i hi => .inr ⟨.inr rfl, h1 i hi⟩, h2⟩
  | cons c cs =>
    obtain ⟨v, r, hk⟩ := hcs c (by simp)
    have e1 : (c :: cs).flatMap Rec.calls = .call c.g r.f r.args r.rs (r.rs.length + r.wr.length) :: cs.flatMap Rec.calls := by
      simp [Rec.calls, hk]
    rw [e1] at h
    simp only [hoist, List.append_assoc] at h
    obtain ⟨h1, h2⟩ := wrap_ns _ (fun i hi => hns i (List.mem_filter.1 hi).1) h
    refine ⟨ns.filter fun i => !Nat.ble i.top nv, fun i hi => hns i (List.mem_filter.1 hi).1, fun i hi => ?_, ?_⟩
    · cases hb : Nat.ble i.top nv with
      | true => exact .inr ⟨.inl (nble hb), h1 i (List.mem_filter.2 ⟨hi, hb⟩)⟩
      | false =>
        refine .inl ⟨List.mem_filter.2 ⟨hi, by simp [hb]⟩, ?_, by simp⟩
        rcases Nat.lt_or_ge nv i.top with h | h
        · exact h
        · have := Nat.ble_eq_true_of_le h; rw [this] at hb; cases hb
    · simp only [leftI, hk]
      simpa using h2
theorem itemFact_ext {i : Item} (hn : isNeed i) (ht : i.top ≤ env.length) (o : List D) (h : itemFact env i) : itemFact (env ++ o) i := by
  cases i with
  | need g x =>
    have ht := Nat.max_le.1 ht
    simp only [itemFact] at h ⊢
    rw [Conds.den_ext g (Conds.lt_of_top ht.1), X.den_ext x (X.lt_of_top ht.2)]
    exact h
  | know _ => exact hn.elim
  | nilq _ => exact hn.elim
  | call _ _ _ _ _ => exact hn.elim
end
end Go.Proofs.Ytfbahdalemajcaa.Eng

/-
  The engine: regions that draw their order are what the executor says.
-/
namespace Go.Proofs.Ytfbahdalemajcaa.Eng
section
variable {P : Program} {cx : Cx} {w0 w w' : World} {m m' : BoxM} {ρ ρ' : RowM} {env : List D} {st stF : St} {g : Conds} {a : Act} {o : Oper} {ops : Array Oper} {clo : Nat → CloD} {Qd : List D → Prop} {κ : Nat → List D → Prop} {k : T}
  {K : Act → World → Prop} {Q : Exit → Act → World → Prop} {md : Modes} {opsA tail : List (Nat × Oper)} {cl : List (List Nat)} {recs : List Rec} {S S' : Nat → Bool} {e : Rec} {nv : Nat} {listed : Array Bool}
theorem needs_need {i : Item} (h : i ∈ e.needs) : isNeed i := by
  unfold Rec.needs at h
  split at h
  · obtain ⟨x, _, rfl⟩ := List.mem_map.1 h; trivial
  · simp at h
theorem draw_all {Kt : St → T} (hc : CxOk cx w0) (hclo : CloOk cx w0 clo) (Dw : Drawn P md ops st stF opsA tail cl recs) {env0 : List D} (hK : ∀ env' st' a' w' m' ρ', env0 <+: env' → (Kt st').den P clo Qd κ env' → Rel cx w0 env' st' a' w' m' ρ' → Q .normal a' w') :
    ∀ (fuel : Nat) (listed : Array Bool) (env : List D) (a : Act) (w : World) (m : BoxM) (ρ : RowM) (nv : Nat) (cs : List Rec) (ns : List Item), env0 <+: env → listed.size = ops.size → unl ops.size (inL listed) ≤ fuel → (∀ j, inL listed j = true → ∀ k ∈ cl.getD j [], inL listed k = true) →
      (∀ p ∈ tail, inL listed p.1 = false) → Rel cx w0 env (view stF opsA recs (inL listed) nv) a w m ρ → callNums nv cs → nv + callVars cs = stF.nv → (∀ c ∈ cs, c ∈ recs ∧ inL listed c.i = false ∧ ∃ v r, c.k = .call v r) →
      (∀ e ∈ recs, ∀ v r, e.k = .call v r → inL listed e.i = false → e ∈ cs) → cs.Pairwise (fun c c' => c.i ∈ cl.getD c'.i []) → (∀ i ∈ ns, isNeed i) →
      (∀ e ∈ recs, ∀ i ∈ e.needs, (i ∈ ns ∧ nv < i.top ∧ cs ≠ []) ∨ ((i.top ≤ nv ∨ cs = []) ∧ itemFact env i)) → (∀ e ∈ recs, inL listed e.i = true → e.g = [] → ∀ r, e.k = .pure r → ∀ x ∈ r.knows, (x.den env).toL.length ≤ maxL) →
      (Item.wrap (leftI nv cs ns ++ recs.flatMap Rec.knows) (execOps P md ops (tail.map (·.2)) stF Kt)).den P clo Qd κ env → wpAny P .any ops Q fuel listed a w := by
  intro fuel
  induction fuel with
  | zero =>
    intro listed env a w m ρ nv cs ns hp0 hsz hf hcl hT R hnum hnv hcs hcs2 hord hns hneed hknow hd
    have hall := unl_zero (Nat.le_zero.1 hf)
    have hA : ∀ p ∈ opsA, inL listed p.1 = true := fun p hp => hall p.1 (Array.getElem?_eq_some_iff.1 (Dw.hA p hp)).1
    have hcs0 : cs = [] := by
      cases cs with
      | nil => rfl
      | cons c cs =>
        obtain ⟨c1, c2, _⟩ := hcs c (by simp)
        rw [hA _ (rec_mem Dw c1)] at c2; cases c2
    subst hcs0
    refine draw_tail hc hclo Dw hK 0 listed [] tail stF env a w m ρ hp0 rfl hsz hf hcl hA (by simp) hT (view_end Dw hA (by simpa [callVars] using hnv) R) (wrap_ks (r := []) (recs.flatMap Rec.knows) (fun i hi => ?_) (by simpa [leftI] using hd))
    obtain ⟨e, e1, e2⟩ := List.mem_flatMap.1 hi
    unfold Rec.knows at e2
    split at e2
    · rename_i r hk hg
      obtain ⟨x, x1, x2⟩ := List.mem_map.1 e2
      exact ⟨x, x2.symm, hknow e e1 (hA _ (rec_mem Dw e1)) hg r hk x x1⟩
    · simp at e2
  | succ fuel ih =>
    intro listed env a w m ρ nv cs ns hp0 hsz hf hcl hT R hnum hnv hcs hcs2 hord hns hneed hknow hd
    by_cases hA : ∀ p ∈ opsA, inL listed p.1 = true
    · have hcs0 : cs = [] := by
        cases cs with
        | nil => rfl
        | cons c cs =>
          obtain ⟨c1, c2, _⟩ := hcs c (by simp)
          rw [hA _ (rec_mem Dw c1)] at c2; cases c2
      subst hcs0
      refine draw_tail hc hclo Dw hK (fuel + 1) listed [] tail stF env a w m ρ hp0 rfl hsz hf hcl hA (by simp) hT (view_end Dw hA (by simpa [callVars] using hnv) R) (wrap_ks (r := []) (recs.flatMap Rec.knows) (fun i hi => ?_) (by simpa [leftI] using hd))
      obtain ⟨e, e1, e2⟩ := List.mem_flatMap.1 hi
      unfold Rec.knows at e2
      split at e2
      · rename_i r hk hg
        obtain ⟨x, x1, x2⟩ := List.mem_map.1 e2
        exact ⟨x, x2.symm, hknow e e1 (hA _ (rec_mem Dw e1)) hg r hk x x1⟩
      · simp at e2
    refine ⟨fun hr => ?_, fun i hi => ?_⟩
    · exfalso
      have hall := all_listed Dw.low hsz hr
      exact hA fun p hp => hall p.1 (Array.getElem?_eq_some_iff.1 (Dw.hA p hp)).1
    obtain ⟨o, q1, q2, q3, q4⟩ := ready_facts Dw hcl hi
    by_cases hmem : (i, o) ∈ opsA
    rotate_left
    · exfalso
      rcases Dw.all i o q1 with ⟨p, p1, p2⟩ | p
      · obtain ⟨x, y, hxy⟩ := List.append_of_mem p1
        have := (tailOk_spec tail _ Dw.tailOk x p y hxy).1
        refine hA fun p' hp' => q4 p'.1 ?_
        rw [← p2]
        exact this p'.1 (List.mem_map.2 ⟨p', hp', rfl⟩)
      · exact hmem p
    obtain ⟨e, he, rfl, rfl⟩ := rec_of Dw hmem
    have hclS : ∀ e ∈ recs, inL listed e.i = true → ∀ k ∈ cl.getD e.i [], inL listed k = true := fun e _ h => hcl e.i h
    obtain ⟨m, ρ, R, H⟩ := view_hide Dw hclS R
    have hset := inL_set q2
    have hun := unl_set (n := ops.size) (S := inL listed) (by omega) q3
    have hcl' := closed_set (i := e.i) hcl q4
    have hT' : ∀ p ∈ tail, setS (inL listed) e.i p.1 = false := fun p hp => by
      unfold setS
      rw [if_neg fun h => Dw.disj _ hmem p hp h.symm]
      exact hT p hp
    refine wpOp_some q1 ?_
    have F := rec_facts Dw he
    cases hk : e.k with
    | pure r =>
      refine draw_pure hc Dw he q3 q4 hk R H (fun hg x hx => ?_) fun a' w' m' ρ' R' hkn => ?_
      · have hin : Item.need e.g x ∈ e.needs := by simp only [Rec.needs, hk]; exact List.mem_map.2 ⟨x, hx, rfl⟩
        rcases hneed e he _ hin with ⟨_, h2, h3⟩ | ⟨_, h2⟩
        · exfalso
          cases cs with
          | nil => exact h3 rfl
          | cons c cs =>
            obtain ⟨c1, c2, v, r', c3⟩ := hcs c (by simp)
            have hv : v = nv := by simp only [callNums, c3] at hnum; exact hnum.1
            rcases ((rec_facts Dw c1).call v r' c3).2.2.2.2 e he with h | h | h
            · have := Dw.uniq e he c c1 h
              subst this
              rw [hk] at c3; cases c3
            · rw [q4 _ h] at c2; cases c2
            · simp only [Rec.lt, hk, Bool.and_eq_true, List.all_eq_true] at h
              have h4 := X.top_le (h.2.1 x hx)
              have h5 := Conds.top_le h.1.1.1.1
              have : (Item.need e.g x).top ≤ nv := Nat.max_le.2 ⟨by omega, by omega⟩
              omega
        · exact h2 hg
      · refine ih _ env a' w' m' ρ' nv cs ns hp0 (by simpa using hsz) (by rw [hset]; omega) (by rw [hset]; exact hcl') (by rw [hset]; exact hT') (by rw [hset]; exact R') hnum hnv (fun c hcm => ?_) (fun e' he' v r' hk' hs' => ?_) hord hns hneed (fun e' he' hs' hg' r' hk' x hx => ?_) hd
        · obtain ⟨c1, c2, v, r', c3⟩ := hcs c hcm
          refine ⟨c1, ?_, v, r', c3⟩
          rw [hset]; unfold setS
          rw [if_neg fun h => ?_]
          · exact c2
          · have := Dw.uniq c c1 e he h
            subst this
            rw [hk] at c3; cases c3
        · refine hcs2 e' he' v r' hk' ?_
          rw [hset] at hs'
          unfold setS at hs'
          split at hs'
          · cases hs'
          · exact hs'
        · rw [hset] at hs'
          rcases setS_inv hs' with h | h
          · have := Dw.uniq e' he' e he h
            subst this
            rw [hk] at hk'; cases hk'
            exact hkn (by rw [hg']; trivial) x hx
          · exact hknow e' he' h hg' r' hk' x hx
    | call v r =>
      have hein := hcs2 e he v r hk q3
      cases cs with
      | nil => simp at hein
      | cons c cs =>
        obtain ⟨c1, c2, _⟩ := hcs c (by simp)
        have hec : e = c := by
          rcases List.mem_cons.1 hein with h | h
          · exact h
          · exfalso
            have := (List.pairwise_cons.1 hord).1 e h
            rw [q4 _ this] at c2; cases c2
        subst hec
        simp only [callNums, hk] at hnum
        obtain ⟨hv, hnum⟩ := hnum
        subst hv
        have hwr : r.wr = [] := by
          have := (F.call _ r hk).1
          unfold CR.still at this
          split at this
          · rename_i h1 h2; exact h1
          · cases this
        simp only [leftI, hk, List.cons_append] at hd
        refine draw_call hc hclo Dw he q3 hclS q4 hk R H hd fun ds a' w' m' ρ' hl hd' R' => ?_
        have henv : env.length = v := R.nv
        rw [hwr] at hd'
        simp only [List.length_nil, Nat.add_zero] at hd'
        obtain ⟨ns', n1, n2, n3⟩ := hoist_left (fun c hcm => (hcs c (List.mem_cons_of_mem _ hcm)).2.2) hns hd'
        refine ih _ (env ++ ds) a' w' m' ρ' (v + r.rs.length) cs ns' (hp0.trans (List.prefix_append _ _)) (by simpa using hsz) (by rw [hset]; omega) (by rw [hset]; exact hcl') (by rw [hset]; exact hT') (by rw [hset]; exact R') hnum (by simp only [callVars, hk] at hnv; omega) (fun c hcm => ?_) (fun e' he' v' r' hk' hs' => ?_) (List.pairwise_cons.1 hord).2 n1
          (fun e' he' i hi => ?_) (fun e' he' hs' hg' r' hk' x hx => ?_) n3
        · obtain ⟨c1', c2', v', r', c3'⟩ := hcs c (List.mem_cons_of_mem _ hcm)
          refine ⟨c1', ?_, v', r', c3'⟩
          rw [hset]; unfold setS
          rw [if_neg fun h => ?_]
          · exact c2'
          · have h1 := Dw.uniq c c1' e he h
            subst h1
            -- the head is not before itself
            have hself := (List.pairwise_cons.1 hord).1 c hcm
            rw [q4 _ hself] at q3; cases q3
        · rw [hset] at hs'
          have hne : e'.i ≠ e.i := fun h => by rw [h, setS_self] at hs'; cases hs'
          have hs2 : inL listed e'.i = false := by unfold setS at hs'; rwa [if_neg hne] at hs'
          rcases List.mem_cons.1 (hcs2 e' he' v' r' hk' hs2) with h | h
          · subst h; exact absurd rfl hne
          · exact h
        · rcases hneed e' he' i hi with ⟨h1, h2, _⟩ | ⟨h1, h2⟩
          · exact n2 i h1
          · rcases h1 with h1 | h1
            · exact .inr ⟨.inl (by omega), itemFact_ext (needs_need hi) (by omega) ds h2⟩
            · cases h1
        · rw [hset] at hs'
          rcases setS_inv hs' with h | h
          · have := Dw.uniq e' he' e he h
            subst this
            rw [hk] at hk'; cases hk'
          · have hlt : e'.lt v = true := by
              rcases (F.call v r hk).2.2.2.2 e' he' with h1 | h1 | h1
              · rw [h1, q3] at h; cases h
              · rw [hcl _ h _ h1] at q3; cases q3
              · exact h1
            simp only [Rec.lt, hk', Bool.and_eq_true, List.all_eq_true] at hlt
            rw [X.den_ext x (by rw [henv]; exact hlt.2.2 x hx)]
            exact hknow e' he' h hg' r' hk' x hx
theorem calls_pairwise : ∀ (recs : List Rec) (cs : List Nat), callsOrd cl cs recs = true → (recs.filter fun e => match e.k with | .pure _ => false | .call .. => true).Pairwise (fun c c' => c.i ∈ cl.getD c'.i []) ∧
    ∀ e ∈ recs, (∃ v r, e.k = .call v r) → ∀ c ∈ cs, c ∈ cl.getD e.i []
  | [], cs, _ => by simp
  | e :: l, cs, h => by
    simp only [callsOrd] at h
    split at h
    · rename_i r hk
      obtain ⟨h1, h2⟩ := calls_pairwise l cs h
      refine ⟨by simp [hk]; exact h1, fun e' he' hx => ?_⟩
      rcases List.mem_cons.1 he' with rfl | he'
      · obtain ⟨v, r', hx⟩ := hx; rw [hk] at hx; cases hx
      · exact h2 e' he' hx
    · rename_i v r hk
      rw [Bool.and_eq_true, List.all_eq_true] at h
      obtain ⟨h1, h2⟩ := calls_pairwise l _ h.2
      refine ⟨?_, fun e' he' hx c hcm => ?_⟩
      · rw [List.filter_cons]
        simp only [hk, if_true]
        refine List.pairwise_cons.2 ⟨fun c hcm => ?_, h1⟩
        obtain ⟨m1, m2⟩ := List.mem_filter.1 hcm
        refine h2 c m1 ?_ e.i (by simp)
        cases hkc : c.k with
        | pure r => simp [hkc] at m2
        | call v r => exact ⟨v, r, rfl⟩
      · rcases List.mem_cons.1 he' with rfl | he'
        · exact memN_iff.1 (h.1 c hcm)
        · exact h2 e' he' hx c (List.mem_cons_of_mem _ hcm)
theorem flat_calls : ∀ (recs : List Rec), (recs.filter fun e => match e.k with | .pure _ => false | .call .. => true).flatMap Rec.calls = recs.flatMap Rec.calls
  | [] => rfl
  | e :: l => by
    rw [List.filter_cons]
    cases hk : e.k with
    | pure r => simp [Rec.calls, hk]; exact flat_calls l
    | call v r => simp [Rec.calls, hk]; exact flat_calls l
theorem nums_filter : ∀ (recs : List Rec) (n : Nat), callNums n recs → callNums n (recs.filter fun e => match e.k with | .pure _ => false | .call .. => true)
  | [], _, _ => trivial
  | e :: l, n, h => by
    rw [List.filter_cons]
    simp only [callNums] at h
    cases hk : e.k with
    | pure r => rw [hk] at h; simp; exact nums_filter l n h
    | call v r => rw [hk] at h; simp only [if_true, callNums, hk]; exact ⟨h.1, nums_filter l _ h.2⟩
theorem vars_filter : ∀ (recs : List Rec), callVars (recs.filter fun e => match e.k with | .pure _ => false | .call .. => true) = callVars recs
  | [] => rfl
  | e :: l => by
    rw [List.filter_cons]
    cases hk : e.k with
    | pure r => simp [callVars, hk]; exact vars_filter l
    | call v r => simp [callVars, hk]; exact vars_filter l
theorem runA_suffix : ∀ (l : List (Nat × Oper)) (st : St), (runA P md ops l st).2 <:+ l
  | [], st => by simp [runA]
  | (i, o) :: l, st => by
    have tl : ∀ st', (runA P md ops l st').2 <:+ (i, o) :: l := fun st' => (runA_suffix l st').trans (List.suffix_cons _ _)
    simp only [runA]
    split
    · exact List.suffix_refl _
    · split
      · split
        · exact tl _
        · exact List.suffix_refl _
      · split
        · split
          · exact tl _
          · exact List.suffix_refl _
        · exact List.suffix_refl _
theorem number_nodup : ∀ (l : List Oper) (n : Nat), ((number n l).map (·.1)).Nodup
  | [], n => by simp [number]
  | o :: l, n => by
    simp only [number, List.map_cons]
    refine List.nodup_cons.2 ⟨fun h => ?_, number_nodup l (n + 1)⟩
    obtain ⟨p, p1, p2⟩ := List.mem_map.1 h
    have := (number_mem l (n + 1) p.1 p.2 p1).1
    omega
theorem map_inj {f : Rec → Nat} : ∀ (l : List Rec), (l.map f).Nodup → ∀ e ∈ l, ∀ q ∈ l, f e = f q → e = q
  | [], _, e, he, _, _, _ => by simp at he
  | x :: l, hn, e, he, q, hq, hf => by
    have hn := List.nodup_cons.1 hn
    rcases List.mem_cons.1 he with h1 | h1 <;> rcases List.mem_cons.1 hq with h2 | h2
    · rw [h1, h2]
    · rw [h1] at hf; exact absurd (List.mem_map.2 ⟨q, h2, hf.symm⟩) hn.1
    · rw [h2] at hf; exact absurd (List.mem_map.2 ⟨e, h1, hf⟩) hn.1
    · exact map_inj l hn.2 e h1 q h2 hf
theorem drawOk_spec {stF : St} {items : List Item} (h : drawOk P md ops st = some (stF, items, tail)) : ∃ opsA cl recs, Drawn P md ops st stF opsA tail cl recs ∧ items = hoist st.nv (recs.flatMap Rec.calls) (recs.flatMap Rec.needs) ++ recs.flatMap Rec.knows := by
  unfold drawOk at h
  extract_lets nl at h
  obtain ⟨stR, tl, hrun⟩ : ∃ x y, runA P md ops (number 0 ops.toList) st = (x, y) := ⟨_, _, rfl⟩
  simp only [nl, hrun] at h
  obtain ⟨opsA, hA⟩ : ∃ x, ((number 0 ops.toList).filter fun p => !(tl.any fun q => Nat.beq q.1 p.1)) = x := ⟨_, rfl⟩
  rw [hA] at h
  obtain ⟨sF, hF⟩ : ∃ x, drawSt st stR opsA = x := ⟨_, rfl⟩
  rw [hF] at h
  split at h
  · cases h
  rename_i recs hrecs
  rw [Option.ite_none_right_eq_some] at h
  obtain ⟨hchk, h⟩ := h
  simp only [Option.some.injEq, Prod.mk.injEq] at h
  obtain ⟨rfl, rfl, rfl⟩ := h
  simp only [Bool.and_eq_true] at hchk
  obtain ⟨⟨⟨⟨⟨⟨⟨⟨⟨⟨h1, h2⟩, h3⟩, h4⟩, h5⟩, h6⟩, h7⟩, h8⟩, h9⟩, h10⟩, h11⟩ := hchk
  obtain ⟨r1, r2, r3⟩ := recsOf_ok _ _ _ hrecs
  have hsuf : tl <:+ number 0 ops.toList := by have := runA_suffix (P := P) (md := md) (ops := ops) (number 0 ops.toList) st; rwa [hrun] at this
  have hnum : ∀ p, p ∈ number 0 ops.toList → ops[p.1]? = some p.2 := fun p hp => by
    have := (number_mem ops.toList 0 p.1 p.2 hp).2
    simpa using this
  have hlow : ∀ i o, ops[i]? = some o → ∀ e ∈ o.after.toList, Region.binds .any e = true → e.on < i := fun i o hi e he hb => by
    have hin : (i, o) ∈ number 0 ops.toList := by
      have := mem_number ops.toList 0 i o (by simpa using hi)
      simpa using this
    have := List.all_eq_true.1 h3 (i, o) hin
    have := List.all_eq_true.1 this e.on (by
      simp only [dirDeps, List.mem_filterMap]
      exact ⟨e, he, by simp [hb]⟩)
    exact Nat.le_of_ble_eq_true this
  have hAm : ∀ p, p ∈ opsA → p ∈ number 0 ops.toList ∧ ∀ q ∈ tl, q.1 ≠ p.1 := fun p hp => by
    rw [← hA] at hp
    obtain ⟨p1, p2⟩ := List.mem_filter.1 hp
    refine ⟨p1, fun q hq he => ?_⟩
    have : (tl.any fun q => Nat.beq q.1 p.1) = true := List.any_eq_true.2 ⟨q, hq, by rw [he, Nat.beq_refl]⟩
    rw [this] at p2
    cases p2
  have hAnd : (opsA.map (·.1)).Nodup := by
    rw [← hA]
    exact List.Nodup.sublist (List.Sublist.map _ List.filter_sublist) (number_nodup _ _)
  have hjs : recs.flatMap Rec.born ≠ [] → st.free (recs.flatMap Rec.born) = true := fun hne => by
    cases hb : recs.flatMap Rec.born with
    | nil => exact absurd hb hne
    | cons j js => rw [hb] at h10; exact h10
  refine ⟨opsA, closure ops.toList [], recs, ⟨h1, h2, hlow, fun i o hi k hk => ?_, fun p hp => hnum p (hAm p hp).1, fun p hp => hnum p (hsuf.subset hp), fun i o hi => ?_, fun p hp q hq he => (hAm p hp).2 q hq he.symm, ?_, r1, ?_, r2, r3, fun e he => List.all_eq_true.1 h4 e he, h5, h6, fun t ht => ?_, fun id hid => ?_, fun id hid => ?_, fun t c sv hl => ?_, fun id c cs hl => ?_, nbeq h11, ?_⟩, rfl⟩
  · have := closure_spec ops.toList [] i o (by simpa using hi) (fun e he hb => by simpa using hlow i o hi e he hb) k (by simpa using hk)
    exact this
  · have hin : (i, o) ∈ number 0 ops.toList := by
      have := mem_number ops.toList 0 i o (by simpa using hi)
      simpa using this
    cases hb : tl.any fun q => Nat.beq q.1 i with
    | true =>
      obtain ⟨q, q1, q2⟩ := List.any_eq_true.1 hb
      exact .inl ⟨q, q1, nbeq q2⟩
    | false =>
      right
      rw [← hA]
      exact List.mem_filter.2 ⟨hin, by simp [hb]⟩
  · exact List.Nodup.sublist (List.Sublist.map _ hsuf.sublist) (number_nodup _ _)
  · refine map_inj recs ?_
    have : recs.map (fun e => e.i) = opsA.map (·.1) := by rw [← r1, List.map_map]; rfl
    rw [this]; exact hAnd
  · rw [← hF]
    refine look_updAll _ _ _ fun p hp he => ?_
    obtain ⟨q, q1, q2⟩ := newSlots_mem opsA p hp
    exact dstA_none opsA t ht q q1 (by rw [q2, he])
  · rw [← hF]
    refine look_newKeys fun p hp he => hid ?_
    rw [← he]
    exact memN_iff.1 (List.all_eq_true.1 h8 p hp)
  · rw [← hF]
    refine look_newKeys fun p hp he => hid ?_
    rw [← he]
    exact memN_iff.1 (List.all_eq_true.1 h9 p hp)
  · by_cases hne : recs.flatMap Rec.born = []
    · rw [hne]; exact SV.free_nil _
    · exact free_slot (hjs hne) hl
  · by_cases hne : recs.flatMap Rec.born = []
    · rw [hne]; exact SV.frees_nil _
    · exact free_box (hjs hne) hl
  · rw [← hF]; rfl
theorem drawOk_sound {Kt : St → T} {items : List Item} (hc : CxOk cx w0) (hclo : CloOk cx w0 clo) (h : drawOk P md ops st = some (stF, items, tail)) (R : Rel cx w0 env st a w m ρ) (hd : (Item.wrap items (execOps P md ops (tail.map (·.2)) stF Kt)).den P clo Qd κ env)
    (hK : ∀ env' st' a' w' m' ρ', env <+: env' → (Kt st').den P clo Qd κ env' → Rel cx w0 env' st' a' w' m' ρ' → Q .normal a' w') : wpAny P .any ops Q ops.size (Array.replicate ops.size false) a w := by
  obtain ⟨opsA, cl, recs, Dw, rfl⟩ := drawOk_spec h
  have hS : inL (Array.replicate ops.size false) = fun _ => false := by
    funext j
    unfold inL
    rw [Array.getD_eq_getD_getElem?]
    by_cases hj : j < ops.size
    · simp [hj]
    · simp [hj]
  have R' := view_start (S := fun _ => false) Dw (fun _ _ => rfl) R
  rw [← flat_calls] at hd
  have hcall : ∀ c ∈ (recs.filter fun e => match e.k with | .pure _ => false | .call .. => true), c ∈ recs ∧ ∃ v r, c.k = .call v r := fun c hcm => by
    obtain ⟨m1, m2⟩ := List.mem_filter.1 hcm
    refine ⟨m1, ?_⟩
    cases hkc : c.k with
    | pure r => simp [hkc] at m2
    | call v r => exact ⟨v, r, rfl⟩
  have hneeds : ∀ i ∈ recs.flatMap Rec.needs, isNeed i := fun i hi => by
    obtain ⟨e, _, e2⟩ := List.mem_flatMap.1 hi
    exact needs_need e2
  obtain ⟨ns', n1, n2, n3⟩ := hoist_left (fun c hcm => (hcall c hcm).2) hneeds hd
  refine draw_all hc hclo Dw hK ops.size (Array.replicate ops.size false) env a w m ρ st.nv _ ns' List.prefix_rfl (by simp) ?_ (by rw [hS]; simp) (by rw [hS]; simp) (by rw [hS]; exact R') (nums_filter _ _ Dw.nums) (by rw [vars_filter, Dw.nvF]) (fun c hcm => ?_) (fun e he v r hk _ => ?_) (calls_pairwise recs [] Dw.ord).1 n1 (fun e he i hi => n2 i (List.mem_flatMap.2 ⟨e, he, hi⟩)) (by rw [hS]; simp) n3
  · unfold unl
    have := List.countP_le_length (p := fun j => !inL (Array.replicate ops.size false) j) (l := List.range ops.size)
    simpa using this
  · obtain ⟨c1, c2⟩ := hcall c hcm
    exact ⟨c1, by rw [hS], c2⟩
  · exact List.mem_filter.2 ⟨he, by simp [hk]⟩
end
end Go.Proofs.Ytfbahdalemajcaa.Eng

/-
  The engine: regions of which every order is run; nil slices in boxes that become rows.
-/
namespace Go.Proofs.Ytfbahdalemajcaa.Eng
section
theorem capsBeq_eq : ∀ (a b : List (List CK × X)), capsBeq a b = true → a = b
  | [], [], _ => rfl
  | [], _ :: _, h => by simp [capsBeq] at h
  | _ :: _, [], h => by simp [capsBeq] at h
  | (k, x) :: l, (k', x') :: m, h => by
    simp only [capsBeq, Bool.and_eq_true, beq_iff_eq] at h
    rw [CK.beqs_eq _ _ h.1.1, h.1.2, capsBeq_eq l m h.2]
theorem XArg.beq_eq {a b : XArg} (h : a.beq b = true) : a = b := by
  cases a <;> cases b <;> simp only [XArg.beq, Bool.and_eq_true, beq_iff_eq, Bool.false_eq_true] at h
  case sc => rw [CK.beq_eq _ _ h.1, h.2]
  case clo => rw [nbeq h.1, capsBeq_eq _ _ h.2]
  case clop => rw [nbeq h]
  case cur => rw [h]
  all_goals rw [CK.beqs_eq _ _ h.1, h.2]
theorem XArg.beqs_eq : ∀ {a b : List XArg}, XArg.beqs a b = true → a = b
  | [], [], _ => rfl
  | [], _ :: _, h => by simp [XArg.beqs] at h
  | _ :: _, [], h => by simp [XArg.beqs] at h
  | a :: l, b :: m, h => by
    simp only [XArg.beqs, Bool.and_eq_true] at h
    rw [XArg.beq_eq h.1, XArg.beqs_eq h.2]
theorem RS.beqs_eq : ∀ {a b : List RS}, RS.beqs a b = true → a = b
  | [], [], _ => rfl
  | [], _ :: _, h => by simp [RS.beqs] at h
  | _ :: _, [], h => by simp [RS.beqs] at h
  | a :: l, b :: m, h => by
    cases a <;> cases b <;> simp only [RS.beqs, Bool.and_eq_true, Bool.false_eq_true] at h
    · rw [CK.beq_eq _ _ h.1, RS.beqs_eq h.2]
    · rw [CK.beqs_eq _ _ h.1, RS.beqs_eq h.2]
    · rw [RS.beqs_eq h]
theorem Callee'.beq_eq {a b : Callee'} (h : a.beq b = true) : a = b := by
  cases a <;> cases b <;> simp only [Callee'.beq, Bool.false_eq_true] at h <;> rw [nbeq h]
theorem Item.beq_eq {a b : Item} (h : a.beq b = true) : a = b := by
  cases a <;> cases b <;> simp only [Item.beq, Bool.and_eq_true, beq_iff_eq, Bool.false_eq_true] at h
  · rw [h.1, h.2]
  · rw [h]
  · rw [h]
  · obtain ⟨⟨⟨⟨h1, h2⟩, h3⟩, h4⟩, h5⟩ := h
    rw [h1, Callee'.beq_eq h2, XArg.beqs_eq h3, RS.beqs_eq h4, nbeq h5]
theorem stripItems_eq : ∀ {is rem rem' : List Item}, stripItems is rem = some rem' → rem = is ++ rem'
  | [], rem, rem', h => by simp only [stripItems] at h; cases h; rfl
  | i :: l, [], rem', h => by simp [stripItems] at h
  | i :: l, r :: rem, rem', h => by
    simp only [stripItems] at h
    split at h
    · rename_i hb
      rw [Item.beq_eq hb, stripItems_eq h]; rfl
    · cases h
variable {P : Program} {cx : Cx} {w0 w w' : World} {m m' : BoxM} {ρ ρ' : RowM} {env : List D} {st stF : St} {g : Conds} {a : Act} {o : Oper} {ops : Array Oper} {clo : Nat → CloD} {Qd : List D → Prop} {κ : Nat → List D → Prop} {k : T}
  {K : Act → World → Prop} {Q : Exit → Act → World → Prop} {md : Modes} {fin : St}
theorem Rel.same (R : Rel cx w0 env st a w m ρ) (h : sameSt st fin = true) : Rel cx w0 env fin a w m ρ := by
  simp only [sameSt, Bool.and_eq_true, List.all_eq_true] at h
  obtain ⟨⟨⟨⟨⟨h1, h2⟩, h3⟩, h4⟩, h5⟩, h6⟩ := h
  refine R.sub (fun t x hl => ?_) (fun t x hl => ?_) (fun t x hl => ?_) (nbeq h4) (Prod.ext (nbeq h5) (nbeq h6))
  · have := slotEntry_eq (h1 _ (look_mem hl)); exact this
  · exact boxEntry_eq (h2 _ (look_mem hl))
  · exact rowEntry_eq (h3 _ (look_mem hl))
theorem moveFirst_spec {listed : Array Bool} : ∀ (l : List Nat) (i : Nat), moveFirst ops listed l = some i → i ∈ l ∧ ∃ o, ops[i]? = some o ∧ isMove o = true ∧ Region.free .any ops listed i = true
  | [], i, h => by simp [moveFirst] at h
  | j :: l, i, h => by
    simp only [moveFirst] at h
    split at h
    · rename_i o ho
      split at h
      · rename_i hb
        cases h
        simp only [Bool.and_eq_true] at hb
        exact ⟨by simp, o, ho, hb.1, hb.2⟩
      · obtain ⟨h1, h2⟩ := moveFirst_spec l i h; exact ⟨List.mem_cons_of_mem _ h1, h2⟩
    · obtain ⟨h1, h2⟩ := moveFirst_spec l i h; exact ⟨List.mem_cons_of_mem _ h1, h2⟩
theorem explore_sound {Kt : St → T} (hc : CxOk cx w0) (hclo : CloOk cx w0 clo) (hsel : Region.noSelect ops = true) (hQ : ∀ e a w, Q e a w → e = .normal) {env0 : List D} (hK : ∀ env' a' w' m' ρ', env0 <+: env' → (Kt fin).den P clo Qd κ env' → Rel cx w0 env' fin a' w' m' ρ' → Q .normal a' w') :
    ∀ (fuel : Nat) (listed : Array Bool) (st : St) (rem : List Item) (env : List D) (a : Act) (w : World) (m : BoxM) (ρ : RowM), env0 <+: env → explore P md ops fin fuel listed st rem = true → (Item.wrap rem (Kt fin)).den P clo Qd κ env → Rel cx w0 env st a w m ρ → wpAny P .any ops Q fuel listed a w := by
  intro fuel
  induction fuel with
  | zero =>
    intro listed st rem env a w m ρ hp h hd R
    simp only [explore, Bool.and_eq_true, List.isEmpty_iff] at h
    obtain ⟨⟨h1, rfl⟩, h3⟩ := h
    exact ⟨h1, hK env a w m ρ hp hd (R.same h3)⟩
  | succ fuel ih =>
    intro listed st rem env a w m ρ hp h hd R
    simp only [explore] at h
    split at h
    · rename_i hr
      simp only [Bool.and_eq_true, List.isEmpty_iff] at h
      obtain ⟨rfl, h3⟩ := h
      exact ⟨fun _ => hK env a w m ρ hp hd (R.same h3), by rw [hr]; simp⟩
    · rename_i i l hr
      -- one operation
      have one : ∀ i, tryOne P md ops st rem i (fun st' rem' => explore P md ops fin fuel (listed.setIfInBounds i true) st' rem') = true → wpOp P ops Q i (wpAny P .any ops Q fuel (listed.setIfInBounds i true)) a w := by
        intro i h
        unfold tryOne at h
        split at h
        rotate_left
        · cases h
        rename_i o ho
        split at h
        rotate_left
        · cases h
        rename_i items st' hs
        split at h
        rotate_left
        · cases h
        rename_i rem' hrem
        rw [stripItems_eq hrem, wrap_append] at hd
        refine wpOp_some ho (stepOp_sound hc hclo R hs hd fun env' a' w' m' ρ' hp' hd' R' => ?_)
        exact ih _ st' rem' env' a' w' m' ρ' (hp.trans hp') h hd' R'
      split at h
      · rename_i j hm
        obtain ⟨hj, o, ho, hmv, hfree⟩ := moveFirst_spec _ _ hm
        rw [← hr] at hj
        have h1 := one j (by simpa using h)
        have hop : ∃ x, o.op = .move x ∧ o.guard = none := by
          unfold isMove at hmv
          split at hmv
          · rename_i x e1 e2; exact ⟨x, e1, e2⟩
          · cases hmv
        obtain ⟨x, hx, hgd⟩ := hop
        have hwant : Region.wanted o (yielded ops a.tmps) = true := by simp [Region.wanted, hgd]
        have hrun : ∀ w, (execOp a.eval o).run P w = .ok (.value (a.eval x)) w := fun w => by simp [execOp, hx]
        refine wpAny_take ho hsel hfree (by simpa using hj) (fun c a w hq => by have := hQ _ _ _ hq; cases this) (v := a.eval x) (.inl ⟨hwant, hrun⟩) ?_
        unfold wpOp at h1
        simp only [ho, hwant, if_true] at h1
        rcases h1 with h1 | ⟨_, h1⟩
        · unfold Oper.wp at h1
          rw [hrun w] at h1
          exact h1
        · obtain ⟨a', w', h1⟩ := h1
          have := hQ _ _ _ h1; cases this
      · refine wpAny_all hr (by simp) fun i hi => one i ?_
        have := List.all_eq_true.1 h i hi
        exact this
theorem exploreOk_sound {Kt : St → T} {items : List Item} (hc : CxOk cx w0) (hclo : CloOk cx w0 clo) (h : exploreOk P md ops st = some (items, fin)) (R : Rel cx w0 env st a w m ρ) (hd : (Item.wrap items (Kt fin)).den P clo Qd κ env)
    (hQ : ∀ e a w, Q e a w → e = .normal) (hK : ∀ env' st' a' w' m' ρ', env <+: env' → (Kt st').den P clo Qd κ env' → Rel cx w0 env' st' a' w' m' ρ' → Q .normal a' w') : wpAny P .any ops Q ops.size (Array.replicate ops.size false) a w := by
  unfold exploreOk at h
  split at h
  rotate_left
  · cases h
  split at h
  rotate_left
  · cases h
  rename_i hb
  cases h
  rw [Bool.and_eq_true] at hb
  exact explore_sound hc hclo hb.1 hQ (fun env' a' w' m' ρ' => hK env' fin a' w' m' ρ') ops.size _ st items env a w m ρ List.prefix_rfl hb.2 hd R
/-! ### nil slices that become rows -/
theorem SVR.nilsl_inv {v : Value} (h : SVR cx w m ρ env .nilsl v) : v = .slice none 0 0 := by cases h; rfl
theorem nilRow_rel (R : Rel cx w0 env st a w m ρ) (id i : Nat) (ks : List CK) : ∃ ρ', Rel cx w0 env (nilRow st id i ks) a w m ρ' := by
  unfold nilRow
  split
  rotate_left
  · exact ⟨ρ, R⟩
  rename_i cells hlk
  split
  rotate_left
  · exact ⟨ρ, R⟩
  rename_i hcell
  split
  rotate_left
  · exact ⟨ρ, R⟩
  rename_i hfr
  generalize nilId id i = rid at hfr
  simp only [fresh, Bool.and_eq_true] at hfr
  obtain ⟨⟨hb, hr⟩, hfree⟩ := hfr
  have hr0 : look st.rows rid = none := by cases h : look st.rows rid <;> simp [h] at hr; rfl
  have S := R.heap.sep
  let rc : RowC := ⟨[], none, 0, ks.length, []⟩
  let ρ' : RowM := setM ρ rid (some rc)
  have hne : ∀ j, memN j [rid] = false → ρ' j = ρ j := fun j hj => setM_ne hj
  have tr : ∀ sv v, SVR cx w m ρ env sv v → sv.free [rid] = true → SVR cx w m ρ' env sv v := fun sv v h hf => h.upd (js := [rid]) (fun _ _ => rfl) hne hf
  have hat : ρ' rid = some rc := by simp [ρ', setM]
  have hof : ∀ j x, ρ' j = some x → (j = rid ∧ x = rc) ∨ (j ≠ rid ∧ ρ j = some x) := fun j x h => by
    by_cases hj : j = rid
    · subst hj; rw [hat] at h; cases h; exact .inl ⟨rfl, rfl⟩
    · refine .inr ⟨hj, ?_⟩
      simpa [ρ', setM, hj] using h
  refine ⟨ρ', R.kept, ⟨fun j c cs b hl hm hg => ?_, fun j c r x hl hx hg => ?_, ?_⟩, fun t c sv hl => (R.slots t c sv hl).map Iff.rfl fun v hv => tr sv v hv (free_slot hfree hl), R.defers, R.size, R.nv⟩
  · rw [look_upd] at hl
    split at hl
    · rename_i he
      subst he
      cases hl
      obtain ⟨vs, T, e1, e2⟩ := R.heap.boxes id [] cells b hlk hm trivial
      refine ⟨vs, T, e1, by rw [List.length_set]; exact e2.1, fun q hq => ?_⟩
      rw [List.length_set] at hq
      have h0 := e2.2 q hq
      by_cases hqi : i = q
      · subst hqi
        have hc0 : cells.getD i default = .nilsl := by rw [List.getD_eq_getElem?_getD, hcell]; rfl
        rw [hc0] at h0
        rw [h0.nilsl_inv, List.getD_eq_getElem?_getD, List.getElem?_set_self hq]
        exact .ov (rc := rc) (n := 0) hat (Nat.zero_le _) (fun _ => rfl) (fun x hx => by cases hx)
      · rw [List.getD_eq_getElem?_getD, List.getElem?_set_ne hqi, ← List.getD_eq_getElem?_getD]
        exact tr _ _ h0 (SV.frees_getD (free_box hfree hlk) q hq)
    · obtain ⟨vs, T, e1, e2⟩ := R.heap.boxes j c cs b hl hm hg
      exact ⟨vs, T, e1, e2.map fun q hq v hv => tr _ v hv (SV.frees_getD (free_box hfree hl) q hq)⟩
  · rw [look_cons] at hl
    split at hl
    · rename_i he
      subst he
      cases hl
      rw [hat] at hx
      cases hx
      exact ⟨rfl, rfl, .nil⟩
    · rename_i hne'
      rcases hof j x hx with ⟨h1, _⟩ | ⟨_, h2⟩
      · exact absurd h1.symm hne'
      · exact R.heap.rows j c r x hl h2 hg
  · refine ⟨S.boxes, fun p q x y b hp hq hb hb' => ?_, fun p x hp => ?_, fun p q x b hp hq => ?_, S.boxOwn, fun p x b hp hb => ?_, fun p x b hp ha => ?_⟩
    · rcases hof p x hp with ⟨_, rfl⟩ | ⟨_, h1⟩
      · simp [rc] at hb
      rcases hof q y hq with ⟨_, rfl⟩ | ⟨_, h2⟩
      · simp [rc] at hb'
      exact S.rows p q x y b h1 h2 hb hb'
    · rcases hof p x hp with ⟨_, rfl⟩ | ⟨_, h1⟩
      · simp [rc]
      · exact S.nodup p x h1
    · rcases hof q x hq with ⟨_, rfl⟩ | ⟨_, h1⟩
      · simp [rc]
      · exact S.apart p q x b hp h1
    · rcases hof p x hp with ⟨_, rfl⟩ | ⟨_, h1⟩
      · simp [rc] at hb
      · exact S.rowOwn p x b h1 hb
    · rcases hof p x hp with ⟨_, rfl⟩ | ⟨_, h1⟩
      · simp [rc] at ha
      · exact S.addrIn p x b h1 ha
theorem nilRows_rel : ∀ (l : List (Nat × Nat × List CK)) (st : St) (ρ : RowM), Rel cx w0 env st a w m ρ → ∃ ρ', Rel cx w0 env (nilRows st l) a w m ρ'
  | [], st, ρ, R => ⟨ρ, R⟩
  | (id, i, ks) :: l, st, ρ, R => by
    obtain ⟨ρ1, R1⟩ := nilRow_rel R id i ks
    exact nilRows_rel l _ ρ1 R1
theorem nilRow_nv (id i : Nat) (ks : List CK) : (nilRow st id i ks).nv = st.nv := by
  unfold nilRow; repeat' split
  all_goals rfl
theorem nilRows_nv : ∀ (l : List (Nat × Nat × List CK)) (st : St), (nilRows st l).nv = st.nv
  | [], _ => rfl
  | (id, i, ks) :: l, st => by rw [nilRows, nilRows_nv l, nilRow_nv]
end
end Go.Proofs.Ytfbahdalemajcaa.Eng

/-
  The engine: a loop's head: what comes round is what the head says.
-/
namespace Go.Proofs.Ytfbahdalemajcaa.Eng
section
variable {P : Program} {cx : Cx} {w0 w w' : World} {m m' : BoxM} {ρ ρ' : RowM} {env env' env2 : List D} {st leaf head : St} {g : Conds} {a : Act} {nv0 n : Nat} {ren : List (Nat × Nat)} {keys : List Nat} {xs ys : List X}
theorem SV.vtop_getD {n : Nat} : ∀ {cs : List SV}, SV.vtops cs ≤ n → ∀ i, i < cs.length → (cs.getD i default).vtop ≤ n
  | [], _, i, hi => by simp at hi
  | a :: l, h, i, hi => by
    have h := Nat.max_le.1 h
    cases i with
    | zero => exact h.1
    | succ i => simpa using SV.vtop_getD h.2 i (by simpa using hi)
theorem SV.plain_getD : ∀ {cs : List SV}, SV.plainRowss ren keys cs = true → ∀ i, i < cs.length → (cs.getD i default).plainRows ren keys = true
  | [], _, i, hi => by simp at hi
  | a :: l, h, i, hi => by
    simp only [SV.plainRowss, Bool.and_eq_true] at h
    cases i with
    | zero => exact h.1
    | succ i => simpa using SV.plain_getD h.2 i (by simpa using hi)
theorem SVR.carry {sv : SV} {v : Value} (hx : ∀ x : X, x.top ≤ nv0 → x.den env2 = x.den env') (hr : ∀ id, Nat.beq (renId ren id) id = true → memN id keys = true → ρ' id = ρ id) (h : SVR cx w m ρ env' sv v) :
    sv.plainRows ren keys = true → sv.vtop ≤ nv0 → SVR cx w m ρ' env2 sv v := by
  have hrow : ∀ id, (Nat.beq (renId ren id) id && memN id keys) = true → ρ' id = ρ id := fun id h => by
    rw [Bool.and_eq_true] at h; exact hr id h.1 h.2
  induction h with
  | num h1 h2 => exact fun _ ht => .num ((hx _ ht).trans h1) h2
  | boo h1 => exact fun _ ht => .boo ((hx _ ht).trans h1)
  | txt h1 h2 => exact fun _ ht => .txt ((hx _ ht).trans h1) h2
  | @sl src ks x v S h1 h2 =>
    intro hp ht
    cases src with
    | st gl => exact .sl h1 (by rw [hx _ ht]; exact h2)
    | row id => exact .sl (S := S) (by simp only [srcS] at h1 ⊢; rw [hrow id hp]; exact h1) (by rw [hx _ ht]; exact h2)
  | agg h1 _ ih => exact fun hp ht => .agg h1 fun i hi => ih i hi (SV.plain_getD hp i hi) (SV.vtop_getD ht i hi)
  | tup h1 _ ih => exact fun hp ht => .tup h1 fun i hi => ih i hi (SV.plain_getD hp i hi) (SV.vtop_getD ht i hi)
  | bp h1 => exact fun _ _ => .bp h1
  | @ep src ks e off b o S h1 h2 =>
    intro hp ht
    cases src with
    | st gl => exact .ep h1 (by rw [hx _ ht]; exact h2)
    | row id => exact .ep (S := S) (by simp only [srcS] at h1 ⊢; rw [hrow id hp]; exact h1) (by rw [hx _ ht]; exact h2)
  | @ov id pre rc n h1 h2 h3 h4 =>
    intro hp ht
    refine .ov (rc := rc) (by rw [hrow id hp]; exact h1) h2 h3 fun x hxp => ?_
    subst hxp
    rw [hx x ht]; exact h4 x rfl
  | @ow id lo hi rc l h a cap h1 h2 h3 h4 h5 h6 h7 =>
    intro hp ht
    have ht := Nat.max_le.1 ht
    exact .ow (rc := rc) (by rw [hrow id hp]; exact h1) (by rw [hx _ ht.1]; exact h2) (by rw [hx _ ht.2]; exact h3) h4 h5 h6 h7
  | @nv id c i rc j b v h1 h2 h3 h4 h5 h6 h7 =>
    intro hp ht
    exact .nv (rc := rc) (by rw [hrow id hp]; exact h1) (by rw [hx _ ht]; exact h2) h3 h4 h5 h6 h7
  | @oep id off i rc j b h1 h2 h3 h4 =>
    intro hp ht
    exact .oep (rc := rc) (by rw [hrow id hp]; exact h1) (by rw [hx _ ht]; exact h2) h3 h4
  | clo h1 _ ih => exact fun hp ht => .clo h1 fun i hi => ih i hi (SV.plain_getD hp i hi) (SV.vtop_getD ht i hi)
  | clop => exact fun _ _ => .clop
  | nilsl => exact fun _ _ => .nilsl
  | ai h1 => exact fun _ _ => .ai h1
  | an h1 h2 => exact fun _ _ => .an h1 h2
  | top => exact fun _ _ => .top
instance : Inhabited X := ⟨.nil⟩
/-- The new values lie where the head's variables are. -/
def Seg (env' env2 : List D) (n : Nat) (ys : List X) : Prop := ∀ j, j < ys.length → env2.getD (n + j) default = (ys.getD j default).den env'
theorem Seg.split {a b : List X} (h : Seg env' env2 n (a ++ b)) : Seg env' env2 n a ∧ Seg env' env2 (n + a.length) b := by
  refine ⟨fun j hj => ?_, fun j hj => ?_⟩
  · have := h j (by simp; omega)
    rw [this]
    simp [List.getD_eq_getElem?_getD, List.getElem?_append, hj]
  · have := h (a.length + j) (by simp; omega)
    rw [Nat.add_assoc, this]
    simp only [List.getD_eq_getElem?_getD]
    rw [List.getElem?_append_right (by omega)]
    congr 2
    congr 1
    omega
/-- What the two environments have in common. -/
structure Env2 (nv0 : Nat) (env' env2 : List D) : Prop where
  x : ∀ x : X, x.top ≤ nv0 → x.den env2 = x.den env'
  g : ∀ c : Conds, Conds.top c ≤ nv0 → (c.den env2 ↔ c.den env')
theorem Env2.of (hp : env <+: env') (hl : env.length = nv0) (us : List D) : Env2 nv0 env' (env ++ us) := by
  obtain ⟨o, rfl⟩ := hp
  refine ⟨fun x hx => ?_, fun c hx => ?_⟩
  · rw [X.den_ext x (by rw [hl]; exact X.lt_of_top hx), X.den_ext x (by rw [hl]; exact X.lt_of_top hx)]
  · rw [Conds.den_ext c (by rw [hl]; exact Conds.lt_of_top hx), Conds.den_ext c (by rw [hl]; exact Conds.lt_of_top hx)]
theorem matchX_ok {v : Nat} {x : X} (E : Env2 nv0 env' env2) (h : matchX nv0 (some n) v x = some ys) (hs : Seg env' env2 n ys) : (X.var v).den env2 = x.den env' := by
  unfold matchX at h
  split at h
  · split at h
    · rename_i h1 h2
      cases h
      have := nbeq h2
      subst this
      exact hs 0 (by simp)
    · cases h
  · rename_i h1
    split at h
    · rename_i h2
      rw [eq_of_beq h2]
      refine E.x _ ?_
      rcases Nat.lt_or_ge v nv0 with h3 | h3
      · exact h3
      · exact absurd (Nat.ble_eq_true_of_le h3) h1
    · cases h
/-- The head's rows, by the leaf's. -/
def renM (ρ : RowM) (ren : List (Nat × Nat)) (keys : List Nat) : RowM := fun id => if memN id keys then ρ (renId ren id) else none
theorem renM_plain (id : Nat) (h : Nat.beq (renId ren id) id = true) (hk : memN id keys = true) : renM ρ ren keys id = ρ id := by
  unfold renM; rw [if_pos hk, nbeq h]
theorem matchSV_ok {sa sb : SV} {v : Value} (E : Env2 nv0 env' env2) (h : matchSV nv0 (some n) ren sa sb = some ys) (hs : Seg env' env2 n ys) (hk : sa.plainRows ren keys = true ∨ ∃ id, sa = .ov id none ∧ memN id keys = true) (hv : SVR cx w m ρ env' sb v) :
    SVR cx w m (renM ρ ren keys) env2 sa v := by
  unfold matchSV at h
  split at h
  · exact .top
  · split at h
    · rename_i he
      have := eq_of_beq he
      subst this
      cases hv with
      | ai h1 => exact .ai h1
    · cases h
  · cases hv with
    | an h1 h2 => exact .an h1 h2
  · split at h
    · rename_i he
      have := eq_of_beq he
      subst this
      obtain ⟨q, _, h2, h3⟩ := hv.num_inv
      rw [h3]; exact .ai h2
    · cases h
  · rename_i id id'
    split at h
    · rename_i he
      have := nbeq he
      subst this
      have hm : memN id keys = true := by
        rcases hk with hk | ⟨j, hj, hk⟩
        · simp only [SV.plainRows, Bool.and_eq_true] at hk; exact hk.2
        · cases hj; exact hk
      cases hv with
      | ov h1 h2 h3 h4 => exact .ov (by unfold renM; rw [if_pos hm]; exact h1) h2 h3 (fun x hx => by cases hx)
    · cases h
  · split at h
    · rename_i he
      have := eq_of_beq he
      subst this
      obtain ⟨q, h1, h2, h3⟩ := hv.num_inv
      rw [h3]; exact .num ((matchX_ok E h hs).trans h1) h2
    · cases h
  · obtain ⟨q, h1, h3⟩ := hv.boo_inv
    rw [h3]; exact .boo ((matchX_ok E h hs).trans h1)
  · obtain ⟨q, h1, h3⟩ := hv.txt_inv
    rw [h3]; exact .txt ((matchX_ok E h hs).trans h1) (hv.txt_bd h3)
  · split at h
    · rename_i he
      rw [Bool.and_eq_true] at he
      have := SV.beq_eq _ _ he.1
      subst this
      rcases hk with hk | ⟨j, hj, hk⟩
      · exact hv.carry E.x (fun id h1 h2 => renM_plain id h1 h2) hk (nble he.2)
      · subst hj
        exfalso
        simp_all
    · cases h
theorem matchOne_ok {sa sb : SV} {v : Value} (E : Env2 nv0 env' env2) (h : matchOne nv0 (some n) ren keys sa sb = some ys) (hs : Seg env' env2 n ys) (hv : SVR cx w m ρ env' sb v) : SVR cx w m (renM ρ ren keys) env2 sa v := by
  unfold matchOne at h
  split at h
  · split at h
    · rename_i hk
      exact matchSV_ok E h hs (.inr ⟨_, rfl, hk⟩) hv
    · cases h
  · split at h
    · rename_i hk
      exact matchSV_ok E h hs (.inl hk) hv
    · cases h
theorem matchSlot_ok {t : Nat} {c : Conds} {sv : SV} (E : Env2 nv0 env' env2) (R : Rel cx w0 env' leaf a w m ρ) (h : matchSlot nv0 (some n) ren keys leaf t c sv = some ys) (hs : Seg env' env2 n ys) : SlotR cx w m (renM ρ ren keys) env2 a.tmps t c sv := by
  unfold matchSlot at h
  split at h
  · split at h
    · rename_i hlt
      exact ⟨by rw [R.size.1]; exact Nat.le_of_ble_eq_true hlt, fun _ => .top, fun h => absurd trivial h⟩
    · cases h
  · split at h
    · rename_i c' sv' hl
      split at h
      · rename_i hc
        rw [Bool.and_eq_true] at hc
        have := eq_of_beq hc.1
        subst this
        exact (R.slots t c sv' hl).map (E.g c (nble hc.2)) fun v hv => matchOne_ok E h hs hv
      · cases h
    · cases h
theorem matchSlots_ok (E : Env2 nv0 env' env2) (R : Rel cx w0 env' leaf a w m ρ) : ∀ (l : List (Nat × Conds × SV)) (n : Nat) (ys : List X), matchSlots nv0 ren keys leaf (some n) l = some ys → Seg env' env2 n ys → ∀ t c sv, look l t = some (c, sv) → SlotR cx w m (renM ρ ren keys) env2 a.tmps t c sv
  | [], n, ys, _, _, t, c, sv, hl => by simp [look] at hl
  | (u, c0, sv0) :: l, n, ys, h, hs, t, c, sv, hl => by
    simp only [matchSlots] at h
    split at h
    · rename_i ya h1
      split at h
      · rename_i yb h2
        cases h
        have hs := hs.split
        rw [look_cons] at hl
        split at hl
        · rename_i he
          subst he
          cases hl
          exact matchSlot_ok E R h1 hs.1
        · exact matchSlots_ok E R l _ yb h2 hs.2 t c sv hl
      · cases h
    · cases h
theorem matchCells_ok (E : Env2 nv0 env' env2) : ∀ (as bs : List SV) (vs : List Value) (n : Nat) (ys : List X), matchCells nv0 ren keys (some n) as bs = some ys → Seg env' env2 n ys → SVRs cx w m ρ env' bs vs → SVRs cx w m (renM ρ ren keys) env2 as vs
  | [], [], vs, n, ys, _, _, hv => ⟨hv.1, by simp⟩
  | [], _ :: _, vs, n, ys, h, _, _ => by simp [matchCells] at h
  | _ :: _, [], vs, n, ys, h, _, _ => by simp [matchCells] at h
  | a :: as, b :: bs, vs, n, ys, h, hs, hv => by
    cases vs with
    | nil => exact absurd hv.1 (by simp)
    | cons v vs =>
    have hv0 : SVR cx w m ρ env' b v := hv.2 0 (by simp)
    have hvr : SVRs cx w m ρ env' bs vs := ⟨by simpa using hv.1, fun i hi => by simpa using hv.2 (i + 1) (by simpa using hi)⟩
    simp only [matchCells] at h
    split at h
    · rename_i ya h1
      split at h
      · rename_i yb h2
        cases h
        have hs := hs.split
        have ih := matchCells_ok E as bs vs _ yb h2 hs.2 hvr
        refine ⟨by simp [ih.1], fun i hi => ?_⟩
        cases i with
        | zero => exact matchOne_ok E h1 hs.1 hv0
        | succ i => simpa using ih.2 i (by simpa using hi)
      · cases h
    · cases h
theorem matchBoxes_ok (E : Env2 nv0 env' env2) (R : Rel cx w0 env' leaf a w m ρ) : ∀ (l : List (Nat × Conds × List SV)) (n : Nat) (ys : List X), matchBoxes nv0 ren keys leaf (some n) l = some ys → Seg env' env2 n ys → ∀ id c cs b, look l id = some (c, cs) → m id = some b → c.den env2 → BoxR cx w m (renM ρ ren keys) env2 cs b
  | [], n, ys, _, _, t, c, sv, b, hl, _, _ => by simp [look] at hl
  | (u, c0, cs0) :: l, n, ys, h, hs, t, c, sv, b, hl, hm, hg => by
    simp only [matchBoxes] at h
    split at h
    · rename_i c' cells' hlk
      split at h
      · rename_i ya h1
        split at h
        · rename_i yb h2
          cases h
          have hs := hs.split
          rw [look_cons] at hl
          split at hl
          · rename_i he
            subst he
            cases hl
            split at h1
            · rename_i hc
              rw [Bool.and_eq_true] at hc
              have := eq_of_beq hc.1
              subst this
              obtain ⟨vs, T, e1, e2⟩ := R.heap.boxes _ _ _ b hlk hm ((E.g _ (nble hc.2)).1 hg)
              exact ⟨vs, T, e1, matchCells_ok E _ _ _ _ _ h1 hs.1 e2⟩
            · cases h1
          · exact matchBoxes_ok E R l _ yb h2 hs.2 t c sv b hl hm hg
        · cases h
      · cases h
    · cases h
theorem matchRow_ok {id rid : Nat} {c c' : Conds} {r r' : Row} (E : Env2 nv0 env' env2) (h : matchRow nv0 (some n) id rid c c' r r' = some ys) (hs : Seg env' env2 n ys) : (c.den env2 ↔ c'.den env') ∧ ∀ rc, RowR w env' r' rc → RowR w env2 r rc := by
  unfold matchRow at h
  split at h
  rotate_left
  · cases h
  rename_i hc
  simp only [Bool.and_eq_true] at hc
  obtain ⟨⟨⟨h1, h2⟩, h3⟩, _⟩ := hc
  have := eq_of_beq h1
  subst this
  have hks := CK.beqs_eq _ _ h3
  refine ⟨E.g c (nble h2), fun rc hr => ?_⟩
  have hcd : r.c.den env2 = r'.c.den env' := by
    split at h
    · rename_i v hv
      split at h
      · cases h
      · rw [hv]; exact matchX_ok E h hs
    · split at h
      · rename_i hx
        rw [Bool.and_eq_true] at hx
        rw [eq_of_beq hx.1]
        exact E.x _ (nble hx.2)
      · cases h
  obtain ⟨e1, e2, e3⟩ := hr
  exact ⟨hcd.trans e1, by rw [hks]; exact e2, by rw [hks]; exact e3⟩
theorem matchRows_ok (E : Env2 nv0 env' env2) : ∀ (l : List (Nat × Conds × Row)) (n : Nat) (ys : List X), matchRows nv0 ren leaf (some n) l = some ys → Seg env' env2 n ys → ∀ id c r, look l id = some (c, r) →
    ∃ c' r', look leaf.rows (renId ren id) = some (c', r') ∧ (c.den env2 ↔ c'.den env') ∧ ∀ rc, RowR w env' r' rc → RowR w env2 r rc
  | [], n, ys, _, _, t, c, sv, hl => by simp [look] at hl
  | (u, c0, r0) :: l, n, ys, h, hs, t, c, r, hl => by
    simp only [matchRows] at h
    split at h
    · rename_i c' r' hlk
      split at h
      · rename_i ya h1
        split at h
        · rename_i yb h2
          cases h
          have hs := hs.split
          rw [look_cons] at hl
          split at hl
          · rename_i he
            subst he
            cases hl
            exact ⟨c', r', hlk, matchRow_ok E h1 hs.1⟩
          · exact matchRows_ok E l _ yb h2 hs.2 t c r hl
        · cases h
      · cases h
    · cases h
theorem map_injN {f : Nat → Nat} : ∀ (l : List Nat), (l.map f).Nodup → ∀ e ∈ l, ∀ q ∈ l, f e = f q → e = q
  | [], _, e, he, _, _, _ => by simp at he
  | x :: l, hn, e, he, q, hq, hf => by
    have hn := List.nodup_cons.1 hn
    rcases List.mem_cons.1 he with h1 | h1 <;> rcases List.mem_cons.1 hq with h2 | h2
    · rw [h1, h2]
    · rw [h1] at hf; exact absurd (List.mem_map.2 ⟨q, h2, hf.symm⟩) hn.1
    · rw [h2] at hf; exact absurd (List.mem_map.2 ⟨e, h1, hf⟩) hn.1
    · exact map_injN l hn.2 e h1 q h2 hf
theorem matchHead_ok (h : matchHead nv0 head leaf = some xs) (R : Rel cx w0 env' leaf a w m ρ) (hp : env <+: env') (hl : env.length = nv0) : nv0 + xs.length = head.nv ∧ ∃ ρ', Rel cx w0 (env ++ xs.map (X.den env')) head a w m ρ' := by
  unfold matchHead at h
  dsimp only at h
  rw [Option.ite_none_right_eq_some] at h
  obtain ⟨hc, h⟩ := h
  simp only [Bool.and_eq_true] at hc
  obtain ⟨⟨hnd, ht1⟩, ht2⟩ := hc
  have hnd := noDup_iff.1 hnd
  split at h
  rotate_left
  · cases h
  rename_i ya h1
  split at h
  rotate_left
  · cases h
  rename_i yb h2
  split at h
  rotate_left
  · cases h
  rename_i yc h3
  split at h
  rotate_left
  · cases h
  rename_i hn
  cases h
  have hn := nbeq hn
  have E := Env2.of (nv0 := nv0) hp hl ((ya ++ yb ++ yc).map (X.den env'))
  have hseg : Seg env' (env ++ (ya ++ yb ++ yc).map (X.den env')) nv0 (ya ++ yb ++ yc) := fun j hj => by
    simp only [List.getD_eq_getElem?_getD]
    rw [List.getElem?_append_right (by omega)]
    have : nv0 + j - env.length = j := by omega
    rw [this, List.getElem?_map, List.getElem?_eq_getElem hj]
    rfl
  have s12 := hseg.split
  have s1 := s12.1.split
  have hS := R.heap.sep
  refine ⟨by simp only [List.length_append]; omega, renM ρ (renOf head leaf) (head.rows.map fun p => p.1), R.kept, ⟨fun id c cs b hlk hm hg => matchBoxes_ok E R _ _ _ h2 s1.2 id c cs b hlk hm hg, fun id c r rc hlk hrc hg => ?_, ?_⟩, matchSlots_ok E R _ _ _ h1 s1.1, R.defers, ?_, ?_⟩
  · obtain ⟨c', r', q1, q2, q3⟩ := matchRows_ok (w := w) (leaf := leaf) E _ _ _ h3 (by have := s12.2; simp only [List.length_append] at this; rw [← Nat.add_assoc] at this; exact this) id c r hlk
    unfold renM at hrc
    split at hrc
    · exact q3 rc (R.heap.rows _ _ _ _ q1 hrc (q2.1 hg))
    · cases hrc
  · have some : ∀ i x, renM ρ (renOf head leaf) (head.rows.map fun p => p.1) i = some x → i ∈ (head.rows.map fun p => p.1) ∧ ρ (renId (renOf head leaf) i) = some x := fun i x hi => by
      unfold renM at hi
      split at hi
      · rename_i hk; exact ⟨memN_iff.1 hk, hi⟩
      · cases hi
    exact ⟨hS.boxes, fun i j x y b hi hj h1 h2 => map_injN _ hnd i (some i x hi).1 j (some j y hj).1 (hS.rows _ _ x y b (some i x hi).2 (some j y hj).2 h1 h2), fun i x hi => hS.nodup _ x (some i x hi).2,
      fun i j x b hi hj => hS.apart i _ x b hi (some j x hj).2, hS.boxOwn, fun i x b hi => hS.rowOwn _ x b (some i x hi).2, fun i x b hi => hS.addrIn _ x b (some i x hi).2⟩
  · have : head.nt = leaf.nt := Prod.ext (nbeq ht1) (nbeq ht2)
    rw [this]; exact R.size
  · simp only [List.length_append, List.length_map] at hn ⊢; omega
end
end Go.Proofs.Ytfbahdalemajcaa.Eng

/-
  The engine: code is what the executor says.
-/
namespace Go.Proofs.Ytfbahdalemajcaa.Eng
section
variable {P : Program} {cx : Cx} {w0 w w' : World} {m m' : BoxM} {ρ ρ' : RowM} {env : List D} {st : St} {a : Act} {clo : Nat → CloD} {Qd : List D → Prop} {κ : Nat → List D → Prop}
/-- Only the heap and the streams matter. -/
theorem Rel.world (R : Rel cx w0 env st a w m ρ) (hg : ∀ b, cx.G b → cx.S b) (hh : w'.heap = w.heap) (ho : w'.os = w.os) (ht : w'.tape = w.tape) (hu : w'.output = w.output) : Rel cx w0 env st a w' m ρ := by
  have hb : ∀ b : Nat, w'.heap[b]? = w.heap[b]? := fun b => by rw [hh]
  have tr : ∀ sv v, SVR cx w m ρ env sv v → SVR cx w' m ρ env sv v := fun sv v h => h.frame hg (fun b _ => hb b) (fun _ _ b _ _ => hb b) fun i rc b h1 h2 => R.heap.sep.addrIn i rc b h1 h2
  refine ⟨⟨by rw [ho]; exact R.kept.os, by rw [ht]; exact R.kept.tape, by rw [hu]; exact R.kept.output, by rw [hh]; exact R.kept.size, fun b h => by rw [hb]; exact R.kept.block b h⟩, ⟨fun id c cs b hl hm hgd => ?_, fun id c r rc hl hm hgd => ?_, R.heap.sep.size (by rw [hh]; exact Nat.le_refl _)⟩,
    fun t c sv hl => (R.slots t c sv hl).map Iff.rfl fun v hv => tr sv v hv, R.defers, R.size, R.nv⟩
  · obtain ⟨vs, T, e1, e2⟩ := R.heap.boxes id c cs b hl hm hgd
    exact ⟨vs, T, by rw [hb]; exact e1, e2.map fun i hi v hv => tr _ v hv⟩
  · obtain ⟨e1, e2, e3⟩ := R.heap.rows id c r rc hl hm hgd
    exact ⟨e1, e2, e3.frame fun b _ => hb b⟩
theorem least_nat (p : Nat → Prop) (h : ∃ n, p n) : ∃ n, p n ∧ ∀ q, p q → n ≤ q := by
  obtain ⟨n, hn⟩ := h
  induction n using Nat.strongRecOn with
  | ind n ih =>
    by_cases h2 : ∃ q, q < n ∧ p q
    · obtain ⟨q, h3, h4⟩ := h2
      exact ih q h3 h4
    · exact ⟨n, hn, fun q hq => Nat.le_of_not_lt fun h3 => h2 ⟨q, h3, hq⟩⟩
def xe : XE → Exit
  | .nm => .normal
  | .ex id => .exit id
  | .rt => .ret
theorem exec_sound {md : Modes} (hmix : P.follows .mixedOrders = true) (hc : CxOk cx w0) (hclo : CloOk cx w0 clo) (c : Code) : ∀ (lv : Nat) (st : St) (Kt : XE → St → T) (κ : Nat → List D → Prop) (env : List D) (a : Act) (w : World) (m : BoxM) (ρ : RowM) (Q : Exit → Act → World → Prop), Rel cx w0 env st a w m ρ →
    (exec P md c lv st Kt).den P clo Qd κ env → (∀ e κ' env' st' a' w' m' ρ', (∀ j, j < lv → κ' j = κ j) → env <+: env' → (Kt e st').den P clo Qd κ' env' → Rel cx w0 env' st' a' w' m' ρ' → Q (xe e) a' w') → c.wp P Q a w := by
  induction c with
  | skip =>
    intro lv st Kt κ env a w m ρ Q R hd hK
    exact wp_skip (hK .nm κ env st a w m ρ (fun _ _ => rfl) List.prefix_rfl hd R)
  | ret =>
    intro lv st Kt κ env a w m ρ Q R hd hK
    exact wp_ret (hK .rt κ env st a w m ρ (fun _ _ => rfl) List.prefix_rfl hd R)
  | exit id =>
    intro lv st Kt κ env a w m ρ Q R hd hK
    exact wp_exit (hK (.ex id) κ env st a w m ρ (fun _ _ => rfl) List.prefix_rfl hd R)
  | seq x y ihx ihy =>
    intro lv st Kt κ env a w m ρ Q R hd hK
    refine wp_seq (ihx lv st _ κ env a w m ρ _ R hd fun e κ' env' st' a' w' m' ρ' hκ hp hd' R' => ?_)
    cases e with
    | nm => exact ihy lv st' Kt κ' env' a' w' m' ρ' Q R' hd' fun e κ'' env'' st'' a'' w'' m'' ρ'' hκ' hp' hd'' R'' => hK e κ'' env'' st'' a'' w'' m'' ρ'' (fun j hj => (hκ' j hj).trans (hκ j hj)) (hp.trans hp') hd'' R''
    | ex id => exact hK (.ex id) κ' env' st' a' w' m' ρ' hκ hp hd' R'
    | rt => exact hK .rt κ' env' st' a' w' m' ρ' hκ hp hd' R'
  | cond c x y ihx ihy =>
    intro lv st Kt κ env a w m ρ Q R hd hK
    simp only [exec] at hd
    split at hd
    · rename_i hx
      obtain ⟨b, h1, h2⟩ := (eval_get R (g' := []) trivial hx).boo_inv
      simp only [X.den, D.bool.injEq] at h1
      subst h1
      exact wp_cond_true h2 (ihx lv st Kt κ env a w m ρ Q R hd hK)
    · rename_i hx
      obtain ⟨b, h1, h2⟩ := (eval_get R (g' := []) trivial hx).boo_inv
      simp only [X.den, D.bool.injEq] at h1
      subst h1
      exact wp_cond_false h2 (ihy lv st Kt κ env a w m ρ Q R hd hK)
    · rename_i xx _ _ hx
      obtain ⟨b, h1, h2⟩ := (eval_get R (g' := []) trivial hx).boo_inv
      simp only [T.den, h1, D.toB] at hd
      exact wp_cond_split h2 (fun hb => ihx lv st Kt κ env a w m ρ Q R (hd.1 hb) hK) fun hb => ihy lv st Kt κ env a w m ρ Q R (hd.2 hb) hK
    · exact hd.elim
  | block id c ih =>
    intro lv st Kt κ env a w m ρ Q R hd hK
    refine wp_block (ih lv st _ κ env a w m ρ _ R hd fun e κ' env' st' a' w' m' ρ' hκ hp hd' R' => ?_)
    cases e with
    | nm => exact hK .nm κ' env' st' a' w' m' ρ' hκ hp hd' R'
    | rt => exact hK .rt κ' env' st' a' w' m' ρ' hκ hp hd' R'
    | ex j =>
      simp only [xe, Exit.inBlock]
      by_cases hj : j = id
      · subst hj
        simp only [Nat.beq_refl, cond_true] at hd'
        rw [if_pos rfl]
        exact hK .nm κ' env' st' a' w' m' ρ' hκ hp hd' R'
      · rw [if_neg hj]
        simp only [nbeq_false.2 hj, cond_false] at hd'
        exact hK (.ex j) κ' env' st' a' w' m' ρ' hκ hp hd' R'
  | region id ops draw =>
    intro lv st Kt κ env a w m ρ Q R hd hK
    cases draw with
    | false =>
      refine wp_region_list ?_
      exact execOps_sound (Q := Q) hc hclo ops.toList st env a w m ρ R hd fun env' st' a' w' m' ρ' hp hd' R' => hK .nm κ env' st' a' w' m' ρ' (fun _ _ => rfl) hp hd' R'
    | true =>
      simp only [exec] at hd
      split at hd
      · rename_i stA items tail hdr
        refine wp_region_any hmix ?_
        exact drawOk_sound (Q := Q) hc hclo hdr (R.world (w' := { w with drawn := w.drawn + 1 }) hc.gs rfl rfl rfl rfl) hd fun env' st' a' w' m' ρ' hp hd' R' => hK .nm κ env' st' a' w' m' ρ' (fun _ _ => rfl) hp hd' R'
      · split at hd
        · rename_i items fin hex
          refine wp_mono (Q := fun e a w => e = .normal ∧ Q .normal a w) (wp_region_any hmix ?_) fun e a w h => ?_
          · exact exploreOk_sound hc hclo hex (R.world (w' := { w with drawn := w.drawn + 1 }) hc.gs rfl rfl rfl rfl) hd (fun e a w h => h.1) fun env' st' a' w' m' ρ' hp hd' R' => ⟨rfl, hK .nm κ env' st' a' w' m' ρ' (fun _ _ => rfl) hp hd' R'⟩
          · obtain ⟨rfl, h⟩ := h
            exact h
        · exact hd.elim
  | loop body ih =>
    intro lv st0 Kt κ env a w m ρ0 Q R0 hd hK
    simp only [exec] at hd
    split at hd
    rotate_left
    · exact hd.elim
    rename_i init hinit
    simp only [T.den] at hd
    obtain ⟨I, μ, hI, hbody⟩ := hd
    generalize hns : List.flatMap _ _ = ns at hinit hbody
    obtain ⟨ρ, R⟩ := nilRows_rel ns st0 ρ0 R0
    generalize nilRows st0 ns = st at hinit hbody R
    generalize hh : mkHead st _ = head at hinit hbody
    obtain ⟨hlen, ρ1, R1⟩ := matchHead_ok hinit R List.prefix_rfl R.nv
    -- the least measure that fits
    let J : Act → World → List D → Prop := fun a w vs => vs.length = init.length ∧ I vs ∧ ∃ m ρ, Rel cx w0 (env ++ vs) head a w m ρ
    have step : ∀ (a : Act) (w : World) (vs : List D), J a w vs → body.wp P (Exit.then (fun a' w' => ∃ us, J a' w' us ∧ μ us < μ vs) Q) a w := by
      intro a w vs ⟨hvl, hIv, m, ρ, Rv⟩
      refine ih (lv + 1) head _ _ (env ++ vs) a w m ρ _ Rv (hbody vs hvl hIv) fun e κ' env' st' a' w' m' ρ' hκ hp hd' R' => ?_
      have hκ0 : ∀ j, j < lv → κ' j = κ j := fun j hj => by
        rw [hκ j (by omega)]
        unfold setK
        rw [if_neg (by omega)]
      have hp0 : env <+: env' := (List.prefix_append _ _).trans hp
      cases e with
      | nm =>
        simp only at hd'
        split at hd'
        · rename_i xs hxs
          simp only [T.den] at hd'
          rw [hκ lv (by omega)] at hd'
          unfold setK at hd'
          rw [if_pos rfl] at hd'
          obtain ⟨hl2, ρ2, R2⟩ := matchHead_ok hxs R' hp0 R.nv
          exact ⟨_, ⟨by rw [List.length_map]; omega, hd'.1, m', ρ2, R2⟩, hd'.2⟩
        · exact hd'.elim
      | ex id => exact hK (.ex id) κ' env' st' a' w' m' ρ' hκ0 hp0 hd' R'
      | rt => exact hK .rt κ' env' st' a' w' m' ρ' hκ0 hp0 hd' R'
    have hmin : ∀ a w, (∃ n vs, J a w vs ∧ μ vs = n) → ∃ n, (∃ vs, J a w vs ∧ μ vs = n) ∧ ∀ q, (∃ vs, J a w vs ∧ μ vs = q) → n ≤ q := fun a w h => least_nat _ h
    classical
    let ν : Act → World → Nat := fun a w => if h : ∃ n vs, J a w vs ∧ μ vs = n then Classical.choose (hmin a w h) else 0
    refine wp_loop (fun a w => ∃ vs, J a w vs) ν ⟨_, by rw [List.length_map], hI, m, ρ1, R1⟩ fun a w ⟨vs, hJ⟩ => ?_
    have hex : ∃ n vs, J a w vs ∧ μ vs = n := ⟨_, vs, hJ, rfl⟩
    have hν : ν a w = Classical.choose (hmin a w hex) := dif_pos hex
    obtain ⟨us, hJu, hμ⟩ := (Classical.choose_spec (hmin a w hex)).1
    refine wp_mono (step a w us hJu) fun e a' w' hq => ?_
    cases e with
    | normal =>
      obtain ⟨ts, hJt, hlt⟩ := hq
      refine ⟨⟨ts, hJt⟩, ?_⟩
      have hex' : ∃ n vs, J a' w' vs ∧ μ vs = n := ⟨_, ts, hJt, rfl⟩
      have hν' : ν a' w' = Classical.choose (hmin a' w' hex') := dif_pos hex'
      have := (Classical.choose_spec (hmin a' w' hex')).2 _ ⟨ts, hJt, rfl⟩
      omega
    | _ => exact hq
  | _ =>
    intros
    rename_i hd hK
    exact hd.elim
end
end Go.Proofs.Ytfbahdalemajcaa.Eng

/-
  The engine: a function's parameters as the state at its start.
-/
namespace Go.Proofs.Ytfbahdalemajcaa.Eng
/-- An argument is of the parameter's kind. -/
def FitK : PK → DArg → Prop
  | .sc ck, .sc ck' _ => ck' = ck
  | .st ks, .st ks' _ => ks' = ks
  | .stw ks, .stw ks' _ => ks' = ks ∧ ks.length ≤ 64
  | .row ks, .row ks' _ => ks' = ks
  | .take ks, .take ks' _ => ks' = ks
  | .cur, .cur _ => True
  | .clo, .clo _ _ => True
  | _, _ => False
def FitKs : List PK → List DArg → Prop
  | [], [] => True
  | k :: ks, a :: as => FitK k a ∧ FitKs ks as
  | _, _ => False
/-- The data of an argument; a cursor's counters besides. -/
inductive ParD (w : World) : DArg → Value → D → Prop
  | sc {ck : CK} {d : D} {v : Value} : ParD w (.sc ck d) v d
  | st {ks : List CK} {d : D} {v : Value} : ParD w (.st ks d) v d
  | stw {ks : List CK} {d : D} {v : Value} : ParD w (.stw ks d) v d
  | row {ks : List CK} {d : D} {v : Value} : ParD w (.row ks d) v d
  | take {ks : List CK} {d : D} {v : Value} : ParD w (.take ks d) v d
  | clo {f : Nat} {caps : List (List CK × D)} {v : Value} : ParD w (.clo f caps) v default
  | cur {d : D} {b : Nat} {i h : Int} {v0 : Value} {T : TypeId} : w.heap[b]? = some (.cells #[v0, .int .i64 i, .int .i64 h] T (0, 0)) → inK .i64 i = true → 0 ≤ i → inK .i64 h = true → ParD w (.cur d) (.pointer (some ⟨b, 0, none⟩)) (.lst [d, .int i, .int h])
section
variable {P : Program} {cx : Cx} {w0 w w' : World} {m m' : BoxM} {ρ ρ' : RowM} {env : List D} {g : Conds} {md : Modes}
theorem NewOk.widen {svs : List SV} {us : List Value} {rows : List (Nat × Conds × Row)} {boxes : List (Nat × Conds × List SV)} {lo hi lo' hi' : Nat} {fr : List Nat} {mr : BoxM} {ρr : RowM} (h : NewOk cx w env g svs us rows boxes lo hi fr mr ρr) (h1 : lo' ≤ lo) (h2 : hi ≤ hi') : NewOk cx w env g svs us rows boxes lo' hi' fr mr ρr :=
  ⟨h.sv, h.row, h.box, fun i rc hi => let ⟨a, b, c, d⟩ := h.domr i rc hi; ⟨a, by omega, by omega, d⟩, fun i rc hi => let ⟨a, b, c, d⟩ := h.domm i rc hi; ⟨a, by omega, by omega, d⟩, h.rr, h.mm, h.rm⟩
theorem parId_add (j c k : Nat) : parId j (c + k) = parId j c + k := by simp [parId]; omega
theorem parId_next {j c : Nat} (h : c ≤ 64) : parId j c ≤ parId (j + 1) 0 := by simp [parId]; omega
theorem fpRow_succ (n : Nat) (fps : Nat → List Nat) : fpRow (n + 1) fps = fps 0 ++ fpRow n fun i => fps (i + 1) := by rw [fpRow, fpRow, List.range_succ_eq_map]; simp [List.flatMap_map]
theorem wrPar_ok {j : Nat} {x : X} {d : D} (hx : x.den env = d) : ∀ (ks : List CK) (c : Nat) (vs : List Value) (fps : Nat → List Nat), vs.length = ks.length → (∀ i, i < ks.length → Own w (ks.getD i default) (d.fld (c + i)) (vs.getD i undef) (fps i)) → (fpRow ks.length fps).Nodup →
    ∃ ρr, NewOk cx w env [] (wrPar j x c ks) vs (wrParRows j x c ks) [] (parId j c) (parId j (c + ks.length)) (fpRow ks.length fps) (fun _ => none) ρr
  | [], c, vs, fps, hl, _, _ => by
    have : vs = [] := List.eq_nil_of_length_eq_zero hl
    subst this
    exact ⟨_, NewOk.nil⟩
  | ck :: ks, c, [], fps, hl, _, _ => by simp at hl
  | ck :: ks, c, v :: vs, fps, hl, hown, hnd => by
    rw [List.length_cons, fpRow_succ] at hnd
    have hn := List.nodup_append.1 hnd
    have h0 := hown 0 (by simp)
    simp only [List.getD_cons_zero, Nat.add_zero] at h0
    have hden : (X.fld c x).den env = d.fld c := by simp [X.fld, X.den, O1.den, hx]
    have hrest : ∀ i, i < ks.length → Own w (ks.getD i default) (d.fld (c + 1 + i)) (vs.getD i undef) (fps (i + 1)) := fun i hi => by
      have := hown (i + 1) (by simpa using hi)
      simp only [List.getD_cons_succ] at this
      rwa [show c + (i + 1) = c + 1 + i by omega] at this
    obtain ⟨ρr, i2⟩ := wrPar_ok (j := j) hx ks (c + 1) vs (fun i => fps (i + 1)) (by simpa using hl) hrest hn.2.1
    have hend : parId j (c + 1 + ks.length) = parId j (c + (ks.length + 1)) := by congr 1; omega
    have flat : ck.flat = true → wrPar j x c (ck :: ks) = ckSV (.st false) (X.fld c x) ck :: wrPar j x (c + 1) ks → wrParRows j x c (ck :: ks) = wrParRows j x (c + 1) ks →
        ∃ ρr, NewOk cx w env [] (wrPar j x c (ck :: ks)) (v :: vs) (wrParRows j x c (ck :: ks)) [] (parId j c) (parId j (c + (ck :: ks).length)) (fpRow (ck :: ks).length fps) (fun _ => none) ρr := by
      intro hf e1 e2
      obtain ⟨s1, s2⟩ := flat_sv (cx := cx) h0 hf hden
      have := ((NewOk.plain (g := []) (lo := parId j c) s1).widen (hi' := parId j (c + 1)) (Nat.le_refl _) (by rw [parId_add]; omega)).append i2 (by rw [parId_add]; omega) (by rw [parId_add _ (c + 1)]; omega) (by simp)
      rw [List.length_cons, fpRow_succ, s2, e1, e2, ← hend]
      have e : (fun i => if i < parId j (c + 1) then (none : Option Nat) else none) = fun _ => none := by funext i; split <;> rfl
      simp only [e] at this
      exact ⟨_, by simpa using this⟩
    cases ck with
    | sl ks' =>
      obtain ⟨ρs, s⟩ := NewOk.slice (cx := cx) (g := []) (id := parId j c) h0 hn.1 hden
      have s' := s.widen (lo' := parId j c) (hi' := parId j (c + 1)) (Nat.le_refl _) (by rw [parId_add]; omega)
      have := s'.append i2 (by rw [parId_add]; omega) (by rw [parId_add _ (c + 1)]; omega) (fun b hb hb' => hn.2.2 b hb b hb' rfl)
      rw [List.length_cons, fpRow_succ, ← hend]
      have e : (fun i => if i < parId j (c + 1) then (none : Option Nat) else none) = fun _ => none := by funext i; split <;> rfl
      simp only [e] at this
      exact ⟨_, by simpa [wrPar, wrParRows] using this⟩
    | int k => exact flat rfl rfl rfl
    | bool => exact flat rfl rfl rfl
    | str => exact flat rfl rfl rfl
theorem at_argS {ck : CK} : cx.at ck.gl = argS cx.S cx.G ck := by
  cases ck with
  | sl ks => simp only [CK.gl, argS, Cx.at]; cases CK.glob ks <;> rfl
  | _ => rfl
theorem par_ok {op : Bool} {j : Nat} {pk : PK} {a : DArg} {v : Value} {fp : List Nat} {d : D} (hf : FitK pk a) (ha : ArgR w cx.S cx.G a v fp) (hnd : fp.Nodup) (hp : ParD w a v d) (hx : (X.var j).den env = d) (hc : pk = .clo → cx.clo j = v) :
    ∃ m ρ, NewOk cx w env [] [(parSV op j pk).1] [v] (parSV op j pk).2.2 (parSV op j pk).2.1 (parId j 0) (parId (j + 1) 0) fp m ρ := by
  have hle : parId j 0 ≤ parId (j + 1) 0 := parId_next (Nat.zero_le _)
  have hle1 : parId j 0 + 1 ≤ parId (j + 1) 0 := by simp [parId]; omega
  have plain : ∀ sv, SVR cx w (fun _ => none) (fun _ => none) env sv v → ∃ m ρ, NewOk cx w env [] [sv] [v] [] [] (parId j 0) (parId (j + 1) 0) [] m ρ := fun sv h => ⟨_, _, (NewOk.plain h).widen (Nat.le_refl _) hle⟩
  cases ha with
  | sc h =>
    cases pk <;> simp only [FitK] at hf
    subst hf
    cases hp
    exact plain _ (ckSV_ok (S := cx.at (CK.gl _)) rfl (by rw [hx, at_argS]; exact h))
  | st h1 h2 h3 =>
    cases pk <;> simp only [FitK] at hf
    subst hf
    cases hp
    refine plain _ (.agg (by rw [length_cksSV]; exact h2) fun i hi => ?_)
    rw [length_cksSV] at hi
    rw [getD_cksSV _ _ _ _ _ hi]
    refine ckSV_ok (S := cx.S) rfl ?_
    have : (X.fld (0 + i) (.var j)).den env = d.fld i := by
      simp only [X.fld, X.den, O1.den] at hx ⊢
      rw [hx, Nat.zero_add]
    rw [this]
    exact h3 i hi
  | bx _ => cases pk <;> exact hf.elim
  | clo h1 h2 =>
    cases pk <;> simp only [FitK] at hf
    refine plain _ ?_
    rw [← hc rfl]
    exact .clop
  | row h =>
    cases pk <;> simp only [FitK] at hf
    subst hf
    cases hp
    obtain ⟨ρs, s⟩ := NewOk.slice (cx := cx) (g := []) (id := parId j 0) h hnd hx
    exact ⟨_, _, s.widen (Nat.le_refl _) hle1⟩
  | take h =>
    cases pk <;> simp only [FitK] at hf
    subst hf
    cases hp
    obtain ⟨ρs, s⟩ := NewOk.slice (cx := cx) (g := []) (id := parId j 0) h hnd hx
    exact ⟨_, _, s.widen (Nat.le_refl _) hle1⟩
  | @stw cks d vs fps h1 h2 h3 =>
    cases pk <;> simp only [FitK] at hf
    obtain ⟨rfl, h64⟩ := hf
    cases hp
    obtain ⟨ρs, s⟩ := wrPar_ok (cx := cx) (j := j) hx cks 0 vs fps h2 (fun i hi => by rw [Nat.zero_add]; exact h3 i hi) hnd
    have s' := s.widen (lo' := parId j 0) (hi' := parId (j + 1) 0) (Nat.le_refl _) (by rw [Nat.zero_add]; exact parId_next h64)
    refine ⟨_, ρs, ⟨SVRs.one (SVRs.agg s'.sv), s'.row, s'.box, s'.domr, s'.domm, s'.rr, s'.mm, s'.rm⟩⟩
  | @cur d b h =>
    cases pk <;> simp only [FitK] at hf
    cases hp with
    | @cur _ _ i hh v0 T h1 h2 h2n h3 =>
    have hd0 : (X.fld 0 (.var j)).den env = d := by simp only [X.fld, X.den, O1.den] at hx ⊢; rw [hx]; rfl
    have hd1 : (X.fld 1 (.var j)).den env = .int i := by simp only [X.fld, X.den, O1.den] at hx ⊢; rw [hx]; rfl
    have hd2 : (X.fld 2 (.var j)).den env = .int hh := by simp only [X.fld, X.den, O1.den] at hx ⊢; rw [hx]; rfl
    cases op with
    | false => exact ⟨_, _, (NewOk.cursor (g := []) (id := parId j 0) h hd0).widen (Nat.le_refl _) hle1⟩
    | true =>
      have s := (NewOk.cursor (cx := cx) (env := env) (g := []) (id := parId j 0) h hd0).widen (lo' := parId j 0) (Nat.le_refl _) hle1
      refine ⟨_, _, ⟨s.sv, s.row, fun p hp => ?_, s.domr, s.domm, s.rr, s.mm, s.rm⟩⟩
      simp only [parSV, List.mem_singleton] at hp
      subst hp
      obtain ⟨v0', i', h', T', q1, q2, q3, q3n, q4⟩ := h
      rw [h1] at q1
      cases q1
      refine ⟨rfl, b, by simp, [v0, .int .i64 i, .int .i64 hh], T, h1, rfl, fun q hq => ?_⟩
      match q, hq with
      | 0, _ => exact .sl (S := cx.G) rfl (by rw [hd0]; exact q2)
      | 1, _ => exact .num hd1 h2
      | 2, _ => exact .num hd2 h3
/-- All of them. -/
inductive ParDs (w : World) : List DArg → List Value → List D → Prop
  | nil : ParDs w [] [] []
  | cons {a : DArg} {v : Value} {d : D} {as : List DArg} {vs : List Value} {ds : List D} : ParD w a v d → ParDs w as vs ds → ParDs w (a :: as) (v :: vs) (d :: ds)
theorem parDs_ex {S G : Nat → Prop} {pks : List PK} {as : List DArg} {vs : List Value} {fp : List Nat} (h : ArgsR w S G as vs fp) (hf : FitKs pks as) : ∃ ds, ParDs w as vs ds := by
  induction h generalizing pks with
  | nil => exact ⟨[], .nil⟩
  | @cons a v _ as vs _ h1 _ ih =>
    cases pks with
    | nil => exact hf.elim
    | cons k pks =>
    obtain ⟨ds, hds⟩ := ih hf.2
    have : ∃ d, ParD w a v d := by
      cases h1 with
      | sc _ => exact ⟨_, .sc⟩
      | st _ _ _ => exact ⟨_, .st⟩
      | bx _ => cases k <;> exact hf.1.elim
      | clo _ _ => exact ⟨_, .clo⟩
      | row _ => exact ⟨_, .row⟩
      | stw _ _ _ => exact ⟨_, .stw⟩
      | take _ => exact ⟨_, .take⟩
      | cur h =>
        obtain ⟨v0, i, hh, T, h1, _, h3, h3n, h4⟩ := h
        exact ⟨_, .cur h1 h3 h3n h4⟩
    obtain ⟨d, hd⟩ := this
    exact ⟨d :: ds, .cons hd hds⟩
theorem pars_ok {op : Bool} : ∀ (pks : List PK) (j : Nat) (as : List DArg) (vs : List Value) (fp : List Nat) (ds : List D), FitKs pks as → ArgsR w cx.S cx.G as vs fp → fp.Nodup → ParDs w as vs ds → (∀ i, i < ds.length → (X.var (j + i)).den env = ds.getD i default) →
    (∀ i, i < pks.length → pks.getD i .cur = .clo → cx.clo (j + i) = vs.getD i undef) →
    ∃ m ρ, NewOk cx w env [] ((parsSt op j pks).slots.map fun p => p.2.2) vs (parsSt op j pks).rows (parsSt op j pks).boxes (parId j 0) (parId (j + pks.length) 0) fp m ρ
  | [], j, as, vs, fp, ds, hf, ha, _, _, _, _ => by
    cases ha with
    | nil => exact ⟨_, _, NewOk.nil⟩
    | cons _ _ => exact hf.elim
  | k :: pks, j, as, vs, fp, ds, hf, ha, hnd, hp, hx, hc => by
    cases ha with
    | nil => exact hf.elim
    | cons h1 h2 =>
    cases hp with
    | cons p1 p2 =>
    have hn := List.nodup_append.1 hnd
    obtain ⟨m1, ρ1, N1⟩ := par_ok (op := op) (cx := cx) (env := env) (j := j) hf.1 h1 hn.1 p1 (by have := hx 0 (by simp); simpa using this) (fun hk => by have := hc 0 (by simp) (by simpa using hk); simpa using this)
    obtain ⟨m2, ρ2, N2⟩ := pars_ok (op := op) pks (j + 1) _ _ _ _ hf.2 h2 hn.2.1 p2 (fun i hi => by have := hx (i + 1) (by simpa using hi); simp only [List.getD_cons_succ] at this; rwa [show j + (i + 1) = j + 1 + i by omega] at this)
      (fun i hi hk => by have := hc (i + 1) (by simpa using hi) (by simpa using hk); simp only [List.getD_cons_succ] at this; rwa [show j + (i + 1) = j + 1 + i by omega] at this)
    have h3 : parId (j + 1) 0 ≤ parId (j + 1 + pks.length) 0 := by simp [parId]; omega
    have := N1.append N2 (parId_next (Nat.zero_le _)) h3 (fun b hb hb' => hn.2.2 b hb b hb' rfl)
    rw [List.length_cons, show j + (pks.length + 1) = j + 1 + pks.length by omega]
    exact ⟨_, _, this⟩
theorem parsSt_slots {op : Bool} : ∀ (pks : List PK) (j : Nat), (parsSt op j pks).slots.map (·.1) = List.range' j pks.length ∧ (∀ p ∈ (parsSt op j pks).slots, p.2.1 = []) ∧ (parsSt op j pks).nv = j + pks.length
  | [], j => by simp [parsSt]
  | k :: pks, j => by
    obtain ⟨h1, h2, h3⟩ := parsSt_slots (op := op) pks (j + 1)
    refine ⟨?_, fun p hp => ?_, ?_⟩
    · simp only [parsSt, List.map_cons, h1, List.length_cons, List.range'_succ]
    · simp only [parsSt] at hp
      rcases List.mem_cons.1 hp with rfl | hp
      · rfl
      · exact h2 p hp
    · simp only [parsSt, h3, List.length_cons]; omega
theorem look_range {α : Type} : ∀ (l : List (Nat × α)) (j : Nat), l.map (·.1) = List.range' j l.length → ∀ t x, look l t = some x → j ≤ t ∧ t < j + l.length ∧ (l.map (·.2))[t - j]? = some x
  | [], j, _, t, x, h => by simp [look] at h
  | (i, a) :: l, j, hm, t, x, h => by
    simp only [List.map_cons, List.length_cons, List.range'_succ, List.cons.injEq] at hm
    obtain ⟨rfl, hm⟩ := hm
    rw [look_cons] at h
    split at h
    · rename_i he; subst he; cases h; simp
    · rename_i hne
      obtain ⟨h1, h2, h3⟩ := look_range l (i + 1) hm t x h
      refine ⟨by omega, by simp; omega, ?_⟩
      have : t - i = (t - (i + 1)) + 1 := by omega
      rw [this]; simpa using h3
end
end Go.Proofs.Ytfbahdalemajcaa.Eng

/-
  The engine: what a function hands back.
-/
namespace Go.Proofs.Ytfbahdalemajcaa.Eng
section
variable {P : Program} {cx : Cx} {w0 w w' : World} {m m' : BoxM} {ρ ρ' : RowM} {env : List D} {st : St} {g : Conds} {a : Act} {md : Modes}
/-- The block belongs to the box or the row. -/
def obOne (m : BoxM) (ρ : RowM) (id b : Nat) : Prop := (∃ rc, ρ id = some rc ∧ b ∈ rc.fp) ∨ m id = some b
theorem obOne_eq (hS : Sep cx w m ρ) {i j b : Nat} (hi : obOne m ρ i b) (hj : obOne m ρ j b) : i = j := by
  rcases hi with ⟨r1, h1, h2⟩ | h1 <;> rcases hj with ⟨r2, h3, h4⟩ | h3
  · exact hS.rows i j r1 r2 b h1 h3 h2 h4
  · exact (hS.apart j i r1 b h3 h1 h2).elim
  · exact (hS.apart i j r2 b h1 h3 h4).elim
  · exact hS.boxes i j b h1 h3
theorem ob_nodup (hS : Sep cx w m ρ) {f1 f2 ids js : List Nat} (h1 : f1.Nodup) (h2 : f2.Nodup) (hi : ∀ b ∈ f1, ∃ id ∈ ids, obOne m ρ id b) (hj : ∀ b ∈ f2, ∃ id ∈ js, obOne m ρ id b) (hd : (ids ++ js).Nodup) : (f1 ++ f2).Nodup := by
  refine List.nodup_append.2 ⟨h1, h2, fun b hb c hc he => ?_⟩
  subst he
  obtain ⟨i, q1, q2⟩ := hi b hb
  obtain ⟨j, q3, q4⟩ := hj b hc
  exact (List.nodup_append.1 hd).2.2 i q1 j q3 (obOne_eq hS q2 q4)
theorem retX_ok (H : HeapR cx w m ρ env st.boxes st.rows) {r : RS} {sv : SV} {v : Value} {x : X} {ids : List Nat} (h : retX st r sv = some (x, ids)) (hv : SVR cx w m ρ env sv v) (hnd : ids.Nodup) :
    ∃ fr, RetR w cx.G r (x.den env) v fr ∧ fr.Nodup ∧ ∀ b ∈ fr, ∃ id ∈ ids, obOne m ρ id b := by
  unfold retX at h
  split at h
  · obtain ⟨fp, h1, h2, h3⟩ := cellX_ok H (g := []) trivial h hv
    exact ⟨fp, .sc h1, h2, fun b hb => let ⟨id, i1, rc, i2, i3⟩ := h3 b hb; ⟨id, i1, .inl ⟨rc, i2, i3⟩⟩⟩
  · split at h
    · rename_i cks cs _ xs ids' hx
      cases h
      obtain ⟨vs, rfl, hvs⟩ := hv.agg_inv
      obtain ⟨l1, l2, fps, idf, h1, h2, h3⟩ := cellsX_ok H (g := []) trivial cks cs vs xs ids hx hvs
      refine ⟨fpRow cks.length fps, .st ⟨_, many_den xs, by simp [l1]⟩ l2 (fun c hc => ?_), fpRow_nodup (fun i hi => (h1 i hi).2.1) fun i j hi hj hne b hb hb' => ?_, fun b hb => ?_⟩
      · have := (h1 c hc).1
        rw [many_den]
        exact this
      · obtain ⟨id, i1, rc, i2, i3⟩ := (h1 i hi).2.2 b hb
        obtain ⟨id', j1, rc', j2, j3⟩ := (h1 j hj).2.2 b hb'
        have := H.sep.rows id id' rc rc' b i2 j2 i3 j3
        subst this
        exact h3 hnd i j hi hj hne id i1 j1
      · obtain ⟨i, hi, hb⟩ := mem_fpRow.1 hb
        obtain ⟨id, i1, rc, i2, i3⟩ := (h1 i hi).2.2 b hb
        exact ⟨id, h2 i id i1, .inl ⟨rc, i2, i3⟩⟩
    · cases h
  · rename_i id
    obtain ⟨b, b1, rfl⟩ := hv.bp_inv
    have key : ∀ cells x', st.box [] id = some cells → curBox cells = some x' → ∃ fr, RetR w cx.G .cur (x'.den env) (.pointer (some ⟨b, 0, none⟩)) fr ∧ fr.Nodup ∧ ∀ b ∈ fr, ∃ id' ∈ [id], obOne m ρ id' b := fun cells x' h1 h2 =>
      ⟨[b], .cur (curBox_ok H (g := []) trivial h1 h2 b1), by simp, fun c hc => by simp at hc; subst hc; exact ⟨id, by simp, .inr b1⟩⟩
    split at h
    · rename_i ks x' _ _ hb
      split at h
      · rename_i hk
        cases h
        have := CK.beqs_eq _ _ hk
        subst this
        exact key _ _ hb rfl
      · cases h
    · rename_i ks x' hb
      split at h
      · rename_i hk
        cases h
        have := CK.beqs_eq _ _ hk
        subst this
        exact key _ _ hb rfl
      · cases h
    · cases h
  · cases h
/-- One result. -/
def resOne (tmps : Array Value) : ResultVar → Sem Value
  | .tmp t => pure (tmps.getD t undef)
  | .cell a t => do loadVar t (← asAddr (tmps.getD a undef))
theorem loadSV_ptr {t : TypeId} {av sv : SV} {v : Value} (hv : SVR cx w m ρ env av v) (hl : loadSV P st g t av = some sv) : ∃ ad, v = .pointer (some ad) := by
  unfold loadSV at hl
  split at hl
  · cases hl
  · split at hl
    · cases hv; exact ⟨_, rfl⟩
    · cases hv; exact ⟨_, rfl⟩
    · cases hv; exact ⟨_, rfl⟩
    · cases hl
theorem retVar_ok (R : Rel cx w0 env st a w m ρ) {v : ResultVar} {sv : SV} (h : retVar P st v = some sv) : ∃ u, (resOne a.tmps v).run P w = .ok u w ∧ SVR cx w m ρ env sv u := by
  unfold retVar at h
  split at h
  · exact ⟨_, rfl, eval_get R (g' := []) trivial h⟩
  · split at h
    · rename_i t ty _ av hav
      have hv := eval_get R (g' := []) trivial hav
      obtain ⟨u, h1, h2⟩ := loadSV_ok R.heap (g := []) trivial hv h
      obtain ⟨ad, had⟩ := loadSV_ptr hv h
      rw [had] at h1
      refine ⟨u, ?_, h2⟩
      simp only [resOne]
      rw [show a.tmps.getD t undef = .pointer (some ad) from had]
      exact h1
    · cases h
theorem retXs_ok (R : Rel cx w0 env st a w m ρ) : ∀ (rs : List RS) (vs : List ResultVar) (xs : List X) (ids : List Nat), retXs P st rs vs = some (xs, ids) → ids.Nodup →
    ∃ us fr, (vs.mapM (resOne a.tmps)).run P w = .ok us w ∧ RetsR w cx.G rs (xs.map (X.den env)) us fr ∧ fr.Nodup ∧ ∀ b ∈ fr, ∃ id ∈ ids, obOne m ρ id b
  | [], [], xs, ids, h, _ => by
    cases h
    exact ⟨[], [], rfl, .nil, by simp, by simp⟩
  | [], _ :: _, xs, ids, h, _ => by simp [retXs] at h
  | _ :: _, [], xs, ids, h, _ => by simp [retXs] at h
  | r :: rs, v :: vs, xs, ids, h, hnd => by
    simp only [retXs] at h
    split at h
    · rename_i sv xs' ids' h1 h2
      split at h
      · rename_i x a' h3
        cases h
        have hn := List.nodup_append.1 hnd
        obtain ⟨u, u1, u2⟩ := retVar_ok R h1
        obtain ⟨f1, q1, q2, q3⟩ := retX_ok R.heap h3 u2 hn.1
        obtain ⟨us, f2, p1, p2, p3, p4⟩ := retXs_ok R rs vs xs' ids' h2 hn.2.1
        refine ⟨u :: us, f1 ++ f2, ?_, .cons q1 p2, ob_nodup R.heap.sep q2 p3 q3 p4 hnd, fun b hb => ?_⟩
        · simp only [List.mapM_cons, Sem.run_bind, u1, Result.andThen_ok, p1, Sem.run_pure]
        · rcases List.mem_append.1 hb with hb | hb
          · obtain ⟨id, i1, i2⟩ := q3 b hb; exact ⟨id, List.mem_append_left _ i1, i2⟩
          · obtain ⟨id, i1, i2⟩ := p4 b hb; exact ⟨id, List.mem_append_right _ i1, i2⟩
      · cases h
    · cases h
theorem results_run {fn : Func} {tmps : Array Value} {us : List Value} (h : (fn.results.toList.mapM (resOne tmps)).run P w = .ok us w) : (results fn tmps).run P w = .ok (resVal us) w := by
  have hm : (fn.results.mapM (resOne tmps)).run P w = .ok us.toArray w := by
    rw [Array.mapM_eq_mapM_toList]
    simp only [Sem.run_map, h, Result.andThen_ok]
  have e : results fn tmps = (do let vs ← fn.results.mapM (resOne tmps); pure (if h : vs.size = 1 then vs[0] else .tuple vs)) := by
    unfold results
    congr 1
  rw [e]
  simp only [Sem.run_bind, hm, Result.andThen_ok, Sem.run_pure]
  cases us with
  | nil => rfl
  | cons u us => cases us with
    | nil => rfl
    | cons _ _ => rfl
/-! ### what comes back in the arguments -/
theorem ckSV_flat {src : Src} {ck : CK} {x : X} {v : Value} (hf : ck.flat = true) (h : SVR cx w m ρ env (ckSV src x ck) v) : Flat ck (x.den env) v := by
  cases ck with
  | sl ks => cases hf
  | int k => obtain ⟨n, h1, h2, rfl⟩ := h.num_inv; rw [h1]; exact .int h2
  | bool => obtain ⟨n, h1, rfl⟩ := h.boo_inv; rw [h1]; exact .bool
  | str => obtain ⟨n, h1, h3⟩ := h.txt_inv; have := h.txt_bd h3; rw [h1, h3]; exact .str this
theorem row_own (H : HeapR cx w m ρ env st.boxes st.rows) {id : Nat} {r : Row} {v : Value} (hr : st.row [] id = some r) (hv : SVR cx w m ρ env (.ov id none) v) : ∃ rc, ρ id = some rc ∧ Own w (.sl r.ks) (r.c.den env) v rc.fp := by
  cases hv with
  | @ov _ _ rc n h1 h2 h3 h4 =>
    have := row_get H (g := []) trivial hr h1
    obtain ⟨e1, e2, e3⟩ := this
    rw [h3 rfl, e1]
    exact ⟨rc, h1, e3⟩
theorem backCells_ok (H : HeapR cx w m ρ env st.boxes st.rows) {j : Nat} : ∀ (ks : List CK) (c : Nat) (us : List Value) (ys : List X) (js : List Nat), backCells st j c ks = some (ys, js) → SVRs cx w m ρ env (wrPar j (.var j) c ks) us → js.Nodup →
    ys.length = ks.length ∧ us.length = ks.length ∧ ∃ fps : Nat → List Nat, (∀ i, i < ks.length → Own w (ks.getD i default) ((ys.map (X.den env)).getD i default) (us.getD i undef) (fps i)) ∧ (fpRow ks.length fps).Nodup ∧ ∀ b ∈ fpRow ks.length fps, ∃ id ∈ js, obOne m ρ id b
  | [], c, us, ys, js, h, hv, _ => by
    cases h
    exact ⟨rfl, by simpa [wrPar] using hv.1, fun _ => [], by simp, by simp [fpRow], by simp [fpRow]⟩
  | ck :: ks, c, us, ys, js, h, hv, hnd => by
    have flat : ck.flat = true → wrPar j (.var j) c (ck :: ks) = ckSV (.st false) (X.fld c (.var j)) ck :: wrPar j (.var j) (c + 1) ks → (match backCells st j (c + 1) ks with | some (xs, ids) => some (X.fld c (.var j) :: xs, ids) | none => none) = some (ys, js) →
        ys.length = (ck :: ks).length ∧ us.length = (ck :: ks).length ∧ ∃ fps : Nat → List Nat, (∀ i, i < (ck :: ks).length → Own w ((ck :: ks).getD i default) ((ys.map (X.den env)).getD i default) (us.getD i undef) (fps i)) ∧ (fpRow (ck :: ks).length fps).Nodup ∧ ∀ b ∈ fpRow (ck :: ks).length fps, ∃ id ∈ js, obOne m ρ id b := by
      intro hf e1 e2
      rw [e1] at hv
      cases us with
      | nil => exact absurd hv.1 (by simp)
      | cons u us =>
      have hv0 := hv.2 0 (by simp)
      have hvr : SVRs cx w m ρ env (wrPar j (.var j) (c + 1) ks) us := ⟨by simpa using hv.1, fun i hi => by simpa using hv.2 (i + 1) (by simpa using hi)⟩
      split at e2
      · rename_i xs ids hb
        cases e2
        obtain ⟨l1, l2, fps, f1, f2, f3⟩ := backCells_ok H ks (c + 1) us xs js hb hvr hnd
        refine ⟨by simp [l1], by simp [l2], fun i => match i with | 0 => [] | i + 1 => fps i, fun i hi => ?_, ?_, ?_⟩
        · cases i with
          | zero => exact .flat (ckSV_flat hf hv0)
          | succ i => simpa using f1 i (by simpa using hi)
        · rw [List.length_cons, fpRow_succ]; simpa using f2
        · rw [List.length_cons, fpRow_succ]; simpa using f3
      · cases e2
    cases ck with
    | sl ks' =>
      simp only [wrPar] at hv
      simp only [backCells] at h
      cases us with
      | nil => exact absurd hv.1 (by simp)
      | cons u us =>
      have hv0 := hv.2 0 (by simp)
      simp only [List.getD_cons_zero] at hv0
      have hvr : SVRs cx w m ρ env (wrPar j (.var j) (c + 1) ks) us := ⟨by simpa using hv.1, fun i hi => by simpa using hv.2 (i + 1) (by simpa using hi)⟩
      split at h
      · rename_i r xs ids hr hb
        split at h
        · rename_i hk
          cases h
          have hk := CK.beqs_eq _ _ hk
          have hn := List.nodup_cons.1 hnd
          obtain ⟨l1, l2, fps, f1, f2, f3⟩ := backCells_ok H ks (c + 1) us xs ids hb hvr hn.2
          obtain ⟨rc, r1, r2⟩ := row_own H hr hv0
          have hown : ∀ b ∈ rc.fp, ∃ id ∈ [parId j c], obOne m ρ id b := fun b hb => ⟨_, by simp, .inl ⟨rc, r1, hb⟩⟩
          refine ⟨by simp [l1], by simp [l2], fun i => match i with | 0 => rc.fp | i + 1 => fps i, fun i hi => ?_, ?_, ?_⟩
          · cases i with
            | zero => rw [hk]; exact r2
            | succ i => simpa using f1 i (by simpa using hi)
          · rw [List.length_cons, fpRow_succ]
            exact ob_nodup H.sep (H.sep.nodup _ rc r1) f2 hown f3 (by simpa using hnd)
          · rw [List.length_cons, fpRow_succ]
            intro b hb
            rcases List.mem_append.1 hb with hb | hb
            · obtain ⟨id, i1, i2⟩ := hown b hb
              simp only [List.mem_singleton] at i1
              exact ⟨id, by rw [i1]; simp, i2⟩
            · obtain ⟨id, i1, i2⟩ := f3 b hb; exact ⟨id, List.mem_cons_of_mem _ i1, i2⟩
        · cases h
      · cases h
    | int k => exact flat rfl rfl h
    | bool => exact flat rfl rfl h
    | str => exact flat rfl rfl h
theorem curNeeds_rest {j : Nat} {k : PK} {pks : List PK} {x : X} (h : x ∈ curNeeds st (j + 1) pks) : x ∈ curNeeds st j (k :: pks) := by
  cases k <;> simp only [curNeeds] <;> try exact h
  split
  · split
    · exact List.mem_cons_of_mem _ h
    · exact h
  · exact h
theorem backX_ok (R : Rel cx w0 env st a w m ρ) : ∀ (pks : List PK) (j : Nat) (as : List DArg) (vs : List Value) (ds : List D) (ys : List X) (js : List Nat), backX st j pks = some (ys, js) → FitKs pks as → ParDs w0 as vs ds → (∀ i, i < ds.length → (X.var (j + i)).den env = ds.getD i default) →
    (∀ i, i < vs.length → j + i < st.nt.2 → cx.par (j + i) = vs.getD i undef) → (∀ x ∈ curNeeds st j pks, (x.den env).toB = true) → js.Nodup → ∃ fb, BackR w cx.G as vs (ys.map (X.den env)) fb ∧ fb.Nodup ∧ ∀ b ∈ fb, ∃ id ∈ js, obOne m ρ id b
  | [], j, as, vs, ds, ys, js, h, hf, hp, _, _, _, _ => by
    cases h
    cases hp with
    | nil => exact ⟨[], .nil, by simp, by simp⟩
    | cons _ _ => exact hf.elim
  | k :: pks, j, as, vs, ds, ys, js, h, hf, hp, hx, hpar, hneed, hnd => by
    cases hp with
    | nil => exact hf.elim
    | @cons a0 v d as vs ds p1 p2 =>
    simp only [backX] at h
    split at h
    · cases h
    rename_i xs ids hb
    have hx0 : (X.var j).den env = d := by have := hx 0 (by simp); simpa using this
    have hpar0 : j < st.nt.2 → a.tmps.getD j undef = v := fun hj => by
      rw [R.size.2 j hj]; have := hpar 0 (by simp) (by simpa using hj); simpa using this
    have ih : ∀ ids, backX st (j + 1) pks = some (xs, ids) → ids.Nodup → ∃ fb, BackR w cx.G as vs (xs.map (X.den env)) fb ∧ fb.Nodup ∧ ∀ b ∈ fb, ∃ id ∈ ids, obOne m ρ id b := fun ids hb hn =>
      backX_ok R pks (j + 1) as vs ds xs ids hb hf.2 p2 (fun i hi => by have := hx (i + 1) (by simpa using hi); simp only [List.getD_cons_succ] at this; rwa [show j + (i + 1) = j + 1 + i by omega] at this)
        (fun i hi hj => by have := hpar (i + 1) (by simpa using hi) (by omega); simp only [List.getD_cons_succ] at this; rwa [show j + (i + 1) = j + 1 + i by omega] at this) (fun x hx => hneed x (curNeeds_rest hx)) hn
    have skip : (match (motive := DArg → Prop) a0 with | .row _ _ | .stw _ _ | .cur _ => False | _ => True) → some (xs, ids) = some (ys, js) → ∃ fb, BackR w cx.G (a0 :: as) (v :: vs) (ys.map (X.den env)) fb ∧ fb.Nodup ∧ ∀ b ∈ fb, ∃ id ∈ js, obOne m ρ id b := by
      intro h1 h2
      cases h2
      obtain ⟨fb, q1, q2, q3⟩ := ih _ hb hnd
      exact ⟨fb, .skip h1 q1, q2, q3⟩
    split at h
    · rename_i ks
      split at h
      · rename_i hc
        simp only [Bool.and_eq_true] at hc
        split at h
        · rename_i ys' js' hbc
          cases h
          have hn := List.nodup_append.1 hnd
          have hs := slotEntry_eq hc.1
          have hj : j < st.nt.2 := Nat.le_of_ble_eq_true hc.2
          have hv := (R.slots j [] _ hs).2.1 trivial
          rw [hpar0 hj] at hv
          obtain ⟨us, rfl, hus⟩ := hv.agg_inv
          obtain ⟨l1, l2, fps, f1, f2, f3⟩ := backCells_ok R.heap ks 0 us ys' js' hbc hus hn.1
          obtain ⟨fb, q1, q2, q3⟩ := ih ids hb hn.2.1
          cases a0 with
          | stw ks2 d2 =>
            obtain ⟨⟨he, _⟩, _⟩ := hf
            rw [← he] at f1 f2 f3 l1 l2
            refine ⟨fpRow ks2.length fps ++ fb, .stw (d' := (X.many ys').den env) ⟨_, many_den ys', by simp [l1]⟩ l2 (fun c hc => ?_) q1, ob_nodup R.heap.sep f2 q2 f3 q3 hnd, fun b hb => ?_⟩
            · have := f1 c hc; rw [many_den]; exact this
            · rcases List.mem_append.1 hb with hb | hb
              · obtain ⟨id, i1, i2⟩ := f3 b hb; exact ⟨id, List.mem_append_left _ i1, i2⟩
              · obtain ⟨id, i1, i2⟩ := q3 b hb; exact ⟨id, List.mem_append_right _ i1, i2⟩
          | _ => exact hf.1.elim
        · cases h
      · cases h
    · rename_i ks
      split at h
      · rename_i r hr
        split at h
        · rename_i hc
          simp only [Bool.and_eq_true] at hc
          cases h
          have hn := List.nodup_cons.1 hnd
          have hs := slotEntry_eq hc.1.1
          have hj : j < st.nt.2 := Nat.le_of_ble_eq_true hc.1.2
          have hk := CK.beqs_eq _ _ hc.2
          have hv := (R.slots j [] _ hs).2.1 trivial
          rw [hpar0 hj] at hv
          obtain ⟨rc, r1, r2⟩ := row_own R.heap hr hv
          obtain ⟨fb, q1, q2, q3⟩ := ih ids hb hn.2
          have hown : ∀ b ∈ rc.fp, ∃ id ∈ [parId j 0], obOne m ρ id b := fun b hb => ⟨_, by simp, .inl ⟨rc, r1, hb⟩⟩
          cases a0 with
          | row ks2 d2 =>
            obtain ⟨he, _⟩ := hf
            have he : ks2 = ks := he
            refine ⟨rc.fp ++ fb, .row (by rw [he, hk]; exact r2) q1, ob_nodup R.heap.sep (R.heap.sep.nodup _ rc r1) q2 hown q3 (by simpa using hnd), fun b hb => ?_⟩
            rcases List.mem_append.1 hb with hb | hb
            · obtain ⟨id, i1, i2⟩ := hown b hb
              simp only [List.mem_singleton] at i1
              exact ⟨id, by rw [i1]; simp, i2⟩
            · obtain ⟨id, i1, i2⟩ := q3 b hb; exact ⟨id, List.mem_cons_of_mem _ i1, i2⟩
          | _ => exact hf.1.elim
        · cases h
      · cases h
    · split at h
      · rename_i cells hcb
        split at h
        · rename_i x iopt hxx
          split at h
          · rename_i hc
            simp only [Bool.and_eq_true] at hc
            cases h
            have hn := List.nodup_cons.1 hnd
            have hs := slotEntry_eq hc.1.2
            have hj : j < st.nt.2 := Nat.le_of_ble_eq_true hc.2
            have hv := (R.slots j [] _ hs).2.1 trivial
            rw [hpar0 hj] at hv
            obtain ⟨b, b1, rfl⟩ := hv.bp_inv
            obtain ⟨fb, q1, q2, q3⟩ := ih ids hb hn.2
            have hcv := curBoxR_ok R.heap (g := []) trivial hcb hxx (fun y hy => by
              have := hneed (.o2 .le (.int 0) y) (by simp only [curNeeds, hcb, hxx, hy]; simp)
              exact of_decide_eq_true this) b1
            have hown : ∀ b' ∈ [b], ∃ id ∈ [parId j 0], obOne m ρ id b' := fun b' hb => by simp at hb; subst hb; exact ⟨_, by simp, .inr b1⟩
            cases p1 with
            | cur g1 g2 g2n g3 =>
              rename_i d0 i h' v0 T
              have hd : x.den env = d0 := by
                rw [eq_of_beq hc.1.1]
                simp only [X.fld, X.den, O1.den] at hx0 ⊢
                rw [hx0]; rfl
              rw [hd] at hcv
              refine ⟨b :: fb, .cur hcv q1, ob_nodup (f1 := [b]) R.heap.sep (by simp) q2 hown q3 (by simpa using hnd), fun b' hb => ?_⟩
              rcases List.mem_cons.1 hb with rfl | hb
              · exact ⟨_, by simp, .inr b1⟩
              · obtain ⟨id, i1, i2⟩ := q3 b' hb; exact ⟨id, List.mem_cons_of_mem _ i1, i2⟩
            | _ => exact hf.1.elim
          · cases h
        · cases h
      · cases h
    · rename_i h1 h2 h3
      cases k with
      | stw ks => exact (h1 _ rfl).elim
      | row ks => exact (h2 _ rfl).elim
      | cur => exact (h3 rfl).elim
      | _ => cases a0 <;> first | exact hf.1.elim | exact skip trivial h
end
end Go.Proofs.Ytfbahdalemajcaa.Eng

/-
  The engine: what a function's tree says, the function does.
-/
namespace Go.Proofs.Ytfbahdalemajcaa.Eng
section
variable {P : Program} {cx : Cx} {w0 w w' : World} {m m' : BoxM} {ρ ρ' : RowM} {env : List D} {st : St} {a : Act} {md : Modes}
theorem ArgR.lt {S G : Nat → Prop} {a : DArg} {v : Value} {fp : List Nat} (h : ArgR w S G a v fp) : ∀ b ∈ fp, b < w.heap.size := by
  cases h with
  | sc _ | st _ _ _ | bx _ | clo _ _ => simp
  | row h | take h => exact h.lt
  | stw _ _ h =>
    intro b hb
    obtain ⟨i, hi, hb⟩ := mem_fpRow.1 hb
    exact (h i hi).lt b hb
  | cur h => intro b hb; simp at hb; subst hb; exact curVal_lt h
theorem ArgsR.lt {S G : Nat → Prop} {as : List DArg} {vs : List Value} {fp : List Nat} (h : ArgsR w S G as vs fp) : ∀ b ∈ fp, b < w.heap.size := by
  induction h with
  | nil => simp
  | cons h1 _ ih =>
    intro b hb
    rcases List.mem_append.1 hb with hb | hb
    · exact h1.lt b hb
    · exact ih b hb
/-- The parameters' values, and what a closure captured. -/
theorem ArgsR.split {S G : Nat → Prop} {caps : List (List CK × D)} : ∀ {as : List DArg} {vs : List Value} {F : List Nat}, ArgsR w S G (as ++ caps.map fun p => .bx p.1 p.2) vs F → ∃ us fs, vs = us ++ fs ∧ ArgsR w S G as us F ∧ fs.length = caps.length ∧
    ∀ i, i < caps.length → ∃ b o, fs.getD i undef = .pointer (some ⟨b, o, none⟩) ∧ ElemAt w S (caps.getD i default).1 (caps.getD i default).2 b o
  | [], vs, F, h => by
    simp only [List.nil_append] at h
    induction caps generalizing vs F with
    | nil => cases h; exact ⟨[], [], rfl, .nil, rfl, by simp⟩
    | cons p caps ih =>
      simp only [List.map_cons] at h
      cases h with
      | cons h1 h2 =>
        cases h1 with
        | @bx _ _ b o h1 =>
        obtain ⟨us, fs, e1, e2, e3, e4⟩ := ih _ _ h2
        cases e2
        simp only [List.nil_append] at e1
        subst e1
        refine ⟨[], _, rfl, .nil, by simp [e3], fun i hi => ?_⟩
        cases i with
        | zero => exact ⟨b, o, rfl, h1⟩
        | succ i => simpa using e4 i (by simpa using hi)
  | a :: as, vs, F, h => by
    simp only [List.cons_append] at h
    cases h with
    | cons h1 h2 =>
      obtain ⟨us, fs, e1, e2, e3, e4⟩ := ArgsR.split h2
      subst e1
      exact ⟨_ :: us, fs, rfl, .cons h1 e2, e3, e4⟩
theorem freesSt_slots : ∀ (l : List (List CK)) (j : Nat), (freesSt j l).map (·.1) = List.range' j l.length ∧ (freesSt j l).map (·.2) = (List.range' j l.length).zipWith (fun i ks => (([] : Conds), SV.ep (.st false) ks (.var i) 0)) l
  | [], j => by simp [freesSt]
  | ks :: l, j => by
    obtain ⟨h1, h2⟩ := freesSt_slots l (j + 1)
    simp [freesSt, h1, h2, List.range'_succ]
/-- The function values among the arguments. -/
def cloArgs (as : List DArg) (j : Nat) : CloD := match as[j]? with
  | some (.clo f caps) => (f, caps)
  | _ => (0, [])
def cloVals (as : List DArg) (vs : List Value) (j : Nat) : Value := match as[j]? with
  | some (.clo _ _) => vs.getD j undef
  | _ => .func (.func 0) #[] ([] : List Value).toArray
theorem cloArgs_ok {S G : Nat → Prop} : ∀ {as : List DArg} {vs : List Value} {F : List Nat}, ArgsR w S G as vs F → ∀ j, ArgR w S G (.clo (cloArgs as j).1 (cloArgs as j).2) (cloVals as vs j) []
  | [], vs, F, _, j => by
    simp only [cloArgs, cloVals, List.getElem?_nil]
    exact .clo rfl (by simp)
  | a :: as, _, _, .cons (v := v) (vs := vs) h1 h2, j => by
    cases j with
    | zero =>
      simp only [cloArgs, cloVals, List.getElem?_cons_zero]
      cases h1 with
      | clo e1 e2 => exact .clo e1 e2
      | _ => exact .clo rfl (by simp)
    | succ j =>
      have := cloArgs_ok h2 j
      simp only [cloArgs, cloVals, List.getElem?_cons_succ, List.getD_cons_succ] at this ⊢
      exact this
theorem fit_clo : ∀ {pks : List PK} {as : List DArg}, FitKs pks as → ∀ i, i < pks.length → pks.getD i .cur = .clo → ∃ f caps, as[i]? = some (.clo f caps)
  | [], _, _, i, hi, _ => by simp at hi
  | k :: pks, [], h, i, hi, _ => h.elim
  | k :: pks, a :: as, h, i, hi, hk => by
    cases i with
    | zero =>
      simp only [List.getD_cons_zero] at hk
      subst hk
      have h1 := h.1
      cases a <;> first | exact h1.elim | exact ⟨_, _, rfl⟩
    | succ i => simpa using fit_clo h.2 i (by simpa using hi) (by simpa using hk)
theorem fit_len : ∀ {pks : List PK} {as : List DArg}, FitKs pks as → as.length = pks.length
  | [], [], _ => rfl
  | [], _ :: _, h => h.elim
  | _ :: _, [], h => h.elim
  | _ :: _, _ :: _, h => by simp [fit_len h.2]
theorem parDs_len {as : List DArg} {vs : List Value} {ds : List D} (h : ParDs w as vs ds) : ds.length = as.length ∧ vs.length = as.length := by
  induction h with
  | nil => exact ⟨rfl, rfl⟩
  | cons _ _ ih => simp [ih.1, ih.2]
/-- The data of the arguments, whatever a cursor's counters are. -/
inductive ArgD : DArg → D → Prop
  | sc {ck : CK} {d : D} : ArgD (.sc ck d) d
  | st {ks : List CK} {d : D} : ArgD (.st ks d) d
  | stw {ks : List CK} {d : D} : ArgD (.stw ks d) d
  | row {ks : List CK} {d : D} : ArgD (.row ks d) d
  | take {ks : List CK} {d : D} : ArgD (.take ks d) d
  | clo {f : Nat} {caps : List (List CK × D)} : ArgD (.clo f caps) default
  | cur {d : D} {i h : Int} : inK .i64 i = true → 0 ≤ i → inK .i64 h = true → ArgD (.cur d) (.lst [d, .int i, .int h])
inductive ArgDs : List DArg → List D → Prop
  | nil : ArgDs [] []
  | cons {a : DArg} {d : D} {as : List DArg} {ds : List D} : ArgD a d → ArgDs as ds → ArgDs (a :: as) (d :: ds)
theorem ParDs.argDs {as : List DArg} {vs : List Value} {ds : List D} (h : ParDs w as vs ds) : ArgDs as ds := by
  induction h with
  | nil => exact .nil
  | cons h1 _ ih =>
    refine .cons ?_ ih
    cases h1 with
    | sc => exact .sc
    | st => exact .st
    | stw => exact .stw
    | row => exact .row
    | take => exact .take
    | clo => exact .clo
    | cur _ h2 h2n h3 => exact .cur h2 h2n h3
theorem of_tree {f : Nat} {fn : Func} {pks : List PK} {rs : List RS} {as : List DArg} {caps : List (List CK × D)} {Q : List D → Prop} (hmix : P.follows .mixedOrders = true) (hf : P.funcs[f]? = some fn) (hne : (fn.name == "runtime.NumGoroutine") = false)
    (hps : parKs P md f 0 fn.params.toList = some pks) (hrs : rsOfs P fn.resultTypes.toList = some rs) (hfit : FitKs pks as)
    (hd : ∀ ds, ArgDs as ds → (symF P md f (caps.map (·.1))).den P (cloArgs as) Q (fun _ _ => False) (ds ++ caps.map (·.2))) : PC P f (as ++ caps.map fun p => .bx p.1 p.2) rs Q := by
  -- the tree
  obtain ⟨c, hb, hnf, hnt, hd⟩ : ∃ c, fn.body = some c ∧ caps.length = fn.nfree ∧ fn.params.size + fn.nfree ≤ fn.ntmps ∧ ∀ ds, ArgDs as ds →
      (exec P md c 0 (startSt (memN f md.opened) pks (caps.map (·.1)) fn.ntmps) fun e s => match e with
          | .ex _ => .fail 10
          | _ => retT P rs pks fn s).den P (cloArgs as) Q (fun _ _ => False) (ds ++ caps.map (·.2)) := by
    unfold symF at hd
    rw [hf] at hd
    simp only [hps, hrs] at hd
    cases hb : fn.body with
    | none =>
      -- some data there are
      exfalso
      rw [hb] at hd
      have : ∀ (pks : List PK) (as : List DArg), FitKs pks as → ∃ ds, ArgDs as ds := by
        intro pks
        induction pks with
        | nil => intro as h; cases as with
          | nil => exact ⟨[], .nil⟩
          | cons _ _ => exact h.elim
        | cons k pks ih => intro as h; cases as with
          | nil => exact h.elim
          | cons a as =>
            obtain ⟨ds, hds⟩ := ih as h.2
            cases a with
            | bx _ _ => cases k <;> exact h.1.elim
            | sc _ _ => exact ⟨_, .cons .sc hds⟩
            | st _ _ => exact ⟨_, .cons .st hds⟩
            | stw _ _ => exact ⟨_, .cons .stw hds⟩
            | row _ _ => exact ⟨_, .cons .row hds⟩
            | take _ _ => exact ⟨_, .cons .take hds⟩
            | clo _ _ => exact ⟨_, .cons .clo hds⟩
            | cur _ => exact ⟨_, .cons (.cur (i := 0) (h := 0) (by decide) (by decide) (by decide)) hds⟩
      obtain ⟨ds, hds⟩ := this pks as hfit
      exact hd ds hds
    | some c =>
      rw [hb] at hd
      simp only at hd
      refine ⟨c, rfl, ?_⟩
      by_cases hc : (Nat.beq (caps.map (·.1)).length fn.nfree && Nat.ble (fn.params.size + fn.nfree) fn.ntmps) = true
      · simp only [hc, if_true] at hd
        rw [Bool.and_eq_true] at hc
        exact ⟨by simpa using nbeq hc.1, nble hc.2, hd⟩
      · exfalso
        have : ∀ (pks : List PK) (as : List DArg), FitKs pks as → ∃ ds, ArgDs as ds := by
          intro pks
          induction pks with
          | nil => intro as h; cases as with
            | nil => exact ⟨[], .nil⟩
            | cons _ _ => exact h.elim
          | cons k pks ih => intro as h; cases as with
            | nil => exact h.elim
            | cons a as =>
              obtain ⟨ds, hds⟩ := ih as h.2
              cases a with
              | bx _ _ => cases k <;> exact h.1.elim
              | sc _ _ => exact ⟨_, .cons .sc hds⟩
              | st _ _ => exact ⟨_, .cons .st hds⟩
              | stw _ _ => exact ⟨_, .cons .stw hds⟩
              | row _ _ => exact ⟨_, .cons .row hds⟩
              | take _ _ => exact ⟨_, .cons .take hds⟩
              | clo _ _ => exact ⟨_, .cons .clo hds⟩
              | cur _ => exact ⟨_, .cons (.cur (i := 0) (h := 0) (by decide) (by decide) (by decide)) hds⟩
        obtain ⟨ds, hds⟩ := this pks as hfit
        have := hd ds hds
        rw [if_neg hc] at this
        exact this
  refine ⟨⟨fn, hf, by rw [hb]; rfl, hne⟩, fun w vs F G hnd hG hA => ?_⟩
  obtain ⟨us, fs, rfl, hA1, hfl, hfs⟩ := ArgsR.split hA
  obtain ⟨ds, hds⟩ := parDs_ex hA1 hfit
  obtain ⟨hdl, hul⟩ := parDs_len hds
  have hal := fit_len hfit
  have hplen : pks.length = fn.params.size := by
    have : ∀ (l : List TypeId) (j : Nat) (pks : List PK), parKs P md f j l = some pks → pks.length = l.length := by
      intro l
      induction l with
      | nil => intro j pks h; simp only [parKs] at h; cases h; rfl
      | cons t l ih =>
        intro j pks h
        simp only [parKs] at h
        split at h
        · rename_i x y hx hy
          cases h
          simp [ih _ _ hy]
        · cases h
    simpa using this _ _ _ hps
  let tm : Array Value := (us ++ fs).toArray ++ Array.replicate (fn.ntmps - (us ++ fs).toArray.size) undef
  let cx : Cx := { S := outside w F, G := G, clo := cloVals as us, N := w.heap.size, F := F, par := fun t => tm.getD t undef }
  have hcx : CxOk cx w := ⟨fun b h => h.1, hG, rfl⟩
  have hclo : CloOk cx w (cloArgs as) := fun j => cloArgs_ok hA1 j
  have htm : ∀ t, t < (us ++ fs).length → tm.getD t undef = (us ++ fs).getD t undef := fun t ht => by
    simp only [tm, Array.getD_eq_getD_getElem?, List.getD_eq_getElem?_getD]
    rw [Array.getElem?_append_left (by simpa using ht)]
    simp
  have htsz : tm.size = fn.ntmps := by
    have : (us ++ fs).length = fn.params.size + fn.nfree := by rw [List.length_append, hul, hal, hplen, hfl, hnf]
    simp only [tm, Array.size_append, List.size_toArray, Array.size_replicate]
    omega
  have hvar : ∀ i, i < ds.length → ∀ o, (X.var (0 + i)).den (ds ++ caps.map (·.2) ++ o) = ds.getD i default := fun i hi o => by
    simp only [X.den, Nat.zero_add, List.getD_eq_getElem?_getD, List.append_assoc]
    rw [List.getElem?_append_left hi]
  obtain ⟨m0, ρ0, N⟩ := pars_ok (cx := cx) (env := ds ++ caps.map (·.2)) (op := memN f md.opened) pks 0 as us F ds hfit hA1 hnd hds (fun i hi => by have := hvar i hi []; simpa using this) (fun i hi hk => by
    obtain ⟨f', caps', h1⟩ := fit_clo hfit i hi hk
    simp only [cx, cloVals, Nat.zero_add, h1])
  obtain ⟨sl1, sl2, sl3⟩ := parsSt_slots (op := memN f md.opened) pks 0
  have hFlt := hA1.lt
  have sep : Sep cx w m0 ρ0 := by
    refine ⟨N.mm, N.rr, fun i x h => (N.domr i x h).2.2.2.2.1, N.rm, fun i b h => ?_, fun i x b h hb => ?_, fun i x b h => (N.domr i x h).2.2.2.2.2 b⟩
    · have := (N.domm i b h).2.2.2
      exact ⟨fun hs => hs.2 this, .inr this, hFlt b this⟩
    · have := (N.domr i x h).2.2.2.1 b hb
      exact ⟨fun hs => hs.2 this, .inr this, hFlt b this⟩
  have R0 : Rel cx w (ds ++ caps.map (·.2)) (startSt (memN f md.opened) pks (caps.map (·.1)) fn.ntmps) { tmps := tm, defers := [] } w m0 ρ0 := by
    refine ⟨Kept.refl cx w, ⟨fun id c cs b hl hm _ => ?_, fun id c r rc hl hm _ => ?_, sep⟩, fun t c sv hl => ?_, rfl, ⟨htsz, fun t _ => rfl⟩, by simp [startSt, hdl, hal]⟩
    · obtain ⟨_, b', h1, h2⟩ := N.box _ (look_mem hl)
      simp only at h1
      rw [hm] at h1
      cases h1
      exact h2
    · obtain ⟨_, b', h1, h2⟩ := N.row _ (look_mem hl)
      simp only at h1
      rw [hm] at h1
      cases h1
      exact h2
    · simp only [startSt, look_append] at hl
      split at hl
      · rename_i x hx
        cases hl
        have hlen : (parsSt (memN f md.opened) 0 pks).slots.length = pks.length := by have := congrArg List.length sl1; simpa using this
        have hc := sl2 _ (look_mem hx)
        simp only at hc
        subst hc
        obtain ⟨t1, t2, t3⟩ := look_range _ 0 (by rw [sl1, hlen]) t _ hx
        rw [hlen] at t2
        have hsv := N.sv.2 t (by rw [List.length_map, hlen]; omega)
        have e1 : ((parsSt (memN f md.opened) 0 pks).slots.map fun p => p.2.2).getD t default = sv := by
          have : ((parsSt (memN f md.opened) 0 pks).slots.map fun p => p.2.2) = ((parsSt (memN f md.opened) 0 pks).slots.map (·.2)).map (·.2) := by simp
          rw [this, List.getD_eq_getElem?_getD, List.getElem?_map]
          simp only [Nat.sub_zero] at t3
          rw [t3]; rfl
        rw [e1] at hsv
        refine ⟨by rw [htsz]; omega, fun _ => ?_, fun h => absurd trivial h⟩
        rw [htm t (by rw [List.length_append]; omega)]
        have e2 : (us ++ fs).getD t undef = us.getD t undef := by
          simp only [List.getD_eq_getElem?_getD]; rw [List.getElem?_append_left (by omega)]
        rw [e2]; exact hsv
      · obtain ⟨f1, f2⟩ := freesSt_slots (caps.map (·.1)) pks.length
        have hlen : (freesSt pks.length (caps.map (·.1))).length = caps.length := by have := congrArg List.length f1; simpa using this
        obtain ⟨t1, t2, t3⟩ := look_range _ pks.length (by rw [f1, hlen]; simp) t _ hl
        rw [hlen] at t2
        have hi : t - pks.length < caps.length := by omega
        have e1 : (([] : Conds), SV.ep (.st false) (caps.getD (t - pks.length) default).1 (.var t) 0) = (c, sv) := by
          rw [f2, List.getElem?_zipWith] at t3
          rw [List.getElem?_range' (by simpa using hi), List.getElem?_map, List.getElem?_eq_getElem hi] at t3
          simp only [Option.map_some] at t3
          have := Option.some.inj t3
          rw [← this]
          simp only [List.getD_eq_getElem?_getD, List.getElem?_eq_getElem hi, Option.getD_some, Nat.one_mul]
          rw [show pks.length + (t - pks.length) = t by omega]
        cases e1
        obtain ⟨b, o, g1, g2⟩ := hfs _ hi
        refine ⟨by rw [htsz]; omega, fun _ => ?_, fun h => absurd trivial h⟩
        rw [htm t (by rw [List.length_append]; omega)]
        have e2 : (us ++ fs).getD t undef = fs.getD (t - pks.length) undef := by
          simp only [List.getD_eq_getElem?_getD]; rw [List.getElem?_append_right (by omega)]
          congr 2; omega
        rw [e2, g1]
        have e3 : (X.var t).den (ds ++ caps.map (·.2)) = (caps.getD (t - pks.length) default).2 := by
          simp only [X.den, List.getD_eq_getElem?_getD]
          rw [List.getElem?_append_right (by omega), List.getElem?_map]
          have : t - ds.length = t - pks.length := by omega
          rw [this, List.getElem?_eq_getElem hi]
          rfl
        exact .ep (S := cx.S) (o := o) rfl (by rw [e3]; exact g2)
  have hfin : ∀ (env' : List D) (st' : St) (a' : Act) (w' : World) (m' : BoxM) (ρ' : RowM) (κ' : Nat → List D → Prop), (ds ++ caps.map (·.2)) <+: env' → (retT P rs pks fn st').den P (cloArgs as) Q κ' env' → Rel cx w env' st' a' w' m' ρ' →
      a'.defers = [] ∧ ∃ v, (results fn a'.tmps).run P w' = .ok v w' ∧ ∃ v', Ending.returned v = .returned v' ∧ Post w F G (as ++ caps.map fun p => .bx p.1 p.2) (us ++ fs) rs Q w' v' := by
    intro env' st' a' w' m' ρ' κ' hp hden R
    refine ⟨R.defers, ?_⟩
    obtain ⟨o, rfl⟩ := hp
    unfold retT at hden
    split at hden
    rotate_left
    · exact hden.elim
    rename_i xs ids ys js hx hy
    split at hden
    rotate_left
    · exact hden.elim
    rename_i hn
    have hn := noDup_iff.1 hn
    have hn2 := List.nodup_append.1 hn
    obtain ⟨hneed, hden⟩ := wrap_needs hden
    simp only [T.den] at hden
    obtain ⟨rv, fr, r1, r2, r3, r4⟩ := retXs_ok R rs _ xs ids hx hn2.1
    obtain ⟨fb, b1, b2, b3⟩ := backX_ok R pks 0 as us ds ys js hy hfit hds (fun i hi => hvar i hi o) (fun i hi _ => by
      simp only [cx, Nat.zero_add]
      rw [htm i (by rw [List.length_append]; omega)]
      simp only [List.getD_eq_getElem?_getD]; rw [List.getElem?_append_left hi]) (fun x hx => hneed x hx trivial) hn2.2.1
    have hown : ∀ b, (∃ id, obOne m' ρ' id b) → b ∈ F ∨ w.heap.size ≤ b := fun b ⟨id, h⟩ => by
      rcases h with ⟨rc, h1, h2⟩ | h
      · rcases (R.heap.sep.rowOwn id rc b h1 h2).2.1 with h | h
        · exact .inr h
        · exact .inl h
      · rcases (R.heap.sep.boxOwn id b h).2.1 with h | h
        · exact .inr h
        · exact .inl h
    have bext : ∀ (caps : List (List CK × D)) (fs : List Value), fs.length = caps.length → BackR w' G (caps.map fun p => DArg.bx p.1 p.2) fs [] [] := by
      intro caps
      induction caps with
      | nil => intro fs h; cases fs with
        | nil => exact .nil
        | cons _ _ => simp at h
      | cons p caps ih => intro fs h; cases fs with
        | nil => simp at h
        | cons f fs => exact .skip trivial (ih fs (by simpa using h))
    have bapp : ∀ {as : List DArg} {us : List Value} {bs : List D} {fb : List Nat}, BackR w' G as us bs fb → BackR w' G (as ++ caps.map fun p => .bx p.1 p.2) (us ++ fs) bs fb := by
      intro as us bs fb h
      induction h with
      | nil => exact bext caps fs hfl
      | skip h1 _ ih => exact .skip h1 ih
      | row h1 _ ih => exact .row h1 ih
      | stw h1 h2 h3 _ ih => exact .stw h1 h2 h3 ih
      | cur h1 _ ih => exact .cur h1 ih
    refine ⟨resVal rv, results_run r1, resVal rv, rfl, rv, xs.map (X.den _), ys.map (X.den _), fr, fb, rfl, r2, bapp b1, ?_, ob_nodup R.heap.sep r3 b2 r4 b3 hn, fun b hb => ?_, ⟨R.kept.os, R.kept.tape, R.kept.output, R.kept.size, R.kept.block⟩⟩
    · rw [← List.map_append]; exact hden
    · rcases List.mem_append.1 hb with hb | hb
      · obtain ⟨id, _, h⟩ := r4 b hb; exact hown b ⟨id, h⟩
      · obtain ⟨id, _, h⟩ := b3 b hb; exact hown b ⟨id, h⟩
  refine calls_of_wp hf hb ?_
  refine exec_sound (cx := cx) (w0 := w) (clo := cloArgs as) (Qd := Q) hmix hcx hclo c 0 _ _ _ _ _ _ _ _ _ R0 (hd ds hds.argDs) fun e κ' env' st' a' w' m' ρ' _ hp hden R => ?_
  cases e with
  | nm => exact hfin env' st' a' w' m' ρ' κ' hp hden R
  | rt => exact hfin env' st' a' w' m' ρ' κ' hp hden R
  | ex id => exact hden.elim
end
end Go.Proofs.Ytfbahdalemajcaa.Eng
