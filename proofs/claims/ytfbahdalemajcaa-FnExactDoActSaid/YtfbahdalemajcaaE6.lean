/- The engine of this claim: a symbolic executor over the model and the proof that what it says of a function is so. Part E6. -/
import Derived.Test.YtfbahdalemajcaaE5
import Derived.SizedLaws
import Derived.ProofKit
import Derived.KernelRfl
/-
  The engine: arguments that read as data are the engine's arguments; what a law's call leaves behind is what the row asks.
-/
namespace Go.Proofs.Ytfbahdalemajcaa.Eng
open Go.WideShapes Go.ChangeShapes Go.RowKit
/-! ### data that fit their kinds -/
mutual
def CK.okD : CK → D → Prop
  | .int k, .int n => inK k n = true
  | .bool, .bool _ => True
  | .str, .str s => s.size ≤ maxS
  | .sl ks, .lst xs => xs.length ≤ maxL ∧ ∀ x ∈ xs, ∃ es, x = .lst es ∧ CK.okDs ks es
  | _, _ => False
def CK.okDs : List CK → List D → Prop
  | [], [] => True
  | k :: ks, d :: ds => CK.okD k d ∧ CK.okDs ks ds
  | _, _ => False
end
theorem okDs_len : ∀ {ks : List CK} {ds : List D}, CK.okDs ks ds → ds.length = ks.length
  | [], [], _ => rfl
  | [], _ :: _, h => by simp [CK.okDs] at h
  | _ :: _, [], h => by simp [CK.okDs] at h
  | _ :: _, _ :: _, h => by simp only [CK.okDs] at h; simp [okDs_len h.2]
theorem okDs_of : ∀ {ks : List CK} {ds : List D}, ds.length = ks.length → (∀ c, c < ks.length → CK.okD (ks.getD c default) (ds.getD c default)) → CK.okDs ks ds
  | [], [], _, _ => by simp [CK.okDs]
  | [], _ :: _, h, _ => by simp at h
  | _ :: _, [], h, _ => by simp at h
  | k :: ks, d :: ds, h, hh => by
    simp only [CK.okDs]
    exact ⟨hh 0 (by simp), okDs_of (by simpa using h) fun c hc => by simpa using hh (c + 1) (by simpa using hc)⟩
theorem Flat.ok {ck : CK} {d : D} {v : Value} (h : Flat ck d v) : ck.okD d := by
  cases h <;> simp only [CK.okD] <;> assumption
theorem shp_ok {ks : List CK} {d : D} (h : Shp ks.length d) (hh : ∀ c, c < ks.length → CK.okD (ks.getD c default) (d.fld c)) : ∃ es, d = .lst es ∧ CK.okDs ks es := by
  obtain ⟨es, rfl, he⟩ := h
  exact ⟨es, rfl, okDs_of he hh⟩
theorem getD_mem {α : Type} {xs : List α} {x : α} (h : x ∈ xs) (d : α) : ∃ i, i < xs.length ∧ xs.getD i d = x := by
  obtain ⟨i, hi, he⟩ := List.getElem_of_mem h
  exact ⟨i, hi, by simp [List.getD_eq_getElem?_getD, hi, he]⟩
theorem Snap.ok {w : World} {S : Nat → Prop} {ck : CK} {d : D} {v : Value} (h : Snap w S ck d v) : ck.okD d := by
  induction h with
  | flat h => exact h.ok
  | nil a cap => simp [CK.okD]
  | sl b off cap xs u hb hcap hmax hsh hc _ ih =>
    simp only [CK.okD]
    refine ⟨hmax, fun x hx => ?_⟩
    obtain ⟨i, hi, rfl⟩ := getD_mem hx default
    exact shp_ok (hsh i hi) fun c hc => ih i c hi hc
theorem Own.ok {w : World} {ck : CK} {d : D} {v : Value} {fp : List Nat} (h : Own w ck d v fp) : ck.okD d := (h.snap (S := fun _ => True) fun _ _ => trivial).ok
def okL (ks : List CK) (d : D) : Prop := ∃ es, d = .lst es ∧ CK.okDs ks es
def DArg.ok : DArg → Prop
  | .sc ck d => ck.okD d
  | .st ks d | .stw ks d => okL ks d
  | .row ks d | .take ks d => CK.okD (.sl ks) d
  | .bx _ _ | .clo _ _ | .cur _ => True
theorem ArgR.ok {w : World} {S G : Nat → Prop} {a : DArg} {v : Value} {fp : List Nat} (h : ArgR w S G a v fp) : a.ok := by
  cases h with
  | sc h => exact h.ok
  | st h1 _ h3 => exact shp_ok h1 fun c hc => (h3 c hc).ok
  | stw h1 _ h3 => exact shp_ok h1 fun c hc => (h3 c hc).ok
  | row h | take h => exact h.ok
  | bx _ | clo _ _ | cur _ => trivial
theorem ArgsR.ok {w : World} {S G : Nat → Prop} {as : List DArg} {vs : List Value} {fp : List Nat} (h : ArgsR w S G as vs fp) : ∀ a ∈ as, a.ok := by
  induction h with
  | nil => simp
  | cons h1 _ ih =>
    intro a ha
    rcases List.mem_cons.1 ha with rfl | ha
    · exact h1.ok
    · exact ih a ha
/-- Arguments that come in fit their kinds. -/
theorem PC.assume {P : Program} {f : Nat} {as : List DArg} {rs : List RS} {Q : List D → Prop} (he : Enters P f) (h : (∀ a ∈ as, a.ok) → PC P f as rs Q) : PC P f as rs Q :=
  ⟨he, fun w vs F G h1 h2 h3 => (h h3.ok).2 w vs F G h1 h2 h3⟩
/-- So do results. -/
def RS.ok : RS → D → Prop
  | .sc ck, d => ck.okD d
  | .st ks, d => okL ks d
  | .cur, _ => True
def RS.oks : List RS → List D → Prop
  | [], _ => True
  | r :: rs, d :: ds => r.ok d ∧ RS.oks rs ds
  | _ :: _, [] => False
theorem RetR.ok {w : World} {G : Nat → Prop} {r : RS} {d : D} {v : Value} {fp : List Nat} (h : RetR w G r d v fp) : r.ok d := by
  cases h with
  | sc h => exact h.ok
  | st h1 _ h3 => exact shp_ok h1 fun c hc => (h3 c hc).ok
  | cur _ => trivial
theorem RetsR.ok {w : World} {G : Nat → Prop} {rs : List RS} {ds : List D} {vs : List Value} {fp : List Nat} (h : RetsR w G rs ds vs fp) (bs : List D) : RS.oks rs (ds ++ bs) := by
  induction h with
  | nil => trivial
  | cons h1 _ ih => exact ⟨h1.ok, ih⟩
theorem PC.more {P : Program} {f : Nat} {as : List DArg} {rs : List RS} {Q : List D → Prop} (h : PC P f as rs Q) : PC P f as rs fun o => Q o ∧ RS.oks rs o :=
  ⟨h.1, fun w vs F G h1 h2 h3 => Calls.mono (h.2 w vs F G h1 h2 h3) fun _ _ ⟨v, e1, us, ds, bs, fr, fb, q1, q2, q3, q4, q5, q6, q7⟩ => ⟨v, e1, us, ds, bs, fr, fb, q1, q2, q3, ⟨q4, q2.ok bs⟩, q5, q6, q7⟩⟩
theorem PC.mono {P : Program} {f : Nat} {as : List DArg} {rs : List RS} {Q Q' : List D → Prop} (h : PC P f as rs Q) (hq : ∀ o, Q o → Q' o) : PC P f as rs Q' :=
  ⟨h.1, fun w vs F G h1 h2 h3 => Calls.mono (h.2 w vs F G h1 h2 h3) fun _ _ ⟨v, e1, us, ds, bs, fr, fb, q1, q2, q3, q4, q5, q6, q7⟩ => ⟨v, e1, us, ds, bs, fr, fb, q1, q2, q3, hq _ q4, q5, q6, q7⟩⟩
/-! ### opening -/
mutual
/-- The type's cells lie as its kinds say. -/
def lays (P : Program) : Nat → TypeId → Bool
  | 0, _ => false
  | n + 1, t => match P.underlying t with
    | some .bool | some (.int _) | some .string => true
    | some (.slice e) => lays P n e && Nat.ble 1 (P.bytesOf e) && Nat.ble 1 (P.cellsOf e)
    | some (.struct fs) => laysF P (P.cellsOf t) n 0 fs.toList
    | _ => false
def laysF (P : Program) (tot : Nat) : Nat → Nat → List Field → Bool
  | _, off, [] => Nat.beq off tot
  | 0, _, _ => false
  | n + 1, off, f :: l => Nat.beq f.offset off && lays P n f.type && laysF P tot n (off + P.cellsOf f.type) l
end
section
variable {H : Type} {enc : TypeId × Value → H} {P : Program} {w : World}
theorem laysF_le {tot : Nat} : ∀ (l : List Field) (n off : Nat), laysF P tot n off l = true → off ≤ tot
  | [], n, off, h => by unfold laysF at h; exact Nat.le_of_eq (nbeq h)
  | f :: l, 0, off, h => by simp [laysF] at h
  | f :: l, n + 1, off, h => by
    simp only [laysF, Bool.and_eq_true] at h
    have := laysF_le l n _ h.2
    omega
theorem weightsEach_mem {ts : List TypeId} {ds : List (DataW H)} {i : Nat} {t : TypeId} {d : DataW H} (h1 : ts[i]? = some t) (h2 : ds[i]? = some d) : ∀ n ∈ d.weights P t, n ∈ DataW.weightsEach P ts ds := DataW.weights_mem_each h1 h2
theorem weightsAll_mem {e : TypeId} : ∀ {ds : List (DataW H)} {d : DataW H}, d ∈ ds → ∀ n ∈ d.weights P e, n ∈ DataW.weightsAll P e ds
  | x :: ds, d, h, n, hn => by
    simp only [DataW.weightsAll, List.mem_append]
    rcases List.mem_cons.1 h with rfl | h
    · exact .inl hn
    · exact .inr (weightsAll_mem h n hn)
theorem lit_inK {k : IntKind} {n : Int} (h : (Lit.int k n).wf = true) : inK k n = true := h
theorem mapM_some_len {α β : Type} {f : α → Option β} : ∀ {l : List α} {r : List β}, l.mapM f = some r → r.length = l.length ∧ ∀ (i : Nat) (x : α), l[i]? = some x → ∃ y, f x = some y ∧ r[i]? = some y
  | [], r, h => by simp at h; subst h; simp
  | x :: l, r, h => by
    rw [List.mapM_cons] at h
    cases hx : f x with
    | none => rw [hx] at h; simp at h
    | some y =>
      rw [hx] at h
      cases hl : l.mapM f with
      | none => rw [hl] at h; simp at h
      | some ys =>
        rw [hl] at h
        simp at h
        subst h
        obtain ⟨h1, h2⟩ := mapM_some_len hl
        refine ⟨by simp [h1], fun i z hz => ?_⟩
        cases i with
        | zero => simp at hz; subst hz; exact ⟨y, hx, by simp⟩
        | succ i => simpa using h2 i z (by simpa using hz)
theorem cells?_some {base : Nat} {a : Addr} {n : Nat} {cs : List Value} (h : w.cells? base a n = some cs) : cs.length = n ∧ ∀ j, j < n → w.cell? (a.add j) = some (cs.getD j undef) := by
  unfold World.cells? at h
  split at h
  · obtain ⟨h1, h2⟩ := mapM_some_len h
    refine ⟨by simpa using h1, fun j hj => ?_⟩
    obtain ⟨y, y1, y2⟩ := h2 j j (by simp [hj])
    rw [y1, List.getD_eq_getElem?_getD, y2]; rfl
  · cases h
theorem cell?_spot {a : Addr} {v : Value} (h : w.cell? a = some v) : a.spot = none := by
  unfold World.cell? at h
  split at h
  · split at h
    · cases h
    · rename_i hs; simpa using hs
  · cases h
theorem open_cells : ∀ (fuel n : Nat) (t : TypeId) (cs : List Value) (ks : List CK) (x : DataW H × List MemPlace), tyCells P n t = some ks → lays P n t = true → DataW.trod enc P w 0 (fun _ => true) true fuel t cs = some x → (∀ m ∈ x.1.weights P t, m ≤ reachBytes) →
    cs.length = ks.length ∧ ∃ es : List D, es.length = ks.length ∧ ∀ c, c < ks.length → Snap w (fun b => b < w.heap.size) (ks.getD c default) (es.getD c default) (cs.getD c undef)
  | 0, n, t, cs, ks, x, _, _, h, _ => by simp [DataW.trod] at h
  | fuel + 1, 0, t, cs, ks, x, hk, _, _, _ => by simp [tyCells] at hk
  | fuel + 1, n + 1, t, cs, ks, x, hk, hl, h, hw => by
    have flat : ∀ ck v d, Flat ck d v → [v].length = [ck].length ∧ ∃ es : List D, es.length = [ck].length ∧ ∀ c, c < [ck].length → Snap w (fun b => b < w.heap.size) ([ck].getD c default) (es.getD c default) ([v].getD c undef) := fun ck v d hf =>
      ⟨rfl, [d], rfl, fun c hc => by
        have : c = 0 := by simpa using hc
        subst this; exact .flat hf⟩
    simp only [tyCells] at hk
    split at hk
    · rename_i hu
      cases hk
      obtain ⟨b, rfl, _⟩ := DataW.trod_bool hu h
      exact flat _ _ _ .bool
    · rename_i k hu
      cases hk
      obtain ⟨q, rfl, _, hwf⟩ := DataW.trod_int hu h
      exact flat _ _ _ (.int (lit_inK hwf))
    · rename_i hu
      cases hk
      obtain ⟨s, rfl, _, hs⟩ := DataW.trod_string hu h
      exact flat _ _ _ (.str hs)
    · rename_i e hu
      split at hk
      · rename_i ks' hks
        cases hk
        simp only [lays, hu, Bool.and_eq_true] at hl
        obtain ⟨⟨l1, l2⟩, l3⟩ := hl
        have l2 := nble l2
        have l3 := nble l3
        rcases DataW.trod_slice hu h with ⟨rfl, _⟩ | ⟨a, len, cap, elems, rest, q, hq, rfl, rfl, _, hlc, _, hlen, hel, hrest, _⟩
        · exact ⟨rfl, [.lst []], rfl, fun c hc => by
            have : c = 0 := by simpa using hc
            subst this; exact .nil _ _⟩
        · cases hq
          have hwt : (elems.length + rest.length) * P.bytesOf e ≤ reachBytes := hw _ (by simp [DataW.weights, hu])
          have hlenM : len ≤ maxL := by
            have h1 : elems.length + rest.length ≤ (elems.length + rest.length) * P.bytesOf e := Nat.le_mul_of_pos_right _ (by omega)
            have h2 : reachBytes ≤ maxL := by decide
            omega
          refine ⟨rfl, ?_⟩
          by_cases h0 : len = 0
          · subst h0
            exact ⟨[.lst []], rfl, fun c hc => by
              have : c = 0 := by simpa using hc
              subst this; exact .nil _ _⟩
          have each : ∀ i, i < len → ∃ (ci : List Value) (es : List D), w.cells? 0 (a.add (i * P.cellsOf e)) (P.cellsOf e) = some ci ∧ ci.length = ks'.length ∧ es.length = ks'.length ∧ ∀ c, c < ks'.length → Snap w (fun b => b < w.heap.size) (ks'.getD c default) (es.getD c default) (ci.getD c undef) := by
            intro i hi
            have he := hel i hi
            have hi' : i < elems.length := by omega
            rw [List.getElem?_eq_getElem hi'] at he
            obtain ⟨ci, c1, c2⟩ := Option.bind_eq_some_iff.1 he
            obtain ⟨r1, es, r2, r3⟩ := open_cells fuel n e ci ks' _ hks l1 c2 fun m hm => hw m (by
              simp only [DataW.weights, hu, List.mem_cons, List.mem_append]
              exact .inr (.inl (weightsAll_mem (List.mem_map.2 ⟨_, List.getElem_mem hi', rfl⟩) m hm)))
            exact ⟨ci, es, c1, r1, r2, r3⟩
          have hk0 : ks'.length = P.cellsOf e := by
            obtain ⟨ci, es, c1, r1, _⟩ := each 0 (by omega)
            rw [← r1]; exact (cells?_some c1).1
          have hspot : a.spot = none := by
            obtain ⟨ci, es, c1, r1, _⟩ := each 0 (by omega)
            have := (cells?_some c1).2 0 (by omega)
            simp only [Nat.zero_mul, Addr.add, if_true] at this
            exact cell?_spot this
          obtain ⟨b, off, spot⟩ := a
          simp only at hspot
          subst hspot
          let ci : Nat → List Value := fun i => if h : i < len then Classical.choose (each i h) else []
          let es : Nat → List D := fun i => if h : i < len then Classical.choose (Classical.choose_spec (each i h)) else []
          have sp : ∀ i (h : i < len), w.cells? 0 ((⟨b, off, none⟩ : Addr).add (i * P.cellsOf e)) (P.cellsOf e) = some (ci i) ∧ (ci i).length = ks'.length ∧ (es i).length = ks'.length ∧ ∀ c, c < ks'.length → Snap w (fun b => b < w.heap.size) (ks'.getD c default) ((es i).getD c default) ((ci i).getD c undef) := fun i h => by
            have := Classical.choose_spec (Classical.choose_spec (each i h))
            simp only [ci, es, dif_pos h]
            exact this
          have hgx : ∀ i, i < len → ((List.range len).map fun i => D.lst (es i)).getD i default = .lst (es i) := fun i hi => by
            simp [List.getD_eq_getElem?_getD, hi]
          have cellAt : ∀ i c, i < len → c < ks'.length → w.cell? ⟨b, off + (i * ks'.length + c), none⟩ = some ((ci i).getD c undef) := fun i c hi hc => by
            have := (cells?_some (sp i hi).1).2 c (by omega)
            rw [addr_add, addr_add, ← hk0, Nat.add_assoc] at this
            exact this
          have hlt : b < w.heap.size := cell?_block (cellAt 0 0 (by omega) (by omega))
          refine ⟨[.lst ((List.range len).map fun i => D.lst (es i))], rfl, fun c hc => ?_⟩
          have : c = 0 := by simpa using hc
          subst this
          have hn : ((List.range len).map fun i => D.lst (es i)).length = len := by simp
          have := Snap.sl (w := w) (S := fun b => b < w.heap.size) (ks := ks') b off cap ((List.range len).map fun i => D.lst (es i)) (fun i c => (ci i).getD c undef) hlt (by rw [hn]; exact hlc) (by rw [hn]; exact hlenM)
            (fun i hi => by rw [hn] at hi; rw [hgx i hi]; exact ⟨_, rfl, (sp i hi).2.2.1⟩) (fun i c hi hc => by rw [hn] at hi; exact cellAt i c hi hc) (fun i c hi hc => by rw [hn] at hi; rw [hgx i hi]; exact (sp i hi).2.2.2 c hc)
          rw [hn] at this
          exact this
      · cases hk
    · rename_i fs hu
      simp only [lays, hu] at hl
      obtain ⟨xs, q, hq, rfl, hcl, hxl, hxs⟩ := DataW.trod_struct hu h
      cases hq
      -- the fields, one behind the other
      have fields : ∀ (l : List Field) (n off : Nat) (ks : List CK) (ys : List (DataW H × List MemPlace)), tyFields P n l = some ks → laysF P (P.cellsOf t) n off l = true → (∀ (i : Nat) (f : Field), l[i]? = some f → DataW.trod enc P w 0 (fun _ => true) true fuel f.type ((cs.drop f.offset).take (P.cellsOf f.type)) = ys[i]?) →
          ys.length = l.length → (∀ m ∈ DataW.weightsEach P (l.map (·.type)) (ys.map (·.1)), m ≤ reachBytes) → off + ks.length = P.cellsOf t ∧ ∃ es : List D, es.length = ks.length ∧ ∀ c, c < ks.length → Snap w (fun b => b < w.heap.size) (ks.getD c default) (es.getD c default) (cs.getD (off + c) undef) := by
        intro l
        induction l with
        | nil =>
          intro n off ks ys h1 h2 _ _ _
          have : ks = [] := by cases n <;> (simp only [tyFields] at h1; cases h1; rfl)
          subst this
          unfold laysF at h2
          exact ⟨nbeq h2, [], rfl, by simp⟩
        | cons f l ih =>
          intro n off ks ys h1 h2 h3 h4 h5
          cases n with
          | zero => simp [tyFields] at h1
          | succ n =>
          simp only [tyFields] at h1
          split at h1
          · rename_i ka kb hka hkb
            cases h1
            simp only [laysF, Bool.and_eq_true] at h2
            obtain ⟨⟨g1, g2⟩, g3⟩ := h2
            have g1 := nbeq g1
            cases ys with
            | nil => simp at h4
            | cons y ys =>
            have hle := laysF_le l n _ g3
            have h30 := h3 0 f (by simp)
            simp only [List.getElem?_cons_zero] at h30
            obtain ⟨r1, ea, r2, r3⟩ := open_cells fuel n f.type _ ka _ hka g2 h30 fun m hm => h5 m (by simp only [List.map_cons, DataW.weightsEach, List.mem_append]; exact .inl hm)
            have hlen : ka.length = P.cellsOf f.type := by
              rw [← r1, List.length_take, List.length_drop, hcl]; omega
            obtain ⟨q1, eb, q2, q3⟩ := ih n (off + P.cellsOf f.type) kb ys hkb g3 (fun i f' hf => by have := h3 (i + 1) f' (by simpa using hf); simpa using this) (by simpa using h4) (fun m hm => h5 m (by simp only [List.map_cons, DataW.weightsEach, List.mem_append]; exact .inr hm))
            refine ⟨by rw [List.length_append]; omega, ea ++ eb, by simp [r2, q2], fun c hc => ?_⟩
            rw [List.length_append] at hc
            by_cases hca : c < ka.length
            · have := r3 c hca
              have e1 : (ka ++ kb).getD c default = ka.getD c default := by simp [List.getD_eq_getElem?_getD, List.getElem?_append_left hca]
              have e2 : (ea ++ eb).getD c default = ea.getD c default := by simp [List.getD_eq_getElem?_getD, List.getElem?_append_left (show c < ea.length by omega)]
              rw [e1, e2]
              rw [getD_drop_take _ _ _ _ _ (by omega), g1] at this
              exact this
            · have := q3 (c - ka.length) (by omega)
              have e1 : (ka ++ kb).getD c default = kb.getD (c - ka.length) default := by simp [List.getD_eq_getElem?_getD, List.getElem?_append_right (Nat.le_of_not_lt hca)]
              have e2 : (ea ++ eb).getD c default = eb.getD (c - ka.length) default := by rw [List.getD_eq_getElem?_getD, List.getElem?_append_right (by omega), r2, List.getD_eq_getElem?_getD]
              rw [e1, e2]
              rwa [show off + P.cellsOf f.type + (c - ka.length) = off + c by omega] at this
          · cases h1
      obtain ⟨q1, es, q2, q3⟩ := fields fs.toList n 0 ks xs hk hl (fun i f hf => hxs i f (by simpa using hf)) (by simpa using hxl) (fun m hm => hw m (by simpa [DataW.weights, hu] using hm))
      exact ⟨by rw [hcl]; omega, es, q2, fun c hc => by simpa using q3 c hc⟩
    · cases hk
end
end Go.Proofs.Ytfbahdalemajcaa.Eng

/-
  The engine: from a law's contract to its row.
-/
namespace Go.Proofs.Ytfbahdalemajcaa.Eng
open Go.WideShapes Go.ChangeShapes Go.RowKit
def laysPar (P : Program) (t : TypeId) : Bool := match P.underlying t with
  | some (.slice _) => lays P 41 t
  | _ => lays P 40 t
section
variable {H : Type} {enc : TypeId × Value → H} {P : Program} {w : World}
theorem outside_lt {b : Nat} (h : b < w.heap.size) : outside w [] b := ⟨h, by simp⟩
theorem elemKs_cells {e : TypeId} {ks : List CK} (h : elemKs P e = some ks) : tyCells P 40 e = some ks := by
  unfold elemKs at h
  split at h
  · rename_i a b h1 h2
    split at h
    · cases h; exact h1
    · cases h
  · cases h
theorem tyCells_slice {n : Nat} {t e : TypeId} {ks : List CK} (hu : P.underlying t = some (.slice e)) (h : tyCells P n e = some ks) : tyCells P (n + 1) t = some [.sl ks] := by simp only [tyCells, hu, h]
def plainD : TypeDesc → Bool
  | .bool | .int _ | .string | .slice _ | .struct _ => true
  | _ => false
theorem lays_plain {n : Nat} {t : TypeId} {d : TypeDesc} (h : lays P n t = true) (hu : P.underlying t = some d) : plainD d = true := by
  cases n with
  | zero => simp [lays] at h
  | succ n => cases d <;> first | rfl | (simp only [lays, hu] at h; cases h)
/-- A parameter that reads as data is an argument of the engine's. -/
theorem open_par {md : Modes} {f j : Nat} {t : TypeId} {v : Value} {d : DataW H} {ps : List MemPlace} {pk : PK} {r : Reach} {b0 : Nat} (hval : Value.okWide P w r b0 t v) (h : DataW.Trod enc P w 0 (fun _ => true) true t v d ps) (hw : ∀ m ∈ d.weights P t, m ≤ reachBytes)
    (hl : laysPar P t = true) (hk : parK P md f j t = some pk) (hr : md.isRow (.fn f) j = false) (ht : md.isTake (.fn f) j = false) : ∃ a, FitK pk a ∧ ArgR w (outside w []) (outside w []) a v [] := by
  obtain ⟨fuel, h⟩ := h
  unfold parK at hk
  unfold laysPar at hl
  split at hk
  · rename_i fs hu
    rw [hu] at hl
    simp only at hl
    split at hk
    · rename_i ks hks
      rw [hr] at hk
      simp only [Bool.false_eq_true, if_false, Option.some.injEq] at hk
      subst hk
      obtain ⟨cs, rfl, _⟩ := okWide_struct hu hval
      obtain ⟨h1, es, h2, h3⟩ := open_cells fuel 40 t _ ks _ hks hl h hw
      refine ⟨.st ks (.lst es), rfl, ?_⟩
      have := ArgR.st (w := w) (S := outside w []) (G := outside w []) (cks := ks) (d := .lst es) (vs := cs.toList) ⟨es, rfl, h2⟩ h1 fun c hc => (h3 c hc).mono fun b hb => outside_lt hb
      simpa using this
    · cases hk
  · rename_i e hu
    rw [hu] at hl
    simp only at hl
    split at hk
    · rename_i ks hks
      rw [hr, ht] at hk
      simp only [Bool.false_eq_true, if_false, Option.some.injEq] at hk
      subst hk
      obtain ⟨a, len, cap, rfl⟩ := okWide_slice hu hval
      have hk2 : tyCells P (40 + 1) t = some [.sl ks] := tyCells_slice hu (elemKs_cells hks)
      obtain ⟨h1, es, h2, h3⟩ := open_cells fuel 41 t _ [.sl ks] _ hk2 hl h hw
      have := h3 0 (by simp)
      refine ⟨.sc (.sl ks) (es.getD 0 default), rfl, .sc (this.mono fun b hb => ?_)⟩
      simp only [argS]
      cases CK.glob ks <;> exact outside_lt hb
    · cases hk
  · rename_i e hu
    rw [hu] at hl
    have := lays_plain hl hu
    cases this
  · rename_i hu
    rw [hu] at hl
    have := lays_plain hl hu
    cases this
  · rename_i dd n1 n2 n3 n4 hu
    rw [hu] at hl
    split at hk
    · rename_i ck hks
      cases hk
      have hl' : lays P 40 t = true := by
        split at hl
        · rename_i e he; exact absurd (Option.some.inj he) (n2 e)
        · exact hl
      obtain ⟨h1, es, h2, h3⟩ := open_cells fuel 40 t _ [ck] _ hks hl' h hw
      have := h3 0 (by simp)
      have hv : v.cells.toList.getD 0 undef = v := by
        cases dd with
        | bool => obtain ⟨b, rfl⟩ := okWide_bool hu hval; rfl
        | int k => obtain ⟨b, rfl⟩ := okWide_int hu hval; rfl
        | string => obtain ⟨b, rfl⟩ := okWide_string hu hval; rfl
        | slice e => exact (n2 _ rfl).elim
        | struct fs => exact (n1 _ rfl).elim
        | _ => have := lays_plain hl' hu; cases this
      rw [hv] at this
      refine ⟨.sc ck (es.getD 0 default), rfl, .sc (this.mono fun b hb => ?_)⟩
      cases ck with
      | sl ks => simp only [argS]; cases CK.glob ks <;> exact outside_lt hb
      | _ => exact outside_lt hb
    · cases hk
  · cases hk
theorem open_pars {md : Modes} {f : Nat} {r : Reach} {b0 : Nat} (hr : ∀ j, md.isRow (.fn f) j = false) (ht : ∀ j, md.isTake (.fn f) j = false) : ∀ (ts : List TypeId) (j : Nat) (vs : List Value) (ds : List (DataW H)) (ps : List MemPlace) (pks : List PK), parKs P md f j ts = some pks → (∀ t ∈ ts, laysPar P t = true) →
    DataW.TrodAll enc P w 0 (fun _ => true) true ts vs ds ps → (∀ (i : Nat) t v, ts[i]? = some t → vs[i]? = some v → Value.okWide P w r b0 t v) → (∀ m ∈ DataW.weightsEach P ts ds, m ≤ reachBytes) → ∃ as, FitKs pks as ∧ ArgsR w (outside w []) (outside w []) as vs []
  | [], j, vs, ds, ps, pks, hk, _, h, _, _ => by
    simp only [parKs] at hk
    cases hk
    obtain ⟨rfl, rfl, rfl⟩ := trodAll_nil h
    exact ⟨[], trivial, .nil⟩
  | t :: ts, j, vs, ds, ps, pks, hk, hl, h, hv, hw => by
    simp only [parKs] at hk
    split at hk
    · rename_i pk pks' h1 h2
      cases hk
      obtain ⟨v, vs', d, ds', p, q, rfl, rfl, rfl, hd, hrest⟩ := trodAll_cons h
      obtain ⟨a, a1, a2⟩ := open_par (hv 0 t v rfl rfl) hd (fun m hm => hw m (by simp only [DataW.weightsEach, List.mem_append]; exact .inl hm)) (hl t (by simp)) h1 (hr j) (ht j)
      obtain ⟨as, b1, b2⟩ := open_pars hr ht ts (j + 1) vs' ds' q pks' h2 (fun t ht => hl t (List.mem_cons_of_mem _ ht)) hrest (fun i t v hi hi' => hv (i + 1) t v (by simpa using hi) (by simpa using hi')) (fun m hm => hw m (by simp only [DataW.weightsEach, List.mem_append]; exact .inr hm))
      exact ⟨a :: as, ⟨a1, b1⟩, .cons (fp := []) a2 b2⟩
    · cases hk
theorem trodAll_stays (hl : laidOutB P = true) {W W' : World} (hb : Below W.heap.size W W') : ∀ (ts : List TypeId) (vs : List Value) (ds : List (DataW H)) (ps : List MemPlace), (∀ t ∈ ts, P.readableRec t = true ∧ t < P.types.size) → DataW.TrodAll enc P W 0 (fun _ => true) true ts vs ds ps → (∀ p ∈ ps, p.block < W.heap.size) →
    DataW.TrodAll enc P W' 0 (fun b => decide (b < W.heap.size)) true ts vs ds ps
  | [], vs, ds, ps, _, h, _ => by
    obtain ⟨rfl, rfl, rfl⟩ := trodAll_nil h
    exact trodAll_mk0
  | t :: ts, vs, ds, ps, ht, h, hlt => by
    obtain ⟨v, vs', d, ds', p, q, rfl, rfl, rfl, hd, hrest⟩ := trodAll_cons h
    exact ⟨p, q, Below.trod hl (ht t (by simp)).1 (ht t (by simp)).2 hd hb (fun x hx => hlt x (List.mem_append_left _ hx)), trodAll_stays hl hb ts vs' ds' q (fun t h => ht t (List.mem_cons_of_mem _ h)) hrest (fun x hx => hlt x (List.mem_append_right _ hx)), rfl⟩
theorem trodAll_len : ∀ {ts : List TypeId} {vs : List Value} {ds : List (DataW H)} {ps : List MemPlace}, DataW.TrodAll enc P w 0 (fun _ => true) true ts vs ds ps → vs.length = ts.length ∧ ds.length = ts.length
  | [], vs, ds, ps, h => by obtain ⟨rfl, rfl, rfl⟩ := trodAll_nil h; exact ⟨rfl, rfl⟩
  | t :: ts, vs, ds, ps, h => by
    obtain ⟨v, vs', d, ds', p, q, rfl, rfl, rfl, _, hrest⟩ := trodAll_cons h
    have := trodAll_len hrest
    exact ⟨by simp [this.1], by simp [this.2]⟩
theorem weightsEach_app {n : Nat} : ∀ {ts us : List TypeId} {ds gs : List (DataW H)}, ds.length = ts.length → n ∈ DataW.weightsEach P ts ds → n ∈ DataW.weightsEach P (ts ++ us) (ds ++ gs)
  | [], us, [], gs, _, h => by simp [DataW.weightsEach] at h
  | [], _, _ :: _, _, h, _ => by simp at h
  | _ :: _, _, [], _, h, _ => by simp at h
  | t :: ts, us, d :: ds, gs, hl, h => by
    simp only [DataW.weightsEach, List.cons_append, List.mem_append] at h ⊢
    exact h.imp id fun h => weightsEach_app (by simpa using hl) h
theorem law_contract {md : Modes} {f : Nat} {fn : Func} {pks : List PK} {tb : TypeId} {s : ChangeSpec} (hlay : laidOutB P = true) (hps : parKs P md f 0 fn.params.toList = some pks) (hr : ∀ j, md.isRow (.fn f) j = false) (ht : ∀ j, md.isTake (.fn f) j = false)
    (hpar : fn.params.toList.all (fun t => laysPar P t && P.readableRec t && decide (t < P.types.size)) = true) (hres : fn.resultTypes = #[tb]) (htb : P.underlying tb = some .bool) (hsv : s.vars = []) (hsf : ∀ ds : List (DataW H), ds.length = fn.params.size → s.fn H ds = { results := [.lit (.bool true)], args := ds })
    (hpc : ∀ as, FitKs pks as → PC P f as [.sc .bool] (fun o => o = [.bool true])) {W : World} {args : Array Value} {ds gs : List (DataW H)} {before : List MemPlace} {apart fresh handsOn : Bool} {b0 : Nat}
    (hval : ∀ (j : Nat) t v, fn.params[j]? = some t → args[j]? = some v → Value.okWide P W .any b0 t v) (hW : DataW.Whole enc P fn.params.toList s.vars apart W args.toList ds gs before)
    (hsz : (DataW.weightsEach P (fn.params.toList ++ s.plain.varTypes P) (ds ++ gs)).all (· ≤ reachBytes) = true) : Calls P f args W fun e W' => ∃ v, e = .returned v ∧ s.post enc P fn apart fresh handsOn false W args v W' := by
  have hpar : ∀ t ∈ fn.params.toList, laysPar P t = true ∧ P.readableRec t = true ∧ t < P.types.size := fun t ht => by
    have := List.all_eq_true.1 hpar t ht
    simp only [Bool.and_eq_true, decide_eq_true_eq] at this
    exact ⟨this.1.1, this.1.2, this.2⟩
  have hW' := hW
  obtain ⟨p, q, hA, hV, hpq, _, _⟩ := hW
  have hlen := trodAll_len hA
  have hg : gs = [] ∧ q = [] := by
    rw [hsv] at hV
    cases gs with
    | nil => exact ⟨rfl, hV⟩
    | cons _ _ => exact hV.elim
  obtain ⟨rfl, rfl⟩ := hg
  obtain ⟨as, hfit, hargs⟩ := open_pars (w := W) hr ht fn.params.toList 0 args.toList ds p pks hps (fun t ht => (hpar t ht).1) hA (fun i t v hi hi' => hval i t v (by simpa using hi) (by simpa using hi')) (fun m hm => by
    have := List.all_eq_true.1 hsz m (weightsEach_app hlen.2 hm)
    simpa using this)
  have hc := (hpc as hfit).2 W args.toList [] (outside W []) List.nodup_nil (fun b h => h) hargs
  simp only [Array.toArray_toList] at hc
  refine Calls.mono hc fun e W' => ?_
  rintro ⟨v, rfl, us, ds', bs, fr, fb, rfl, hrets, hback, hQ, _, _, hk⟩
  have hus : us = [.bool true] := by
    cases hrets with
    | cons h1 h2 =>
      cases h2
      cases h1 with
      | sc h1 =>
        obtain ⟨h1, _⟩ := h1.flat_inv rfl
        cases h1
        simp only [List.cons_append, List.nil_append, List.cons.injEq, D.bool.injEq] at hQ
        rw [hQ.1]
  subst hus
  refine ⟨_, rfl, ?_⟩
  have hb : Below W.heap.size W W' := ⟨hk.os, hk.tape, hk.output, hk.size, fun k h => hk.block k (outside_lt h)⟩
  have hlt : ∀ p ∈ before, p.block < W.heap.size := fun p hp => hW'.lt p hp
  have hfn : s.fn H (ds ++ []) = { results := [.lit (.bool true)], args := ds } := by rw [List.append_nil]; exact hsf ds (by rw [hlen.2]; simp)
  simp only [List.append_nil] at hpq
  subst hpq
  refine ⟨ds, [], before, [], before, [], hW', ?_, ?_, ?_, hb.frame _, fun h => by cases h⟩
  · rw [hfn, hres]
    exact trodAll_mk1 (shut_bool htb true)
  · rw [hfn]
    exact trodAll_stays hlay hb _ _ _ _ (fun t ht => (hpar t ht).2) hA hlt
  · rw [hfn, hsv]
    rfl
end
end Go.Proofs.Ytfbahdalemajcaa.Eng

/-
  The engine: words for the proofs of contracts.
-/
namespace Go.Proofs.Ytfbahdalemajcaa.Eng
/-- What a function's text is to the engine. -/
def sigOf (P : Program) (md : Modes) (f : Nat) (frees : List (List CK)) : Option (List PK × List RS × T) :=
  match P.funcs[f]? with
  | some fn => if fn.body.isSome && !(fn.name == "runtime.NumGoroutine") then match parKs P md f 0 fn.params.toList, rsOfs P fn.resultTypes.toList with
    | some pks, some rs => some (pks, rs, symF P md f frees)
    | _, _ => none else none
  | none => none
/-- The data of arguments without cursors. -/
def DArg.data : DArg → Option D
  | .sc _ d | .st _ d | .stw _ d | .row _ d | .take _ d => some d
  | .clo _ _ => some default
  | .bx _ _ | .cur _ => none
def datas : List DArg → Option (List D)
  | [] => some []
  | a :: l => match a.data, datas l with
    | some d, some ds => some (d :: ds)
    | _, _ => none
theorem ArgDs.eq : ∀ {as : List DArg} {ds ds' : List D}, datas as = some ds' → ArgDs as ds → ds = ds'
  | [], _, _, h, .nil => by simp only [datas] at h; cases h; rfl
  | a :: as, _, _, h, .cons h1 h2 => by
    simp only [datas] at h
    split at h
    · rename_i d ds e1 e2
      cases h
      rw [ArgDs.eq e2 h2]
      congr 1
      cases h1 <;> simp only [DArg.data] at e1 <;> cases e1 <;> rfl
    · cases h
section
variable {P : Program} {md : Modes} {clo : Nat → CloD} {Q : List D → Prop} {κ : Nat → List D → Prop} {env : List D} {k : T}
theorem PC.of_sig {f : Nat} {pks : List PK} {rs : List RS} {t : T} {as : List DArg} {ds : List D} (hmix : P.follows .mixedOrders = true) (hs : sigOf P md f [] = some (pks, rs, t)) (hfit : FitKs pks as) (hds : datas as = some ds)
    (hd : (∀ a ∈ as, a.ok) → t.den P (cloArgs as) Q (fun _ _ => False) ds) : PC P f as rs Q := by
  unfold sigOf at hs
  split at hs
  rotate_left
  · cases hs
  rename_i fn hf
  split at hs
  rotate_left
  · cases hs
  rename_i hc
  rw [Bool.and_eq_true] at hc
  split at hs
  rotate_left
  · cases hs
  rename_i pks' rs' h1 h2
  cases hs
  have hne : (fn.name == "runtime.NumGoroutine") = false := by simpa using hc.2
  refine PC.assume ⟨fn, hf, hc.1, hne⟩ fun hok => ?_
  have := of_tree (caps := []) (Q := Q) hmix hf hne h1 h2 hfit fun ds' h => by
    rw [ArgDs.eq hds h]
    simpa using hd hok
  simpa using this
/-- The same for a function that captured variables. -/
theorem PC.of_sigC {f : Nat} {pks : List PK} {rs : List RS} {t : T} {as : List DArg} {ds : List D} (caps : List (List CK × D)) (hmix : P.follows .mixedOrders = true) (hs : sigOf P md f (caps.map (·.1)) = some (pks, rs, t)) (hfit : FitKs pks as) (hds : datas as = some ds)
    (hd : (∀ a ∈ as, a.ok) → t.den P (cloArgs as) Q (fun _ _ => False) (ds ++ caps.map (·.2))) : PC P f (as ++ caps.map fun p => .bx p.1 p.2) rs Q := by
  unfold sigOf at hs
  split at hs
  rotate_left
  · cases hs
  rename_i fn hf
  split at hs
  rotate_left
  · cases hs
  rename_i hc
  rw [Bool.and_eq_true] at hc
  split at hs
  rotate_left
  · cases hs
  rename_i pks' rs' h1 h2
  cases hs
  have hne : (fn.name == "runtime.NumGoroutine") = false := by simpa using hc.2
  refine PC.assume ⟨fn, hf, hc.1, hne⟩ fun hok => ?_
  exact of_tree (caps := caps) (Q := Q) hmix hf hne h1 h2 hfit fun ds' h => by
    rw [ArgDs.eq hds h]
    exact hd fun a ha => hok a (List.mem_append_left _ ha)
/-! ### one node of a tree -/
theorem den_call {f : Callee'} {as : List XArg} {rs : List RS} {outs : List D} (hp : callD P clo f (as.map (XArg.ev clo env)) rs fun o => o = outs) (hk : RS.oks rs outs → k.den P clo Q κ (env ++ outs)) : (T.call [] f as rs k).den P clo Q κ env := by
  have hp' : callD P clo f (as.map (XArg.ev clo env)) rs fun o => o = outs ∧ RS.oks rs o := by
    cases f with
    | fn f => exact PC.more hp
    | par j => exact PC.more hp
  refine ⟨_, .inl rfl, fun _ => hp', fun o _ ho => ?_⟩
  obtain ⟨rfl, h2⟩ := ho
  exact hk h2
/-- Of what it hands back only so much is known. -/
theorem den_callR {f : Callee'} {as : List XArg} {rs : List RS} {R : List D → Prop} (hp : callD P clo f (as.map (XArg.ev clo env)) rs R) (hk : ∀ o, o.length = rs.length + backs (as.map (XArg.ev clo env)) → R o → RS.oks rs o → k.den P clo Q κ (env ++ o)) : (T.call [] f as rs k).den P clo Q κ env := by
  have hp' : callD P clo f (as.map (XArg.ev clo env)) rs fun o => R o ∧ RS.oks rs o := by
    cases f with
    | fn f => exact PC.more hp
    | par j => exact PC.more hp
  exact ⟨_, .inl rfl, fun _ => hp', fun o hl ho => hk o hl ho.1 ho.2⟩
/-- A call under conditions. -/
theorem den_callG {g : Conds} {f : Callee'} {as : List XArg} {rs : List RS} {outs : List D} (hp : g.den env → callD P clo f (as.map (XArg.ev clo env)) rs fun o => o = outs) (hl : outs.length = rs.length + backs (as.map (XArg.ev clo env))) (hk : k.den P clo Q κ (env ++ outs)) :
    (T.call g f as rs k).den P clo Q κ env :=
  ⟨fun o => o = outs, .inr ⟨outs, hl, rfl⟩, hp, fun o _ ho => by subst ho; exact hk⟩
theorem den_br {c : X} {t e : T} (h1 : (c.den env).toB = true → t.den P clo Q κ env) (h2 : (c.den env).toB = false → e.den P clo Q κ env) : (T.br c t e).den P clo Q κ env := ⟨h1, h2⟩
theorem den_need {g : Conds} {c : X} (h1 : g.den env → (c.den env).toB = true) (h2 : k.den P clo Q κ env) : (T.need g c k).den P clo Q κ env := ⟨h1, h2⟩
theorem den_know {x : X} (h : (x.den env).toL.length ≤ maxL → k.den P clo Q κ env) : (T.know x k).den P clo Q κ env := h
theorem den_nilq {x : X} (h : ∀ b : Bool, (b = true → (x.den env).toL = []) → k.den P clo Q κ (env ++ [.bool b])) : (T.nilq x k).den P clo Q κ env := h
theorem den_ret {xs : List X} (h : Q (xs.map (X.den env))) : (T.ret xs).den P clo Q κ env := h
theorem den_cont {lv : Nat} {xs : List X} (h : κ lv (xs.map (X.den env))) : (T.cont lv xs).den P clo Q κ env := h
theorem den_loop {lv : Nat} {init : List X} {body : T} (I : List D → Prop) (μ : List D → Nat) (h0 : I (init.map (X.den env))) (h : ∀ vs, vs.length = init.length → I vs → body.den P clo Q (setK κ lv fun us => I us ∧ μ us < μ vs) (env ++ vs)) : (T.loop lv init body).den P clo Q κ env := ⟨I, μ, h0, h⟩
end
end Go.Proofs.Ytfbahdalemajcaa.Eng

/-
  The engine: trees over functions whose answers are known as functions of their data.
-/
namespace Go.Proofs.Ytfbahdalemajcaa.Eng
def XArg.dat (env : List D) : XArg → D
  | .sc _ x | .st _ x | .bx _ x | .row _ x | .stw _ x | .take _ x | .cur x => x.den env
  | .clo _ _ | .clop _ => default
def Callee'.num : Callee' → Nat
  | .fn f => f
  | .par _ => 0
/-- What is to be shown of a tree, if callee 'f' hands back 'φ f data'. A loop is left as it stands. -/
def T.says (P : Program) (φ : Nat → List D → List D) (clo : Nat → CloD) (Q : List D → Prop) (κ : Nat → List D → Prop) : T → List D → Prop
  | .ret outs, env => Q (outs.map (X.den env))
  | .br c t e, env => ((c.den env).toB = true → t.says P φ clo Q κ env) ∧ ((c.den env).toB = false → e.says P φ clo Q κ env)
  | .need g c k, env => (g.den env → (c.den env).toB = true) ∧ k.says P φ clo Q κ env
  | .know x k, env => (x.den env).toL.length ≤ maxL → k.says P φ clo Q κ env
  | .nilq x k, env => ∀ b : Bool, (b = true → (x.den env).toL = []) → k.says P φ clo Q κ (env ++ [.bool b])
  | .call g f as rs k, env => (g.den env → callD P clo f (as.map (XArg.ev clo env)) rs fun o => o = φ f.num (as.map (XArg.dat env))) ∧ (φ f.num (as.map (XArg.dat env))).length = rs.length + backs (as.map (XArg.ev clo env)) ∧
      ((g = [] → RS.oks rs (φ f.num (as.map (XArg.dat env)))) → k.says P φ clo Q κ (env ++ φ f.num (as.map (XArg.dat env))))
  | .cont lv xs, env => κ lv (xs.map (X.den env))
  | .loop lv init body, env => (T.loop lv init body).den P clo Q κ env
  | _, _ => False
theorem says_den {P : Program} {φ : Nat → List D → List D} {clo : Nat → CloD} {Q : List D → Prop} {κ : Nat → List D → Prop} : ∀ (t : T) (env : List D), t.says P φ clo Q κ env → t.den P clo Q κ env
  | .ret outs, env, h => h
  | .br c t e, env, h => ⟨fun hc => says_den t env (h.1 hc), fun hc => says_den e env (h.2 hc)⟩
  | .need g c k, env, h => ⟨h.1, says_den k env h.2⟩
  | .know x k, env, h => fun hx => says_den k env (h hx)
  | .nilq x k, env, h => fun b hb => says_den k _ (h b hb)
  | .call g f as rs k, env, ⟨h1, h2, h3⟩ => by
    cases g with
    | nil => exact den_call (h1 trivial) fun hok => says_den k _ (h3 fun _ => hok)
    | cons p g => exact den_callG h1 h2 (says_den k _ (h3 fun h => by cases h))
  | .loop _ _ _, _, h => h
  | .cont _ _, _, h => h
  | .fail _, _, h => h.elim
  | .probe _, _, h => h.elim
theorem den_mono {P : Program} {clo : Nat → CloD} {Q : List D → Prop} : ∀ (t : T) {κ κ' : Nat → List D → Prop} (env : List D), (∀ j us, κ j us → κ' j us) → t.den P clo Q κ env → t.den P clo Q κ' env
  | .ret _, _, _, _, _, h => h
  | .br _ t e, _, _, env, m, h => ⟨fun hc => den_mono t env m (h.1 hc), fun hc => den_mono e env m (h.2 hc)⟩
  | .need _ _ k, _, _, env, m, h => ⟨h.1, den_mono k env m h.2⟩
  | .know _ k, _, _, env, m, h => fun hx => den_mono k env m (h hx)
  | .nilq _ k, _, _, env, m, h => fun b hb => den_mono k _ m (h b hb)
  | .call _ _ _ _ k, _, _, env, m, h => by
    obtain ⟨R, h1, h2, h3⟩ := h
    exact ⟨R, h1, h2, fun o hl ho => den_mono k _ m (h3 o hl ho)⟩
  | .loop lv init body, κ, κ', env, m, h => by
    obtain ⟨I, μ, h1, h2⟩ := h
    refine ⟨I, μ, h1, fun vs hl hv => den_mono body _ (fun j us => ?_) (h2 vs hl hv)⟩
    by_cases hj : j = lv
    · simp [setK, hj]
    · simpa [setK, hj] using m j us
  | .cont _ _, _, _, _, m, h => m _ _ h
  | .fail _, _, _, _, _, h => h.elim
  | .probe _, _, _, _, _, h => h.elim
/-- A loop with a counter at place 'p': its variables after 'i' rounds are 'st i', and 'R i' holds there. -/
theorem den_for {P : Program} {clo : Nat → CloD} {Q : List D → Prop} {κ : Nat → List D → Prop} {env : List D} {lv : Nat} {init : List X} {body : T} (n p : Nat) (st : Nat → List D) (R : Nat → Prop)
    (hp : ∀ i, ((st i).getD p default).toI = i) (h0 : init.map (X.den env) = st 0) (hR : R 0)
    (step : ∀ i, i ≤ n → R i → body.den P clo Q (setK κ lv fun us => i < n ∧ us = st (i + 1) ∧ R (i + 1)) (env ++ st i)) : (T.loop lv init body).den P clo Q κ env := by
  refine den_loop (fun vs => ∃ i, i ≤ n ∧ vs = st i ∧ R i) (fun vs => n - (vs.getD p default).toI.toNat) ⟨0, Nat.zero_le _, h0, hR⟩ fun vs _ hI => ?_
  obtain ⟨i, hi, rfl, hRi⟩ := hI
  refine den_mono body _ ?_ (step i hi hRi)
  intro j us h
  by_cases hj : j = lv
  · subst hj
    simp only [setK, if_true] at h ⊢
    obtain ⟨h1, rfl, h3⟩ := h
    refine ⟨⟨i + 1, by omega, rfl, h3⟩, ?_⟩
    rw [hp, hp]
    omega
  · simpa only [setK, if_neg hj] using h
@[simp] theorem setK_eq (κ : Nat → List D → Prop) (lv : Nat) (K : List D → Prop) : setK κ lv K lv = K := by simp [setK]
/-- A struct that fits is its cells. -/
theorem okL_eta {ks : List CK} {d : D} (h : okL ks d) : D.lst ((List.range ks.length).map d.fld) = d := by
  obtain ⟨es, rfl, h⟩ := h
  have hl := okDs_len h
  congr 1
  apply List.ext_getElem
  · simp [hl]
  · intro i h1 h2
    simp [D.fld, D.toL, h2]
@[simp] theorem fld_zero (a : D) (l : List D) : (D.lst (a :: l)).fld 0 = a := (fun h => h) rfl
@[simp] theorem fld_succ (a : D) (l : List D) (n : Nat) : (D.lst (a :: l)).fld (n + 1) = (D.lst l).fld n := (fun h => h) rfl
@[simp] theorem toI_int (n : Int) : (D.int n).toI = n := (fun h => h) rfl
@[simp] theorem toB_bool (b : Bool) : (D.bool b).toB = b := (fun h => h) rfl
@[simp] theorem toL_lst (l : List D) : (D.lst l).toL = l := (fun h => h) rfl
@[simp] theorem toS_str (s : ByteArray) : (D.str s).toS = s := (fun h => h) rfl
theorem okL_int {ks : List CK} {d : D} {i : Nat} {k : IntKind} (h : okL ks d) (hi : ks[i]? = some (.int k)) : ∃ n, d.fld i = .int n ∧ inK k n = true := by
  obtain ⟨es, rfl, h⟩ := h
  have : ∀ (ks : List CK) (es : List D) (i : Nat), CK.okDs ks es → ks[i]? = some (.int k) → ∃ n, (D.lst es).fld i = .int n ∧ inK k n = true := by
    intro ks
    induction ks with
    | nil => intro es i _ h; simp at h
    | cons c ks ih =>
      intro es i h hi
      cases es with
      | nil => simp [CK.okDs] at h
      | cons e es =>
        simp only [CK.okDs] at h
        cases i with
        | zero =>
          simp only [List.getElem?_cons_zero, Option.some.injEq] at hi
          subst hi
          have h1 := h.1
          cases e <;> simp only [CK.okD] at h1
          exact ⟨_, rfl, h1⟩
        | succ i => exact ih es i h.2 (by simpa using hi)
  exact this ks es i h hi
theorem okL_bool {ks : List CK} {d : D} {i : Nat} (h : okL ks d) (hi : ks[i]? = some .bool) : ∃ b, d.fld i = .bool b := by
  obtain ⟨es, rfl, h⟩ := h
  have : ∀ (ks : List CK) (es : List D) (i : Nat), CK.okDs ks es → ks[i]? = some .bool → ∃ b, (D.lst es).fld i = .bool b := by
    intro ks
    induction ks with
    | nil => intro es i _ h; simp at h
    | cons c ks ih =>
      intro es i h hi
      cases es with
      | nil => simp [CK.okDs] at h
      | cons e es =>
        simp only [CK.okDs] at h
        cases i with
        | zero =>
          simp only [List.getElem?_cons_zero, Option.some.injEq] at hi
          subst hi
          have h1 := h.1
          cases e <;> simp only [CK.okD] at h1
          exact ⟨_, rfl⟩
        | succ i => exact ih es i h.2 (by simpa using hi)
  exact this ks es i h hi
theorem okL_sl {ks : List CK} {d : D} {i : Nat} {k : List CK} (h : okL ks d) (hi : ks[i]? = some (.sl k)) : ∃ l, d.fld i = .lst l ∧ l.length ≤ maxL ∧ ∀ x ∈ l, okL k x := by
  obtain ⟨es, rfl, h⟩ := h
  have : ∀ (ks : List CK) (es : List D) (i : Nat), CK.okDs ks es → ks[i]? = some (.sl k) → ∃ l, (D.lst es).fld i = .lst l ∧ l.length ≤ maxL ∧ ∀ x ∈ l, okL k x := by
    intro ks
    induction ks with
    | nil => intro es i _ h; simp at h
    | cons c ks ih =>
      intro es i h hi
      cases es with
      | nil => simp [CK.okDs] at h
      | cons e es =>
        simp only [CK.okDs] at h
        cases i with
        | zero =>
          simp only [List.getElem?_cons_zero, Option.some.injEq] at hi
          subst hi
          have h1 := h.1
          cases e <;> simp only [CK.okD] at h1
          exact ⟨_, rfl, h1.1, h1.2⟩
        | succ i => exact ih es i h.2 (by simpa using hi)
  exact this ks es i h hi
theorem ok_int {d : D} {k : IntKind} (h : CK.okD (.int k) d) : ∃ n, d = .int n ∧ inK k n = true := by
  cases d <;> simp only [CK.okD] at h
  exact ⟨_, rfl, h⟩
theorem ok_bool {d : D} (h : CK.okD .bool d) : ∃ b, d = .bool b := by
  cases d <;> simp only [CK.okD] at h
  exact ⟨_, rfl⟩
theorem ok_str {d : D} (h : CK.okD .str d) : ∃ s, d = .str s ∧ s.size ≤ maxS := by
  cases d <;> simp only [CK.okD] at h
  exact ⟨_, rfl, h⟩
theorem ok_sl {d : D} {ks : List CK} (h : CK.okD (.sl ks) d) : ∃ l, d = .lst l ∧ l.length ≤ maxL ∧ ∀ x ∈ l, okL ks x := by
  cases d <;> simp only [CK.okD] at h
  exact ⟨_, rfl, h.1, h.2⟩
end Go.Proofs.Ytfbahdalemajcaa.Eng

/-
  The engine: trees over functions of whose answers something is known.
-/
namespace Go.Proofs.Ytfbahdalemajcaa.Eng
/-- Callee 'f' does what 'φ' says of it. -/
structure CallOk (P : Program) (φ : Nat → List D → (List D → Prop) → Prop) (clo : Nat → CloD) (g : Conds) (f : Callee') (as : List XArg) (rs : List RS) (env : List D) : Prop where
  ok : ∀ K : List D → Prop, φ f.num (as.map (XArg.dat env)) K → g.den env → callD P clo f (as.map (XArg.ev clo env)) rs K
/-- There is such an answer (asked of a call under conditions). -/
def CallIn (φ : Nat → List D → (List D → Prop) → Prop) (g : Conds) (n f : Nat) (ds : List D) : Prop := g = [] ∨ ∃ o : List D, o.length = n ∧ ∀ K : List D → Prop, φ f ds K → K o
@[simp] theorem callIn_nil (φ : Nat → List D → (List D → Prop) → Prop) (n f : Nat) (ds : List D) : CallIn φ [] n f ds := .inl rfl
/-- As 'says'; of what callee 'f' hands back this is known: whatever holds of all that 'φ f data' lets through holds of it. A loop is left as it stands. -/
def T.sayR (P : Program) (φ : Nat → List D → (List D → Prop) → Prop) (clo : Nat → CloD) (Q : List D → Prop) (κ : Nat → List D → Prop) : T → List D → Prop
  | .ret outs, env => Q (outs.map (X.den env))
  | .br c t e, env => ((c.den env).toB = true → t.sayR P φ clo Q κ env) ∧ ((c.den env).toB = false → e.sayR P φ clo Q κ env)
  | .need g c k, env => (g.den env → (c.den env).toB = true) ∧ k.sayR P φ clo Q κ env
  | .know x k, env => (x.den env).toL.length ≤ maxL → k.sayR P φ clo Q κ env
  | .nilq x k, env => ∀ b : Bool, (b = true → (x.den env).toL = []) → k.sayR P φ clo Q κ (env ++ [.bool b])
  | .call g f as rs k, env => CallOk P φ clo g f as rs env ∧ CallIn φ g (rs.length + backs (as.map (XArg.ev clo env))) f.num (as.map (XArg.dat env)) ∧
      φ f.num (as.map (XArg.dat env)) fun o => o.length = rs.length + backs (as.map (XArg.ev clo env)) → (g = [] → RS.oks rs o) → k.sayR P φ clo Q κ (env ++ o)
  | .cont lv xs, env => κ lv (xs.map (X.den env))
  | .loop lv init body, env => (T.loop lv init body).den P clo Q κ env
  | _, _ => False
theorem sayR_den {P : Program} {φ : Nat → List D → (List D → Prop) → Prop} {clo : Nat → CloD} {Q : List D → Prop} {κ : Nat → List D → Prop} : ∀ (t : T) (env : List D), t.sayR P φ clo Q κ env → t.den P clo Q κ env
  | .ret outs, env, h => h
  | .br c t e, env, h => ⟨fun hc => sayR_den t env (h.1 hc), fun hc => sayR_den e env (h.2 hc)⟩
  | .need g c k, env, h => ⟨h.1, sayR_den k env h.2⟩
  | .know x k, env, h => fun hx => sayR_den k env (h hx)
  | .nilq x k, env, h => fun b hb => sayR_den k _ (h b hb)
  | .call g f as rs k, env, ⟨h1, h2, h3⟩ => by
    cases g with
    | nil => exact den_callR (h1.ok _ h3 trivial) fun o hl hR hok => sayR_den k _ (hR hl fun _ => hok)
    | cons p g =>
      obtain ⟨o, ho, hK⟩ := h2.resolve_left fun h => by cases h
      exact ⟨_, .inr ⟨o, ho, hK _ h3⟩, h1.ok _ h3, fun o hl hR => sayR_den k _ (hR hl fun h => by cases h)⟩
  | .loop _ _ _, _, h => h
  | .cont _ _, _, h => h
  | .fail _, _, h => h.elim
  | .probe _, _, h => h.elim
theorem inK_i64_iff {n : Int} : inK .i64 n = true ↔ -9223372036854775808 ≤ n ∧ n ≤ 9223372036854775807 := ⟨inK_i64, fun h => i64_inK h.1 h.2⟩
/-- The first parameter is a cursor. -/
theorem PC.of_sigK {P : Program} {md : Modes} {f : Nat} {pks : List PK} {rs : List RS} {t : T} {c : D} {as : List DArg} {ds : List D} {Q : List D → Prop} (hmix : P.follows .mixedOrders = true) (hs : sigOf P md f [] = some (pks, rs, t)) (hfit : FitKs pks (.cur c :: as)) (hds : datas as = some ds)
    (hd : (∀ a ∈ as, a.ok) → ∀ i h : Int, inK .i64 i = true → 0 ≤ i → inK .i64 h = true → t.den P (cloArgs (.cur c :: as)) Q (fun _ _ => False) (.lst [c, .int i, .int h] :: ds)) : PC P f (.cur c :: as) rs Q := by
  unfold sigOf at hs
  split at hs
  rotate_left
  · cases hs
  rename_i fn hf
  split at hs
  rotate_left
  · cases hs
  rename_i hc
  rw [Bool.and_eq_true] at hc
  split at hs
  rotate_left
  · cases hs
  rename_i pks' rs' h1 h2
  cases hs
  have hne : (fn.name == "runtime.NumGoroutine") = false := by simpa using hc.2
  refine PC.assume ⟨fn, hf, hc.1, hne⟩ fun hok => ?_
  have := of_tree (caps := []) (Q := Q) hmix hf hne h1 h2 hfit fun ds' h => by
    cases h with
    | cons h1 h2 =>
      cases h1 with
      | cur hi hn hh =>
        rw [ArgDs.eq hds h2]
        simpa using hd (fun a ha => hok a (List.mem_cons_of_mem _ ha)) _ _ hi hn hh
  simpa using this
end Go.Proofs.Ytfbahdalemajcaa.Eng
