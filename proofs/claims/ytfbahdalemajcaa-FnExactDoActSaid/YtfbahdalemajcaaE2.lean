/- The engine of this claim: a symbolic executor over the model and the proof that what it says of a function is so. Part E2. -/
import Derived.Test.YtfbahdalemajcaaE1
import Derived.Laws.Cells
import Derived.Laws.Rows
import Derived.WalkLawsBesides
import Derived.Laws.StructEq
import Derived.Laws.MakeOwn
import Derived.Laws.BytesString
/-
  The engine, fourth part: what the symbolic values say of a frame and a memory.
-/
namespace Go.Proofs.Ytfbahdalemajcaa.Eng

def maxS : Nat := 9223372036854775807
/-- A plain cell's value. -/
inductive Flat : CK → D → Value → Prop
  | int {k : IntKind} {n : Int} : inK k n = true → Flat (.int k) (.int n) (.int k n)
  | bool {b : Bool} : Flat .bool (.bool b) (.bool b)
  | str {s : ByteArray} : s.size ≤ maxS → Flat .str (.str s) (.string s)
def maxL : Nat := 140737488355328
/-- An element: so many cells. -/
def Shp (n : Nat) (d : D) : Prop := ∃ es, d = .lst es ∧ es.length = n
/-- A cell that is read: what it holds lies in the blocks 'S'. -/
inductive Snap (w : World) (S : Nat → Prop) : CK → D → Value → Prop
  | flat {ck : CK} {d : D} {v : Value} : Flat ck d v → Snap w S ck d v
  | nil {ks : List CK} (a : Option Addr) (cap : Nat) : Snap w S (.sl ks) (.lst []) (.slice a 0 cap)
  | sl {ks : List CK} (b off cap : Nat) (xs : List D) (u : Nat → Nat → Value) : S b → xs.length ≤ cap → xs.length ≤ maxL → (∀ i, i < xs.length → Shp ks.length (xs.getD i default)) →
      (∀ i c, i < xs.length → c < ks.length → w.cell? ⟨b, off + (i * ks.length + c), none⟩ = some (u i c)) →
      (∀ i c, i < xs.length → c < ks.length → Snap w S (ks.getD c default) ((xs.getD i default).fld c) (u i c)) →
      Snap w S (.sl ks) (.lst xs) (.slice (some ⟨b, off, none⟩) xs.length cap)
def fpAll (n k : Nat) (fps : Nat → Nat → List Nat) : List Nat := (List.range n).flatMap fun i => (List.range k).flatMap fun c => fps i c
/-- A cell that is owned with all that lies behind it: the blocks are listed. -/
inductive Own (w : World) : CK → D → Value → List Nat → Prop
  | flat {ck : CK} {d : D} {v : Value} : Flat ck d v → Own w ck d v []
  | nil {ks : List CK} : Own w (.sl ks) (.lst []) (.slice none 0 0) []
  | sl {ks : List CK} (b cap : Nat) (cs : Array Value) (T : TypeId) (xs : List D) (fps : Nat → Nat → List Nat) :
      w.heap[b]? = some (.cells cs T (0, 0)) → cap * ks.length ≤ cs.size → xs.length ≤ cap → xs.length ≤ maxL → (∀ i, i < xs.length → Shp ks.length (xs.getD i default)) →
      (∀ i c, i < xs.length → c < ks.length → Own w (ks.getD c default) ((xs.getD i default).fld c) (cs.getD (i * ks.length + c) undef) (fps i c)) →
      Own w (.sl ks) (.lst xs) (.slice (some ⟨b, 0, none⟩) xs.length cap) (b :: fpAll xs.length ks.length fps)

theorem cell?_eq {w w' : World} {a : Addr} (h : w'.heap[a.block]? = w.heap[a.block]?) : w'.cell? a = w.cell? a := by
  simp only [World.cell?, h]
theorem cell?_block {w : World} {a : Addr} {v : Value} (h : w.cell? a = some v) : a.block < w.heap.size := by
  simp only [World.cell?] at h
  split at h
  · rename_i hb; exact (Array.getElem?_eq_some_iff.1 hb).1
  · cases h
theorem Snap.frame {w w' : World} {S : Nat → Prop} {ck : CK} {d : D} {v : Value} (h : Snap w S ck d v) (hw : ∀ b, S b → w'.heap[b]? = w.heap[b]?) : Snap w' S ck d v := by
  induction h with
  | flat h => exact .flat h
  | nil a cap => exact .nil a cap
  | sl b off cap xs u hb hcap hmax hsh hc _ ih => exact .sl b off cap xs u hb hcap hmax hsh (fun i c hi hk => (cell?_eq (hw b hb)).trans (hc i c hi hk)) ih
theorem Snap.mono {w : World} {S S' : Nat → Prop} {ck : CK} {d : D} {v : Value} (h : Snap w S ck d v) (hs : ∀ b, S b → S' b) : Snap w S' ck d v := by
  induction h with
  | flat h => exact .flat h
  | nil a cap => exact .nil a cap
  | sl b off cap xs u hb hcap hmax hsh hc _ ih => exact .sl b off cap xs u (hs b hb) hcap hmax hsh hc ih
theorem mem_fpAll {n k i c b : Nat} {fps : Nat → Nat → List Nat} (hi : i < n) (hc : c < k) (h : b ∈ fps i c) : b ∈ fpAll n k fps :=
  List.mem_flatMap.2 ⟨i, List.mem_range.2 hi, List.mem_flatMap.2 ⟨c, List.mem_range.2 hc, h⟩⟩
theorem fpAll_mem {n k b : Nat} {fps : Nat → Nat → List Nat} (h : b ∈ fpAll n k fps) : ∃ i c, i < n ∧ c < k ∧ b ∈ fps i c := by
  obtain ⟨i, hi, h⟩ := List.mem_flatMap.1 h
  obtain ⟨c, hc, h⟩ := List.mem_flatMap.1 h
  exact ⟨i, c, List.mem_range.1 hi, List.mem_range.1 hc, h⟩
theorem Own.frame {w w' : World} {ck : CK} {d : D} {v : Value} {fp : List Nat} (h : Own w ck d v fp) (hw : ∀ b, b ∈ fp → w'.heap[b]? = w.heap[b]?) : Own w' ck d v fp := by
  induction h with
  | flat h => exact .flat h
  | nil => exact .nil
  | sl b cap cs T xs fps hb hsz hcap hmax hsh _ ih =>
    exact .sl b cap cs T xs fps ((hw b (by simp)).trans hb) hsz hcap hmax hsh (fun i c hi hc => ih i c hi hc fun b' hb' => hw b' (List.mem_cons_of_mem _ (mem_fpAll hi hc hb')))
theorem Own.lt {w : World} {ck : CK} {d : D} {v : Value} {fp : List Nat} (h : Own w ck d v fp) : ∀ b ∈ fp, b < w.heap.size := by
  induction h with
  | flat h => simp
  | nil => simp
  | sl b cap cs T xs fps hb hsz hcap hmax hsh _ ih =>
    intro b' hb'
    rcases List.mem_cons.1 hb' with rfl | hb'
    · exact (Array.getElem?_eq_some_iff.1 hb).1
    · obtain ⟨i, c, hi, hc, hm⟩ := fpAll_mem hb'
      exact ih i c hi hc b' hm
theorem idx_lt {i c n k : Nat} (hi : i < n) (hc : c < k) : i * k + c < n * k := by
  have h := Nat.mul_le_mul_right k (Nat.succ_le_of_lt hi)
  rw [Nat.succ_mul] at h
  omega
theorem Own.snap {w : World} {ck : CK} {d : D} {v : Value} {fp : List Nat} (h : Own w ck d v fp) {S : Nat → Prop} (hs : ∀ b ∈ fp, S b) : Snap w S ck d v := by
  induction h with
  | flat h => exact .flat h
  | nil => exact .nil _ _
  | sl b cap cs T xs fps hb hsz hcap hmax hsh _ ih =>
    refine .sl b 0 cap xs (fun i c => cs.getD (i * _ + c) undef) (hs b (by simp)) hcap hmax hsh (fun i c hi hc => ?_) (fun i c hi hc => ih i c hi hc fun b' hb' => hs b' (List.mem_cons_of_mem _ (mem_fpAll hi hc hb')))
    have h2 := idx_lt hi hc
    have h3 := Nat.mul_le_mul_right (List.length ‹List CK›) hcap
    simp only [World.cell?, hb, Option.isSome_none, Bool.false_eq_true, if_false, Nat.zero_add]
    rw [Array.getD_eq_getD_getElem?, Array.getElem?_eq_getElem (by omega)]
    rfl

/-! ### what is fixed while a function runs -/
structure Cx where
  /-- blocks that do not change; those that never do -/
  S : Nat → Prop
  G : Nat → Prop
  /-- the function values that came in -/
  clo : Nat → Value
  /-- blocks there were at the start; those of them that the function may write -/
  N : Nat
  F : List Nat
  /-- what the first slots hold -/
  par : Nat → Value
structure RowC where
  xs : List D
  addr : Option Addr
  cap : Nat
  k : Nat
  fp : List Nat
def Cx.at (cx : Cx) (gl : Bool) : Nat → Prop := match gl with | true => cx.G | false => cx.S
def ElemAt (w : World) (S : Nat → Prop) (ks : List CK) (d : D) (b o : Nat) : Prop :=
  ∃ u : Nat → Value, S b ∧ ∀ c, c < ks.length → w.cell? ⟨b, o + c, none⟩ = some (u c) ∧ Snap w S (ks.getD c default) (d.fld c) (u c)
abbrev BoxM := Nat → Option Nat
abbrev RowM := Nat → Option RowC
def srcS (cx : Cx) (ρ : RowM) : Src → Option (Nat → Prop)
  | .st gl => some (cx.at gl)
  | .row id => (ρ id).map fun rc => (· ∈ rc.fp)
inductive SVR (cx : Cx) (w : World) (m : BoxM) (ρ : RowM) (env : List D) : SV → Value → Prop
  | num {k : IntKind} {x : X} {n : Int} : x.den env = .int n → inK k n = true → SVR cx w m ρ env (.num k x) (.int k n)
  | boo {x : X} {b : Bool} : x.den env = .bool b → SVR cx w m ρ env (.boo x) (.bool b)
  | txt {x : X} {s : ByteArray} : x.den env = .str s → s.size ≤ maxS → SVR cx w m ρ env (.txt x) (.string s)
  | sl {src : Src} {ks : List CK} {x : X} {v : Value} {S : Nat → Prop} : srcS cx ρ src = some S → Snap w S (.sl ks) (x.den env) v → SVR cx w m ρ env (.sl src ks x) v
  | agg {cs : List SV} {vs : List Value} : vs.length = cs.length → (∀ i, i < cs.length → SVR cx w m ρ env (cs.getD i default) (vs.getD i undef)) → SVR cx w m ρ env (.agg cs) (.agg vs.toArray)
  | tup {cs : List SV} {vs : List Value} : vs.length = cs.length → (∀ i, i < cs.length → SVR cx w m ρ env (cs.getD i default) (vs.getD i undef)) → SVR cx w m ρ env (.tup cs) (.tuple vs.toArray)
  | bp {id off b : Nat} : m id = some b → SVR cx w m ρ env (.bp id off) (.pointer (some ⟨b, off, none⟩))
  | ep {src : Src} {ks : List CK} {e : X} {off b o : Nat} {S : Nat → Prop} : srcS cx ρ src = some S → ElemAt w S ks (e.den env) b o → SVR cx w m ρ env (.ep src ks e off) (.pointer (some ⟨b, o + off, none⟩))
  | ov {id : Nat} {pre : Option X} {rc : RowC} {n : Nat} : ρ id = some rc → n ≤ rc.xs.length → (pre = none → n = rc.xs.length) → (∀ x, pre = some x → x.den env = .int n) →
      SVR cx w m ρ env (.ov id pre) (.slice rc.addr n rc.cap)
  | ow {id : Nat} {lo hi : X} {rc : RowC} {l h : Nat} {a : Option Addr} {cap : Nat} : ρ id = some rc → lo.den env = .int l → hi.den env = .int h → l ≤ h → h ≤ rc.xs.length → h - l ≤ cap →
      (l < h → ∃ b, rc.addr = some ⟨b, 0, none⟩ ∧ a = some ⟨b, l * rc.k, none⟩) → SVR cx w m ρ env (.ow id lo hi) (.slice a (h - l) cap)
  | nv {id c : Nat} {i : X} {rc : RowC} {j b : Nat} {v : Value} : ρ id = some rc → i.den env = .int j → j < rc.xs.length → c < rc.k → rc.addr = some ⟨b, 0, none⟩ →
      w.cell? ⟨b, j * rc.k + c, none⟩ = some v → (∃ a n cap, v = .slice a n cap) → SVR cx w m ρ env (.nv id i c) v
  | oep {id off : Nat} {i : X} {rc : RowC} {j b : Nat} : ρ id = some rc → i.den env = .int j → j < rc.xs.length → rc.addr = some ⟨b, 0, none⟩ →
      SVR cx w m ρ env (.oep id i off) (.pointer (some ⟨b, j * rc.k + off, none⟩))
  | clo {f : Nat} {cs : List SV} {vs : List Value} : vs.length = cs.length → (∀ i, i < cs.length → SVR cx w m ρ env (cs.getD i default) (vs.getD i undef)) →
      SVR cx w m ρ env (.clo f cs) (.func (.func f) #[] vs.toArray)
  | clop {j : Nat} : SVR cx w m ρ env (.clop j) (cx.clo j)
  | nilsl : SVR cx w m ρ env .nilsl (.slice none 0 0)
  | ai {k : IntKind} {n : Int} : inK k n = true → SVR cx w m ρ env (.ai k) (.int k n)
  | an {n : Int} : inK .i64 n = true → 0 ≤ n → SVR cx w m ρ env .an (.int .i64 n)
  | top {v : Value} : SVR cx w m ρ env .top v

/-- The values of two lists, one by one. -/
def SVRs (cx : Cx) (w : World) (m : BoxM) (ρ : RowM) (env : List D) (cs : List SV) (vs : List Value) : Prop :=
  vs.length = cs.length ∧ ∀ i, i < cs.length → SVR cx w m ρ env (cs.getD i default) (vs.getD i undef)

/-- The own blocks are apart from each other, and none of them is one that must not change. -/
structure Sep (cx : Cx) (w : World) (m : BoxM) (ρ : RowM) : Prop where
  boxes : ∀ i j b, m i = some b → m j = some b → i = j
  rows : ∀ i j a c b, ρ i = some a → ρ j = some c → b ∈ a.fp → b ∈ c.fp → i = j
  nodup : ∀ i a, ρ i = some a → a.fp.Nodup
  apart : ∀ i j a b, m i = some b → ρ j = some a → b ∉ a.fp
  boxOwn : ∀ i b, m i = some b → ¬ cx.S b ∧ (cx.N ≤ b ∨ b ∈ cx.F) ∧ b < w.heap.size
  rowOwn : ∀ i a b, ρ i = some a → b ∈ a.fp → ¬ cx.S b ∧ (cx.N ≤ b ∨ b ∈ cx.F) ∧ b < w.heap.size
  addrIn : ∀ i a b, ρ i = some a → a.addr = some ⟨b, 0, none⟩ → b ∈ a.fp
def BoxR (cx : Cx) (w : World) (m : BoxM) (ρ : RowM) (env : List D) (cells : List SV) (b : Nat) : Prop :=
  ∃ (vs : List Value) (T : TypeId), w.heap[b]? = some (.cells vs.toArray T (0, 0)) ∧ SVRs cx w m ρ env cells vs
def RowR (w : World) (env : List D) (r : Row) (rc : RowC) : Prop :=
  r.c.den env = .lst rc.xs ∧ rc.k = r.ks.length ∧ Own w (.sl r.ks) (.lst rc.xs) (.slice rc.addr rc.xs.length rc.cap) rc.fp
structure HeapR (cx : Cx) (w : World) (m : BoxM) (ρ : RowM) (env : List D) (boxes : List (Nat × Conds × List SV)) (rows : List (Nat × Conds × Row)) : Prop where
  boxes : ∀ id g cells b, look boxes id = some (g, cells) → m id = some b → g.den env → BoxR cx w m ρ env cells b
  rows : ∀ id g r rc, look rows id = some (g, r) → ρ id = some rc → g.den env → RowR w env r rc
  sep : Sep cx w m ρ
/-- The world against that at the start. -/
structure Kept (cx : Cx) (w0 w : World) : Prop where
  os : w.os = w0.os
  tape : w.tape = w0.tape
  output : w.output = w0.output
  size : w0.heap.size ≤ w.heap.size
  block : ∀ b, cx.S b → w.heap[b]? = w0.heap[b]?
structure CxOk (cx : Cx) (w0 : World) : Prop where
  lt : ∀ b, cx.S b → b < w0.heap.size
  gs : ∀ b, cx.G b → cx.S b
  n : cx.N = w0.heap.size
/-- One slot. -/
def SlotR (cx : Cx) (w : World) (m : BoxM) (ρ : RowM) (env : List D) (tmps : Array Value) (t : Nat) (g : Conds) (sv : SV) : Prop :=
  t < tmps.size ∧ (g.den env → SVR cx w m ρ env sv (tmps.getD t undef)) ∧ (¬ g.den env → tmps.getD t undef = undef)
/-- The frame's slots. -/
def FrS (cx : Cx) (a : Act) (n : Nat × Nat) : Prop := a.tmps.size = n.1 ∧ ∀ t, t < n.2 → a.tmps.getD t undef = cx.par t
structure Rel (cx : Cx) (w0 : World) (env : List D) (st : St) (a : Act) (w : World) (m : BoxM) (ρ : RowM) : Prop where
  kept : Kept cx w0 w
  heap : HeapR cx w m ρ env st.boxes st.rows
  slots : ∀ t g sv, look st.slots t = some (g, sv) → SlotR cx w m ρ env a.tmps t g sv
  defers : a.defers = []
  size : FrS cx a st.nt
  nv : env.length = st.nv

/-! ### frames -/
theorem SVR.frame {cx : Cx} {w w' : World} {m : BoxM} {ρ : RowM} {env : List D} {sv : SV} {v : Value} (h : SVR cx w m ρ env sv v) (hg : ∀ b, cx.G b → cx.S b)
    (hs : ∀ b, cx.S b → w'.heap[b]? = w.heap[b]?) (hr : ∀ id rc b, ρ id = some rc → b ∈ rc.fp → w'.heap[b]? = w.heap[b]?)
    (ha : ∀ id rc b, ρ id = some rc → rc.addr = some ⟨b, 0, none⟩ → b ∈ rc.fp) : SVR cx w' m ρ env sv v := by
  have hsrc : ∀ src S, srcS cx ρ src = some S → ∀ b, S b → w'.heap[b]? = w.heap[b]? := by
    intro src S h b hb
    cases src with
    | st gl =>
      simp only [srcS, Option.some.injEq] at h
      subst h
      cases gl
      · exact hs b hb
      · exact hs b (hg b hb)
    | row id =>
      simp only [srcS, Option.map_eq_some_iff] at h
      obtain ⟨rc, h1, h2⟩ := h
      subst h2
      exact hr id rc b h1 hb
  induction h with
  | num h1 h2 => exact .num h1 h2
  | boo h1 => exact .boo h1
  | txt h1 h2 => exact .txt h1 h2
  | sl h1 h2 => exact .sl h1 (h2.frame (hsrc _ _ h1))
  | agg h1 _ ih => exact .agg h1 ih
  | tup h1 _ ih => exact .tup h1 ih
  | bp h1 => exact .bp h1
  | ep h1 h2 =>
    obtain ⟨u, hb, h2⟩ := h2
    exact .ep h1 ⟨u, hb, fun c hc => ⟨(cell?_eq (hsrc _ _ h1 _ hb)).trans (h2 c hc).1, (h2 c hc).2.frame (hsrc _ _ h1)⟩⟩
  | ov h1 h2 h3 h4 => exact .ov h1 h2 h3 h4
  | ow h1 h2 h3 h4 h5 h6 h7 => exact .ow h1 h2 h3 h4 h5 h6 h7
  | nv h1 h2 h3 h4 h5 h6 h7 => exact .nv h1 h2 h3 h4 h5 ((cell?_eq (hr _ _ _ h1 (ha _ _ _ h1 h5))).trans h6) h7
  | oep h1 h2 h3 h4 => exact .oep h1 h2 h3 h4
  | clo h1 _ ih => exact .clo h1 ih
  | clop => exact .clop
  | nilsl => exact .nilsl
  | ai h1 => exact .ai h1
  | an h1 h2 => exact .an h1 h2
  | top => exact .top
/-- More boxes and rows. -/
theorem SVR.more {cx : Cx} {w : World} {m m' : BoxM} {ρ ρ' : RowM} {env : List D} {sv : SV} {v : Value} (h : SVR cx w m ρ env sv v)
    (hm : ∀ i b, m i = some b → m' i = some b) (hr : ∀ i rc, ρ i = some rc → ρ' i = some rc) : SVR cx w m' ρ' env sv v := by
  have hsrc : ∀ src S, srcS cx ρ src = some S → srcS cx ρ' src = some S := by
    intro src S h
    cases src with
    | st gl => exact h
    | row id =>
      simp only [srcS, Option.map_eq_some_iff] at h ⊢
      obtain ⟨rc, h1, h2⟩ := h
      exact ⟨rc, hr _ _ h1, h2⟩
  induction h with
  | num h1 h2 => exact .num h1 h2
  | boo h1 => exact .boo h1
  | txt h1 h2 => exact .txt h1 h2
  | sl h1 h2 => exact .sl (hsrc _ _ h1) h2
  | agg h1 _ ih => exact .agg h1 ih
  | tup h1 _ ih => exact .tup h1 ih
  | bp h1 => exact .bp (hm _ _ h1)
  | ep h1 h2 => exact .ep (hsrc _ _ h1) h2
  | ov h1 h2 h3 h4 => exact .ov (hr _ _ h1) h2 h3 h4
  | ow h1 h2 h3 h4 h5 h6 h7 => exact .ow (hr _ _ h1) h2 h3 h4 h5 h6 h7
  | nv h1 h2 h3 h4 h5 h6 h7 => exact .nv (hr _ _ h1) h2 h3 h4 h5 h6 h7
  | oep h1 h2 h3 h4 => exact .oep (hr _ _ h1) h2 h3 h4
  | clo h1 _ ih => exact .clo h1 ih
  | clop => exact .clop
  | nilsl => exact .nilsl
  | ai h1 => exact .ai h1
  | an h1 h2 => exact .an h1 h2
  | top => exact .top
/-! ### expressions under more variables -/
theorem X.den_congr {ρ ρ' : List D} : ∀ (x : X), (∀ i, i < x.top → ρ.getD i default = ρ'.getD i default) → x.den ρ = x.den ρ'
  | .var i, h => h i (Nat.lt_succ_self i)
  | .int _, _ | .bool _, _ | .str _, _ | .nil, _ => rfl
  | .o1 o x, h => by simp only [X.den]; rw [X.den_congr x h]
  | .o2 o x y, h => by
    simp only [X.den]
    rw [X.den_congr x fun i hi => h i (Nat.lt_of_lt_of_le hi (Nat.le_max_left _ _)), X.den_congr y fun i hi => h i (Nat.lt_of_lt_of_le hi (Nat.le_max_right _ _))]
  | .o3 o x y z, h => by
    simp only [X.den]
    rw [X.den_congr x fun i hi => h i (Nat.lt_of_lt_of_le hi (Nat.le_max_left _ _)),
      X.den_congr y fun i hi => h i (Nat.lt_of_lt_of_le hi (Nat.le_trans (Nat.le_max_left _ _) (Nat.le_max_right _ _))),
      X.den_congr z fun i hi => h i (Nat.lt_of_lt_of_le hi (Nat.le_trans (Nat.le_max_right _ _) (Nat.le_max_right _ _)))]
end Go.Proofs.Ytfbahdalemajcaa.Eng

/-
  The engine, fifth part: single operations that change nothing that was there come to what the executor says of them.
-/
namespace Go.Proofs.Ytfbahdalemajcaa.Eng

theorem nble {a b : Nat} (h : Nat.ble a b = true) : a ≤ b := Nat.le_of_ble_eq_true h
theorem nbeq {a b : Nat} (h : Nat.beq a b = true) : a = b := Nat.eq_of_beq_eq_true h

/-! ### equality of kinds -/
mutual
theorem CK.beq_eq : ∀ (a b : CK), CK.beq a b = true → a = b
  | .int a, .int b, h => by simp only [CK.beq, beq_iff_eq] at h; rw [h]
  | .bool, .bool, _ => rfl
  | .str, .str, _ => rfl
  | .sl a, .sl b, h => by simp only [CK.beq] at h; rw [CK.beqs_eq a b h]
  | .int _, .bool, h | .int _, .str, h | .int _, .sl _, h | .bool, .int _, h | .bool, .str, h | .bool, .sl _, h
  | .str, .int _, h | .str, .bool, h | .str, .sl _, h | .sl _, .int _, h | .sl _, .bool, h | .sl _, .str, h => by simp [CK.beq] at h
theorem CK.beqs_eq : ∀ (a b : List CK), CK.beqs a b = true → a = b
  | [], [], _ => rfl
  | a :: l, b :: m, h => by
    simp only [CK.beqs, Bool.and_eq_true] at h
    rw [CK.beq_eq a b h.1, CK.beqs_eq l m h.2]
  | [], _ :: _, h | _ :: _, [], h => by simp [CK.beqs] at h
end

/-! ### conditions -/
theorem Conds.den_mem {env : List D} {x : X} {p : Bool} : ∀ {g : Conds}, g.den env → (x, p) ∈ g → (x.den env).toB = p
  | [], _, h => by cases h
  | (y, q) :: g, ⟨h1, h2⟩, h => by
    rcases List.mem_cons.1 h with h | h
    · cases h; exact h1
    · exact Conds.den_mem h2 h
theorem Conds.den_of {env : List D} : ∀ {g : Conds}, (∀ x p, (x, p) ∈ g → (x.den env).toB = p) → g.den env
  | [], _ => trivial
  | (y, q) :: g, h => ⟨h y q (by simp), Conds.den_of fun x p hm => h x p (List.mem_cons_of_mem _ hm)⟩
theorem subC_den {env : List D} {c g : Conds} (h : subC c g = true) (hg : g.den env) : c.den env := by
  refine Conds.den_of fun x p hm => ?_
  have h1 := List.all_eq_true.1 h (x, p) hm
  obtain ⟨q, hq, he⟩ := List.any_eq_true.1 h1
  simp only [Bool.and_eq_true, beq_iff_eq] at he
  obtain ⟨rfl, rfl⟩ := he
  exact Conds.den_mem hg hq
theorem Conds.den_append {env : List D} {a b : Conds} : (a ++ b).den env ↔ a.den env ∧ b.den env := by
  induction a with
  | nil => simp [Conds.den]
  | cons p a ih => obtain ⟨x, q⟩ := p; simp [Conds.den, ih, and_assoc]

/-! ### shapes -/
section
variable {cx : Cx} {w : World} {m : BoxM} {ρ : RowM} {env : List D} {v : Value}
theorem SVR.num_inv {k : IntKind} {x : X} (h : SVR cx w m ρ env (.num k x) v) : ∃ n, x.den env = .int n ∧ inK k n = true ∧ v = .int k n := by cases h; exact ⟨_, ‹_›, ‹_›, rfl⟩
theorem SVR.boo_inv {x : X} (h : SVR cx w m ρ env (.boo x) v) : ∃ b, x.den env = .bool b ∧ v = .bool b := by cases h; exact ⟨_, ‹_›, rfl⟩
theorem SVR.txt_inv {x : X} (h : SVR cx w m ρ env (.txt x) v) : ∃ s, x.den env = .str s ∧ v = .string s := by cases h; exact ⟨_, ‹_›, rfl⟩
theorem SVR.txt_bd {x : X} {s : ByteArray} (h : SVR cx w m ρ env (.txt x) v) (hs : v = .string s) : s.size ≤ maxS := by cases h; cases hs; assumption
theorem SVR.agg_inv {cs : List SV} (h : SVR cx w m ρ env (.agg cs) v) : ∃ vs, v = .agg vs.toArray ∧ SVRs cx w m ρ env cs vs := by cases h; exact ⟨_, rfl, ‹_›, ‹_›⟩
theorem SVR.tup_inv {cs : List SV} (h : SVR cx w m ρ env (.tup cs) v) : ∃ vs, v = .tuple vs.toArray ∧ SVRs cx w m ρ env cs vs := by cases h; exact ⟨_, rfl, ‹_›, ‹_›⟩
theorem SVR.bp_inv {id off : Nat} (h : SVR cx w m ρ env (.bp id off) v) : ∃ b, m id = some b ∧ v = .pointer (some ⟨b, off, none⟩) := by cases h; exact ⟨_, ‹_›, rfl⟩
end
theorem wrap_inK (k : IntKind) (n : Int) : inK k (k.wrap n) = true := by
  cases k <;> simp only [inK, IntKind.wrap, IntKind.min, IntKind.max, IntKind.signed, IntKind.bits, Bool.and_eq_true, decide_eq_true_eq, if_true, Bool.false_eq_true, if_false, Bool.true_and, Bool.false_and, Nat.reduceSub, Int.reducePow, Int.reduceNeg] <;> (try split) <;> simp_all <;> omega
theorem i64_inK {n : Int} (h0 : -9223372036854775808 ≤ n) (h1 : n ≤ 9223372036854775807) : inK .i64 n = true := by
  simp only [inK, IntKind.min, IntKind.max, IntKind.signed, IntKind.bits, Bool.and_eq_true, decide_eq_true_eq, if_true, Nat.reduceSub, Int.reducePow, Int.reduceNeg]; omega
theorem inK_i64 {n : Int} (h : inK .i64 n = true) : -9223372036854775808 ≤ n ∧ n ≤ 9223372036854775807 := by
  simp only [inK, IntKind.min, IntKind.max, IntKind.signed, IntKind.bits, Bool.and_eq_true, decide_eq_true_eq, if_true, Nat.reduceSub, Int.reducePow, Int.reduceNeg] at h; omega
theorem zero_inK (k : IntKind) : inK k 0 = true := by cases k <;> decide
theorem inK_between {k : IntKind} {a b n : Int} (ha : inK k a = true) (hb : inK k b = true) (h1 : a ≤ n) (h2 : n ≤ b) : inK k n = true := by
  simp only [inK, Bool.and_eq_true, decide_eq_true_eq] at *; omega

/-! ### what an operation comes to -/
def PureOk (P : Program) (cx : Cx) (w : World) (m : BoxM) (ρ : RowM) (env : List D) (a : Act) (o : Oper) (r : PR) : Prop :=
  (∀ x ∈ r.knows, (x.den env).toL.length ≤ maxL) ∧
  match r.box, r.row with
  | none, none => ∃ v, (execOp a.eval o).run P w = .ok (.value v) w ∧ SVR cx w m ρ env r.sv v
  | some cs, none => ∃ (vs : List Value) (T : TypeId), (execOp a.eval o).run P w = .ok (.value (.pointer (some ⟨w.heap.size, 0, none⟩))) (w.alloc (.cells vs.toArray T (0, 0))) ∧ SVRs cx w m ρ env cs vs
  | none, some row => ∃ (T : TypeId) (cs : Array Value) (xs : List D), (execOp a.eval o).run P w = .ok (.value (.slice (some ⟨w.heap.size, 0, none⟩) xs.length xs.length)) (w.alloc (.cells cs T (0, 0))) ∧
      row.c.den env = .lst xs ∧ xs.length * row.ks.length ≤ cs.size ∧ xs.length ≤ maxL ∧ (∀ i, i < xs.length → Shp row.ks.length (xs.getD i default)) ∧
      ∀ i c, i < xs.length → c < row.ks.length → Own w (row.ks.getD c default) ((xs.getD i default).fld c) (cs.getD (i * row.ks.length + c) undef) []
  | some _, some _ => False
/-- What is known where the operation stands. -/
structure Here (P : Program) (cx : Cx) (w : World) (m : BoxM) (ρ : RowM) (env : List D) (st : St) (g : Conds) (a : Act) (o : Oper) : Prop where
  g : g.den env
  get : ∀ x ∈ o.op.operands, ∀ g' sv, g'.den env → st.get g' x = some sv → SVR cx w m ρ env sv (a.eval x)
  heap : HeapR cx w m ρ env st.boxes st.rows
section
variable {P : Program} {cx : Cx} {w : World} {m : BoxM} {ρ : RowM} {env : List D} {st : St} {g : Conds} {a : Act} {o : Oper}
theorem PureOk.val {r : PR} {v : Value} (hb : r.box = none) (hr : r.row = none) (hk : ∀ x ∈ r.knows, (x.den env).toL.length ≤ maxL)
    (h : (execOp a.eval o).run P w = .ok (.value v) w) (hv : SVR cx w m ρ env r.sv v) : PureOk P cx w m ρ env a o r := by
  refine ⟨hk, ?_⟩
  rw [hb, hr]
  exact ⟨v, h, hv⟩
theorem St.get_eval {x : Operand} {sv : SV} (h : st.get g x = some sv) : ∃ c, st.eval x = some (c, sv) ∧ subC c g = true := by
  simp only [St.get] at h
  split at h
  · rename_i c sv' he
    split at h
    · rename_i hc; cases h; exact ⟨c, he, hc⟩
    · cases h
  · cases h
theorem box_get (H : HeapR cx w m ρ env st.boxes st.rows) (hg : g.den env) {id : Nat} {cells : List SV} {b : Nat} (h : st.box g id = some cells) (hm : m id = some b) : BoxR cx w m ρ env cells b := by
  simp only [St.box] at h
  split at h
  · rename_i c cs hl
    split at h
    · rename_i hc; cases h; exact H.boxes id c _ b hl hm (subC_den hc hg)
    · cases h
  · cases h
theorem row_get (H : HeapR cx w m ρ env st.boxes st.rows) (hg : g.den env) {id : Nat} {r : Row} {rc : RowC} (h : st.row g id = some r) (hm : ρ id = some rc) : RowR w env r rc := by
  simp only [St.row] at h
  split at h
  · rename_i c cs hl
    split at h
    · rename_i hc; cases h; exact H.rows id c _ rc hl hm (subC_den hc hg)
    · cases h
  · cases h
theorem run_sizeOf' {t : TypeId} {n : Nat} (h : sizeT P t = some n) (w : World) : (sizeOf t).run P w = .ok n w := by
  simp only [sizeT, Option.map_eq_some_iff] at h
  obtain ⟨i, hi, rfl⟩ := h
  simp [sizeOf, typeInfo, hi]
theorem run_isAgg' {t : TypeId} {b : Bool} (h : aggT P t = some b) (w : World) : (isAgg t).run P w = .ok b w := by
  simp only [aggT, Option.map_eq_some_iff] at h
  obtain ⟨d, hd, rfl⟩ := h
  unfold isAgg
  rw [Sem.run_bind, run_underlying hd w]
  cases d <;> rfl
theorem addr_add (b o i : Nat) : (⟨b, o, none⟩ : Addr).add i = ⟨b, o + i, none⟩ := by
  unfold Addr.add; split <;> simp_all
theorem range_map_take {vs : List Value} {off n : Nat} (h : off + n ≤ vs.length) : (List.range n).map (fun j => vs.getD (off + j) undef) = (vs.drop off).take n := by
  apply List.ext_getElem
  · simp; omega
  · intro i h1 h2
    simp at h1 h2
    simp [List.getD_eq_getElem?_getD, List.getElem?_eq_getElem (show off + i < vs.length by omega)]
theorem run_loadVar_agg {t : TypeId} {n : Nat} (ha : aggT P t = some true) (hn : sizeT P t = some n) (b o : Nat) (f : Nat → Value)
    (h : ∀ j, j < n → w.cell? ⟨b, o + j, none⟩ = some (f j)) : (loadVar t ⟨b, o, none⟩).run P w = .ok (.agg ((List.range n).map f).toArray) w := by
  have hl := run_loadCells (P := P) w ⟨b, o, none⟩ n f (fun j hj => by rw [addr_add]; exact h j hj)
  simp [loadVar, run_isAgg' ha, run_sizeOf' hn, hl]
theorem run_loadVar_one {t : TypeId} (ha : aggT P t = some false) (b o : Nat) (u : Value) (h : w.cell? ⟨b, o, none⟩ = some u) : (loadVar t ⟨b, o, none⟩).run P w = .ok u w := by
  simp [loadVar, run_isAgg' ha, h]
theorem getD_drop_take {α : Type} (l : List α) (off n i : Nat) (d : α) (h : i < n) : ((l.drop off).take n).getD i d = l.getD (off + i) d := by
  simp [List.getD_eq_getElem?_getD, h, List.getElem?_drop]
theorem SVRs.dropTake {cs : List SV} {vs : List Value} {off n : Nat} (h : SVRs cx w m ρ env cs vs) (hn : off + n ≤ cs.length) :
    SVRs cx w m ρ env ((cs.drop off).take n) ((vs.drop off).take n) := by
  refine ⟨by simp [h.1], fun i hi => ?_⟩
  have hi' : i < n := by simp at hi; omega
  rw [getD_drop_take _ _ _ _ _ hi', getD_drop_take _ _ _ _ _ hi']
  exact h.2 _ (by omega)
theorem SVRs.agg {cs : List SV} {vs : List Value} (h : SVRs cx w m ρ env cs vs) : SVR cx w m ρ env (.agg cs) (.agg vs.toArray) := .agg h.1 h.2
theorem cell_of_cells {b j : Nat} {vs : List Value} {T : TypeId} {fz : Nat × Nat} (h : w.heap[b]? = some (.cells vs.toArray T fz)) (hj : j < vs.length) : w.cell? ⟨b, j, none⟩ = some (vs.getD j undef) := by
  simp [World.cell?, h, List.getD_eq_getElem?_getD, List.getElem?_eq_getElem hj]
/-- A cell of a read element as a value. -/
theorem ckSV_ok {src : Src} {S : Nat → Prop} (hs : srcS cx ρ src = some S) {ck : CK} {x : X} {v : Value}
    (h : Snap w S ck (x.den env) v) : SVR cx w m ρ env (ckSV src x ck) v := by
  cases ck with
  | sl ks => exact .sl hs h
  | int k =>
    generalize hd : x.den env = d at h
    cases h with
    | flat h => cases h with | int h => exact .num hd h
  | bool =>
    generalize hd : x.den env = d at h
    cases h with
    | flat h => cases h; exact .boo hd
  | str =>
    generalize hd : x.den env = d at h
    cases h with
    | flat h => cases h with | str h => exact .txt hd h
theorem length_cksSV (src : Src) (e : X) : ∀ (off : Nat) (ks : List CK), (cksSV src e off ks).length = ks.length
  | _, [] => rfl
  | off, k :: ks => by simp [cksSV, length_cksSV src e (off + 1) ks]
theorem getD_cksSV (src : Src) (e : X) : ∀ (off : Nat) (ks : List CK) (i : Nat), i < ks.length → (cksSV src e off ks).getD i default = ckSV src (X.fld (off + i) e) (ks.getD i default)
  | _, [], i, h => by simp at h
  | off, k :: ks, 0, _ => rfl
  | off, k :: ks, i + 1, h => by
    have := getD_cksSV src e (off + 1) ks i (by simpa using h)
    simp only [cksSV, List.getD_cons_succ]
    rw [this, show off + 1 + i = off + (i + 1) by omega]
theorem length_ownsSV (id : Nat) (i e : X) : ∀ (off : Nat) (ks : List CK), (ownsSV id i e off ks).length = ks.length
  | _, [] => rfl
  | off, k :: ks => by simp [ownsSV, length_ownsSV id i e (off + 1) ks]
theorem getD_ownsSV (id : Nat) (i e : X) : ∀ (off : Nat) (ks : List CK) (j : Nat), j < ks.length → (ownsSV id i e off ks).getD j default = ownSV id i (off + j) e (ks.getD j default)
  | _, [], j, h => by simp at h
  | off, k :: ks, 0, _ => rfl
  | off, k :: ks, j + 1, h => by
    have := getD_ownsSV id i e (off + 1) ks j (by simpa using h)
    simp only [ownsSV, List.getD_cons_succ]
    rw [this, show off + 1 + j = off + (j + 1) by omega]
/-! ### loads -/
theorem load_ep {t : TypeId} {n : Nat} {ag : Bool} (ha : aggT P t = some ag) (hn : sizeT P t = some n) {src : Src} {S : Nat → Prop} (hs : srcS cx ρ src = some S) {ks : List CK} {e : X} {off b o : Nat} {sv : SV}
    (hl : loadRow ag n src ks e off = some sv) (he : ElemAt w S ks (e.den env) b o) : ∃ v, (loadVar t ⟨b, o + off, none⟩).run P w = .ok v w ∧ SVR cx w m ρ env sv v := by
  obtain ⟨u, hb, hc⟩ := he
  cases ag with
  | true =>
    simp only [loadRow] at hl
    split at hl
    · rename_i hle
      cases hl
      have hle := nble hle
      refine ⟨_, run_loadVar_agg ha hn b (o + off) (fun j => u (off + j)) (fun j hj => by rw [Nat.add_assoc]; exact (hc (off + j) (by omega)).1), ?_⟩
      refine .agg (by simp [length_cksSV]; omega) fun i hi => ?_
      have hi' : i < ((ks.drop off).take n).length := by simpa [length_cksSV] using hi
      have hi2 : i < n := by simp at hi'; omega
      rw [getD_cksSV _ _ _ _ _ hi', getD_drop_take _ _ _ _ _ hi2]
      have hgd : ((List.range n).map fun j => u (off + j)).getD i undef = u (off + i) := by simp [List.getD_eq_getElem?_getD, hi2]
      rw [hgd]
      exact ckSV_ok hs (hc (off + i) (by omega)).2
    · cases hl
  | false =>
    simp only [loadRow] at hl
    split at hl
    · rename_i k hk
      cases hl
      obtain ⟨hlt, rfl⟩ := List.getElem?_eq_some_iff.1 hk
      refine ⟨u off, run_loadVar_one ha b (o + off) _ (hc off hlt).1, ?_⟩
      have := (hc off hlt).2
      rw [List.getD_eq_getElem?_getD, hk] at this
      exact ckSV_ok hs this
    · cases hl
theorem Own.flat_inv {w : World} {ck : CK} {d : D} {v : Value} {fp : List Nat} (h : Own w ck d v fp) (hf : ck.flat = true) : Flat ck d v ∧ fp = [] := by
  cases h with
  | flat h => exact ⟨h, rfl⟩
  | nil => simp [CK.flat] at hf
  | sl => simp [CK.flat] at hf
theorem Own.sl_cells {w : World} {ks : List CK} {d : D} {v : Value} {fp : List Nat} (h : Own w (.sl ks) d v fp) : ∃ a n cap, v = .slice a n cap := by
  cases h with
  | flat h => cases h
  | nil => exact ⟨_, _, _, rfl⟩
  | sl => exact ⟨_, _, _, rfl⟩
/-- A cell of an owned row's element. -/
theorem ownSV_ok {id : Nat} {rc : RowC} {r : Row} (hr : RowR w env r rc) (hm : ρ id = some rc) {i c : X} {j b : Nat} (hc : r.c = c) (hi : i.den env = .int j) (hj : j < rc.xs.length) (hb : rc.addr = some ⟨b, 0, none⟩)
    {off : Nat} (ho : off < r.ks.length) : ∃ u, w.cell? ⟨b, j * rc.k + off, none⟩ = some u ∧ SVR cx w m ρ env (ownSV id i off (.o2 .idx c i) (r.ks.getD off default)) u := by
  obtain ⟨xs, addr, cap, k, fp⟩ := rc
  obtain ⟨h1, h2, h3⟩ := hr
  simp only at hb h1 h2 h3 hj
  subst hb hc
  cases h3 with
  | flat h => cases h
  | sl b' cap cs T xs fps hh hsz hcap hmax hsh hown =>
    have h4 := idx_lt hj ho
    have h5 := Nat.mul_le_mul_right r.ks.length hcap
    have hcell : w.cell? ⟨b, j * k + off, none⟩ = some (cs.getD (j * r.ks.length + off) undef) := by
      rw [h2]
      simp only [World.cell?, hh, Option.isSome_none, Bool.false_eq_true, if_false]
      rw [Array.getD_eq_getD_getElem?, Array.getElem?_eq_getElem (by omega)]
      rfl
    refine ⟨_, hcell, ?_⟩
    have ho' := hown j off hj ho
    have hd : (X.o2 .idx r.c i).den env = xs.getD j default := by
      simp [X.den, O2.den, h1, hi, D.elem, D.toL, D.toI]
    generalize hk : r.ks.getD off default = k at ho'
    cases k with
    | sl ks => exact .nv hm hi hj (by simp only [h2]; exact ho) rfl hcell ho'.sl_cells
    | int k =>
      simp only [ownSV]
      refine ckSV_ok (S := cx.S) rfl ?_
      change Snap w cx.S _ (D.fld ((X.o2 .idx r.c i).den env) off) _
      rw [hd]
      exact .flat (ho'.flat_inv rfl).1
    | bool =>
      simp only [ownSV]
      refine ckSV_ok (S := cx.S) rfl ?_
      change Snap w cx.S _ (D.fld ((X.o2 .idx r.c i).den env) off) _
      rw [hd]
      exact .flat (ho'.flat_inv rfl).1
    | str =>
      simp only [ownSV]
      refine ckSV_ok (S := cx.S) rfl ?_
      change Snap w cx.S _ (D.fld ((X.o2 .idx r.c i).den env) off) _
      rw [hd]
      exact .flat (ho'.flat_inv rfl).1
theorem load_oep {t : TypeId} {n : Nat} {ag : Bool} (ha : aggT P t = some ag) (hn : sizeT P t = some n) {id : Nat} {rc : RowC} {r : Row} (hr : RowR w env r rc) (hm : ρ id = some rc) {i : X} {j b off : Nat} {sv : SV}
    (hi : i.den env = .int j) (hj : j < rc.xs.length) (hb : rc.addr = some ⟨b, 0, none⟩) (hl : loadOwn ag n id r.ks r.c i off = some sv) :
    ∃ v, (loadVar t ⟨b, j * rc.k + off, none⟩).run P w = .ok v w ∧ SVR cx w m ρ env sv v := by
  have key := fun (off : Nat) (ho : off < r.ks.length) => ownSV_ok (cx := cx) (m := m) hr hm rfl hi hj hb ho
  cases ag with
  | true =>
    simp only [loadOwn] at hl
    split at hl
    · rename_i hle
      cases hl
      have hle := nble hle
      have hu : ∀ q, ∃ u, q < r.ks.length → w.cell? ⟨b, j * rc.k + q, none⟩ = some u ∧ SVR cx w m ρ env (ownSV id i q (.o2 .idx r.c i) (r.ks.getD q default)) u := by
        intro q
        by_cases hq : q < r.ks.length
        · obtain ⟨u, h⟩ := key q hq; exact ⟨u, fun _ => h⟩
        · exact ⟨undef, fun h => absurd h hq⟩
      obtain ⟨u, hu⟩ := Classical.skolem.1 hu
      refine ⟨_, run_loadVar_agg ha hn b (j * rc.k + off) (fun q => u (off + q)) (fun q hq => by rw [Nat.add_assoc]; exact (hu (off + q) (by omega)).1), ?_⟩
      refine .agg (by simp [length_ownsSV]; omega) fun q hq => ?_
      have hq' : q < ((r.ks.drop off).take n).length := by simpa [length_ownsSV] using hq
      have hq2 : q < n := by simp at hq'; omega
      rw [getD_ownsSV _ _ _ _ _ _ hq', getD_drop_take _ _ _ _ _ hq2]
      have hgd : ((List.range n).map fun q => u (off + q)).getD q undef = u (off + q) := by simp [List.getD_eq_getElem?_getD, hq2]
      rw [hgd]
      exact (hu (off + q) (by omega)).2
    · cases hl
  | false =>
    simp only [loadOwn] at hl
    split at hl
    · rename_i k hk
      cases hl
      obtain ⟨hlt, rfl⟩ := List.getElem?_eq_some_iff.1 hk
      obtain ⟨u, h1, h2⟩ := key off hlt
      refine ⟨u, run_loadVar_one ha b _ _ h1, ?_⟩
      rw [List.getD_eq_getElem?_getD, hk] at h2
      exact h2
    · cases hl
theorem loadSV_ok (H : HeapR cx w m ρ env st.boxes st.rows) (hg : g.den env) {t : TypeId} {av sv : SV} {v : Value} (hv : SVR cx w m ρ env av v) (hl : loadSV P st g t av = some sv) :
    ∃ u, (Instr.loadAt t v).run P w = .ok u w ∧ SVR cx w m ρ env sv u := by
  unfold loadSV at hl
  split at hl
  · cases hl
  rename_i n hn
  split at hl
  · -- a box
    rename_i id off
    obtain ⟨b, hm, rfl⟩ := hv.bp_inv
    split at hl
    · rename_i cells hc
      obtain ⟨vs, T, hh, hsv⟩ := box_get H hg hc hm
      split at hl
      · rename_i ha
        split at hl
        · rename_i hle
          cases hl
          have hle := nble hle
          refine ⟨.agg ((vs.drop off).take n).toArray, ?_, (hsv.dropTake hle).agg⟩
          have := run_loadVar_agg (w := w) ha hn b off (fun j => vs.getD (off + j) undef) (fun j hj => cell_of_cells hh (by rw [hsv.1]; omega))
          rw [range_map_take (by rw [hsv.1]; exact hle)] at this
          simpa [Instr.loadAt, Instr.sureAddr] using this
        · cases hl
      · rename_i ha
        obtain ⟨hlt, rfl⟩ := List.getElem?_eq_some_iff.1 hl
        refine ⟨vs.getD off undef, ?_, ?_⟩
        · have := run_loadVar_one (w := w) (P := P) ha b off _ (cell_of_cells hh (by rw [hsv.1]; exact hlt))
          simpa [Instr.loadAt, Instr.sureAddr] using this
        · have := hsv.2 off hlt
          rw [List.getD_eq_getElem?_getD, hl] at this
          exact this
      · cases hl
    · cases hl
  · -- an element that is read
    rename_i src ks e off
    split at hl
    · rename_i ag ha
      split at hl
      · cases hv with
        | ep h1 h2 =>
          obtain ⟨u, hu, hs⟩ := load_ep (m := m) ha hn h1 hl h2
          exact ⟨u, by simpa [Instr.loadAt, Instr.sureAddr] using hu, hs⟩
      · cases hl
    · cases hl
  · rename_i id i off
    split at hl
    · rename_i r ag hr ha
      cases hv with
      | oep h1 h2 h3 h4 =>
        obtain ⟨u, hu, hs⟩ := load_oep (cx := cx) (m := m) ha hn (row_get H hg hr h1) h1 h2 h3 h4 hl
        exact ⟨u, by simpa [Instr.loadAt, Instr.sureAddr] using hu, hs⟩
    · cases hl
  · cases hl
end
end Go.Proofs.Ytfbahdalemajcaa.Eng

/-
  The engine, sixth part: the operations that change nothing that was there, one by one.
-/
namespace Go.Proofs.Ytfbahdalemajcaa.Eng
section
variable {P : Program} {cx : Cx} {w : World} {m : BoxM} {ρ : RowM} {env : List D} {st : St} {g : Conds} {a : Act} {o : Oper}
theorem no_knows : ∀ x ∈ ([] : List X), (x.den env).toL.length ≤ maxL := by simp

theorem mergeSV_ok {c : X} {bc : Bool} (hc : c.den env = .bool bc) {sa sb sv : SV} {va vb : Value} (h : mergeSV c sa sb = some sv) (ha : bc = true → SVR cx w m ρ env sa va) (hb : bc = false → SVR cx w m ρ env sb vb)
    (hta : ∀ x, sa = .boo x → bc = true → True) : SVR cx w m ρ env sv (if bc then va else vb) := by
  unfold mergeSV at h
  split at h
  · rename_i x y
    cases h
    have key : ∀ d : Bool, (bc = true → x.den env = .bool d) → (bc = false → y.den env = .bool d) → (X.mkIte c x y).den env = .bool d := by
      intro d h1 h2
      cases bc with
      | true =>
        have h1 := h1 rfl
        unfold X.mkIte
        split
        · simp [X.den, O2.den, hc, h1, D.toB]
        · split
          · simp only [X.den] at h1
            cases h1
            simp [X.den, O2.den, hc, D.toB]
          · simp [X.den, O3.den, hc, h1, D.toB]
      | false =>
        have h2 := h2 rfl
        unfold X.mkIte
        split
        · simp only [X.den] at h2
          cases h2
          simp [X.den, O2.den, hc, D.toB]
        · split
          · simp [X.den, O2.den, hc, h2, D.toB]
          · simp [X.den, O3.den, hc, h2, D.toB]
    cases bc with
    | true =>
      obtain ⟨d, h1, h2⟩ := (ha rfl).boo_inv
      simp only [if_true, h2]
      exact .boo (key d (fun _ => h1) (fun h => by cases h))
    | false =>
      obtain ⟨d, h1, h2⟩ := (hb rfl).boo_inv
      simp only [Bool.false_eq_true, if_false, h2]
      exact .boo (key d (fun h => by cases h) (fun _ => h1))
  · rename_i k x k' y
    split at h
    · rename_i hk
      simp only [beq_iff_eq] at hk
      subst hk
      cases h
      cases bc with
      | true =>
        obtain ⟨n, h1, h2, h3⟩ := (ha rfl).num_inv
        simp only [if_true, h3]
        exact .num (by simp [X.den, O3.den, hc, D.toB, h1]) h2
      | false =>
        obtain ⟨n, h1, h2, h3⟩ := (hb rfl).num_inv
        simp only [Bool.false_eq_true, if_false, h3]
        exact .num (by simp [X.den, O3.den, hc, D.toB, h1]) h2
    · cases h
  · rename_i x y
    cases h
    cases bc with
    | true =>
      obtain ⟨s, h1, h2⟩ := (ha rfl).txt_inv
      have hb' := (ha rfl).txt_bd h2
      simp only [if_true, h2]
      exact .txt (by simp [X.den, O3.den, hc, D.toB, h1]) hb'
    | false =>
      obtain ⟨s, h1, h2⟩ := (hb rfl).txt_inv
      have hb' := (hb rfl).txt_bd h2
      simp only [Bool.false_eq_true, if_false, h2]
      exact .txt (by simp [X.den, O3.den, hc, D.toB, h1]) hb'
  · cases h

theorem constCell_ok {v : Value} : SVR cx w m ρ env (constCell v) v := by
  unfold constCell
  split
  · split
    · rename_i h; exact .num rfl h
    · exact .top
  · exact .boo rfl
  · split
    · rename_i s h; exact .txt (by simp [X.den]) (nble h)
    · exact .top
  · exact .nilsl
  · exact .top
theorem constSV_ok {v : Value} {sv : SV} (h : constSV v = some sv) : SVR cx w m ρ env sv v := by
  unfold constSV at h
  split at h
  · rename_i cs
    cases h
    have := SVR.agg (cx := cx) (w := w) (m := m) (ρ := ρ) (env := env) (cs := cs.toList.map constCell) (vs := cs.toList) (by simp) (fun i hi => by
        have hi' : i < cs.toList.length := by simpa using hi
        simp only [List.getD_eq_getElem?_getD, List.getElem?_map, List.getElem?_eq_getElem hi', Option.map_some, Option.getD_some]
        exact constCell_ok)
    rw [Array.toArray_toList] at this
    exact this
  · cases h
  · cases h; exact constCell_ok
theorem SVRs.one {sv : SV} {v : Value} (h : SVR cx w m ρ env sv v) : SVRs cx w m ρ env [sv] [v] :=
  ⟨rfl, fun i hi => by
    have : i = 0 := by simpa using hi
    subst this
    exact h⟩
/-- A value that fills memory, cell by cell. -/
theorem SVR.cells_ok {sv : SV} {v : Value} (h : SVR cx w m ρ env sv v) (hn : sv.cells ≠ []) : SVRs cx w m ρ env sv.cells v.cells.toList := by
  cases h with
  | agg h1 h2 => exact ⟨by simpa [SV.cells, Value.cells] using h1, fun i hi => by simpa [SV.cells, Value.cells] using h2 i hi⟩
  | tup => exact absurd rfl hn
  | top => exact absurd rfl hn
  | clop => exact absurd rfl hn
  | num h1 h2 => exact .one (.num h1 h2)
  | boo h1 => exact .one (.boo h1)
  | txt h1 h2 => exact .one (.txt h1 h2)
  | sl h1 h2 =>
    have hv : v.cells = #[v] := by
      generalize X.den env _ = d at h2
      cases h2 with | flat h => cases h | nil => rfl | sl => rfl
    rw [hv]
    exact .one (.sl h1 h2)
  | bp h1 => exact .one (.bp h1)
  | ep h1 h2 => exact .one (.ep h1 h2)
  | ov h1 h2 h3 h4 => exact .one (.ov h1 h2 h3 h4)
  | ow h1 h2 h3 h4 h5 h6 h7 => exact .one (.ow h1 h2 h3 h4 h5 h6 h7)
  | nv h1 h2 h3 h4 h5 h6 h7 =>
    obtain ⟨_, _, _, hv⟩ := h7
    subst hv
    exact .one (.nv h1 h2 h3 h4 h5 h6 ⟨_, _, _, rfl⟩)
  | oep h1 h2 h3 h4 => exact .one (.oep h1 h2 h3 h4)
  | clo h1 h2 => exact .one (.clo h1 h2)
  | nilsl => exact .one .nilsl
  | ai h1 => exact .one (.ai h1)
  | an h1 h2 => exact .one (.an h1 h2)

theorem get_ok (Hh : Here P cx w m ρ env st g a o) {x : Operand} {sv : SV} (hx : x ∈ o.op.operands) (h : st.get g x = some sv) : SVR cx w m ρ env sv (a.eval x) := Hh.get x hx g sv Hh.g h

theorem tmod_le {n : Int} (h : 0 ≤ n) (q : Int) : n.tmod q ≤ n := by
  obtain ⟨a, rfl⟩ := Int.eq_ofNat_of_zero_le h
  cases q with
  | ofNat b => exact Int.ofNat_le.2 (Nat.mod_le a b)
  | negSucc b => exact Int.ofNat_le.2 (Nat.mod_le a (b + 1))
theorem intOp_ok {op : BinOp} {k : IntKind} {x y : X} {n q : Int} {r : PR} (h : intOp op k x y = some r) (hx : x.den env = .int n) (hy : y.den env = .int q) (kx : inK k n = true) (_ : inK k q = true)
    (hn : ∀ z ∈ r.needs, (z.den env).toB = true) : r.box = none ∧ r.row = none ∧ r.knows = [] ∧ ∃ v, (binOp op 0 (.int k n) (.int k q)).run P w = .ok v w ∧ SVR cx w m ρ env r.sv v := by
  unfold intOp at h
  split at h <;> (first | (cases h; done) | skip) <;> cases h <;> refine ⟨rfl, rfl, rfl, ?_⟩
  · exact ⟨.int k (k.wrap (n + q)), by simp [binOp, Op.intArith], .num (by simp [X.den, O2.den, hx, hy, D.toI]) (wrap_inK _ _)⟩
  · exact ⟨.int k (k.wrap (n - q)), by simp [binOp, Op.intArith], .num (by simp [X.den, O2.den, hx, hy, D.toI]) (wrap_inK _ _)⟩
  · exact ⟨.int k (k.wrap (n * q)), by simp [binOp, Op.intArith], .num (by simp [X.den, O2.den, hx, hy, D.toI]) (wrap_inK _ _)⟩
  · have hq : q ≠ 0 := by
      have := hn _ (List.mem_singleton.2 rfl)
      simpa [X.den, O2.den, hy, D.toI, D.toB] using this
    exact ⟨.int k (k.wrap (n.tdiv q)), by simp [binOp, Op.intDiv, hq], .num (by simp [X.den, O2.den, hx, hy, D.toI]) (wrap_inK _ _)⟩
  · have hq : q ≠ 0 := by
      have := hn _ (List.mem_singleton.2 rfl)
      simpa [X.den, O2.den, hy, D.toI, D.toB] using this
    refine ⟨.int k (n.tmod q), by simp [binOp, Op.intDiv, hq], .num (by simp [X.den, O2.den, hx, hy, D.toI]) ?_⟩
    rcases Int.lt_or_le n 0 with h0 | h0
    · have h1 := Int.tmod_nonneg q (a := -n) (by omega)
      rw [Int.neg_tmod] at h1
      have h2 : (-n).tmod q ≤ -n := tmod_le (by omega) q
      rw [Int.neg_tmod] at h2
      exact inK_between kx (zero_inK k) (by omega) (by omega)
    · have h1 := Int.tmod_nonneg q h0
      have h2 : n.tmod q ≤ n := tmod_le h0 q
      exact inK_between (zero_inK k) kx h1 h2
  · exact ⟨.int k (bits2 k (· &&& ·) n q), by simp [binOp, Op.intBits, bits2], .num (by simp [X.den, O2.den, hx, hy, D.toI]) (wrap_inK _ _)⟩
  · exact ⟨.int k (bits2 k (· ||| ·) n q), by simp [binOp, Op.intBits, bits2], .num (by simp [X.den, O2.den, hx, hy, D.toI]) (wrap_inK _ _)⟩
  · exact ⟨.int k (bits2 k (· ^^^ ·) n q), by simp [binOp, Op.intBits, bits2], .num (by simp [X.den, O2.den, hx, hy, D.toI]) (wrap_inK _ _)⟩
  · exact ⟨.bool (n == q), by simp [binOp, Op.intCmp], .boo (by simp [X.den, O2.den, hx, hy, D.toI])⟩
  · exact ⟨.bool (n != q), by simp [binOp, Op.intCmp], .boo (by simp [X.den, O2.den, hx, hy, D.toI])⟩
  · exact ⟨.bool (decide (n < q)), by simp [binOp, Op.intCmp], .boo (by simp [X.den, O2.den, hx, hy, D.toI])⟩
  · exact ⟨.bool (decide (n ≤ q)), by simp [binOp, Op.intCmp], .boo (by simp [X.den, O2.den, hx, hy, D.toI])⟩
  · exact ⟨.bool (decide (n > q)), by simp [binOp, Op.intCmp], .boo (by simp [X.den, O2.den, hx, hy, D.toI])⟩
  · exact ⟨.bool (decide (n ≥ q)), by simp [binOp, Op.intCmp], .boo (by simp [X.den, O2.den, hx, hy, D.toI])⟩
end
end Go.Proofs.Ytfbahdalemajcaa.Eng

/-
  The engine, seventh part: every operation that changes nothing that was there comes to what the executor says.
-/
namespace Go.Proofs.Ytfbahdalemajcaa.Eng
section
variable {P : Program} {cx : Cx} {w : World} {m : BoxM} {ρ : RowM} {env : List D} {st : St} {g : Conds} {a : Act} {o : Oper}

theorem ok_move {x : Operand} {sv : SV} (Hh : Here P cx w m ρ env st g a o) (ho : o.op = .move x ∨ o.op = .assign x) (h : st.get g x = some sv) : PureOk P cx w m ρ env a o { sv } := by
  refine .val rfl rfl no_knows (v := a.eval x) ?_ (get_ok Hh (by rcases ho with ho | ho <;> simp [ho, Op.operands]) h)
  rcases ho with ho | ho <;> simp [execOp, ho]
theorem ok_pick {c x y : Operand} {xc : X} {sx sy sv : SV} (Hh : Here P cx w m ρ env st g a o) (ho : o.op = .pick c x y) (hc : st.get g c = some (.boo xc)) (hx : st.get (g ++ [(xc, true)]) x = some sx)
    (hy : st.get (g ++ [(xc, false)]) y = some sy) (hm : mergeSV xc sx sy = some sv) : PureOk P cx w m ρ env a o { sv } := by
  obtain ⟨bc, h1, h2⟩ := (get_ok Hh (by simp [ho, Op.operands]) hc).boo_inv
  have h3 := mergeSV_ok (cx := cx) (w := w) (m := m) (ρ := ρ) h1 hm (va := a.eval x) (vb := a.eval y)
    (fun hb => Hh.get x (by simp [ho, Op.operands]) _ _ (Conds.den_append.2 ⟨Hh.g, by simp [Conds.den, h1, D.toB, hb]⟩) hx)
    (fun hb => Hh.get y (by simp [ho, Op.operands]) _ _ (Conds.den_append.2 ⟨Hh.g, by simp [Conds.den, h1, D.toB, hb]⟩) hy) (fun _ _ _ => trivial)
  refine .val rfl rfl no_knows ?_ h3
  simp [execOp, ho, h2, asBool]
theorem zero_ok {t : TypeId} {cs : List SV} (h : zeroCells' P t = some cs) : ∃ v, (zeroValue t).run P w = .ok v w ∧ SVRs cx w m ρ env cs v.cells.toList ∧ sizeT P t = some v.cells.size ∧ cs ≠ [] := by
  unfold zeroCells' at h
  split at h
  · rename_i i hi
    split at h
    · rename_i v hz
      split at h
      · rename_i sv hsv
        split at h
        · rename_i hl
          cases h
          simp only [Bool.and_eq_true] at hl
          have e1 := nbeq hl.1
          have e2 := nble hl.2
          have hne : sv.cells ≠ [] := fun e => by rw [e] at e1; simp at e1; omega
          have hs := (constSV_ok (cx := cx) (w := w) (m := m) (ρ := ρ) (env := env) hsv).cells_ok hne
          refine ⟨v, by simp [zeroValue, typeInfo, hi, hz], hs, ?_, hne⟩
          have := hs.1
          simp [sizeT, hi, ← e1, ← this]
        · cases h
      · cases h
    · cases h
  · cases h
theorem ok_alloc {t : TypeId} {cs : List SV} (_ : Here P cx w m ρ env st g a o) (ho : o.op = .alloc t) (h : zeroCells' P t = some cs) : PureOk P cx w m ρ env a o { sv := .top, box := some cs } := by
  obtain ⟨v, h1, h2, _⟩ := zero_ok (cx := cx) (w := w) (m := m) (ρ := ρ) (env := env) h
  refine ⟨no_knows, v.cells.toList, t, ?_, h2⟩
  simp [execOp, ho, Instr.alloc, h1, newVar, newRow]
theorem ok_box {t : TypeId} {x : Operand} {sv : SV} (Hh : Here P cx w m ρ env st g a o) (ho : o.op = .box t x) (h : st.get g x = some sv) (hn : sv.cells ≠ []) : PureOk P cx w m ρ env a o { sv := .top, box := some sv.cells } := by
  refine ⟨no_knows, (a.eval x).cells.toList, t, ?_, (get_ok Hh (by simp [ho, Op.operands]) h).cells_ok hn⟩
  simp [execOp, ho, Instr.box, newVar, newRow]
theorem ok_load {t : TypeId} {x : Operand} {av sv : SV} (Hh : Here P cx w m ρ env st g a o) (ho : o.op = .load t x) (h : st.get g x = some av) (hl : loadSV P st g t av = some sv) : PureOk P cx w m ρ env a o { sv } := by
  obtain ⟨u, h1, h2⟩ := loadSV_ok Hh.heap Hh.g (get_ok Hh (by simp [ho, Op.operands]) h) hl
  refine .val rfl rfl no_knows (v := u) ?_ h2
  simp [execOp, ho, h1]
theorem fieldOf_ok {s : TypeId} {f n : Nat} {fd : Field} (h : fieldOf P s f = some (fd, n)) : ∃ fs, P.underlying s = some (.struct fs) ∧ fs[f]? = some fd ∧ sizeT P fd.type = some n ∧ 1 ≤ n := by
  unfold fieldOf at h
  split at h
  · rename_i fs hu
    split at h
    · rename_i fd' hf
      split at h
      · rename_i k hk
        split at h
        · rename_i hle; cases h; exact ⟨fs, hu, hf, hk, nble hle⟩
        · cases h
      · cases h
    · cases h
  · cases h
theorem run_fieldAt {s : TypeId} {f n : Nat} {fd : Field} (h : fieldOf P s f = some (fd, n)) (b q : Nat) : (Instr.fieldAt s (.pointer (some ⟨b, q, none⟩)) f).run P w = .ok (.pointer (some ⟨b, q + fd.offset, none⟩)) w := by
  obtain ⟨fs, h1, h2, h3, h4⟩ := fieldOf_ok h
  have hn : n ≠ 0 := by omega
  simp [Instr.fieldAt, run_underlying h1, h2, Instr.sureAddr, fieldPlace, run_sizeOf' h3, hn, addr_add]
theorem ok_fieldAddr {s : TypeId} {x : Operand} {f n : Nat} {fd : Field} {sv sv' : SV} (Hh : Here P cx w m ρ env st g a o) (ho : o.op = .fieldAddr s x f) (hf : fieldOf P s f = some (fd, n)) (h : st.get g x = some sv)
    (hs : (∃ id off, sv = .bp id off ∧ sv' = .bp id (off + fd.offset)) ∨ (∃ src ks e off, sv = .ep src ks e off ∧ sv' = .ep src ks e (off + fd.offset)) ∨ (∃ id i off, sv = .oep id i off ∧ sv' = .oep id i (off + fd.offset))) :
    PureOk P cx w m ρ env a o { sv := sv' } := by
  have hv := get_ok Hh (by simp [ho, Op.operands]) h
  rcases hs with ⟨id, off, rfl, rfl⟩ | ⟨src, ks, e, off, rfl, rfl⟩ | ⟨id, i, off, rfl, rfl⟩
  · obtain ⟨b, h1, h2⟩ := hv.bp_inv
    refine .val rfl rfl no_knows (v := .pointer (some ⟨b, off + fd.offset, none⟩)) ?_ (.bp h1)
    simp [execOp, ho, h2, run_fieldAt hf]
  · generalize he : a.eval x = v at hv
    cases hv with
    | ep h1 h2 =>
      rename_i b q S
      refine .val rfl rfl no_knows (v := .pointer (some ⟨b, q + (off + fd.offset), none⟩)) ?_ (.ep h1 h2)
      simp [execOp, ho, he, run_fieldAt hf, Nat.add_assoc]
  · generalize he : a.eval x = v at hv
    cases hv with
    | oep h1 h2 h3 h4 =>
      rename_i rc j b
      refine .val rfl rfl no_knows (v := .pointer (some ⟨b, j * rc.k + (off + fd.offset), none⟩)) ?_ (.oep h1 h2 h3 h4)
      simp [execOp, ho, he, run_fieldAt hf, Nat.add_assoc]
theorem run_part {t : TypeId} {n : Nat} (hn : sizeT P t = some n) {vs : List Value} {off : Nat} :
    (aggT P t = some true → (part t vs.toArray off).run P w = .ok (.agg ((vs.drop off).take n).toArray) w) ∧
    (∀ u, aggT P t = some false → vs[off]? = some u → (part t vs.toArray off).run P w = .ok u w) := by
  refine ⟨fun ha => ?_, fun u ha hu => ?_⟩
  · simp [part, run_isAgg' ha, run_sizeOf' hn]
  · simp [part, run_isAgg' ha, hu]
theorem ok_field {s : TypeId} {x : Operand} {f n : Nat} {fd : Field} {cs : List SV} {sv : SV} (Hh : Here P cx w m ρ env st g a o) (ho : o.op = .field s x f) (hf : fieldOf P s f = some (fd, n)) (h : st.get g x = some (.agg cs))
    (hs : (aggT P fd.type = some true ∧ fd.offset + n ≤ cs.length ∧ sv = .agg ((cs.drop fd.offset).take n)) ∨ (aggT P fd.type = some false ∧ cs[fd.offset]? = some sv)) : PureOk P cx w m ρ env a o { sv } := by
  obtain ⟨vs, h1, h2⟩ := (get_ok Hh (by simp [ho, Op.operands]) h).agg_inv
  obtain ⟨fs, h3, h4, h5, _⟩ := fieldOf_ok hf
  rcases hs with ⟨ha, hle, rfl⟩ | ⟨ha, hs⟩
  · refine .val rfl rfl no_knows ?_ (h2.dropTake hle).agg
    simp [execOp, ho, h1, Instr.field, run_underlying h3, h4, asAgg, (run_part h5).1 ha]
  · obtain ⟨hlt, hs'⟩ := List.getElem?_eq_some_iff.1 hs
    have hu : vs[fd.offset]? = some (vs.getD fd.offset undef) := by
      rw [List.getD_eq_getElem?_getD, List.getElem?_eq_getElem (by rw [h2.1]; exact hlt)]; rfl
    refine .val rfl rfl no_knows (v := vs.getD fd.offset undef) ?_ ?_
    · simp [execOp, ho, h1, Instr.field, run_underlying h3, h4, asAgg, (run_part h5).2 _ ha hu]
    · have := h2.2 fd.offset hlt
      rw [List.getD_eq_getElem?_getD, hs] at this
      exact this
theorem sliceElem_ok {t e : TypeId} {ks : List CK} (h : sliceElem P t = some (e, ks)) : P.underlying t = some (.slice e) ∧ elemKs P e = some ks ∧ sizeT P e = some ks.length ∧ 1 ≤ ks.length := by
  unfold sliceElem at h
  split at h
  · rename_i e' hu
    split at h
    · rename_i ks' hk
      cases h
      refine ⟨hu, hk, ?_⟩
      unfold elemKs at hk
      split at hk
      · rename_i ks'' n h1 h2
        split at hk
        · rename_i hc
          cases hk
          simp only [Bool.and_eq_true] at hc
          have e1 := nbeq hc.1
          have e2 := nble hc.2
          subst e1
          exact ⟨h2, e2⟩
        · cases hk
      · cases hk
    · cases h
  · cases h
theorem run_indexAt {t e : TypeId} {n : Nat} (hu : P.underlying t = some (.slice e)) (hn : sizeT P e = some n) {k : IntKind} {b off len cap j : Nat} (hj : j < len) :
    (Instr.indexAt t (.slice (some ⟨b, off, none⟩) len cap) (.int k j)).run P w = .ok (.pointer (some ⟨b, off + j * n, none⟩)) w := by
  have h1 : ¬ len ≤ j := by omega
  simp [Instr.indexAt, asIntOf, run_underlying hu, run_sizeOf' hn, addr_add]
  exact fun h => absurd h h1
theorem needs_idx {x y : X} {i : Int} {n : Nat} (hx : x.den env = .int i) (hy : y.den env = .int n) {l : List X} (hl : ∀ z ∈ l, (z.den env).toB = true) (h1 : X.o2 .le (.int 0) x ∈ l) (h2 : X.o2 .lt x y ∈ l) : ∃ j : Nat, i = j ∧ j < n := by
  have a1 := hl _ h1
  have a2 := hl _ h2
  simp only [X.den, O2.den, hx, hy, D.toI, D.toB, decide_eq_true_eq] at a1 a2
  exact ⟨i.toNat, by omega, by omega⟩
theorem len_den {x : X} {xs : List D} (h : x.den env = .lst xs) : (X.len x).den env = .int xs.length := by simp [X.len, X.den, O1.den, h, D.toL]
/-- An element of a read slice. -/
theorem Snap.elem {S : Nat → Prop} {ks : List CK} {d : D} {v : Value} {j : Nat} (h : Snap w S (.sl ks) d v) (hj : j < d.toL.length) : ∃ b off cap, v = .slice (some ⟨b, off, none⟩) d.toL.length cap ∧
    ElemAt w S ks (d.elem j) b (off + j * ks.length) := by
  cases h with
  | flat h => cases h
  | nil => simp [D.toL] at hj
  | sl b off cap xs u hb hcap hmax hsh hc hs =>
    refine ⟨b, off, cap, rfl, u j, hb, fun c hk => ⟨?_, ?_⟩⟩
    · rw [Nat.add_assoc]; exact hc j c hj hk
    · exact hs j c hj hk
theorem Snap.shape {S : Nat → Prop} {ks : List CK} {d : D} {v : Value} (h : Snap w S (.sl ks) d v) : ∃ (xs : List D) (ad : Option Addr) (cap : Nat), d = .lst xs ∧ v = .slice ad xs.length cap ∧ xs.length ≤ cap + 0 ∧ xs.length ≤ maxL := by
  cases h with
  | flat h => cases h
  | nil a cap => exact ⟨[], a, cap, rfl, rfl, by simp, by simp [maxL]⟩
  | sl b off cap xs u hb hcap hmax hsh hc hs => exact ⟨xs, _, cap, rfl, rfl, by omega, hmax⟩
end
end Go.Proofs.Ytfbahdalemajcaa.Eng

/-
  The engine: indexing, arithmetic, conversions, makes, slicing.
-/
namespace Go.Proofs.Ytfbahdalemajcaa.Eng
section
variable {P : Program} {cx : Cx} {w : World} {m : BoxM} {ρ : RowM} {env : List D} {st : St} {g : Conds} {a : Act} {o : Oper}
theorem row_addr {r : Row} {rc : RowC} (h : RowR w env r rc) (hn : 0 < rc.xs.length) : ∃ b, rc.addr = some ⟨b, 0, none⟩ := by
  obtain ⟨xs, addr, cap, k, fp⟩ := rc
  obtain ⟨_, _, h3⟩ := h
  simp only at h3 hn
  cases h3 with
  | flat h => cases h
  | nil => simp at hn
  | sl b => exact ⟨b, rfl⟩
theorem row_max {r : Row} {rc : RowC} (h : RowR w env r rc) : rc.xs.length ≤ maxL ∧ rc.xs.length ≤ rc.cap := by
  obtain ⟨xs, addr, cap, k, fp⟩ := rc
  obtain ⟨_, _, h3⟩ := h
  simp only at h3 ⊢
  cases h3 with
  | flat h => cases h
  | nil => simp [maxL]
  | sl _ _ _ _ _ _ _ _ h1 h2 => exact ⟨h2, h1⟩
/-- The nested slice at a cell of an owned row: what it owns. -/
theorem nest_own {id c : Nat} {i : X} {ks : List CK} {x : X} (H : HeapR cx w m ρ env st.boxes st.rows) (hg : g.den env) (hn : st.nest g id i c = some (ks, x)) {v : Value} (hv : SVR cx w m ρ env (.nv id i c) v) :
    ∃ rc fp, ρ id = some rc ∧ Own w (.sl ks) (x.den env) v fp ∧ ∀ b ∈ fp, b ∈ rc.fp := by
  unfold St.nest at hn
  split at hn
  · rename_i r hr
    split at hn
    · rename_i ks' hk
      cases hn
      cases hv with
      | nv h1 h2 h3 h4 h5 h6 h7 =>
        rename_i rc j b
        have hrr := row_get H hg hr h1
        obtain ⟨xs, addr, cap, k, fp⟩ := rc
        obtain ⟨e1, e2, e3⟩ := hrr
        simp only at e1 e2 e3 h3 h4 h5
        subst h5
        cases e3 with
        | flat h => cases h
        | sl b' cap' cs T xs' fps hh hsz hcap hmax hsh hown =>
          subst e2
          have e4 := idx_lt h3 h4
          have e5 := Nat.mul_le_mul_right r.ks.length hcap
          have hcell : w.cell? ⟨b, j * r.ks.length + c, none⟩ = some (cs.getD (j * r.ks.length + c) undef) := by
            simp only [World.cell?, hh, Option.isSome_none, Bool.false_eq_true, if_false]
            rw [Array.getD_eq_getD_getElem?, Array.getElem?_eq_getElem (by omega)]
            rfl
          rw [hcell] at h6
          have ho := hown j c h3 h4
          rw [Option.some.inj h6] at ho
          have hks : r.ks.getD c default = .sl ks := by rw [List.getD_eq_getElem?_getD, hk]; rfl
          rw [hks] at ho
          refine ⟨_, fps j c, h1, ?_, fun b hb => List.mem_cons_of_mem _ (mem_fpAll h3 h4 hb)⟩
          have hd : (X.fld c (.o2 .idx r.c i)).den env = (xs.getD j default).fld c := by
            simp [X.fld, X.den, O1.den, O2.den, e1, h2, D.elem, D.toL, D.toI]
          rw [hd]
          exact ho
    · cases hn
  · cases hn
theorem ok_indexAddr {t e : TypeId} {x i : Operand} {ks : List CK} {sv : SV} {k : IntKind} {ix : X} {r : PR} (Hh : Here P cx w m ρ env st g a o) (ho : o.op = .indexAddr t x i) (he : sliceElem P t = some (e, ks))
    (hx : st.get g x = some sv) (hi : st.get g i = some (.num k ix)) (hn : ∀ z ∈ r.needs, (z.den env).toB = true)
    (hs : (∃ src l, sv = .sl src ks l ∧ r = { sv := .ep src ks (.o2 .idx l ix) 0, needs := [.o2 .le (.int 0) ix, .o2 .lt ix (.len l)] }) ∨
      (∃ id pre rw, sv = .ov id pre ∧ st.row g id = some rw ∧ ks = rw.ks ∧ r = { sv := .oep id ix 0, needs := [.o2 .le (.int 0) ix, .o2 .lt ix (preLen rw pre)] }) ∨
      (∃ id j c y, sv = .nv id j c ∧ st.nest g id j c = some (ks, y) ∧ r = { sv := .ep (.row id) ks (.o2 .idx y ix) 0, needs := [.o2 .le (.int 0) ix, .o2 .lt ix (.len y)] })) : PureOk P cx w m ρ env a o r := by
  obtain ⟨n, i1, i2, i3⟩ := (get_ok Hh (by simp [ho, Op.operands]) hi).num_inv
  obtain ⟨u1, u2, u3, u4⟩ := sliceElem_ok he
  have hv := get_ok Hh (by simp [ho, Op.operands]) hx
  rcases hs with ⟨src, l, rfl, rfl⟩ | ⟨id, pre, rw, rfl, hrw, rfl, rfl⟩ | ⟨id, jx, c, y, rfl, hy, rfl⟩
  · generalize hav : a.eval x = v at hv
    cases hv with
    | sl h1 h2 =>
      rename_i S
      obtain ⟨xs, ad, cap, d1, d2, d3, d4⟩ := h2.shape
      obtain ⟨j, rfl, hj⟩ := needs_idx i1 (len_den d1) hn (by simp) (by simp)
      obtain ⟨b, off, cap', e1, e2⟩ := h2.elem (j := j) (by rw [d1]; exact hj)
      rw [d1] at e1
      refine .val rfl rfl no_knows (v := .pointer (some ⟨b, off + j * ks.length + 0, none⟩)) ?_ (.ep h1 ?_)
      · simp only [D.toL] at e1
        simp [execOp, ho, hav, i3, e1, run_indexAt u1 u3 hj]
      · simpa [X.den, O2.den, i1, D.toI] using e2
  · generalize hav : a.eval x = v at hv
    cases hv with
    | ov h1 h2 h3 h4 =>
      rename_i rc q
      have hrr := row_get Hh.heap Hh.g hrw h1
      have hpl : (preLen rw pre).den env = .int q := by
        cases pre with
        | none => simp only [preLen]; rw [h3 rfl]; exact len_den hrr.1
        | some y => exact h4 y rfl
      obtain ⟨j, rfl, hj⟩ := needs_idx i1 hpl hn (by simp) (by simp)
      obtain ⟨b, hb⟩ := row_addr hrr (by omega)
      refine .val rfl rfl no_knows (v := .pointer (some ⟨b, j * rc.k + 0, none⟩)) ?_ (.oep h1 i1 (by omega) hb)
      rw [hb] at hav
      simp [execOp, ho, hav, i3, run_indexAt u1 u3 hj, hrr.2.1]
  · obtain ⟨rc, fp, h1, h2, h3⟩ := nest_own Hh.heap Hh.g hy hv
    have hsn := h2.snap (S := (· ∈ rc.fp)) h3
    obtain ⟨xs, ad, cap, d1, d2, d3, d4⟩ := hsn.shape
    obtain ⟨j, rfl, hj⟩ := needs_idx i1 (len_den d1) hn (by simp) (by simp)
    obtain ⟨b, off, cap', e1, e2⟩ := hsn.elem (j := j) (by rw [d1]; exact hj)
    rw [d1] at e1
    refine .val rfl rfl no_knows (v := .pointer (some ⟨b, off + j * ks.length + 0, none⟩)) ?_ (.ep (S := (· ∈ rc.fp)) (by simp [srcS, h1]) ?_)
    · simp only [D.toL] at e1
      simp [execOp, ho, e1, i3, run_indexAt u1 u3 hj]
    · simpa [X.den, O2.den, i1, D.toI] using e2
theorem needs_sidx {x : X} {s : ByteArray} {i : Int} {ix : X} (hx : ix.den env = .int i) (hs : x.den env = .str s) {l : List X} (hl : ∀ z ∈ l, (z.den env).toB = true) (h1 : X.o2 .le (.int 0) ix ∈ l)
    (h2 : X.o2 .lt ix (.o1 .slen x) ∈ l) : ∃ j : Nat, i = j ∧ j < s.size := by
  have a1 := hl _ h1
  have a2 := hl _ h2
  simp only [X.den, O2.den, O1.den, hx, hs, D.toI, D.toB, D.toS, decide_eq_true_eq] at a1 a2
  exact ⟨i.toNat, by omega, by omega⟩
theorem ok_index {t : TypeId} {x i : Operand} {xs ix : X} {k : IntKind} (Hh : Here P cx w m ρ env st g a o) (ho : o.op = .index t x i) (hu : P.underlying t = some .string) (hx : st.get g x = some (.txt xs)) (hi : st.get g i = some (.num k ix))
    (hn : ∀ z ∈ [X.o2 .le (.int 0) ix, .o2 .lt ix (.o1 .slen xs)], (z.den env).toB = true) : PureOk P cx w m ρ env a o { sv := .num .u8 (.o2 .sidx xs ix), needs := [.o2 .le (.int 0) ix, .o2 .lt ix (.o1 .slen xs)] } := by
  obtain ⟨s, s1, s2⟩ := (get_ok Hh (by simp [ho, Op.operands]) hx).txt_inv
  obtain ⟨n, i1, i2, i3⟩ := (get_ok Hh (by simp [ho, Op.operands]) hi).num_inv
  obtain ⟨j, rfl, hj⟩ := needs_sidx i1 s1 hn (by simp) (by simp)
  have hb : s.data.toList.getD j 0 = s[j] := by
    rw [List.getD_eq_getElem?_getD, List.getElem?_eq_getElem (by simpa using hj)]
    rfl
  refine .val rfl rfl no_knows (v := .int .u8 s[j].toNat) ?_ (.num (by simp only [X.den, O2.den, i1, s1, D.toS, D.toI, Int.toNat_natCast, hb]) ?_)
  · simp [execOp, ho, s2, i3, Instr.index, asIntOf, run_underlying hu, hj]
  · have := s[j].toNat_lt
    simp only [inK, IntKind.min, IntKind.max, IntKind.signed, IntKind.bits, Bool.and_eq_true, decide_eq_true_eq, Bool.false_eq_true, if_false, Int.reducePow]
    omega
theorem run_eqGuard_int (op : BinOp) (t : TypeId) (x y : Operand) (k k' : IntKind) (n q : Int) : (eqGuard op t x y (.int k n) (.int k' q)).run P w = .ok () w := by
  unfold eqGuard
  split <;> simp
theorem binOp_int_type (op : BinOp) (t t' : TypeId) (k k' : IntKind) (n q : Int) : binOp op t (.int k n) (.int k' q) = binOp op t' (.int k n) (.int k' q) := by
  cases op <;> rfl
theorem shr_inK {k : IntKind} {n : Int} (h : inK k n = true) (i : Nat) : inK k (n.fdiv (2 ^ i)) = true := by
  have hp : (1 : Int) ≤ 2 ^ i := by
    have := Nat.one_le_two_pow (n := i)
    exact_mod_cast this
  rw [Int.fdiv_eq_ediv_of_nonneg _ (by omega)]
  rcases Int.lt_or_le n 0 with h0 | h0
  · refine inK_between h (zero_inK k) ?_ ?_
    · exact (Int.le_ediv_iff_mul_le (by omega)).2 (by
        have := Int.mul_le_mul_of_nonpos_left (show n ≤ 0 by omega) hp
        omega)
    · have := Int.ediv_lt_of_lt_mul (a := n) (b := 1) (c := 2 ^ i) (by omega) (by omega)
      omega
  · refine inK_between (zero_inK k) h (Int.ediv_nonneg h0 (by omega)) ?_
    exact Int.ediv_le_self _ h0
end
end Go.Proofs.Ytfbahdalemajcaa.Eng

/-
  The engine: comparisons, conversions, string operations.
-/
namespace Go.Proofs.Ytfbahdalemajcaa.Eng
section
variable {P : Program} {cx : Cx} {w : World} {m : BoxM} {ρ : RowM} {env : List D} {st : St} {g : Conds} {a : Act} {o : Oper}
theorem aggT_of {t : TypeId} {d : TypeDesc} (h : P.underlying t = some d) : aggT P t = some (aggD d) := by simp [aggT, h]
theorem part_one {t : TypeId} {d : TypeDesc} (h : P.underlying t = some d) (hd : aggD d = false) {vs : List Value} {off : Nat} (ho : off < vs.length) : (part t vs.toArray off).run P w = .ok (vs.getD off undef) w := by
  have hu : vs[off]? = some (vs.getD off undef) := by rw [List.getD_eq_getElem?_getD, List.getElem?_eq_getElem ho]; rfl
  unfold part
  rw [Sem.run_bind, run_isAgg' (by rw [aggT_of h, hd] : aggT P t = some false)]
  simp only [Result.andThen_ok, Bool.false_eq_true, if_false, List.getElem?_toArray, hu]
  rfl
theorem eqFields_ok {vs us : List Value} : ∀ (fs : List Field) (ks : List CK) (off : Nat) (as bs : List SV) (e : X), plainFields P off fs ks = true → svFits ks as = true → svFits ks bs = true → eqCells as bs = some e →
    off + as.length ≤ vs.length → off + bs.length ≤ us.length → (∀ i, i < as.length → SVR cx w m ρ env (as.getD i default) (vs.getD (off + i) undef)) → (∀ i, i < bs.length → SVR cx w m ρ env (bs.getD i default) (us.getD (off + i) undef)) →
    ∃ B, (Op.eqFields 9999 vs.toArray us.toArray fs).run P w = .ok B w ∧ e.den env = .bool B
  | [], [], off, as, bs, e, _, h1, h2, h3, _, _, _, _ => by
    cases as with
    | nil => cases bs with
      | nil => cases h3; exact ⟨true, by simp [Op.eqFields], rfl⟩
      | cons => simp [svFits] at h2
    | cons => simp [svFits] at h1
  | [], _ :: _, _, _, _, _, h, _, _, _, _, _, _, _ => by simp [plainFields] at h
  | _ :: _, [], _, _, _, _, h, _, _, _, _, _, _, _ => by simp [plainFields] at h
  | f :: fs, k :: ks, off, as, bs, e, hp, h1, h2, h3, hv, hu, ha, hb => by
    simp only [plainFields, Bool.and_eq_true, Bool.not_eq_true', beq_eq_false_iff_ne] at hp
    obtain ⟨⟨⟨⟨p1, p2⟩, _⟩, p4⟩, p5⟩ := hp
    have p2 := nbeq p2
    cases as with
    | nil => cases k <;> simp [svFits] at h1
    | cons x as =>
      cases bs with
      | nil => cases k <;> simp [svFits] at h2
      | cons y bs =>
        have a0 := ha 0 (by simp)
        have b0 := hb 0 (by simp)
        simp only [List.getD_cons_zero, Nat.add_zero] at a0 b0
        simp only [List.length_cons] at hv hu
        have rest := fun (e' : X) (s1 : svFits ks as = true) (s2 : svFits ks bs = true) (s3 : eqCells as bs = some e') => eqFields_ok (vs := vs) (us := us) fs ks (off + 1) as bs e' p5 s1 s2 s3 (by omega) (by omega)
          (fun i hi => by have := ha (i + 1) (by simp; omega); rw [show off + 1 + i = off + (i + 1) by omega]; simpa using this)
          (fun i hi => by have := hb (i + 1) (by simp; omega); rw [show off + 1 + i = off + (i + 1) by omega]; simpa using this)
        -- one field
        have field : ∀ (d : TypeDesc) (B : Bool) (e1 : X) (e' : X), P.underlying f.type = some d → aggD d = false → (Op.equalIn 9999 f.type (vs.getD off undef) (us.getD off undef)).run P w = .ok B w → e1.den env = .bool B →
            svFits ks as = true → svFits ks bs = true → eqCells as bs = some e' → ∃ B', (Op.eqFields 9999 vs.toArray us.toArray (f :: fs)).run P w = .ok B' w ∧ (X.o2 .band e1 e').den env = .bool B' := by
          intro d B e1 e' hd hg hr he1 s1 s2 s3
          obtain ⟨B2, r1, r2⟩ := rest e' s1 s2 s3
          refine ⟨B && B2, ?_, by simp [X.den, O2.den, he1, r2, D.toB]⟩
          simp only [Op.eqFields, ne_eq, p1, not_false_iff, if_true, Sem.run_bind, p2, part_one (w := w) hd hg (vs := vs) (off := off) (by omega), part_one (w := w) hd hg (vs := us) (off := off) (by omega), Result.andThen_ok, hr]
          cases B with
          | false => simp
          | true => simpa using r1
        cases k with
        | sl _ => cases x <;> simp [svFits] at h1
        | int kk =>
          cases x <;> (try (simp [svFits] at h1; done))
          cases y <;> (try (simp [svFits] at h2; done))
          rename_i k1 x k2 y
          simp only [svFits, Bool.and_eq_true] at h1 h2
          obtain ⟨n, n1, n2, n3⟩ := a0.num_inv
          obtain ⟨q, q1, q2, q3⟩ := b0.num_inv
          simp only [eqCells] at h3
          split at h3 <;> (try (cases h3; done))
          · rename_i hx hy hr
            cases hx; cases hy
            split at h3 <;> (try (cases h3; done))
            rename_i hk
            cases h3
            simp only [beq_iff_eq] at hk
            subst hk
            split at p4
            · rename_i heq; cases heq
            · rename_i k3 k4 hu' heq
              refine field _ (n == q) _ _ hu' rfl ?_ (by simp [X.den, O2.den, n1, q1, D.toI]) h1.2 h2.2 hr
              rw [n3, q3]
              exact run_equalIn_int w 9998 f.type _ _ n q hu'
            · rename_i heq; cases heq
            · cases p4
          all_goals (rename_i hx _ _; cases hx)
        | bool =>
          cases x <;> (try (simp [svFits] at h1; done))
          cases y <;> (try (simp [svFits] at h2; done))
          rename_i x y
          simp only [svFits] at h1 h2
          obtain ⟨n, n1, n2⟩ := a0.boo_inv
          obtain ⟨q, q1, q2⟩ := b0.boo_inv
          simp only [eqCells] at h3
          split at h3 <;> (try (cases h3; done))
          · rename_i hx _ _; cases hx
          · rename_i hx hy hr
            cases hx; cases hy; cases h3
            split at p4
            · rename_i hu' heq
              refine field _ (n == q) _ _ hu' rfl ?_ (by simp [X.den, O2.den, n1, q1, D.toB]) h1 h2 hr
              rw [n2, q2]
              exact run_equalIn_bool' w 9998 f.type n q hu'
            · rename_i heq; cases heq
            · rename_i heq; cases heq
            · cases p4
          · rename_i hx _ _; cases hx
        | str =>
          cases x <;> (try (simp [svFits] at h1; done))
          cases y <;> (try (simp [svFits] at h2; done))
          rename_i x y
          simp only [svFits] at h1 h2
          obtain ⟨n, n1, n2⟩ := a0.txt_inv
          obtain ⟨q, q1, q2⟩ := b0.txt_inv
          simp only [eqCells] at h3
          split at h3 <;> (try (cases h3; done))
          · rename_i hx _ _; cases hx
          · rename_i hx _ _; cases hx
          · rename_i hx hy hr
            cases hx; cases hy; cases h3
            split at p4
            · rename_i heq; cases heq
            · rename_i heq; cases heq
            · rename_i hu' heq
              refine field _ (n.toList == q.toList) _ _ hu' rfl ?_ (by simp [X.den, O2.den, n1, q1, D.toS]) h1 h2 hr
              rw [n2, q2]
              exact run_equalIn_string w 9998 f.type n q hu'
            · cases p4
theorem svFits_len : ∀ {ks : List CK} {vs : List SV}, svFits ks vs = true → vs.length = ks.length
  | [], [], _ => rfl
  | [], _ :: _, h => by simp [svFits] at h
  | .int _ :: ks, [], h | .bool :: ks, [], h | .str :: ks, [], h | .sl _ :: ks, [], h => by simp [svFits] at h
  | .int _ :: ks, v :: vs, h => by cases v <;> simp [svFits] at h; simp [svFits_len h.2]
  | .bool :: ks, v :: vs, h => by cases v <;> simp [svFits] at h; simp [svFits_len h]
  | .str :: ks, v :: vs, h => by cases v <;> simp [svFits] at h; simp [svFits_len h]
  | .sl _ :: ks, v :: vs, h => by simp [svFits] at h
theorem eqType_ok {t : TypeId} {ks : List CK} (h : eqType P t = some ks) : ∃ fs, P.underlying t = some (.struct fs) ∧ plainFields P 0 fs.toList ks = true ∧ P.stoodInHeld t = false ∧ P.eqGuardType P.depth t = false := by
  unfold eqType at h
  split at h
  · rename_i fs ks' hu _
    split at h
    · rename_i hc
      cases h
      simp only [Bool.and_eq_true, Bool.not_eq_true'] at hc
      exact ⟨fs, hu, hc.1.1, hc.1.2, hc.2⟩
    · cases h
  · cases h
theorem fieldsOf_eq {t : TypeId} {fs : Array Field} (h : P.underlying t = some (.struct fs)) : P.fieldsOf t = fs := by simp [Program.fieldsOf, h]
theorem agg_eq {t : TypeId} {ks : List CK} {as bs : List SV} {e : X} {vs us : List Value} (ht : eqType P t = some ks) (h1 : svFits ks as = true) (h2 : svFits ks bs = true) (he : eqCells as bs = some e)
    (ha : SVRs cx w m ρ env as vs) (hb : SVRs cx w m ρ env bs us) : ∃ B, (Op.equalIn 10000 t (.agg vs.toArray) (.agg us.toArray)).run P w = .ok B w ∧ e.den env = .bool B := by
  obtain ⟨fs, u1, u2, u3, u4⟩ := eqType_ok ht
  have hf := fieldsOf_eq u1
  obtain ⟨B, r1, r2⟩ := eqFields_ok (cx := cx) (w := w) (m := m) (ρ := ρ) (env := env) (vs := vs) (us := us) fs.toList ks 0 as bs e u2 h1 h2 he (by simp [ha.1]) (by simp [hb.1]) (fun i hi => by simpa using ha.2 i hi) (fun i hi => by simpa using hb.2 i hi)
  refine ⟨B, ?_, r2⟩
  have := run_equalIn_struct (P := P) w 9999 t vs.toArray us.toArray (by rw [hf]; exact u1) u3
  rw [hf] at this
  exact this.trans r1
theorem ok_binOp {op : BinOp} {xt yt : TypeId} {x y : Operand} {sa sb : SV} {r : PR} (Hh : Here P cx w m ρ env st g a o) (ho : o.op = .binOp op xt x y yt) (hx : st.get g x = some sa) (hy : st.get g y = some sb)
    (hr : binSV P op xt sa sb = some r) (hn : ∀ z ∈ r.needs, (z.den env).toB = true) : PureOk P cx w m ρ env a o r := by
  have hva := get_ok Hh (by simp [ho, Op.operands]) hx
  have hvb := get_ok Hh (by simp [ho, Op.operands]) hy
  unfold binSV at hr
  split at hr
  · rename_i k x' k' y'
    obtain ⟨n, n1, n2, n3⟩ := hva.num_inv
    obtain ⟨q, q1, q2, q3⟩ := hvb.num_inv
    split at hr
    · cases hr
      have hq : ¬ q < 0 := by
        have := hn _ (List.mem_singleton.2 rfl)
        simp only [X.den, O2.den, q1, D.toI, D.toB, decide_eq_true_eq] at this
        omega
      refine .val rfl rfl no_knows (v := .int k (k.wrap (n * 2 ^ (min q.toNat k.bits)))) ?_ (.num (by simp [X.den, O2.den, n1, q1, D.toI]) (wrap_inK _ _))
      simp [execOp, ho, n3, q3, run_eqGuard_int, binOp, Op.shift, hq]
    · cases hr
      have hq : ¬ q < 0 := by
        have := hn _ (List.mem_singleton.2 rfl)
        simp only [X.den, O2.den, q1, D.toI, D.toB, decide_eq_true_eq] at this
        omega
      refine .val rfl rfl no_knows (v := .int k (n.fdiv (2 ^ (min q.toNat k.bits)))) ?_ (.num (by simp [X.den, O2.den, n1, q1, D.toI]) (shr_inK n2 _))
      simp [execOp, ho, n3, q3, run_eqGuard_int, binOp, Op.shift, hq]
    · split at hr
      · rename_i hk
        simp only [beq_iff_eq] at hk
        subst hk
        obtain ⟨h1, h2, h3, v, h4, h5⟩ := intOp_ok (cx := cx) (w := w) (m := m) (ρ := ρ) (P := P) hr n1 q1 n2 q2 hn
        refine .val h1 h2 (by rw [h3]; exact no_knows) (v := v) ?_ h5
        rw [binOp_int_type op 0 xt] at h4
        simp [execOp, ho, n3, q3, run_eqGuard_int, h4]
      · cases hr
  · rename_i x' y'
    obtain ⟨n, n1, n2⟩ := hva.boo_inv
    obtain ⟨q, q1, q2⟩ := hvb.boo_inv
    split at hr
    · rename_i hu
      cases hr
      refine .val rfl rfl no_knows (v := .bool (n == q)) ?_ (.boo (by simp [X.den, O2.den, n1, q1, D.toB]))
      have := run_equalIn_bool' w 9999 xt n q hu
      simp [execOp, ho, n2, q2, eqGuard, binOp, Op.equal, Op.maxDepth, this]
    · rename_i hu
      cases hr
      refine .val rfl rfl no_knows (v := .bool (n != q)) ?_ (.boo (by simp [X.den, O2.den, n1, q1, D.toB]))
      have := run_equalIn_bool' w 9999 xt n q hu
      simp [execOp, ho, n2, q2, eqGuard, binOp, Op.equal, Op.maxDepth, this, bne]
    · cases hr
  · rename_i x' y'
    obtain ⟨n, n1, n2⟩ := hva.txt_inv
    obtain ⟨q, q1, q2⟩ := hvb.txt_inv
    split at hr
    · cases hr
      have hq : ¬ (9223372036854775807 : Int) < ((n.size + q.size : Nat) : Int) := by
        have := hn _ (List.mem_singleton.2 rfl)
        simp only [X.den, O2.den, n1, q1, D.toS, D.toB, decide_eq_true_eq] at this
        omega
      refine .val rfl rfl no_knows (v := .string (n ++ q)) ?_ (.txt (by simp [X.den, O2.den, n1, q1, D.toS]) (by rw [ByteArray.size_append]; unfold maxS; omega))
      have hq' : ¬ (9223372036854775807 : Int) < (n.size : Int) + (q.size : Int) := by omega
      simp [execOp, ho, n2, q2, eqGuard, binOp, Op.stringOp, IntKind.max, IntKind.signed, IntKind.bits, hq']
    · cases hr
      refine .val rfl rfl no_knows (v := .bool (n.toList == q.toList)) ?_ (.boo (by simp [X.den, O2.den, n1, q1, D.toS]))
      simp [execOp, ho, n2, q2, eqGuard, binOp, Op.stringOp]
    · cases hr
      refine .val rfl rfl no_knows (v := .bool (!(n.toList == q.toList))) ?_ (.boo (by simp [X.den, O2.den, n1, q1, D.toS]))
      simp [execOp, ho, n2, q2, eqGuard, binOp, Op.stringOp]
    · cases hr
  · rename_i as bs
    obtain ⟨vs, v1, v2⟩ := hva.agg_inv
    obtain ⟨us, u1, u2⟩ := hvb.agg_inv
    split at hr
    · rename_i ks hk
      split at hr
      · rename_i hf
        simp only [Bool.and_eq_true] at hf
        obtain ⟨_, _, _, _, hgd⟩ := eqType_ok hk
        split at hr
        · rename_i e he
          cases hr
          obtain ⟨B, b1, b2⟩ := agg_eq hk hf.1 hf.2 he v2 u2
          refine .val rfl rfl no_knows (v := .bool B) ?_ (.boo b2)
          simp [execOp, ho, v1, u1, run_eqGuard_agg w .eql xt x y vs.toArray us.toArray hgd, run_eql_struct, b1]
        · rename_i e he
          cases hr
          obtain ⟨B, b1, b2⟩ := agg_eq hk hf.1 hf.2 he v2 u2
          refine .val rfl rfl no_knows (v := .bool (!B)) ?_ (.boo (by simp [X.den, O1.den, b2, D.toB]))
          simp [execOp, ho, v1, u1, run_eqGuard_agg w .neq xt x y vs.toArray us.toArray hgd, run_neq_struct, b1]
        · cases hr
      · cases hr
    · cases hr
  · cases hr
end
end Go.Proofs.Ytfbahdalemajcaa.Eng

/-
  The engine: makes, literals, slicing, conversions, builtins.
-/
namespace Go.Proofs.Ytfbahdalemajcaa.Eng
section
variable {P : Program} {cx : Cx} {w : World} {m : BoxM} {ρ : RowM} {env : List D} {st : St} {g : Conds} {a : Act} {o : Oper}
theorem size_encode (n : Int) : (Utf8.encode n).size ≤ 4 := by
  unfold Utf8.encode
  generalize (if Utf8.valid n then n.toNat else Utf8.runeError) = c
  simp only []
  split
  · exact (by decide : 1 ≤ 4)
  · split
    · exact (by decide : 2 ≤ 4)
    · split
      · exact (by decide : 3 ≤ 4)
      · exact Nat.le_refl 4
theorem size_map_le {α : Type} {f : α → UInt8} {xs : List α} (h : xs.length ≤ maxL) : (⟨⟨xs.map f⟩⟩ : ByteArray).size ≤ maxS := by
  simp only [ByteArray.size, List.size_toArray, List.length_map]
  unfold maxL at h
  unfold maxS
  omega
theorem ok_not {t : TypeId} {x : Operand} {xx : X} (Hh : Here P cx w m ρ env st g a o) (ho : o.op = .unOp .not t x) (hx : st.get g x = some (.boo xx)) : PureOk P cx w m ρ env a o { sv := .boo (.o1 .not xx) } := by
  obtain ⟨b, b1, b2⟩ := (get_ok Hh (by simp [ho, Op.operands]) hx).boo_inv
  refine .val rfl rfl no_knows (v := .bool (!b)) ?_ (.boo (by simp [X.den, O1.den, b1, D.toB]))
  simp [execOp, ho, b2, Op.unary]
theorem ok_neg {t : TypeId} {x : Operand} {k : IntKind} {xx : X} (Hh : Here P cx w m ρ env st g a o) (ho : o.op = .unOp .neg t x) (hx : st.get g x = some (.num k xx)) : PureOk P cx w m ρ env a o { sv := .num k (.o1 (.neg k) xx) } := by
  obtain ⟨n, n1, _, n2⟩ := (get_ok Hh (by simp [ho, Op.operands]) hx).num_inv
  refine .val rfl rfl no_knows (v := .int k (k.wrap (0 - n))) ?_ (.num (by simp [X.den, O1.den, n1, D.toI]) (wrap_inK _ _))
  simp [execOp, ho, n2, Op.unary, Op.intArith]
theorem foldl_push (l : List Int) : ∀ (s : ByteArray), l.foldl (fun r n => r.push (UInt8.ofNat n.toNat)) s = ⟨s.data ++ (l.map fun n => UInt8.ofNat n.toNat).toArray⟩ := by
  induction l with
  | nil => intro s; simp
  | cons n l ih =>
    intro s
    rw [List.foldl_cons, ih]
    congr 1
    simp [ByteArray.push]
theorem bytes_read {S : Nat → Prop} {d : D} {v : Value} (h : Snap w S (.sl [.int .u8]) d v) : (Conv.bytesToString v).run P w = .ok (.string ⟨⟨d.toL.map fun e => UInt8.ofNat (e.fld 0).toI.toNat⟩⟩) w := by
  cases h with
  | flat h => cases h
  | nil ad cap =>
    cases ad with
    | none => simp [Conv.bytesToString, D.toL]; rfl
    | some ad =>
      have := run_bytesToString (P := P) w ad 0 cap [] (by simp [loadCells, loadCellsFrom])
      exact this
  | sl b off cap xs u hb hcap hmax hsh hc hs =>
    have hu : ∀ i, i < xs.length → u i 0 = .int .u8 ((xs.getD i default).fld 0).toI := by
      intro i hi
      have := hs i 0 hi (by simp)
      simp only [List.getD_cons_zero] at this
      generalize (xs.getD i default).fld 0 = d at this ⊢
      generalize u i 0 = v at this ⊢
      cases this with
      | flat h => cases h; rfl
    have hl := run_loadCells (P := P) w ⟨b, off, none⟩ xs.length (fun i => .int .u8 ((xs.getD i default).fld 0).toI) (fun j hj => by
      rw [addr_add]
      have := hc j 0 hj (by simp)
      rw [hu j hj] at this
      simpa using this)
    have hm : (List.range xs.length).map (fun i => Value.int .u8 ((xs.getD i default).fld 0).toI) = (xs.map fun e => (e.fld 0).toI).map (Value.int .u8) := by
      apply List.ext_getElem
      · simp
      · intro i h1 h2
        simp at h1
        simp [List.getD_eq_getElem?_getD, h1]
    rw [hm] at hl
    have := run_bytesToString (P := P) w ⟨b, off, none⟩ xs.length cap (xs.map fun e => (e.fld 0).toI) hl
    rw [this, foldl_push]
    simp [D.toL, ByteArray.empty, ByteArray.emptyWithCapacity, List.map_map, Function.comp_def]
    rfl
theorem shp_take {k q : Nat} {xs : List D} (h : ∀ i, i < xs.length → Shp k (xs.getD i default)) (hq : q ≤ xs.length) : ∀ i, i < (xs.take q).length → Shp k ((xs.take q).getD i default) := by
  intro i hi
  have hi' : i < q := by simp at hi; omega
  have : (xs.take q).getD i default = xs.getD i default := by simp [List.getD_eq_getElem?_getD, hi']
  rw [this]
  exact h i (by omega)
theorem Snap.take {S : Nat → Prop} {ks : List CK} {xs : List D} {ad : Option Addr} {cap q : Nat} (h : Snap w S (.sl ks) (.lst xs) (.slice ad xs.length cap)) (hq : q ≤ xs.length) :
    Snap w S (.sl ks) (.lst (xs.take q)) (.slice ad q cap) := by
  by_cases h0 : q = 0
  · subst h0; exact .nil ad cap
  have hl : (xs.take q).length = q := by simp; omega
  generalize hv : Value.slice ad xs.length cap = v at h
  generalize hd : D.lst xs = d at h
  cases h with
  | flat h => cases h
  | nil a' c' => cases hd; simp at hq; omega
  | sl b off cap' xs' u hb hcap hmax hsh hc hs =>
    cases hd
    cases hv
    have := Snap.sl (w := w) (S := S) (ks := ks) b off cap (xs.take q) u hb (by omega) (by omega) (shp_take hsh (by omega)) (fun i c hi hk => hc i c (by omega) hk) (fun i c hi hk => by
      have := hs i c (by omega) hk
      have hgd : (xs.take q).getD i default = xs.getD i default := by simp only [List.getD_eq_getElem?_getD]; rw [List.getElem?_take_of_lt (by omega)]
      rw [hgd]
      exact this)
    rw [hl] at this
    exact this
/-- A row's prefix as what is read. -/
theorem ov_snap {id : Nat} {pre : Option X} {rw : Row} (H : HeapR cx w m ρ env st.boxes st.rows) (hg : g.den env) (hrw : st.row g id = some rw) {v : Value} (hv : SVR cx w m ρ env (.ov id pre) v) :
    ∃ rc, ρ id = some rc ∧ Snap w (· ∈ rc.fp) (.sl rw.ks) ((preC rw pre).den env) v := by
  cases hv with
  | ov h1 h2 h3 h4 =>
    rename_i rc q
    obtain ⟨r1, r2, r3⟩ := row_get H hg hrw h1
    refine ⟨rc, h1, ?_⟩
    have hs := (r3.snap (S := (· ∈ rc.fp)) (fun _ h => h)).take h2
    cases pre with
    | none =>
      simp only [preC, r1]
      rw [h3 rfl, List.take_length] at hs
      rw [h3 rfl]
      exact hs
    | some y =>
      simp only [preC, X.den, O2.den, r1, h4 y rfl, D.toL, D.toI, Int.toNat_natCast]
      exact hs
theorem ok_conv {s d : TypeId} {x : Operand} {sv : SV} {r : PR} (Hh : Here P cx w m ρ env st g a o) (ho : o.op = .convert s d x) (hx : st.get g x = some sv) (hr : convSV P st g s d sv = some r) : PureOk P cx w m ρ env a o r := by
  have hv := get_ok Hh (by simp [ho, Op.operands]) hx
  unfold convSV at hr
  split at hr
  · rename_i hs hd
    obtain ⟨n, n1, _, n2⟩ := hv.num_inv
    cases hr
    refine .val rfl rfl no_knows (v := .int _ (IntKind.wrap _ n)) ?_ (.num (by simp [X.den, O1.den, n1, D.toI]) (wrap_inK _ _))
    simp [execOp, ho, n2, convert, run_underlying hs, run_underlying hd, Conv.intToInt]
  · rename_i hs hd
    obtain ⟨n, n1, _, n2⟩ := hv.num_inv
    cases hr
    refine .val rfl rfl no_knows (v := .string (Utf8.encode n)) ?_ (.txt (by simp [X.den, O1.den, n1, D.toI]) (by have := size_encode n; unfold maxS; omega))
    simp [execOp, ho, n2, convert, run_underlying hs, run_underlying hd, Conv.intToString]
  · rename_i hs hd
    obtain ⟨n, n1, n2⟩ := hv.txt_inv
    cases hr
    refine .val rfl rfl no_knows (v := .string n) ?_ (.txt n1 (hv.txt_bd n2))
    simp [execOp, ho, n2, convert, run_underlying hs, run_underlying hd]
  · rename_i e src ks y hs hd
    split at hr
    · rename_i he
      split at hr
      · rename_i hk
        simp only [Bool.and_eq_true] at hk
        have := CK.beqs_eq _ _ hk.1
        subst this
        cases hr
        cases hv with
        | sl h1 h2 =>
          obtain ⟨xs, ad, cap, d1, d2, _, _⟩ := h2.shape
          have hb := bytes_read (P := P) h2
          refine .val rfl rfl no_knows (v := .string ⟨⟨(y.den env).toL.map fun e => UInt8.ofNat (e.fld 0).toI.toNat⟩⟩) ?_ (.txt (by simp [X.den, O1.den]) (by rw [d1]; simp only [D.toL]; exact size_map_le ‹_›))
          rw [d2] at hb
          simp [execOp, ho, d2, run_convert_bytes_string w s d e _ _ _ hs he hd, hb]
      · cases hr
    · cases hr
  · rename_i e id pre hs hd
    split at hr
    · rename_i rw he hrw
      split at hr
      · rename_i hk
        have := CK.beqs_eq _ _ hk
        cases hr
        obtain ⟨rc, h1, h2⟩ := ov_snap Hh.heap Hh.g hrw hv
        rw [this] at h2
        obtain ⟨xs, ad, cap, d1, d2, _, _⟩ := h2.shape
        have hb := bytes_read (P := P) h2
        refine .val rfl rfl no_knows (v := .string ⟨⟨((preC rw pre).den env).toL.map fun e => UInt8.ofNat (e.fld 0).toI.toNat⟩⟩) ?_ (.txt (by simp [X.den, O1.den]) (by rw [d1]; simp only [D.toL]; exact size_map_le ‹_›))
        rw [d2] at hb
        simp [execOp, ho, d2, run_convert_bytes_string w s d e _ _ _ hs he hd, hb]
      · cases hr
    · cases hr
  · cases hr

theorem many_den : ∀ (xs : List X), (X.many xs).den env = .lst (xs.map (X.den env))
  | [] => rfl
  | x :: l => by simp [X.many, X.den, O2.den, many_den l, D.toL]
theorem Own.take {ks : List CK} {xs : List D} {ad : Option Addr} {cap q : Nat} {fp : List Nat} (h : Own w (.sl ks) (.lst xs) (.slice ad xs.length cap) fp) (hq : q ≤ xs.length) :
    ∃ fp', Own w (.sl ks) (.lst (xs.take q)) (.slice ad q cap) fp' ∧ fp'.Sublist fp := by
  have hl : (xs.take q).length = q := by simp; omega
  generalize hv : Value.slice ad xs.length cap = v at h
  generalize hd : D.lst xs = d at h
  cases h with
  | flat h => cases h
  | nil =>
    cases hd
    cases hv
    have : q = 0 := by simpa using hq
    subst this
    exact ⟨[], .nil, List.Sublist.refl _⟩
  | sl b cap' cs T xs' fps hh hsz hcap hmax hsh hown =>
    cases hd
    cases hv
    have := Own.sl (w := w) (ks := ks) b cap cs T (xs.take q) fps hh hsz (by omega) (by omega) (shp_take hsh (by omega)) (fun i c hi hk => by
      have := hown i c (by omega) hk
      have hgd : (xs.take q).getD i default = xs.getD i default := by simp only [List.getD_eq_getElem?_getD]; rw [List.getElem?_take_of_lt (by omega)]
      rw [hgd]
      exact this)
    rw [hl] at this
    refine ⟨_, this, List.Sublist.cons_cons _ ?_⟩
    unfold fpAll
    have : List.range xs.length = List.range q ++ (List.range (xs.length - q)).map (q + ·) := by
      rw [← List.range_add]
      congr 1
      omega
    rw [this, List.flatMap_append]
    exact List.sublist_append_left _ _
/-- What a cell's value owns. -/
theorem cellX_ok (H : HeapR cx w m ρ env st.boxes st.rows) (hg : g.den env) {ck : CK} {sv : SV} {v : Value} {x : X} {ids : List Nat} (h : cellX st g ck sv = some (x, ids)) (hv : SVR cx w m ρ env sv v) :
    ∃ fp, Own w ck (x.den env) v fp ∧ fp.Nodup ∧ ∀ b ∈ fp, ∃ id ∈ ids, ∃ rc, ρ id = some rc ∧ b ∈ rc.fp := by
  unfold cellX at h
  split at h
  · split at h
    · rename_i hk
      simp only [beq_iff_eq] at hk
      subst hk
      cases h
      obtain ⟨n, n1, n2, n3⟩ := hv.num_inv
      exact ⟨[], .flat (by rw [n1, n3]; exact .int n2), by simp, by simp⟩
    · cases h
  · cases h
    obtain ⟨n, n1, n2⟩ := hv.boo_inv
    exact ⟨[], .flat (by rw [n1, n2]; exact .bool), by simp, by simp⟩
  · cases h
    obtain ⟨n, n1, n2⟩ := hv.txt_inv
    exact ⟨[], .flat (by rw [n1, n2]; exact .str (hv.txt_bd n2)), by simp, by simp⟩
  · rename_i ks id pre
    split at h
    · rename_i r hr
      split at h
      · rename_i hk
        have := CK.beqs_eq _ _ hk
        subst this
        cases h
        cases hv with
        | ov h1 h2 h3 h4 =>
          rename_i rc q
          obtain ⟨r1, r2, r3⟩ := row_get H hg hr h1
          obtain ⟨fp, f1, f2⟩ := r3.take h2
          refine ⟨fp, ?_, f2.nodup (H.sep.nodup _ _ h1), fun b hb => ⟨id, by simp, rc, h1, f2.subset hb⟩⟩
          cases pre with
          | none =>
            simp only [preC, r1]
            have := h3 rfl
            subst this
            rw [List.take_length] at f1
            exact f1
          | some y =>
            simp only [preC, X.den, O2.den, r1, h4 y rfl, D.toL, D.toI, Int.toNat_natCast]
            exact f1
      · cases h
    · cases h
  · cases h
    cases hv
    exact ⟨[], .nil, by simp, by simp⟩
  · cases h
theorem cellsX_ok (H : HeapR cx w m ρ env st.boxes st.rows) (hg : g.den env) : ∀ (ks : List CK) (svs : List SV) (vs : List Value) (xs : List X) (ids : List Nat), cellsX st g ks svs = some (xs, ids) → SVRs cx w m ρ env svs vs →
    xs.length = ks.length ∧ vs.length = ks.length ∧ ∃ (fps : Nat → List Nat) (idf : Nat → List Nat), (∀ c, c < ks.length → Own w (ks.getD c default) ((xs.map (X.den env)).getD c default) (vs.getD c undef) (fps c) ∧ (fps c).Nodup ∧
      ∀ b ∈ fps c, ∃ id ∈ idf c, ∃ rc, ρ id = some rc ∧ b ∈ rc.fp) ∧ (∀ c, ∀ id ∈ idf c, id ∈ ids) ∧ (ids.Nodup → ∀ c c', c < ks.length → c' < ks.length → c ≠ c' → ∀ id ∈ idf c, id ∉ idf c')
  | [], [], vs, xs, ids, h, hv => by
    cases h
    have : vs = [] := List.eq_nil_of_length_eq_zero hv.1
    subst this
    exact ⟨rfl, rfl, fun _ => [], fun _ => [], by simp, by simp, by simp⟩
  | [], _ :: _, vs, xs, ids, h, hv => by simp [cellsX] at h
  | _ :: _, [], vs, xs, ids, h, hv => by simp [cellsX] at h
  | k :: ks, sv :: svs, vs, xs, ids, h, hv => by
    simp only [cellsX] at h
    split at h
    · rename_i x a xs' b h1 h2
      cases h
      cases vs with
      | nil => simp [SVRs] at hv
      | cons v vs =>
        have hv0 := hv.2 0 (by simp)
        simp only [List.getD_cons_zero] at hv0
        obtain ⟨l1, l2, fps, idf, f1, f2, f3⟩ := cellsX_ok H hg ks svs vs xs' b h2 ⟨by simpa using hv.1, fun i hi => by simpa using hv.2 (i + 1) (by simpa using hi)⟩
        obtain ⟨fp, g1, g2, g3⟩ := cellX_ok H hg h1 hv0
        refine ⟨by simp [l1], by simp [l2], fun c => match c with | 0 => fp | c + 1 => fps c, fun c => match c with | 0 => a | c + 1 => idf c, fun c hc => ?_, fun c id hid => ?_, fun hnd c c' hc hc' hne id hid hid' => ?_⟩
        · cases c with
          | zero => exact ⟨by simpa using g1, g2, g3⟩
          | succ c => simpa using f1 c (by simpa using hc)
        · cases c with
          | zero => exact List.mem_append_left _ hid
          | succ c => exact List.mem_append_right _ (f2 c id hid)
        · have hnd' := List.nodup_append.1 hnd
          cases c with
          | zero => cases c' with
            | zero => exact hne rfl
            | succ c' => exact hnd'.2.2 id hid id (f2 c' id hid') rfl
          | succ c => cases c' with
            | zero => exact hnd'.2.2 id hid' id (f2 c id hid) rfl
            | succ c' => exact f3 hnd'.2.1 c c' (by simpa using hc) (by simpa using hc') (by omega) id hid hid'
    · cases h
end
end Go.Proofs.Ytfbahdalemajcaa.Eng

/-
  The engine: literals and makes.
-/
namespace Go.Proofs.Ytfbahdalemajcaa.Eng
section
variable {P : Program} {cx : Cx} {w : World} {m : BoxM} {ρ : RowM} {env : List D} {st : St} {g : Conds} {a : Act} {o : Oper}
theorem splice_get {α : Type} (L l : List α) (p : Nat) (h : p + l.length ≤ L.length) (i : Nat) :
    (L.take p ++ l ++ L.drop (p + l.length))[i]? = if i < p then L[i]? else if i < p + l.length then l[i - p]? else L[i]? := by
  have e1 : (L.take p).length = p := by simp; omega
  have e2 : (L.take p ++ l).length = p + l.length := by rw [List.length_append, e1]
  by_cases h1 : i < p
  · rw [if_pos h1, List.append_assoc, List.getElem?_append_left (by omega), List.getElem?_take_of_lt h1]
  · rw [if_neg h1]
    by_cases h2 : i < p + l.length
    · rw [if_pos h2, List.getElem?_append_left (by omega), List.getElem?_append_right (by omega), e1]
    · rw [if_neg h2, List.getElem?_append_right (by omega), e2, List.getElem?_drop]
      congr 1
      omega
theorem splice_length {α : Type} (L l : List α) (p : Nat) (h : p + l.length ≤ L.length) : (L.take p ++ l ++ L.drop (p + l.length)).length = L.length := by
  simp; omega
theorem fold_get (off : Nat) : ∀ (l : List Value) (n : Nat) (cells : Array Value), off + n + l.length ≤ cells.size →
    ((l.zipIdx n).foldl (fun cs p => cs.setIfInBounds (off + p.2) p.1) cells).toList = cells.toList.take (off + n) ++ l ++ cells.toList.drop (off + n + l.length)
  | [], n, cells, _ => by simp
  | v :: l, n, cells, h => by
    simp only [List.length_cons] at h
    rw [List.zipIdx_cons, List.foldl_cons, fold_get off l (n + 1) _ (by simp; omega)]
    simp only [Array.toList_setIfInBounds]
    have hlt : off + n < cells.toList.length := by rw [Array.length_toList]; omega
    apply List.ext_getElem?
    intro i
    rw [splice_get _ _ _ (by simp; omega), splice_get _ _ _ (by simp; omega)]
    simp only [List.length_cons]
    by_cases h1 : i < off + n
    · rw [if_pos (by omega), if_pos h1, List.getElem?_set_ne (by omega)]
    · rw [if_neg h1]
      by_cases h2 : i = off + n
      · subst h2
        rw [if_pos (by omega), if_pos (by omega), List.getElem?_set_self hlt, Nat.sub_self]
        rfl
      · rw [if_neg (by omega)]
        by_cases h3 : i < off + (n + 1) + l.length
        · rw [if_pos h3, if_pos (by omega)]
          obtain ⟨j, rfl⟩ : ∃ j, i = off + (n + 1) + j := ⟨i - (off + (n + 1)), by omega⟩
          rw [show off + (n + 1) + j - (off + (n + 1)) = j by omega, show off + (n + 1) + j - (off + n) = j + 1 by omega]
          rfl
        · rw [if_neg h3, if_neg (by omega), List.getElem?_set_ne (by omega)]
theorem fill_step (cells vc : Array Value) (off : Nat) (h : off + vc.size ≤ cells.size) :
    (vc.zipIdx.foldl (fun cs (p : Value × Nat) => match p with | (c, j) => cs.setIfInBounds (off + j) c) cells) = (cells.toList.take off ++ vc.toList ++ cells.toList.drop (off + vc.size)).toArray := by
  have := fold_get off vc.toList 0 cells (by simpa using h)
  apply Array.ext'
  rw [← Array.foldl_toList, Array.toList_zipIdx]
  simpa using this
/-- One element behind the other. -/
theorem fill_many (k : Nat) : ∀ (l : List Value) (i : Nat) (cells : Array Value), (∀ v ∈ l, v.cells.size = k) → (i + l.length) * k ≤ cells.size →
    Instr.fill (fun i => some (i * k, k)) cells ((l.zipIdx i).map fun p => (p.2, p.1)) = some (cells.toList.take (i * k) ++ l.flatMap (fun v => v.cells.toList) ++ cells.toList.drop ((i + l.length) * k)).toArray
  | [], i, cells, _, _ => by simp [Instr.fill]
  | v :: l, i, cells, hv, h => by
    have hk := hv v (by simp)
    have hlen : (i + (l.length + 1)) * k = (i + 1 + l.length) * k := by congr 1; omega
    simp only [List.length_cons, hlen] at h
    have e0 : (i + 1) * k = i * k + k := by rw [Nat.add_mul, Nat.one_mul]
    have h1 : (i + 1) * k ≤ (i + 1 + l.length) * k := Nat.mul_le_mul_right k (by omega)
    simp only [List.zipIdx_cons, List.map_cons, Instr.fill]
    rw [if_neg (by simp [hk]; omega), fill_step _ _ _ (by rw [hk]; omega)]
    have e1 : (cells.toList.take (i * k)).length = i * k := by simp; omega
    rw [fill_many k l (i + 1) _ (fun u hu => hv u (by simp [hu])) (by simp [hk]; omega)]
    congr 2
    rw [hk]
    have e2 : (cells.toList.take (i * k) ++ v.cells.toList).length = (i + 1) * k := by simp [hk]; omega
    rw [List.take_append_of_le_length (by simp [hk]; omega), List.take_of_length_le (by omega), List.drop_append, List.drop_of_length_le (by rw [e2]; exact h1), e2, List.drop_drop]
    simp only [List.nil_append, List.flatMap_cons, List.append_assoc, List.length_cons, hlen]
    congr 4
    omega
end
end Go.Proofs.Ytfbahdalemajcaa.Eng

/-
  The engine: makes, literals, slicing, the builtins that only compute; then all operations together.
-/
namespace Go.Proofs.Ytfbahdalemajcaa.Eng
section
variable {P : Program} {cx : Cx} {w : World} {m : BoxM} {ρ : RowM} {env : List D} {st : St} {g : Conds} {a : Act} {o : Oper}
theorem zeroInfo {t : TypeId} {cs : List SV} (h : zeroCells' P t = some cs) : ∃ i z, P.info? t = some i ∧ i.zero = some z ∧ i.size = z.cells.size ∧ 1 ≤ i.size ∧ cs.length = i.size ∧ ∀ (cx : Cx) (w : World) (m : BoxM) (ρ : RowM) (env : List D), SVRs cx w m ρ env cs z.cells.toList := by
  have h' := h
  unfold zeroCells' at h
  split at h
  · rename_i i hi
    split at h
    · rename_i z hz
      obtain ⟨v, _, _, h3, _⟩ := zero_ok (P := P) (cx := ⟨fun _ => False, fun _ => False, fun _ => undef, 0, [], fun _ => undef⟩) (w := default) (m := fun _ => none) (ρ := fun _ => none) (env := []) h'
      split at h
      · rename_i sv hsv
        split at h
        · rename_i hl
          cases h
          simp only [Bool.and_eq_true] at hl
          have e1 := nbeq hl.1
          have e2 := nble hl.2
          have hne : sv.cells ≠ [] := fun e => by rw [e] at e1; simp at e1; omega
          have hs := fun (cx : Cx) (w : World) (m : BoxM) (ρ : RowM) (env : List D) => (constSV_ok (cx := cx) (w := w) (m := m) (ρ := ρ) (env := env) hsv).cells_ok hne
          refine ⟨i, z, hi, hz, ?_, e2, e1, hs⟩
          have := (hs ⟨fun _ => False, fun _ => False, fun _ => undef, 0, [], fun _ => undef⟩ default (fun _ => none) (fun _ => none) []).1
          simp only [Array.length_toList] at this
          omega
        · cases h
      · cases h
    · cases h
  · cases h
theorem bytesT_eq {e : TypeId} {i : TypeInfo} (h : P.info? e = some i) : bytesT P e = i.bytes := by simp [bytesT, h]
theorem own_nil_all (fps : Nat → List Nat) {ids : List Nat} (hids : ids = []) {idf : Nat → List Nat} (h2 : ∀ c, ∀ id ∈ idf c, id ∈ ids) {c : Nat} (h : ∀ b ∈ fps c, ∃ id ∈ idf c, ∃ rc, ρ id = some rc ∧ b ∈ rc.fp) : fps c = [] := by
  subst hids
  cases hf : fps c with
  | nil => rfl
  | cons b l =>
    obtain ⟨id, hid, _⟩ := h b (by rw [hf]; simp)
    exact absurd (h2 c id hid) (by simp)
theorem ok_makeSlice {t e : TypeId} {l c : Operand} {ks : List CK} {n : X} {zs : List SV} {xs : List X} (Hh : Here P cx w m ρ env st g a o) (ho : o.op = .makeSlice t l c) (he : sliceElem P t = some (e, ks))
    (hl : st.get g l = some (.num .i64 n)) (hc : st.get g c = some (.num .i64 n)) (hz : zeroCells' P e = some zs) (hx : cellsX st g ks zs = some (xs, []))
    (hn : ∀ z ∈ [X.o2 .le (.int 0) n, .o2 (.fits (Nat.max (bytesT P e) 1)) n (.int 0)], (z.den env).toB = true) :
    PureOk P cx w m ρ env a o { sv := .top, needs := [.o2 .le (.int 0) n, .o2 (.fits (Nat.max (bytesT P e) 1)) n (.int 0)], row := some ⟨ks, .o2 .rep n (X.many xs)⟩ } := by
  obtain ⟨q, q1, q2, q3⟩ := (get_ok Hh (by simp [ho, Op.operands]) hl).num_inv
  obtain ⟨q', q1', q2', q3'⟩ := (get_ok Hh (by simp [ho, Op.operands]) hc).num_inv
  rw [q1] at q1'
  cases q1'
  obtain ⟨u1, u2, u3, u4⟩ := sliceElem_ok he
  obtain ⟨i, z, i1, i2, i3, i4, i5, i6⟩ := zeroInfo hz
  have a1 := hn _ (List.mem_cons_self ..)
  have a2 := hn _ (List.mem_cons_of_mem _ (List.mem_cons_self ..))
  simp only [X.den, O2.den, q1, D.toI, D.toB, decide_eq_true_eq, Int.add_zero, bytesT_eq i1] at a1 a2
  obtain ⟨N, rfl⟩ := Int.eq_ofNat_of_zero_le a1
  have a3 : N * Nat.max i.bytes 1 ≤ 140737488355328 := Int.ofNat_le.1 (by rw [Int.natCast_mul]; exact a2)
  have a4 : N * i.bytes ≤ N * Nat.max i.bytes 1 := Nat.mul_le_mul_left N (Nat.le_max_left _ _)
  have a5 : N * 1 ≤ N * Nat.max i.bytes 1 := Nat.mul_le_mul_left N (Nat.le_max_right _ _)
  have hks : i.size = ks.length := by
    simp only [sizeT, i1, Option.map_some, Option.some.injEq] at u3
    exact u3
  have hr := run_make (P := P) w t e i z u1 i1 i2 .i64 .i64 (N : Int) (N : Int) (by omega) (Int.le_refl _) (by
    have : ((i.bytes * N : Nat) : Int) ≤ 281474976710656 := by rw [Nat.mul_comm]; omega
    rwa [Int.natCast_mul] at this) (by omega)
  simp only [Int.toNat_natCast] at hr
  obtain ⟨l1, l2, fps, idf, f1, f2, _⟩ := cellsX_ok Hh.heap Hh.g ks zs z.cells.toList xs [] hx (i6 cx w m ρ env)
  refine ⟨no_knows, e, madeCells z.cells (N * i.size), List.replicate N (.lst (xs.map (X.den env))), ?_, ?_, ?_, ?_, ?_, ?_⟩
  · rw [List.length_replicate]
    simp only [execOp, ho, q3, q3', Sem.run_bind, hr, Result.andThen_ok, Sem.run_pure]
  · simp only [X.den, O2.den, q1, D.toI, Int.toNat_natCast, many_den]
  · simp only [List.length_replicate, size_madeCells, hks]; exact Nat.le_refl _
  · rw [List.length_replicate]; unfold maxL; omega
  · intro j hj
    rw [List.length_replicate] at hj
    exact ⟨xs.map (X.den env), by simp [List.getD_eq_getElem?_getD, hj], by simp [l1]⟩
  · intro j c hj hcc
    rw [List.length_replicate] at hj
    simp only at hcc
    have hidx := idx_lt hj hcc
    have hg1 : (List.replicate N (D.lst (xs.map (X.den env)))).getD j default = .lst (xs.map (X.den env)) := by simp [List.getD_eq_getElem?_getD, hj]
    have hg2 : (madeCells z.cells (N * i.size)).getD (j * ks.length + c) undef = z.cells.toList.getD c undef := by
      rw [Array.getD_eq_getD_getElem?, Array.getElem?_eq_getElem (by rw [size_madeCells, hks]; exact hidx)]
      simp only [madeCells, Array.getElem_map, Array.getElem_range, Option.getD_some]
      have hmod : (j * ks.length + c) % z.cells.size = c := by
        rw [← i3, hks, Nat.add_comm, Nat.add_mul_mod_self_right, Nat.mod_eq_of_lt hcc]
      rw [hmod, getElem!_pos _ _ (by omega), List.getD_eq_getElem?_getD, Array.getElem?_toList, Array.getElem?_eq_getElem (by omega)]
      rfl
    rw [hg1, hg2]
    have := f1 c hcc
    rw [own_nil_all fps rfl f2 this.2.2] at this
    exact this.1
theorem cellsX_length : ∀ (ks : List CK) (svs : List SV) (xs : List X) (ids : List Nat), cellsX st g ks svs = some (xs, ids) → xs.length = ks.length
  | [], [], xs, ids, h => by cases h; rfl
  | [], _ :: _, xs, ids, h => by simp [cellsX] at h
  | _ :: _, [], xs, ids, h => by simp [cellsX] at h
  | k :: ks, v :: vs, xs, ids, h => by
    simp only [cellsX] at h
    split at h
    · rename_i h1 h2
      cases h
      simp [cellsX_length ks vs _ _ h2]
    · cases h
theorem partsX_shp {ks : List CK} : ∀ (parts : List (Nat × Operand)) (i : Nat) (xs : List X) (ids : List Nat), partsX st g ks i parts = some (xs, ids) → ∀ j, j < xs.length → Shp ks.length ((xs.map (X.den env)).getD j default)
  | [], i, xs, ids, h => by cases h; simp
  | (q, x) :: rest, i, xs, ids, h => by
    simp only [partsX] at h
    split at h
    · rename_i sv xs' b hq hsv hrest
      split at h
      · rename_i cs a hcs
        cases h
        intro j hj
        cases j with
        | zero => exact ⟨cs.map (X.den env), by simp [many_den], by simp [cellsX_length _ _ _ _ hcs]⟩
        | succ j => simpa using partsX_shp rest (i + 1) xs' b hrest j (by simpa using hj)
      · cases h
    · cases h
theorem partsX_ok (H : HeapR cx w m ρ env st.boxes st.rows) (hg : g.den env) {ks : List CK} (hget : ∀ x sv, st.get g x = some sv → ∀ i, (i, x) ∈ ([] : List (Nat × Operand)) → True)
    {ev : Operand → Value} : ∀ (parts : List (Nat × Operand)) (i : Nat) (xs : List X) (ids : List Nat), partsX st g ks i parts = some (xs, ids) → (∀ p ∈ parts, ∀ sv, st.get g p.2 = some sv → SVR cx w m ρ env sv (ev p.2)) → 1 ≤ ks.length →
    xs.length = parts.length ∧ parts.map (fun p => (p.1, ev p.2)) = ((parts.map fun p => ev p.2).zipIdx i).map (fun p => (p.2, p.1)) ∧ (∀ v ∈ parts.map fun p => ev p.2, v.cells.size = ks.length) ∧
    ∃ (fps : Nat → Nat → List Nat) (idf : Nat → Nat → List Nat), (∀ j c, j < parts.length → c < ks.length → Own w (ks.getD c default) (((xs.map (X.den env)).getD j default).fld c) (((parts.map fun p => ev p.2).getD j undef).cells.toList.getD c undef) (fps j c) ∧ (fps j c).Nodup ∧
      ∀ b ∈ fps j c, ∃ id ∈ idf j c, ∃ rc, ρ id = some rc ∧ b ∈ rc.fp) ∧ (∀ j c, ∀ id ∈ idf j c, id ∈ ids) ∧
      (ids.Nodup → ∀ j c j' c', j < parts.length → c < ks.length → j' < parts.length → c' < ks.length → (j, c) ≠ (j', c') → ∀ id ∈ idf j c, id ∉ idf j' c')
  | [], i, xs, ids, h, _, _ => by
    cases h
    exact ⟨rfl, rfl, by simp, fun _ _ => [], fun _ _ => [], by simp, by simp, by simp⟩
  | (q, x) :: rest, i, xs, ids, h, hv, h1 => by
    simp only [partsX] at h
    split at h
    · rename_i sv xs' b hq hsv hrest
      split at h
      · rename_i cs a hcs
        cases h
        have hq := nbeq hq
        subst hq
        have hne : sv.cells ≠ [] := by
          intro e
          rw [e] at hcs
          cases ks with
          | nil => simp at h1
          | cons => simp [cellsX] at hcs
        have hsvr := hv (i, x) (by simp) sv hsv
        obtain ⟨l1, l2, fp, idq, f1, f2, f3⟩ := cellsX_ok H hg ks sv.cells (ev x).cells.toList cs a hcs (hsvr.cells_ok hne)
        obtain ⟨m1, m2, m3, fps, idf, m4, m5, m6⟩ := partsX_ok H hg hget rest (i + 1) xs' b hrest (fun p hp => hv p (by simp [hp])) h1
        refine ⟨by simp [m1], by simp [m2], ?_, fun j => match j with | 0 => fp | j + 1 => fps j, fun j => match j with | 0 => idq | j + 1 => idf j, fun j c hj hc => ?_, fun j c id hid => ?_, fun hnd j c j' c' hj hc hj' hc' hne id hid hid' => ?_⟩
        · intro v hvm
          rcases List.mem_cons.1 hvm with rfl | hvm
          · simpa using l2
          · exact m3 v hvm
        · cases j with
          | zero =>
            have := f1 c hc
            simpa [many_den, D.fld, D.toL] using this
          | succ j => simpa using m4 j c (by simpa using hj) hc
        · cases j with
          | zero => exact List.mem_append_left _ (f2 c id hid)
          | succ j => exact List.mem_append_right _ (m5 j c id hid)
        · have hnd' := List.nodup_append.1 hnd
          cases j with
          | zero => cases j' with
            | zero => exact f3 hnd'.1 c c' hc hc' (fun e => hne (by rw [e])) id hid hid'
            | succ j' => exact hnd'.2.2 id (f2 c id hid) id (m5 j' c' id hid') rfl
          | succ j => cases j' with
            | zero => exact hnd'.2.2 id (f2 c' id hid') id (m5 j c id hid) rfl
            | succ j' => exact m6 hnd'.2.1 j c j' c' (by simpa using hj) hc (by simpa using hj') hc' (fun e => hne (by cases e; rfl)) id hid hid'
      · cases h
    · cases h
end
end Go.Proofs.Ytfbahdalemajcaa.Eng

/-
  The engine: slice and struct literals, slicing, lengths; then all operations that change nothing together.
-/
namespace Go.Proofs.Ytfbahdalemajcaa.Eng
section
variable {P : Program} {cx : Cx} {w : World} {m : BoxM} {ρ : RowM} {env : List D} {st : St} {g : Conds} {a : Act} {o : Oper}
theorem getD_flat {l : List Value} {k : Nat} : ∀ {i c : Nat}, (∀ v ∈ l, v.cells.size = k) → i < l.length → c < k → (l.flatMap fun v => v.cells.toList).getD (i * k + c) undef = (l.getD i undef).cells.toList.getD c undef := by
  induction l with
  | nil => intro i c _ h; simp at h
  | cons v l ih =>
    intro i c hv hi hc
    have hk := hv v (by simp)
    cases i with
    | zero =>
      simp only [Nat.zero_mul, Nat.zero_add, List.flatMap_cons, List.getD_cons_zero]
      rw [List.getD_eq_getElem?_getD, List.getElem?_append_left (by simpa [hk] using hc), ← List.getD_eq_getElem?_getD]
    | succ i =>
      have := ih (i := i) (c := c) (fun u hu => hv u (by simp [hu])) (by simpa using hi) hc
      simp only [List.flatMap_cons, List.getD_cons_succ]
      rw [← this]
      rw [List.getD_eq_getElem?_getD, List.getElem?_append_right (by simp [hk, Nat.add_mul]; omega), ← List.getD_eq_getElem?_getD]
      congr 1
      simp only [Array.length_toList, hk, Nat.add_mul, Nat.one_mul]
      omega
/-- A slice literal's run. -/
theorem run_buildSlice {t e : TypeId} {ks : List CK} {n : Nat} {parts : Array (Nat × Value)} {zs : List SV} (he : sliceElem P t = some (e, ks)) (hz : zeroCells' P e = some zs) (l : List Value) (hl : l.length = n)
    (hp : parts.toList = (l.zipIdx 0).map fun p => (p.2, p.1)) (hk : ∀ v ∈ l, v.cells.size = ks.length) (hle : n * ks.length ≤ 65536) :
    (Instr.buildSlice t n parts).run P w = .ok (.slice (some ⟨w.heap.size, 0, none⟩) n n) (w.alloc (.cells (l.flatMap fun v => v.cells.toList).toArray e (0, 0))) := by
  obtain ⟨u1, u2, u3, u4⟩ := sliceElem_ok he
  obtain ⟨i, z, i1, i2, i3, i4, i5, i6⟩ := zeroInfo hz
  have hsz : (sizeOf e).run P w = .ok ks.length w := run_sizeOf' u3 w
  have hb : ¬ n * ks.length > 2 ^ 24 := by omega
  have hfill : ∀ cells : Array Value, cells.size = n * ks.length → Instr.fill (fun i => some (i * ks.length, ks.length)) cells parts.toList = some (l.flatMap fun v => v.cells.toList).toArray := by
    intro cells hc
    rw [hp, fill_many ks.length l 0 cells hk (by rw [hc, Nat.zero_add, hl]; exact Nat.le_refl _)]
    simp only [Nat.zero_mul, List.take_zero, List.nil_append, Nat.zero_add, hl]
    rw [List.drop_of_length_le (by simp [hc]), List.append_nil]
  unfold Instr.buildSlice
  simp only [Sem.run_bind, run_underlying u1, Result.andThen_ok, hsz]
  by_cases h0 : n * ks.length = 0
  · simp [h0, hfill, newRow]
  · simp [hb, h0, zeroValue, typeInfo, i1, i2, hfill, newRow]
theorem ok_buildSlice {t e : TypeId} {n : Nat} {parts : Array (Nat × Operand)} {ks : List CK} {xs : List X} {zs : List SV} (Hh : Here P cx w m ρ env st g a o) (ho : o.op = .buildSlice t n parts) (he : sliceElem P t = some (e, ks))
    (hx : partsX st g ks 0 parts.toList = some (xs, [])) (hz : zeroCells' P e = some zs) (hn : xs.length = n) (hle : n * ks.length ≤ 65536) : PureOk P cx w m ρ env a o { sv := .top, row := some ⟨ks, X.many xs⟩ } := by
  obtain ⟨u1, u2, u3, u4⟩ := sliceElem_ok he
  obtain ⟨m1, m2, m3, fps, idf, m4, m5, _⟩ := partsX_ok (ev := a.eval) Hh.heap Hh.g (by simp) parts.toList 0 xs [] hx (fun p hp sv hsv => get_ok Hh (by
    rw [ho]; simp only [Op.operands]; simp; exact ⟨p.1, by simpa using hp⟩) hsv) u4
  have hr := run_buildSlice (w := w) (parts := parts.map fun p => (p.1, a.eval p.2)) he hz (parts.toList.map fun p => a.eval p.2) (n := n) (by simpa [m1] using hn) (by simpa using m2) m3 hle
  have hlen : (parts.toList.map fun p => a.eval p.2).length = xs.length := by simp [m1]
  refine ⟨no_knows, e, ((parts.toList.map fun p => a.eval p.2).flatMap fun v => v.cells.toList).toArray, xs.map (X.den env), ?_, many_den xs, ?_, ?_, fun j hj => partsX_shp parts.toList 0 xs [] hx j (by simpa using hj), ?_⟩
  · rw [List.length_map, hn]
    simp only [execOp, ho, Sem.run_bind, hr, Result.andThen_ok, Sem.run_pure]
  · rw [List.length_map, ← hlen, List.size_toArray]
    have : ∀ (l : List Value), (∀ v ∈ l, v.cells.size = ks.length) → (l.flatMap fun v => v.cells.toList).length = l.length * ks.length := by
      intro l hl
      induction l with
      | nil => simp
      | cons v l ih =>
        rw [List.flatMap_cons, List.length_append, ih (fun u hu => hl u (by simp [hu])), Array.length_toList, hl v (by simp), List.length_cons, Nat.add_mul, Nat.one_mul]
        omega
    rw [this _ m3]
    exact Nat.le_refl _
  · rw [List.length_map, hn]
    have := Nat.le_mul_of_pos_right n (show 0 < ks.length by omega)
    unfold maxL
    omega
  · intro j c hj hc
    rw [List.length_map] at hj
    simp only at hc
    have h1 := m4 j c (by omega) hc
    have hg2 : ((parts.toList.map fun p => a.eval p.2).flatMap fun v => v.cells.toList).toArray.getD (j * ks.length + c) undef = ((parts.toList.map fun p => a.eval p.2).getD j undef).cells.toList.getD c undef := by
      rw [← getD_flat m3 (by omega) hc]
      simp [Array.getD_eq_getD_getElem?, List.getD_eq_getElem?_getD]
    rw [hg2]
    have := own_nil_all (fps j) rfl (fun c => m5 j c) h1.2.2
    rw [this] at h1
    exact h1.1
theorem fillSV_ok (Hh : Here P cx w m ρ env st g a o) {fs : Array Field} {places : Array (Nat × Nat)} (hpl : ∀ (i : Nat) (f : Field), fs[i]? = some f → ∃ n, sizeT P f.type = some n ∧ places[i]? = some (f.offset, n)) :
    ∀ (parts : List (Nat × Operand)) (cells cs : List SV) (vs : List Value), fillSV fs P st g cells parts = some cs → SVRs cx w m ρ env cells vs → (∀ p ∈ parts, p.2 ∈ o.op.operands) →
    ∃ us : List Value, Instr.fill (places[·]?) vs.toArray (parts.map fun p => (p.1, a.eval p.2)) = some us.toArray ∧ SVRs cx w m ρ env cs us
  | [], cells, cs, vs, h, hv, _ => by cases h; exact ⟨vs, rfl, hv⟩
  | (i, x) :: rest, cells, cs, vs, h, hv, hm => by
    simp only [fillSV] at h
    split at h
    · rename_i f v hf hx
      split at h
      · rename_i n hn
        split at h
        · rename_i hc
          simp only [Bool.and_eq_true] at hc
          have c1 := nbeq hc.1.1
          have c2 := nble hc.1.2
          obtain ⟨n', n1, n2⟩ := hpl i f hf
          rw [hn] at n1
          cases n1
          have c3 := nble hc.2
          have hne : v.cells ≠ [] := fun e => by rw [e] at c1; simp at c1; omega
          · have hs := (get_ok Hh (hm (i, x) (by simp)) hx).cells_ok hne
            have hsz : (a.eval x).cells.size = n := by have := hs.1; simp at this; omega
            have hvl := hv.1
            have hsplice : SVRs cx w m ρ env (cells.take f.offset ++ v.cells ++ cells.drop (f.offset + n)) (vs.take f.offset ++ (a.eval x).cells.toList ++ vs.drop (f.offset + n)) := by
              refine ⟨by simp [hvl]; omega, fun j hj => ?_⟩
              have e1 : (cells.take f.offset ++ v.cells ++ cells.drop (f.offset + n))[j]? = if j < f.offset then cells[j]? else if j < f.offset + n then v.cells[j - f.offset]? else cells[j]? := by
                have := splice_get cells v.cells f.offset (by omega) j
                rwa [c1] at this
              have e2 : (vs.take f.offset ++ (a.eval x).cells.toList ++ vs.drop (f.offset + n))[j]? = if j < f.offset then vs[j]? else if j < f.offset + n then (a.eval x).cells.toList[j - f.offset]? else vs[j]? := by
                have := splice_get vs (a.eval x).cells.toList f.offset (by simp [hsz, hvl]; omega) j
                rwa [show (a.eval x).cells.toList.length = n by simpa using hsz] at this
              have hjl : j < cells.length := by simp at hj; omega
              rw [List.getD_eq_getElem?_getD, List.getD_eq_getElem?_getD, e1, e2]
              split
              · rw [← List.getD_eq_getElem?_getD, ← List.getD_eq_getElem?_getD]; exact hv.2 j hjl
              · split
                · rw [← List.getD_eq_getElem?_getD, ← List.getD_eq_getElem?_getD]; exact hs.2 _ (by omega)
                · rw [← List.getD_eq_getElem?_getD, ← List.getD_eq_getElem?_getD]; exact hv.2 j hjl
            obtain ⟨us, r1, r2⟩ := fillSV_ok Hh hpl rest _ cs _ h hsplice (fun p hp => hm p (by simp [hp]))
            refine ⟨us, ?_, r2⟩
            simp only [List.map_cons, Instr.fill, n2]
            rw [if_neg (by simp [hsz, hvl]; omega), fill_step _ _ _ (by simp [hsz, hvl]; omega), hsz]
            simpa using r1
        · cases h
      · cases h
    · cases h
end
end Go.Proofs.Ytfbahdalemajcaa.Eng

/-
  The engine: struct literals, slicing, lengths; then all operations that change nothing together.
-/
namespace Go.Proofs.Ytfbahdalemajcaa.Eng
section
variable {P : Program} {cx : Cx} {w : World} {m : BoxM} {ρ : RowM} {env : List D} {st : St} {g : Conds} {a : Act} {o : Oper}
theorem run_mapM_places (fs : List Field) (hs : ∀ f ∈ fs, ∃ n, sizeT P f.type = some n) : ∃ l : List (Nat × Nat), (fs.mapM fun f => do pure (f.offset, ← sizeOf f.type) : Sem _).run P w = .ok l w ∧
    ∀ (i : Nat) (f : Field), fs[i]? = some f → ∃ n, sizeT P f.type = some n ∧ l[i]? = some (f.offset, n) := by
  induction fs with
  | nil => exact ⟨[], by simp, by simp⟩
  | cons f fs ih =>
    obtain ⟨n, hn⟩ := hs f (by simp)
    obtain ⟨l, h1, h2⟩ := ih fun f hf => hs f (by simp [hf])
    refine ⟨(f.offset, n) :: l, ?_, fun i f' hf => ?_⟩
    · simp only [List.mapM_cons, Sem.run_bind, run_sizeOf' hn, Result.andThen_ok, Sem.run_pure]
      rw [h1]
      rfl
    · cases i with
      | zero => simp only [List.getElem?_cons_zero, Option.some.injEq] at hf; subst hf; exact ⟨n, hn, rfl⟩
      | succ i => exact h2 i f' (by simpa using hf)
theorem sizesOk_all {fs : List Field} (h : sizesOk P fs = true) : ∀ f ∈ fs, ∃ n, sizeT P f.type = some n := by
  intro f hf
  have := List.all_eq_true.1 h f hf
  split at this
  · rename_i n hn; exact ⟨n, hn⟩
  · cases this
theorem ok_build {t : TypeId} {parts : Array (Nat × Operand)} {fs : Array Field} {zs cs : List SV} (Hh : Here P cx w m ρ env st g a o) (ho : o.op = .build t parts) (hu : P.underlying t = some (.struct fs)) (hsz : sizesOk P fs.toList = true)
    (hz : zeroCells' P t = some zs) (hf : fillSV fs P st g zs parts.toList = some cs) : PureOk P cx w m ρ env a o { sv := .agg cs } := by
  obtain ⟨i, z, i1, i2, i3, i4, i5, i6⟩ := zeroInfo hz
  obtain ⟨l, l1, l2⟩ := run_mapM_places (P := P) (w := w) fs.toList (sizesOk_all hsz)
  obtain ⟨us, r1, r2⟩ := fillSV_ok (places := l.toArray) Hh (fun i f hf => by have := l2 i f (by simpa using hf); simpa using this) parts.toList zs cs z.cells.toList hf (i6 cx w m ρ env) (fun p hp => by
    rw [ho]; simp only [Op.operands]; simp; exact ⟨p.1, by simpa using hp⟩)
  refine .val rfl rfl no_knows (v := .agg us.toArray) ?_ r2.agg
  have hm : (fs.mapM fun f => do pure (f.offset, ← sizeOf f.type) : Sem _).run P w = .ok l.toArray w := by
    rw [Array.mapM_eq_mapM_toList]
    simp only [Sem.run_map, l1, Result.andThen_ok]
  have hfill : Instr.fill (l.toArray[·]?) z.cells (parts.map fun p => (p.1, a.eval p.2)).toList = some us.toArray := by
    simpa using r1
  have hb : (Instr.build t (parts.map fun p => (p.1, a.eval p.2))).run P w = .ok (.agg us.toArray) w := by
    unfold Instr.build
    simp only [Sem.run_bind, zeroValue, typeInfo, Result.andThen_ok, run_program, i1, i2, Sem.run_pure, run_underlying hu]
    rw [hm]
    simp only [Result.andThen_ok, hfill, Sem.run_pure]
  simp only [execOp, ho, Sem.run_bind, hb, Result.andThen_ok, Sem.run_pure]
/-- A bound of a slice expression. -/
theorem bound_ok (Hh : Here P cx w m ρ env st g a o) {lo : Option Operand} {l : Option X} (hm : ∀ x, lo = some x → x ∈ o.op.operands) (h : optX (lo.bind (st.get g)) = some l) (hs : (lo.isSome == l.isSome) = true) :
    (lo = none ∧ l = none) ∨ ∃ x y k n, lo = some x ∧ l = some y ∧ y.den env = .int n ∧ a.eval x = .int k n := by
  cases lo with
  | none => simp [optX] at h; exact .inl ⟨rfl, h.symm⟩
  | some x =>
    simp only [Option.bind_some] at h
    cases hg : st.get g x with
    | none => rw [hg] at h; simp [optX] at h; subst h; simp at hs
    | some sv =>
      rw [hg] at h
      cases sv <;> simp [optX] at h
      rename_i k y
      obtain ⟨n, n1, _, n2⟩ := (get_ok Hh (hm x rfl) hg).num_inv
      exact .inr ⟨x, y, k, n, rfl, h.symm, n1, n2⟩
theorem run_sliceBounds {isS : Bool} {len cap : Nat} {lo hi : Option Value} {l h : Nat} (hlo : (lo = none ∧ l = 0) ∨ ∃ k, lo = some (.int k l)) (hhi : (hi = none ∧ h = len) ∨ ∃ k, hi = some (.int k h)) (h1 : l ≤ h) (h2 : h ≤ cap) :
    (Instr.sliceBounds isS len cap lo hi none).run P w = .ok (l, h, cap) w := by
  have hb : ∀ (k : IntKind) (n y : Nat) (c : BoundsCode), n ≤ y → (Instr.sliceBound (.int k n) y c).run P w = .ok n w := by
    intro k n y c hn
    have : (n : Int) ≤ (y : Int) := by omega
    simp [Instr.sliceBound, asIntOf, hn]
  rcases hlo with ⟨rfl, rfl⟩ | ⟨k, rfl⟩ <;> rcases hhi with ⟨rfl, rfl⟩ | ⟨k', rfl⟩ <;> simp [Instr.sliceBounds, hb _ _ _ _ h1, hb _ _ _ _ h2]
theorem needs3 {lx hx cx' : X} {l h c : Int} (hl : lx.den env = .int l) (hh : hx.den env = .int h) (hc : cx'.den env = .int c) {ns : List X} (hn : ∀ z ∈ ns, (z.den env).toB = true)
    (m1 : X.o2 .le (.int 0) lx ∈ ns) (m2 : X.o2 .le lx hx ∈ ns) (m3 : X.o2 .le hx cx' ∈ ns) : 0 ≤ l ∧ l ≤ h ∧ h ≤ c := by
  have a1 := hn _ m1
  have a2 := hn _ m2
  have a3 := hn _ m3
  simp only [X.den, O2.den, hl, hh, hc, D.toI, D.toB, decide_eq_true_eq] at a1 a2 a3
  exact ⟨a1, a2, a3⟩
theorem Snap.window {S : Nat → Prop} {ks : List CK} {xs : List D} {ad : Option Addr} {cap l h : Nat} {n : Nat} (hn : n = ks.length) (hs : Snap w S (.sl ks) (.lst xs) (.slice ad xs.length cap)) (h1 : l ≤ h) (h2 : h ≤ xs.length) :
    Snap w S (.sl ks) (.lst ((xs.take h).drop l)) (.slice (if cap = l then ad else ad.map (·.add (l * n))) (h - l) (cap - l)) := by
  subst hn
  by_cases h0 : h - l = 0
  · have : (xs.take h).drop l = [] := List.drop_of_length_le (by simp; omega)
    rw [this, h0]
    exact .nil _ _
  have hl : ((xs.take h).drop l).length = h - l := by simp; omega
  generalize hv : Value.slice ad xs.length cap = v at hs
  generalize hd : D.lst xs = d at hs
  cases hs with
  | flat h => cases h
  | nil => cases hd; simp at h2; omega
  | sl b off cap' xs' u hb hcap hmax hsh hc hcs =>
    cases hd
    cases hv
    rw [if_neg (by omega), Option.map_some, addr_add]
    have hgd : ∀ i, i < h - l → ((xs.take h).drop l).getD i default = xs.getD (l + i) default := by
      intro i hi
      simp only [List.getD_eq_getElem?_getD, List.getElem?_drop]
      rw [List.getElem?_take_of_lt (by omega)]
    have := Snap.sl (w := w) (S := S) (ks := ks) b (off + l * ks.length) (cap - l) ((xs.take h).drop l) (fun i c => u (l + i) c) hb (by omega) (by omega) (fun i hi => by
      have hi' : i < h - l := by simp at hi; omega
      have : ((xs.take h).drop l).getD i default = xs.getD (l + i) default := by simp [List.getD_eq_getElem?_getD, show l + i < h by omega]
      rw [this]
      exact hsh (l + i) (by omega)) (fun i c hi hk => by
      have := hc (l + i) c (by omega) hk
      rw [Nat.add_mul] at this
      rw [show off + l * ks.length + (i * ks.length + c) = off + (l * ks.length + i * ks.length + c) by omega]
      exact this) (fun i c hi hk => by
      rw [hgd i (by omega)]
      exact hcs (l + i) c (by omega) hk)
    rw [hl] at this
    exact this
end
end Go.Proofs.Ytfbahdalemajcaa.Eng

/-
  The engine: slicing, lengths, and all operations that change nothing together.
-/
namespace Go.Proofs.Ytfbahdalemajcaa.Eng
section
variable {P : Program} {cx : Cx} {w : World} {m : BoxM} {ρ : RowM} {env : List D} {st : St} {g : Conds} {a : Act} {o : Oper}
theorem bnd {lo : Option Operand} {l : Option X} {d : X} {dn : Nat} (h : (lo = none ∧ l = none) ∨ ∃ x y k n, lo = some x ∧ l = some y ∧ y.den env = .int n ∧ a.eval x = .int k n) (hd : d.den env = .int dn) :
    ∃ n : Int, (l.getD d).den env = .int n ∧ ∀ q : Nat, n = q → ((lo.map a.eval) = none ∧ q = dn) ∨ ∃ k, (lo.map a.eval) = some (.int k q) := by
  rcases h with ⟨rfl, rfl⟩ | ⟨x, y, k, n, rfl, rfl, h1, h2⟩
  · exact ⟨dn, hd, fun q hq => .inl ⟨rfl, by omega⟩⟩
  · exact ⟨n, h1, fun q hq => .inr ⟨k, by simp [h2, hq]⟩⟩
theorem ok_slice {t : TypeId} {x : Operand} {lo hi : Option Operand} {sx : SV} {l h : Option X} {r : PR} (Hh : Here P cx w m ρ env st g a o) (ho : o.op = .slice t x lo hi none) (hx : st.get g x = some sx)
    (hl : optX (lo.bind (st.get g)) = some l) (hh : optX (hi.bind (st.get g)) = some h) (hs1 : (lo.isSome == l.isSome) = true) (hs2 : (hi.isSome == h.isSome) = true) (hr : sliceSV P st g t sx l h = some r)
    (hn : ∀ z ∈ r.needs, (z.den env).toB = true) : PureOk P cx w m ρ env a o r := by
  have hv := get_ok Hh (by simp [ho, Op.operands]) hx
  have bl := bound_ok Hh (lo := lo) (l := l) (fun y hy => by simp [ho, Op.operands, hy]) hl hs1
  have bh := bound_ok Hh (lo := hi) (l := h) (fun y hy => by simp [ho, Op.operands, hy]) hh hs2
  have h0 : (X.int 0).den env = .int ((0 : Nat) : Int) := rfl
  unfold sliceSV at hr
  split at hr
  · -- a string
    rename_i s hu
    cases hr
    obtain ⟨q, q1, q2⟩ := hv.txt_inv
    have hlen : (X.o1 .slen s).den env = .int (q.size : Int) := by simp [X.den, O1.den, q1, D.toS]
    obtain ⟨n1, e1, f1⟩ := bnd bl h0
    obtain ⟨n2, e2, f2⟩ := bnd bh hlen
    obtain ⟨c1, c2, c3⟩ := needs3 e1 e2 hlen hn (by simp) (by simp) (by simp)
    obtain ⟨k1, rfl⟩ := Int.eq_ofNat_of_zero_le c1
    obtain ⟨k2, rfl⟩ := Int.eq_ofNat_of_zero_le (show 0 ≤ n2 by omega)
    have hb := run_sliceBounds (P := P) (w := w) (isS := false) (cap := q.size) (f1 k1 rfl) (f2 k2 rfl) (by omega) (by omega)
    refine .val rfl rfl no_knows (v := .string (q.extract k1 k2)) ?_ (.txt (by simp only [X.den, O3.den, e1, e2, q1, D.toS, D.toI, Int.toNat_natCast]) (by have := hv.txt_bd q2; simp only [ByteArray.size_extract]; omega))
    simp [execOp, ho, q2, Instr.sliceAt, run_underlying hu, Instr.slice, hb]
  · -- what is read
    rename_i e src ks c hu
    split at hr
    · rename_i n hn'
      split at hr
      · rename_i hk
        cases hr
        simp only [Bool.and_eq_true] at hk
        have hk := nbeq hk.1
        generalize hav : a.eval x = v at hv
        cases hv with
        | sl s1 s2 =>
          obtain ⟨xs, ad, cap, d1, d2, d3, d4⟩ := s2.shape
          have hlen := len_den d1
          obtain ⟨n1, e1, f1⟩ := bnd bl h0
          obtain ⟨n2, e2, f2⟩ := bnd bh hlen
          obtain ⟨c1, c2, c3⟩ := needs3 e1 e2 hlen hn (by simp) (by simp) (by simp)
          obtain ⟨k1, rfl⟩ := Int.eq_ofNat_of_zero_le c1
          obtain ⟨k2, rfl⟩ := Int.eq_ofNat_of_zero_le (show 0 ≤ n2 by omega)
          have hb := run_sliceBounds (P := P) (w := w) (isS := true) (cap := cap) (f1 k1 rfl) (f2 k2 rfl) (by omega) (by omega)
          rw [d1, d2] at s2
          have hw := s2.window (l := k1) (h := k2) hk (by omega) (by omega)
          refine .val rfl rfl no_knows (v := .slice (if cap = k1 then ad else ad.map (·.add (k1 * n))) (k2 - k1) (cap - k1)) ?_ (.sl s1 ?_)
          rotate_left
          · simp only [X.den, O2.den, e1, e2, d1, D.toL, D.toI, Int.toNat_natCast]
            exact hw
          · simp [execOp, ho, hav, d2, Instr.sliceAt, run_underlying hu, Instr.slice, hb, run_sizeOf' hn']
      · cases hr
    · cases hr
  · -- an owned row
    rename_i e id pre hu
    split at hr
    · rename_i rw n hrw hn'
      split at hr
      · rename_i hk
        have hk := nbeq hk
        generalize hav : a.eval x = v at hv
        cases hv with
        | ov s1 s2 s3 s4 =>
          rename_i rc q
          have hrr := row_get Hh.heap Hh.g hrw s1
          obtain ⟨hm1, hm2⟩ := row_max hrr
          have hpl : (preLen rw pre).den env = .int q := by
            cases pre with
            | none => simp only [preLen]; rw [s3 rfl]; exact len_den hrr.1
            | some y => exact s4 y rfl
          split at hr
          · -- from the start
            split at hr
            · rename_i h'
              cases hr
              rcases bl with ⟨rfl, _⟩ | ⟨_, _, _, _, _, hcon, _⟩
              · rcases bh with ⟨_, hcon⟩ | ⟨y, y', k, n2, rfl, he, e2, e3⟩
                · cases hcon
                cases he
                have a1 := hn _ (List.mem_cons_self ..)
                have a2 := hn _ (List.mem_cons_of_mem _ (List.mem_cons_self ..))
                simp only [X.den, O2.den, e2, hpl, D.toI, D.toB, decide_eq_true_eq] at a1 a2
                obtain ⟨k2, rfl⟩ := Int.eq_ofNat_of_zero_le a1
                have hb := run_sliceBounds (P := P) (w := w) (isS := true) (len := q) (cap := rc.cap) (lo := none) (hi := some (.int k k2)) (.inl ⟨rfl, rfl⟩) (.inr ⟨k, rfl⟩) (by omega) (by omega)
                refine .val rfl rfl no_knows (v := .slice rc.addr k2 rc.cap) ?_ (.ov s1 (by omega) (fun h => by cases h) (fun z hz => by cases hz; exact e2))
                have hadd : ∀ ad : Addr, ad.add 0 = ad := fun ad => by simp [Addr.add]
                simp [execOp, ho, hav, e3, Instr.sliceAt, run_underlying hu, Instr.slice, hb, run_sizeOf' hn', hadd]
              · cases hcon
            · cases hr
              rcases bl with ⟨rfl, _⟩ | ⟨_, _, _, _, _, hcon, _⟩
              · rcases bh with ⟨rfl, _⟩ | ⟨_, _, _, _, _, hcon, _⟩
                · have hb := run_sliceBounds (P := P) (w := w) (isS := true) (len := q) (cap := rc.cap) (lo := none) (hi := none) (l := 0) (h := q) (.inl ⟨rfl, rfl⟩) (.inl ⟨rfl, rfl⟩) (by omega) (by omega)
                  refine .val rfl rfl no_knows (v := .slice rc.addr q rc.cap) ?_ (.ov s1 s2 s3 s4)
                  have hadd : ∀ ad : Addr, ad.add 0 = ad := fun ad => by simp [Addr.add]
                  simp [execOp, ho, hav, Instr.sliceAt, run_underlying hu, Instr.slice, hb, run_sizeOf' hn', hadd]
                · cases hcon
              · cases hcon
          · rename_i l'
            cases hr
            obtain ⟨n2, e2, f2⟩ := bnd bh hpl
            obtain ⟨n1, e1, f1⟩ := bnd bl h0
            simp only [Option.getD_some] at e1
            obtain ⟨c1, c2, c3⟩ := needs3 e1 e2 hpl hn (by simp) (by simp) (by simp)
            obtain ⟨k1, rfl⟩ := Int.eq_ofNat_of_zero_le c1
            obtain ⟨k2, rfl⟩ := Int.eq_ofNat_of_zero_le (show 0 ≤ n2 by omega)
            have hb := run_sliceBounds (P := P) (w := w) (isS := true) (len := q) (cap := rc.cap) (f1 k1 rfl) (f2 k2 rfl) (by omega) (by omega)
            refine .val rfl rfl no_knows (v := .slice (if rc.cap = k1 then rc.addr else rc.addr.map (·.add (k1 * n))) (k2 - k1) (rc.cap - k1)) ?_ (.ow s1 e1 e2 (by omega) (by omega) (by omega) (fun hlt => ?_))
            · simp [execOp, ho, hav, Instr.sliceAt, run_underlying hu, Instr.slice, hb, run_sizeOf' hn']
            · obtain ⟨b, hb'⟩ := row_addr hrr (by omega)
              refine ⟨b, hb', ?_⟩
              rw [if_neg (by omega), hb', Option.map_some, addr_add, Nat.zero_add, hk, hrr.2.1]
      · cases hr
    · cases hr
  · cases hr
theorem ok_len {x : Operand} {t : TypeId} {sx : SV} {r : PR} (Hh : Here P cx w m ρ env st g a o) (ho : o.op = .call { callee := .builtin .len, args := #[x], argTypes := #[t] }) (hx : st.get g x = some sx) (hr : lenSV st g sx = some r)
    (hu : (∃ s, sx = .txt s ∧ P.underlying t = some .string) ∨ (∃ e, P.underlying t = some (.slice e) ∧ ∀ s, sx ≠ .txt s)) : PureOk P cx w m ρ env a o r := by
  have hv := get_ok Hh (by simp [ho, Op.operands, Call.operands]) hx
  have run : ∀ n : Nat, (Builtin.len_ #[t] o.type #[a.eval x]).run P w = .ok (.int .i64 n) w → (execOp a.eval o).run P w = .ok (.value (.int .i64 n)) w := by
    intro n h
    simp [execOp, ho, resolve, invoke, builtin, h]
  have i64 : ∀ n : Nat, n ≤ maxL → inK .i64 (n : Int) = true := fun n hn => i64_inK (by omega) (by unfold maxL at hn; omega)
  unfold lenSV at hr
  split at hr
  · rename_i s
    cases hr
    obtain ⟨q, q1, q2⟩ := hv.txt_inv
    rcases hu with ⟨_, _, hu⟩ | ⟨_, _, hne⟩
    · refine .val rfl rfl no_knows (v := .int .i64 q.size) (run _ ?_) (.num (by simp [X.den, O1.den, q1, D.toS]) ?_)
      · simp [Builtin.len_, run_underlying hu, q2, goInt]
      · have := hv.txt_bd q2
        exact i64_inK (by omega) (by unfold maxS at this; omega)
    · exact absurd rfl (hne s)
  all_goals first | (cases hr; done) | (rcases hu with ⟨_, hcon, _⟩ | ⟨e, hu, _⟩; · cases hcon)
  · split at hr
    · cases hr
      generalize hav : a.eval x = v at hv run
      cases hv with
      | sl s1 s2 =>
        obtain ⟨xs, ad, cap, d1, d2, d3, d4⟩ := s2.shape
        refine .val rfl rfl (by intro z hz; simp only [List.mem_singleton] at hz; subst hz; rw [d1]; exact d4) (v := .int .i64 xs.length) (run _ ?_) (.num (len_den d1) (i64 _ d4))
        simp [Builtin.len_, run_underlying hu, d2, goInt]
    · cases hr
  · split at hr
    · rename_i rw hrw
      generalize hav : a.eval x = v at hv run
      cases hv with
      | ov s1 s2 s3 s4 =>
        rename_i rc q
        have hrr := row_get Hh.heap Hh.g hrw s1
        obtain ⟨hm1, hm2⟩ := row_max hrr
        split at hr
        · cases hr
          refine .val rfl rfl (by intro z hz; simp only [List.mem_singleton] at hz; subst hz; rw [hrr.1]; exact hm1) (v := .int .i64 q) (run _ ?_) (.num (by rw [s3 rfl]; exact len_den hrr.1) (i64 _ (by omega)))
          simp [Builtin.len_, run_underlying hu, goInt]
        · cases hr
          refine .val rfl rfl no_knows (v := .int .i64 q) (run _ ?_) (.num (s4 _ rfl) (i64 _ (by omega)))
          simp [Builtin.len_, run_underlying hu, goInt]
    · cases hr
  · split at hr
    · rename_i rw hrw
      cases hr
      generalize hav : a.eval x = v at hv run
      cases hv with
      | ow s1 s2 s3 s4 s5 s6 s7 =>
        rename_i rc l h ad cap
        have hrr := row_get Hh.heap Hh.g hrw s1
        obtain ⟨hm1, hm2⟩ := row_max hrr
        refine .val rfl rfl no_knows (v := .int .i64 ((h - l : Nat) : Int)) (run _ ?_) (.num ?_ (i64 _ (by omega)))
        · simp [Builtin.len_, run_underlying hu, goInt]
        · simp only [X.den, O2.den, s2, s3, D.toI]
          rw [IntKind.wrap_i64]
          unfold maxL at hm1
          congr 1
          omega
    · cases hr
  · split at hr
    · rename_i ks y hy
      cases hr
      obtain ⟨rc, fp, f1, f2, f3⟩ := nest_own Hh.heap Hh.g hy hv
      obtain ⟨xs, ad, cap, d1, d2, d3, d4⟩ := (f2.snap (S := (· ∈ rc.fp)) f3).shape
      refine .val rfl rfl (by intro z hz; simp only [List.mem_singleton] at hz; subst hz; rw [d1]; exact d4) (v := .int .i64 xs.length) (run _ ?_) (.num (len_den d1) (i64 _ d4))
      simp [Builtin.len_, run_underlying hu, d2, goInt]
    · cases hr
  · cases hr
    generalize hav : a.eval x = v at hv run
    cases hv
    refine .val rfl rfl no_knows (v := .int .i64 ((0 : Nat) : Int)) (run 0 ?_) (.num rfl rfl)
    simp [Builtin.len_, run_underlying hu, goInt]
end
end Go.Proofs.Ytfbahdalemajcaa.Eng

/-
  The engine: the last operations that change nothing, and all of them together.
-/
namespace Go.Proofs.Ytfbahdalemajcaa.Eng
section
variable {P : Program} {cx : Cx} {w : World} {m : BoxM} {ρ : RowM} {env : List D} {st : St} {g : Conds} {a : Act} {o : Oper}
theorem ok_extract {x : Operand} {i : Nat} {cs : List SV} {sv : SV} (Hh : Here P cx w m ρ env st g a o) (ho : o.op = .extract x i) (hx : st.get g x = some (.tup cs)) (hi : cs[i]? = some sv) : PureOk P cx w m ρ env a o { sv } := by
  obtain ⟨vs, h1, h2⟩ := (get_ok Hh (by simp [ho, Op.operands]) hx).tup_inv
  obtain ⟨hlt, he⟩ := List.getElem?_eq_some_iff.1 hi
  have hv := h2.2 i hlt
  have hlt' : i < vs.length := by rw [h2.1]; exact hlt
  have e1 : vs.getD i undef = vs[i] := by simp [List.getD_eq_getElem?_getD, hlt']
  have e2 : cs.getD i default = sv := by rw [List.getD_eq_getElem?_getD, hi]; rfl
  rw [e1, e2] at hv
  refine .val rfl rfl no_knows (v := vs[i]) ?_ hv
  simp [execOp, ho, h1, Instr.extract, hlt']
theorem gets_ok (Hh : Here P cx w m ρ env st g a o) : ∀ (l : List Operand) (svs : List SV), st.gets g l = some svs → (∀ x ∈ l, x ∈ o.op.operands) → SVRs cx w m ρ env svs (l.map a.eval)
  | [], svs, h, _ => by cases h; exact ⟨rfl, by simp⟩
  | x :: l, svs, h, hm => by
    simp only [St.gets] at h
    split at h
    · rename_i sv ss h1 h2
      cases h
      have ih := gets_ok Hh l ss h2 fun y hy => hm y (List.mem_cons_of_mem _ hy)
      refine ⟨by simp [ih.1], fun i hi => ?_⟩
      cases i with
      | zero => exact get_ok Hh (hm x (by simp)) h1
      | succ i => exact ih.2 i (by simpa using hi)
    · cases h
theorem ok_makeFunc {f : FuncId} {first cs : Array Operand} {svs : List SV} (Hh : Here P cx w m ρ env st g a o) (ho : o.op = .makeFunc (.func f) first cs) (hf : first.toList = []) (hx : st.gets g cs.toList = some svs) :
    PureOk P cx w m ρ env a o { sv := .clo f svs } := by
  have h := gets_ok Hh cs.toList svs hx fun x hx => by rw [ho]; simp only [Op.operands]; simp; exact .inr (by simpa using hx)
  have hf' : first = #[] := by simpa using hf
  refine .val rfl rfl no_knows (v := .func (.func f) #[] (cs.toList.map a.eval).toArray) ?_ (.clo h.1 h.2)
  have hm : cs.map a.eval = (cs.toList.map a.eval).toArray := by rw [← Array.toList_map]
  simp [execOp, ho, Instr.makeFunc, hf', hm]
theorem ok_nilCheck {x : Operand} {id off : Nat} (Hh : Here P cx w m ρ env st g a o) (ho : o.op = .nilCheck x) (hx : st.get g x = some (.bp id off)) : PureOk P cx w m ρ env a o { sv := .bp id off } := by
  have hv := get_ok Hh (by simp [ho, Op.operands]) hx
  obtain ⟨b, h1, h2⟩ := hv.bp_inv
  rw [h2] at hv
  refine .val rfl rfl no_knows ?_ hv
  simp [execOp, ho, h2]
theorem ok_max {x y : Operand} {ts : Array TypeId} {args : Array Operand} {k : IntKind} {p q : X} (Hh : Here P cx w m ρ env st g a o) (ho : o.op = .call { callee := .builtin .max, args, argTypes := ts }) (ha : args.toList = [x, y])
    (hx : st.get g x = some (.num k p)) (hy : st.get g y = some (.num k q)) : PureOk P cx w m ρ env a o { sv := .num k (.o2 .max p q) } := by
  have ha' : args = #[x, y] := by rw [← ha]
  subst ha'
  obtain ⟨n, n1, n2, n3⟩ := (get_ok Hh (by simp [ho, Op.operands, Call.operands]) hx).num_inv
  obtain ⟨c, c1, c2, c3⟩ := (get_ok Hh (by simp [ho, Op.operands, Call.operands]) hy).num_inv
  refine .val rfl rfl no_knows (v := .int k (if c > n then c else n)) ?_ (.num (by simp [X.den, O2.den, n1, c1, D.toI]) (by split <;> assumption))
  simp [execOp, ho, resolve, invoke, builtin, Builtin.max_, Builtin.max2, n3, c3]
theorem ok_min {x y : Operand} {ts : Array TypeId} {args : Array Operand} {k : IntKind} {p q : X} (Hh : Here P cx w m ρ env st g a o) (ho : o.op = .call { callee := .builtin .min, args, argTypes := ts }) (ha : args.toList = [x, y])
    (hx : st.get g x = some (.num k p)) (hy : st.get g y = some (.num k q)) : PureOk P cx w m ρ env a o { sv := .num k (.o2 .min p q) } := by
  have ha' : args = #[x, y] := by rw [← ha]
  subst ha'
  obtain ⟨n, n1, n2, n3⟩ := (get_ok Hh (by simp [ho, Op.operands, Call.operands]) hx).num_inv
  obtain ⟨c, c1, c2, c3⟩ := (get_ok Hh (by simp [ho, Op.operands, Call.operands]) hy).num_inv
  refine .val rfl rfl no_knows (v := .int k (if c < n then c else n)) ?_ (.num (by simp [X.den, O2.den, n1, c1, D.toI]) (by split <;> assumption))
  simp [execOp, ho, resolve, invoke, builtin, Builtin.min_, Builtin.min2, n3, c3]

/-- Every operation that changes nothing that was there. -/
theorem pure_ok {r : PR} (Hh : Here P cx w m ρ env st g a o) (h : evalPure P st g o.op = some r) (hn : ∀ z ∈ r.needs, (z.den env).toB = true) : PureOk P cx w m ρ env a o r := by
  cases ho : o.op with
  | move x =>
    simp only [ho, evalPure] at h
    split at h
    · rename_i sv hx; cases h; exact ok_move Hh (.inl ho) hx
    · cases h
  | assign x =>
    simp only [ho, evalPure] at h
    split at h
    · cases h
    · rename_i sv _ hx; cases h; exact ok_move Hh (.inr ho) (by assumption)
    · cases h
  | pick c x y =>
    simp only [ho, evalPure] at h
    split at h
    · rename_i xc hc
      split at h
      · rename_i sx sy hx hy
        split at h
        · rename_i sv hm; cases h; exact ok_pick Hh ho hc hx hy hm
        · cases h
      · cases h
    · cases h
  | alloc t =>
    simp only [ho, evalPure] at h
    split at h
    · rename_i cs hz; cases h; exact ok_alloc Hh ho hz
    · cases h
  | box t x =>
    simp only [ho, evalPure] at h
    split at h
    · rename_i v hx
      split at h
      · cases h
      · rename_i hne; cases h; exact ok_box Hh ho hx hne
    · cases h
  | load t x =>
    simp only [ho, evalPure] at h
    split at h
    · rename_i av hx
      split at h
      · rename_i sv hl; cases h; exact ok_load Hh ho hx hl
      · cases h
    · cases h
  | fieldAddr s x f =>
    simp only [ho, evalPure] at h
    split at h
    · rename_i fd n id off hf hx; cases h; exact ok_fieldAddr Hh ho hf hx (.inl ⟨_, _, rfl, rfl⟩)
    · rename_i fd n src ks e off hf hx; cases h; exact ok_fieldAddr Hh ho hf hx (.inr (.inl ⟨_, _, _, _, rfl, rfl⟩))
    · rename_i fd n id i off hf hx; cases h; exact ok_fieldAddr Hh ho hf hx (.inr (.inr ⟨_, _, _, rfl, rfl⟩))
    · cases h
  | field s x f =>
    simp only [ho, evalPure] at h
    split at h
    · rename_i fd n cs hf hx
      split at h
      · rename_i ha
        split at h
        · rename_i hle; cases h; exact ok_field Hh ho hf hx (.inl ⟨ha, nble hle, rfl⟩)
        · cases h
      · rename_i ha
        split at h
        · rename_i sv hc; cases h; exact ok_field Hh ho hf hx (.inr ⟨ha, hc⟩)
        · cases h
      · cases h
    · cases h
  | indexAddr t x i =>
    simp only [ho, evalPure] at h
    split at h
    · rename_i e ks src ks' l k ix he hx hi
      split at h
      · rename_i hk
        cases h
        simp only [Bool.and_eq_true] at hk
        have hk1 := CK.beqs_eq _ _ hk.1
        subst hk1
        exact ok_indexAddr Hh ho he hx hi hn (.inl ⟨_, _, rfl, rfl⟩)
      · cases h
    · rename_i e ks id pre k ix he hx hi
      split at h
      · rename_i rw hrw
        split at h
        · rename_i hk
          cases h
          exact ok_indexAddr Hh ho he hx hi hn (.inr (.inl ⟨_, _, _, rfl, hrw, CK.beqs_eq _ _ hk, rfl⟩))
        · cases h
      · cases h
    · rename_i e ks id j c k ix he hx hi
      split at h
      · rename_i ks' y hy
        split at h
        · rename_i hk
          cases h
          have hk1 := CK.beqs_eq _ _ hk
          subst hk1
          exact ok_indexAddr Hh ho he hx hi hn (.inr (.inr ⟨_, _, _, _, rfl, hy, rfl⟩))
        · cases h
      · cases h
    · cases h
  | index t x i =>
    simp only [ho, evalPure] at h
    split at h
    · rename_i s k ix hu hx hi; cases h; exact ok_index Hh ho hu hx hi hn
    · cases h
  | binOp op xt x y yt =>
    simp only [ho, evalPure] at h
    split at h
    · rename_i sa sb hx hy; exact ok_binOp Hh ho hx hy h hn
    · cases h
  | unOp op t x =>
    simp only [ho, evalPure] at h
    split at h
    · rename_i xx hx; cases h; exact ok_not Hh ho hx
    · rename_i k xx hx; cases h; exact ok_neg Hh ho hx
    · cases h
  | convert s d x =>
    simp only [ho, evalPure] at h
    split at h
    · rename_i sv hx; exact ok_conv Hh ho hx h
    · cases h
  | makeSlice t l c =>
    simp only [ho, evalPure] at h
    split at h
    · rename_i e ks n m' he hl hc
      split at h
      · rename_i hnm
        simp only [beq_iff_eq] at hnm
        subst hnm
        split at h
        · rename_i zs hz
          split at h
          · rename_i xs hx; cases h; exact ok_makeSlice Hh ho he hl hc hz hx hn
          · cases h
        · cases h
      · cases h
    · cases h
  | buildSlice t n parts =>
    simp only [ho, evalPure] at h
    split at h
    · rename_i e ks he
      split at h
      · rename_i xs zs hx hz
        split at h
        · rename_i hk
          cases h
          simp only [Bool.and_eq_true] at hk
          exact ok_buildSlice Hh ho he hx hz (nbeq hk.1) (nble hk.2)
        · cases h
      · cases h
    · cases h
  | build t parts =>
    simp only [ho, evalPure] at h
    split at h
    · rename_i fs zs hu hz
      split at h
      · rename_i cs hs hf; cases h; exact ok_build Hh ho hu hs hz hf
      · cases h
    · cases h
  | slice t x lo hi mx =>
    cases mx with
    | some _ => simp [ho, evalPure] at h
    | none =>
      simp only [ho, evalPure] at h
      split at h
      · rename_i sx l hh hx hl hhh
        split at h
        · rename_i hk
          simp only [Bool.and_eq_true] at hk
          exact ok_slice Hh ho hx hl hhh hk.1 hk.2 h hn
        · cases h
      · cases h
  | extract x i =>
    simp only [ho, evalPure] at h
    split at h
    · rename_i cs hx
      split at h
      · rename_i sv hi; cases h; exact ok_extract Hh ho hx hi
      · cases h
    · cases h
  | makeFunc f first cs =>
    cases f with
    | func f =>
      simp only [ho, evalPure] at h
      split at h
      · rename_i svs hf hx; cases h; exact ok_makeFunc Hh ho hf hx
      · cases h
    | _ => simp [ho, evalPure] at h
  | nilCheck x =>
    simp only [ho, evalPure] at h
    split at h
    · rename_i id off hx; cases h; exact ok_nilCheck Hh ho hx
    · cases h
  | call c =>
    obtain ⟨callee, args, argTypes⟩ := c
    cases callee with
    | builtin b =>
      simp only [ho, evalPure] at h
      split at h
      · rename_i x t ha ht
        have ha' : args = #[x] := by rw [← ha]
        have ht' : argTypes = #[t] := by rw [← ht]
        subst ha' ht'
        split at h
        · rename_i s hx hu; exact ok_len Hh ho hx h (.inl ⟨_, rfl, hu⟩)
        · rename_i hx hu; exact ok_len Hh ho hx h (.inr ⟨_, hu, by simp⟩)
        · rename_i hx hu; exact ok_len Hh ho hx h (.inr ⟨_, hu, by simp⟩)
        · rename_i hx hu; exact ok_len Hh ho hx h (.inr ⟨_, hu, by simp⟩)
        · rename_i hx hu; exact ok_len Hh ho hx h (.inr ⟨_, hu, by simp⟩)
        · rename_i hx hu; exact ok_len Hh ho hx h (.inr ⟨_, hu, by simp⟩)
        · cases h
      · rename_i x y ha
        split at h
        · rename_i k p k' q hx hy
          split at h
          · rename_i hk
            simp only [beq_iff_eq] at hk
            subst hk
            cases h
            exact ok_max Hh ho ha hx hy
          · cases h
        · cases h
      · rename_i x y ha
        split at h
        · rename_i k p k' q hx hy
          split at h
          · rename_i hk
            simp only [beq_iff_eq] at hk
            subst hk
            cases h
            exact ok_min Hh ho ha hx hy
          · cases h
        · cases h
      · cases h
    | _ => simp [ho, evalPure] at h
  | _ => simp [ho, evalPure] at h
end
end Go.Proofs.Ytfbahdalemajcaa.Eng
