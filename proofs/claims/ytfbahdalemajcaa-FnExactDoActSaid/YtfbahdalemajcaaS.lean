/- What the functions compute, as functions on data. -/
import Derived.Test.YtfbahdalemajcaaE6
namespace Go.Proofs.Ytfbahdalemajcaa
open Go.Proofs.Ytfbahdalemajcaa.Eng
set_option linter.unusedSimpArgs false
set_option linter.unusedVariables false
def gone (d : D) : Bool := (d.fld 4).toI == 0 && (d.fld 0).toI != 2
def inR (a b c : Int) : Bool := decide (b ≤ a) && decide (a ≤ c)
def bound (a : Int) : Int := if a > 2147483647 then 2147483647 else if a < -2147483647 then -2147483647 else a
def upto (a b : Int) : Int := if (if b < a then b else a) < 0 then 0 else if b < a then b else a
def guardOk (d : D) : Bool :=
  if (d.fld 0).toI = 0 ∨ (d.fld 0).toI = 3 then (d.fld 1).toI == 0 else if (d.fld 0).toI = 1 then inR (d.fld 1).toI (-2147483647) 2147483647
  else if (d.fld 0).toI = 2 ∨ (d.fld 0).toI = 4 then inR (d.fld 1).toI 0 8 else false
def patOk (d : D) : Bool :=
  inR (d.fld 0).toI 1 6 && inR (d.fld 1).toI 0 2 && inR (d.fld 2).toI 0 99 && inR (d.fld 3).toI 0 63 && inR (d.fld 4).toI 0 99 && inR (d.fld 5).toI 0 2147483647 && inR (d.fld 6).toI 0 4 &&
  !((d.fld 0).toI != 1 && ((d.fld 2).toI != 0 || (d.fld 3).toI != 0) || (d.fld 0).toI != 2 && (d.fld 6).toI != 0) && ((d.fld 4).toI == 0 || (d.fld 0).toI != 3 && (d.fld 0).toI != 4)
theorem int_eta {d : D} {k : IntKind} (h : CK.okD (.int k) d) : D.int d.toI = d := by obtain ⟨n, rfl, _⟩ := ok_int h; rfl
theorem int_range {d : D} (h : CK.okD (.int .i64) d) : -9223372036854775808 ≤ d.toI ∧ d.toI ≤ 9223372036854775807 := by obtain ⟨n, rfl, h⟩ := ok_int h; exact inK_i64 h
theorem sl_eta {d : D} {ks : List CK} (h : CK.okD (.sl ks) d) : D.lst d.toL = d := by obtain ⟨n, rfl, _⟩ := ok_sl h; rfl
theorem sl_len {d : D} {ks : List CK} (h : CK.okD (.sl ks) d) : d.toL.length ≤ maxL := by obtain ⟨n, rfl, h, _⟩ := ok_sl h; exact h
theorem sl_all {d : D} {ks : List CK} (h : CK.okD (.sl ks) d) : ∀ x ∈ d.toL, okL ks x := by obtain ⟨n, rfl, _, h⟩ := ok_sl h; exact h
theorem elem_mem {d : D} {i : Nat} (h : i < d.toL.length) : d.elem i ∈ d.toL := by simp [D.elem, h]
theorem copy_step {d z e : D} {i : Nat} (h : i < d.toL.length) (he : e = d.elem i) : (d.toL.take i ++ List.replicate (d.toL.length - i) z).set i e = d.toL.take (i + 1) ++ List.replicate (d.toL.length - (i + 1)) z := by
  subst he
  apply List.ext_getElem
  · simp; omega
  · intro j h1 h2
    simp only [List.getElem_set, List.getElem_append, List.length_take, List.getElem_take, List.getElem_replicate]
    have e : d.elem i = d.toL[i] := by simp [D.elem, h]
    split
    · rename_i hj
      subst hj
      rw [dif_pos (by omega)]
      exact e
    · by_cases hj : j < i
      · rw [dif_pos (by omega), dif_pos (by omega)]
      · rw [dif_neg (by omega), dif_neg (by omega)]
theorem copy_end {d z : D} {i : Nat} (h : d.toL.length ≤ i) : d.toL.take i ++ List.replicate (d.toL.length - i) z = d.toL := by
  rw [List.take_of_length_le h, show d.toL.length - i = 0 by omega]; simp
theorem eta1 {k : CK} {x : D} (h : okL [k] x) : D.lst [x.fld 0] = x := by simpa [List.range, List.range.loop] using okL_eta h
def markedN (n : Int) (k : Nat) : List D := (List.range k).map fun (i : Nat) => .lst [.int (n + i)]
@[simp] theorem markedN_length (n : Int) (k : Nat) : (markedN n k).length = k := by simp [markedN]
def szS (n : Int) (l : Nat) : Int := if n - l < 0 then -1 else n - l
@[simp] theorem szS_neg {n : Int} {l : Nat} : szS n l < 0 ↔ n < l := by simp only [szS]; split <;> omega
@[simp] theorem szS_nn {n : Int} {l : Nat} : 0 ≤ szS n l ↔ l ≤ n := by simp only [szS]; split <;> omega
def actFits (a : D) (k : Int) : Bool :=
  inR k 1 6 && (if (a.fld 0).toI = 2 ∨ (a.fld 0).toI = 6 then k == 1 else if (a.fld 0).toI = 3 ∨ (a.fld 0).toI = 4 ∨ (a.fld 0).toI = 5 then k != 2 else if (a.fld 0).toI = 7 ∨ (a.fld 0).toI = 8 then k == 2 else (a.fld 0).toI == 1 || (a.fld 0).toI == 9)
def plus (a b : Int) : Int := bound (IntKind.i64.wrap (bound a + bound b))
def twice (a : Int) : Int := bound (IntKind.i64.wrap (2 * bound a))
def half (a : Int) : Int := IntKind.i64.wrap ((bound a).tdiv 2)
def amount (a : D) (n : Int) : Int :=
  if (a.fld 0).toI = 1 then 0 else if (a.fld 0).toI = 3 then plus (upto n 2147483647) (a.fld 1).toI else if (a.fld 0).toI = 4 then twice (upto n 2147483647) else if (a.fld 0).toI = 5 then half (upto n 2147483647) else upto n 2147483647
def onPiece (e : D) : Bool := inR (e.fld 2).toI 1 99 && (e.fld 3).toI == -1
def onPlayer (e : D) : Bool := (e.fld 2).toI == 0 && inR (e.fld 3).toI 0 2
def eventOk (e : D) : Bool :=
  inR (e.fld 4).toI 0 2147483647 &&
  (if (e.fld 0).toI = 1 then inR (e.fld 1).toI 1 99 && (onPiece e || onPlayer e) && (e.fld 5).toI == 0 && !(e.fld 6).toB
   else if (e.fld 0).toI = 2 then (e.fld 1).toI == 0 && onPiece e && inR (e.fld 5).toI 1 4 && decide ((e.fld 4).toI ≤ 99) && ((e.fld 5).toI == 2 || (e.fld 4).toI == 0 && !(e.fld 6).toB)
   else if (e.fld 0).toI = 3 ∨ (e.fld 0).toI = 4 then (e.fld 1).toI == 0 && onPlayer e && (e.fld 5).toI == 0 && !(e.fld 6).toB
   else if (e.fld 0).toI = 5 ∨ (e.fld 0).toI = 6 then (e.fld 1).toI == 0 && onPiece e && (e.fld 5).toI == 0 && !(e.fld 6).toB else false)
theorem take_elem {d : D} {i : Nat} (h : i < d.toL.length) : d.toL.take (i + 1) = d.toL.take i ++ [d.elem i] := by
  rw [List.take_add_one]; simp [D.elem, h]
def allR (p : Nat → Bool) (n : Nat) : Bool := (List.range n).all p
theorem allR_true {p : Nat → Bool} {n : Nat} (h : ∀ j, j < n → p j = true) : allR p n = true := by simp only [allR, List.all_eq_true, List.mem_range]; exact h
theorem allR_false {p : Nat → Bool} {n i : Nat} (hi : i < n) (h : p i = false) : allR p n = false := by simp only [allR, List.all_eq_false, List.mem_range]; exact ⟨i, hi, by simp [h]⟩
/-- The first place from 'i' on where the condition holds, of 'n' places; -1 if there is none. -/
def findR (p : Nat → Bool) (n : Nat) : Int := match (List.range n).find? p with
  | some j => j
  | none => -1
theorem findR_none {p : Nat → Bool} {n : Nat} (h : ∀ j, j < n → p j = false) : findR p n = -1 := by
  have : (List.range n).find? p = none := by simp only [List.find?_eq_none, List.mem_range]; intro j hj; simp [h j hj]
  simp [findR, this]
theorem findR_some {p : Nat → Bool} {n i : Nat} (hi : i < n) (hp : p i = true) (h : ∀ j, j < i → p j = false) : findR p n = i := by
  have : (List.range n).find? p = some i := by
    rw [List.find?_eq_some_iff_getElem]
    refine ⟨hp, i, by simpa using hi, by simp, fun j hj => by simp [h j hj]⟩
  simp [findR, this]
theorem findR_nn {p : Nat → Bool} {n : Nat} : decide (0 ≤ findR p n) = !allR (fun i => !p i) n := by
  by_cases h : ∃ j, j < n ∧ p j = true
  · obtain ⟨j, hj, hp⟩ := h
    rw [allR_false hj (by simp [hp])]
    cases hf : (List.range n).find? p with
    | none => simp only [List.find?_eq_none, List.mem_range] at hf; exact absurd hp (hf j hj)
    | some i => simp [findR, hf]
  · have h' : ∀ j, j < n → p j = false := fun j hj => by cases hp : p j <;> simp_all
    rw [findR_none h', allR_true fun j hj => by simp [h' j hj]]
    rfl
theorem okL_at {ks : List CK} {d : D} {i : Nat} {k : CK} (h : okL ks d) (hi : ks[i]? = some k) : CK.okD k (d.fld i) := by
  obtain ⟨es, rfl, h⟩ := h
  have : ∀ (ks : List CK) (es : List D) (i : Nat), CK.okDs ks es → ks[i]? = some k → CK.okD k ((D.lst es).fld i) := by
    intro ks
    induction ks with
    | nil => intro es i _ h; simp at h
    | cons c ks ih =>
      intro es i h hi
      cases es with
      | nil => simp [CK.okDs] at h
      | cons e es =>
        simp only [CK.okDs] at h
        cases i with
        | zero =>
          simp only [List.getElem?_cons_zero, Option.some.injEq] at hi
          subst hi
          exact h.1
        | succ i => exact ih es i h.2 (by simpa using hi)
  exact this ks es i h hi
theorem findR_range (p : Nat → Bool) (n : Nat) : -1 ≤ findR p n ∧ findR p n < n := by
  simp only [findR]
  cases hf : (List.range n).find? p with
  | none => simp; omega
  | some i =>
    have := List.mem_of_find?_eq_some hf
    simp only [List.mem_range] at this
    simp
    omega
def countR (p : Nat → Bool) (n : Nat) : Nat := ((List.range n).filter p).length
@[simp] theorem countR_zero (p : Nat → Bool) : countR p 0 = 0 := rfl
def bentP (s : D) (n : Int) (i : Nat) : Bool := (((s.fld 0).elem i).fld 3).toI == 2 && (((s.fld 0).elem i).fld 2).toI == n && (((s.fld 0).elem i).fld 12).toB
def manyP (s : D) (n : Int) (i : Nat) : Bool := (((s.fld 0).elem i).fld 3).toI == 2 && (((s.fld 0).elem i).fld 2).toI == n
def bentOf (s : D) (n : Int) : Int := countR (bentP s n) (s.fld 0).toL.length
def many (s : D) (n : Int) : Int := countR (manyP s n) (s.fld 0).toL.length
def holds (s : D) (n : Int) (g : D) : Bool :=
  guardOk g && inR n 0 ((s.fld 1).toL.length - 1) &&
  (if (g.fld 0).toI = 1 then decide ((((s.fld 1).elem n.toNat).fld 0).toI ≤ (g.fld 1).toI) else if (g.fld 0).toI = 2 then decide ((g.fld 1).toI ≤ many s n)
   else if (g.fld 0).toI = 3 then (s.fld 2).toI == n else if (g.fld 0).toI = 4 then decide ((g.fld 1).toI ≤ bentOf s n) else true)
def ev0 (e : D) : D := .lst [e.fld 0, e.fld 1, e.fld 2, e.fld 3, .int 0, e.fld 5, e.fld 6]
def partOk (e : D) : Bool := if (e.fld 4).toI = -1 ∧ (e.fld 0).toI ≠ 2 then eventOk (ev0 e) else eventOk e
def plain (a : D) : Bool := (a.fld 2).toI == 0 && (a.fld 3).toI == -1 && (a.fld 4).toI == 0 && !(a.fld 5).toB && ((a.fld 6).toL.length : Int) == 0
def actOk (a : D) : Bool :=
  if (a.fld 0).toI = 1 ∨ (a.fld 0).toI = 2 ∨ (a.fld 0).toI = 4 ∨ (a.fld 0).toI = 5 then plain a && (a.fld 1).toI == 0
  else if (a.fld 0).toI = 3 then plain a && inR (a.fld 1).toI 1 2147483647
  else if (a.fld 0).toI = 6 then (a.fld 1).toI == 0 && (a.fld 4).toI == 0 && !(a.fld 5).toB && ((a.fld 6).toL.length : Int) == 0 && (inR (a.fld 2).toI 1 99 && (a.fld 3).toI == -1 || (a.fld 2).toI == 0 && inR (a.fld 3).toI 0 2)
  else if (a.fld 0).toI = 7 then (a.fld 1).toI == 0 && (a.fld 2).toI == 0 && (a.fld 3).toI == -1 && !(a.fld 5).toB && ((a.fld 6).toL.length : Int) == 0 && inR (a.fld 4).toI 1 4
  else if (a.fld 0).toI = 8 then inR (a.fld 1).toI 0 99 && (a.fld 2).toI == 0 && (a.fld 3).toI == -1 && (a.fld 4).toI == 0 && ((a.fld 6).toL.length : Int) == 0
  else if (a.fld 0).toI = 9 then (a.fld 1).toI == 0 && (a.fld 2).toI == 0 && (a.fld 3).toI == -1 && (a.fld 4).toI == 0 && !(a.fld 5).toB && inR (a.fld 6).toL.length 1 3 && allR (fun i => partOk ((a.fld 6).elem i)) (a.fld 6).toL.length
  else false
def patOf (e : D) : D := .lst [e.fld 4, e.fld 5, e.fld 6, e.fld 7, e.fld 8, e.fld 9, e.fld 10]
def grdOf (e : D) : D := .lst [e.fld 11, e.fld 12]
def actOf (e : D) : D := .lst [e.fld 13, e.fld 14, e.fld 15, e.fld 16, e.fld 17, e.fld 18, e.fld 19]
def effectOk (e : D) : Bool :=
  inR (e.fld 0).toI 1 99 && inR (e.fld 1).toI 0 2 && inR (e.fld 2).toI 0 99 && inR (e.fld 3).toI 0 4 && inR (e.fld 20).toI (-1) 9999 && inR (e.fld 21).toI (-1) 2147483647 &&
  !((e.fld 3).toI == 0 && (e.fld 2).toI == 0 || (e.fld 13).toI == 2 && decide ((e.fld 21).toI < 0)) && patOk (patOf e) && guardOk (grdOf e) && actOk (actOf e) && actFits (actOf e) (e.fld 4).toI
def sumR (f : Nat → Nat) : Nat → Nat
  | 0 => 0
  | n + 1 => sumR f n + f n
theorem sumR_mono (f : Nat → Nat) {i n : Nat} (h : i ≤ n) : sumR f i ≤ sumR f n := by
  induction h with
  | refl => exact Nat.le_refl _
  | step _ ih => exact Nat.le_trans ih (Nat.le_add_right _ _)
theorem sumR_at (f : Nat → Nat) {i n : Nat} (h : i < n) : f i ≤ sumR f n := by
  have h1 := sumR_mono f (show i + 1 ≤ n from h)
  simp only [sumR] at h1
  omega
def innerE (d : D) (i : Nat) : Nat := ((d.elem i).fld 19).toL.length
def szEs (n : Int) (d : D) : Int := if n - d.toL.length - sumR (innerE d) d.toL.length < 0 then -1 else n - d.toL.length - sumR (innerE d) d.toL.length
def smallE (d : D) : Prop := (d.toL.length : Int) ≤ 1048576 ∧ ∀ i, i < d.toL.length → (((d.elem i).fld 19).toL.length : Int) ≤ 1048576
theorem smallE_of {d : D} {n : Int} (h : 0 ≤ szEs n d) (hn : n ≤ 1048576) : smallE d := by
  have h' : 0 ≤ n - d.toL.length - sumR (innerE d) d.toL.length := by simp only [szEs] at h; split at h <;> omega
  refine ⟨by omega, fun i hi => ?_⟩
  have := sumR_at (innerE d) hi
  have e : innerE d i = ((d.elem i).fld 19).toL.length := rfl
  omega
def partE (a v : D) (i : Nat) : D :=
  if (((a.fld 6).elem i).fld 4).toI = -1 then .lst [((a.fld 6).elem i).fld 0, ((a.fld 6).elem i).fld 1, ((a.fld 6).elem i).fld 2, ((a.fld 6).elem i).fld 3, .int (upto (v.fld 4).toI 2147483647), ((a.fld 6).elem i).fld 5, ((a.fld 6).elem i).fld 6]
  else (a.fld 6).elem i
def partsTo (a v : D) (k : Nat) : List D := (List.range k).map (partE a v)
@[simp] theorem partsTo_length (a v : D) (k : Nat) : (partsTo a v k).length = k := by simp [partsTo]
theorem partsTo_succ (a v : D) (k : Nat) : partsTo a v (k + 1) = partsTo a v k ++ [partE a v k] := by simp [partsTo, List.range_succ]
def parts (a v : D) : List D := if (a.fld 0).toI = 9 then partsTo a v (a.fld 6).toL.length else []
theorem parts_le (a v : D) : (parts a v).length ≤ (a.fld 6).toL.length := by simp only [parts]; split <;> simp
def evMark (m : Int) : D := .lst [.int m, .int (m + 1), .int (m + 2), .int (m + 3), .int (m + 4), .int (m + 5), .bool ((m + 6).tmod 3 == 0)]
def markedE (n : Int) (k : Nat) : List D := (List.range k).map fun (i : Nat) => evMark (n + 7 * i)
@[simp] theorem markedE_length (n : Int) (k : Nat) : (markedE n k).length = k := by simp [markedE]
theorem markE_step {n : Int} {l : List D} {i : Nat} (h : i < l.length) : markedE n i ++ (l.drop i).set 0 (evMark (n + 7 * i)) = markedE n (i + 1) ++ l.drop (i + 1) := by
  simp only [markedE, List.range_succ, List.map_append, List.map_cons, List.map_nil, List.append_assoc, List.singleton_append]
  congr 1
  rw [List.drop_eq_getElem_cons h]
  rfl
theorem heldE_at {n : Int} {d : D} {i : Nat} (h : markedE n d.toL.length = d.toL) (hi : i < d.toL.length) : d.elem i = evMark (n + 7 * i) := by
  simp only [D.elem]
  rw [← h]
  simp [markedE, hi]
theorem elem_mark {n : Int} {d : D} {i : Nat} (h : i < d.toL.length) : (D.lst (markedE n i ++ d.toL.drop i)).elem i = d.elem i := by
  simp [D.elem, List.getElem?_append_right]
theorem elem_mark_set {n : Int} {d x : D} {i : Nat} (h : i < d.toL.length) : (D.lst (markedE n i ++ (d.toL.drop i).set 0 x)).elem i = x := by
  have hl : 0 < (d.toL.drop i).length := by simp; omega
  show (markedE n i ++ (d.toL.drop i).set 0 x).getD i default = x
  rw [List.getD_eq_getElem?_getD, List.getElem?_append_right (by simp), markedE_length, Nat.sub_self, List.getElem?_set_self hl]
  rfl
def less (a b : Int) : Int := bound (IntKind.i64.wrap (bound a - bound b))
def spent (e : D) (n : Int) : D := if (e.fld 13).toI = 2 then .lst [e.fld 0, e.fld 1, e.fld 2, e.fld 3, e.fld 4, e.fld 5, e.fld 6, e.fld 7, e.fld 8, e.fld 9, e.fld 10, e.fld 11, e.fld 12, e.fld 13, e.fld 14, e.fld 15, e.fld 16, e.fld 17, e.fld 18, e.fld 19, e.fld 20, .int (upto (less (e.fld 21).toI n) 2147483647)] else if (e.fld 21).toI > 0 then .lst [e.fld 0, e.fld 1, e.fld 2, e.fld 3, e.fld 4, e.fld 5, e.fld 6, e.fld 7, e.fld 8, e.fld 9, e.fld 10, e.fld 11, e.fld 12, e.fld 13, e.fld 14, e.fld 15, e.fld 16, e.fld 17, e.fld 18, e.fld 19, e.fld 20, .int (IntKind.i64.wrap ((e.fld 21).toI - 1))] else e
def withL (d l : D) : D := .lst [d.fld 0, d.fld 1, d.fld 2, d.fld 3, d.fld 4, d.fld 5, d.fld 6, d.fld 7, d.fld 8, d.fld 9, d.fld 10, d.fld 11, d.fld 12, d.fld 13, d.fld 14, d.fld 15, d.fld 16, d.fld 17, d.fld 18, l, d.fld 20, d.fld 21]
def mkL (f : Nat → D) (k : Nat) : List D := (List.range k).map f
@[simp] theorem mkL_length (f : Nat → D) (k : Nat) : (mkL f k).length = k := by simp [mkL]
theorem mkL_elem {f : Nat → D} {k i : Nat} (hi : i < k) : (D.lst (mkL f k)).elem i = f i := by simp [D.elem, mkL, hi]
theorem sumR_congr {f g : Nat → Nat} {k : Nat} (h : ∀ i, i < k → f i = g i) : sumR f k = sumR g k := by
  induction k with
  | zero => rfl
  | succ k ih => rw [sumR, sumR, ih fun i hi => h i (by omega), h k (by omega)]
def effMark (m : Int) (q : Nat) : D := .lst [.int m, .int (m + 1), .int (m + 2), .int (m + 3), .int (m + 4), .int (m + 5), .int (m + 6), .int (m + 7), .int (m + 8), .int (m + 9), .int (m + 10), .int (m + 11), .int (m + 12), .int (m + 13), .int (m + 14), .int (m + 15), .int (m + 16), .int (m + 17), .bool ((m + 18).tmod 3 == 0), .lst (markedE (m + 19) q), .int (m + 19 + 7 * q), .int (m + 20 + 7 * q)]
def offE (n : Int) (d : D) (i : Nat) : Int := n + 21 * i + 7 * sumR (innerE d) i
def markEfs (n : Int) (d : D) (k : Nat) : List D := mkL (fun i => effMark (offE n d i) (innerE d i)) k
def endE (n : Int) (d : D) : Int := offE n d d.toL.length
@[simp] theorem markEfs_length (n : Int) (d : D) (k : Nat) : (markEfs n d k).length = k := by simp [markEfs]
theorem innerE_mark {n : Int} {d : D} {k i : Nat} (h : i < k) : innerE (.lst (markEfs n d k)) i = innerE d i := by
  simp only [innerE, markEfs, mkL_elem h]
  simp [effMark, innerE]
theorem offE_mark {n m : Int} {d : D} {i : Nat} (h : i ≤ d.toL.length) : offE m (.lst (markEfs n d d.toL.length)) i = offE m d i := by
  simp only [offE]
  rw [sumR_congr fun j hj => innerE_mark (n := n) (d := d) (by omega)]
theorem endE_mark {n m : Int} {d : D} : endE m (.lst (markEfs n d d.toL.length)) = endE m d := by
  simp only [endE, toL_lst, markEfs_length]
  exact offE_mark (Nat.le_refl _)
def has (l : D) (n : Int) : Bool := !allR (fun i => ((l.elem i).fld 0).toI != n) l.toL.length
theorem spent_fld (e : D) (n : Int) : (spent e n).fld 19 = e.fld 19 := by
  simp only [spent]
  repeat' split
  all_goals rfl
@[simp] theorem withL_fld (d l : D) : (withL d l).fld 19 = l := rfl
attribute [simp] endE_mark
@[simp] theorem bytes_append (a b : List UInt8) : (ByteArray.mk ⟨a⟩) ++ (ByteArray.mk ⟨b⟩) = ByteArray.mk ⟨a ++ b⟩ := by
  apply ByteArray.ext
  simp
@[simp] theorem bytes_size (a : List UInt8) : (ByteArray.mk ⟨a⟩).size = a.length := rfl
@[simp] theorem bytes_toList (a : List UInt8) : (ByteArray.mk ⟨a⟩).data.toList = a := rfl
theorem findR_neg {p : Nat → Bool} {n : Nat} (h : findR p n < 0) : ∀ j, j < n → p j = false := by
  intro j hj
  simp only [findR] at h
  split at h
  · omega
  · rename_i hn
    simp only [List.find?_eq_none, List.mem_range] at hn
    simpa using hn j hj
theorem findR_pos {p : Nat → Bool} {n : Nat} (h : 0 ≤ findR p n) : ∃ i : Nat, findR p n = (i : Int) ∧ i < n ∧ p i = true ∧ ∀ j, j < i → p j = false := by
  simp only [findR] at h ⊢
  split at h
  · rename_i i hi
    rw [List.find?_eq_some_iff_getElem] at hi
    obtain ⟨hp, k, hk, he, hb⟩ := hi
    simp only [List.getElem_range] at he hb
    subst he
    simp only [List.length_range] at hk
    refine ⟨k, rfl, hk, hp, fun j hj => by simpa using hb j hj⟩
  · omega
def withN (e : D) (n : Int) : D := .lst [e.fld 0, e.fld 1, e.fld 2, e.fld 3, .int (upto n 2147483647), e.fld 5, e.fld 6]
/-- An event that is turned, but not into parts. -/
def oneE (a v : D) : D :=
  if (a.fld 0).toI = 3 ∨ (a.fld 0).toI = 4 ∨ (a.fld 0).toI = 5 then withN v (amount a (v.fld 4).toI)
  else if (a.fld 0).toI = 6 then .lst [v.fld 0, v.fld 1, a.fld 2, a.fld 3, v.fld 4, v.fld 5, v.fld 6]
  else if (a.fld 0).toI = 7 then (if (a.fld 4).toI = 2 then .lst [v.fld 0, v.fld 1, v.fld 2, v.fld 3, v.fld 4, a.fld 4, v.fld 6] else .lst [v.fld 0, v.fld 1, v.fld 2, v.fld 3, .int 0, a.fld 4, .bool false])
  else if (a.fld 0).toI = 8 then (if (v.fld 5).toI = 2 then .lst [v.fld 0, v.fld 1, v.fld 2, v.fld 3, .int (upto (IntKind.i64.wrap ((v.fld 4).toI + (a.fld 1).toI)) 99), v.fld 5, .bool ((v.fld 6).toB || (a.fld 5).toB)] else v)
  else v
def actedN (e v : D) : Int := if (e.fld 13).toI = 1 then (if (v.fld 0).toI = 1 then (v.fld 4).toI else 0) else if (e.fld 13).toI = 2 then upto (v.fld 4).toI (e.fld 21).toI else 0
def actedL (e v : D) : List D :=
  if (e.fld 13).toI = 1 then [] else if (e.fld 13).toI = 2 then [withN v (IntKind.i64.wrap ((v.fld 4).toI - upto (v.fld 4).toI (e.fld 21).toI))] else if (e.fld 13).toI = 9 then parts (actOf e) v else [oneE (actOf e) v]
def goodEv (x : D) : Bool := eventOk x && !gone x
def doOk (e v : D) : Bool := effectOk e && eventOk v && actFits (actOf e) (v.fld 0).toI
def doL (e v : D) : List D := if doOk e v then (actedL e v).filter goodEv else [v]
def doN (e v : D) : Int := if doOk e v then actedN e v else 0
def doE (e v : D) : D := if doOk e v then spent e (actedN e v) else e
theorem oneE_eta (a v : D) (h : D.lst [v.fld 0, v.fld 1, v.fld 2, v.fld 3, v.fld 4, v.fld 5, v.fld 6] = v) : D.lst [(oneE a v).fld 0, (oneE a v).fld 1, (oneE a v).fld 2, (oneE a v).fld 3, (oneE a v).fld 4, (oneE a v).fld 5, (oneE a v).fld 6] = oneE a v := by
  simp only [oneE]
  repeat' split
  all_goals first | rfl | exact h
theorem actedL_le (e v : D) : (actedL e v).length ≤ (e.fld 19).toL.length + 1 := by
  simp only [actedL]
  repeat' split
  · simp
  · simp
  · have := parts_le (actOf e) v
    simp only [actOf, fld_zero, fld_succ] at this ⊢
    omega
  · simp
theorem filter_step {l : D} {i : Nat} (p : D → Bool) (h : i < l.toL.length) : (l.toL.take (i + 1)).filter p = (l.toL.take i).filter p ++ if p (l.elem i) then [l.elem i] else [] := by
  rw [take_elem h, List.filter_append]
  cases hc : p (l.elem i) <;> simp [hc]
theorem spent_eta (e : D) (n : Int) (h : D.lst [e.fld 0, e.fld 1, e.fld 2, e.fld 3, e.fld 4, e.fld 5, e.fld 6, e.fld 7, e.fld 8, e.fld 9, e.fld 10, e.fld 11, e.fld 12, e.fld 13, e.fld 14, e.fld 15, e.fld 16, e.fld 17, e.fld 18, e.fld 19, e.fld 20, e.fld 21] = e) : D.lst [(spent e n).fld 0, (spent e n).fld 1, (spent e n).fld 2, (spent e n).fld 3, (spent e n).fld 4, (spent e n).fld 5, (spent e n).fld 6, (spent e n).fld 7, (spent e n).fld 8, (spent e n).fld 9, (spent e n).fld 10, (spent e n).fld 11, (spent e n).fld 12, (spent e n).fld 13, (spent e n).fld 14, (spent e n).fld 15, (spent e n).fld 16, (spent e n).fld 17, (spent e n).fld 18, (spent e n).fld 19, (spent e n).fld 20, (spent e n).fld 21] = spent e n := by
  simp only [spent]
  repeat' split
  all_goals first | rfl | exact h
theorem parts_eta {a v x : D} (hp : ∀ x ∈ (a.fld 6).toL, D.lst [x.fld 0, x.fld 1, x.fld 2, x.fld 3, x.fld 4, x.fld 5, x.fld 6] = x) (hx : x ∈ parts a v) : D.lst [x.fld 0, x.fld 1, x.fld 2, x.fld 3, x.fld 4, x.fld 5, x.fld 6] = x := by
  simp only [parts] at hx
  split at hx
  · simp only [partsTo, List.mem_map, List.mem_range] at hx
    obtain ⟨k, hk, rfl⟩ := hx
    simp only [partE]
    split
    · rfl
    · exact hp _ (elem_mem hk)
  · simp at hx
theorem actedL_eta (e v x : D) (h : D.lst [v.fld 0, v.fld 1, v.fld 2, v.fld 3, v.fld 4, v.fld 5, v.fld 6] = v) (hp : ∀ x ∈ (e.fld 19).toL, D.lst [x.fld 0, x.fld 1, x.fld 2, x.fld 3, x.fld 4, x.fld 5, x.fld 6] = x) (hx : x ∈ actedL e v) : D.lst [x.fld 0, x.fld 1, x.fld 2, x.fld 3, x.fld 4, x.fld 5, x.fld 6] = x := by
  simp only [actedL] at hx
  repeat' split at hx
  · simp at hx
  · simp only [List.mem_singleton] at hx
    subst hx; rfl
  · exact parts_eta (a := actOf e) hp hx
  · simp only [List.mem_singleton] at hx
    subst hx; exact oneE_eta _ _ h
theorem doL_le (e v : D) (h : ((e.fld 19).toL.length : Int) ≤ 1048576) : ((doL e v).length : Int) ≤ 1048576 := by
  simp only [doL]
  split
  · have h1 := List.length_filter_le goodEv (actedL e v)
    have : (actedL e v).length ≤ 1 ∨ (actedL e v).length ≤ (e.fld 19).toL.length := by
      simp only [actedL]
      repeat' split
      · simp
      · simp
      · right
        have := parts_le (actOf e) v
        simpa only [actOf, fld_zero, fld_succ] using this
      · simp
    omega
  · simp
theorem doE_fld (e v : D) : (doE e v).fld 19 = e.fld 19 := by
  simp only [doE]
  split
  · exact spent_fld _ _
  · rfl

end Go.Proofs.Ytfbahdalemajcaa
