/- What the functions compute, as functions on data. -/
import Derived.Test.YtammagpahfmenaaE6
namespace Go.Proofs.Ytammagpahfmenaa
open Go.Proofs.Ytammagpahfmenaa.Eng
set_option linter.unusedSimpArgs false
set_option linter.unusedVariables false
def inR (a b c : Int) : Bool := decide (b ≤ a) && decide (a ≤ c)
def bound (a : Int) : Int := if a > 2147483647 then 2147483647 else if a < -2147483647 then -2147483647 else a
def upto (a b : Int) : Int := if (if b < a then b else a) < 0 then 0 else if b < a then b else a
def guardOk (d : D) : Bool :=
  if (d.fld 0).toI = 0 ∨ (d.fld 0).toI = 3 then (d.fld 1).toI == 0 else if (d.fld 0).toI = 1 then inR (d.fld 1).toI (-2147483647) 2147483647
  else if (d.fld 0).toI = 2 ∨ (d.fld 0).toI = 4 then inR (d.fld 1).toI 0 8 else false
def patOk (d : D) : Bool :=
  inR (d.fld 0).toI 1 6 && inR (d.fld 1).toI 0 2 && inR (d.fld 2).toI 0 99 && inR (d.fld 3).toI 0 63 && inR (d.fld 4).toI 0 99 && inR (d.fld 5).toI 0 2147483647 && inR (d.fld 6).toI 0 4 &&
  !((d.fld 0).toI != 1 && ((d.fld 2).toI != 0 || (d.fld 3).toI != 0) || (d.fld 0).toI != 2 && (d.fld 6).toI != 0) && ((d.fld 4).toI == 0 || (d.fld 0).toI != 3 && (d.fld 0).toI != 4)
theorem int_eta {d : D} {k : IntKind} (h : CK.okD (.int k) d) : D.int d.toI = d := by obtain ⟨n, rfl, _⟩ := ok_int h; rfl
theorem int_range {d : D} (h : CK.okD (.int .i64) d) : -9223372036854775808 ≤ d.toI ∧ d.toI ≤ 9223372036854775807 := by obtain ⟨n, rfl, h⟩ := ok_int h; exact inK_i64 h
theorem sl_eta {d : D} {ks : List CK} (h : CK.okD (.sl ks) d) : D.lst d.toL = d := by obtain ⟨n, rfl, _⟩ := ok_sl h; rfl
theorem sl_len {d : D} {ks : List CK} (h : CK.okD (.sl ks) d) : d.toL.length ≤ maxL := by obtain ⟨n, rfl, h, _⟩ := ok_sl h; exact h
theorem sl_all {d : D} {ks : List CK} (h : CK.okD (.sl ks) d) : ∀ x ∈ d.toL, okL ks x := by obtain ⟨n, rfl, _, h⟩ := ok_sl h; exact h
theorem elem_mem {d : D} {i : Nat} (h : i < d.toL.length) : d.elem i ∈ d.toL := by simp [D.elem, h]
def markedN (n : Int) (k : Nat) : List D := (List.range k).map fun (i : Nat) => .lst [.int (n + i)]
@[simp] theorem markedN_length (n : Int) (k : Nat) : (markedN n k).length = k := by simp [markedN]
def szS (n : Int) (l : Nat) : Int := if n - l < 0 then -1 else n - l
@[simp] theorem szS_neg {n : Int} {l : Nat} : szS n l < 0 ↔ n < l := by simp only [szS]; split <;> omega
@[simp] theorem szS_nn {n : Int} {l : Nat} : 0 ≤ szS n l ↔ l ≤ n := by simp only [szS]; split <;> omega
def actFits (a : D) (k : Int) : Bool :=
  inR k 1 6 && (if (a.fld 0).toI = 2 ∨ (a.fld 0).toI = 6 then k == 1 else if (a.fld 0).toI = 3 ∨ (a.fld 0).toI = 4 ∨ (a.fld 0).toI = 5 then k != 2 else if (a.fld 0).toI = 7 ∨ (a.fld 0).toI = 8 then k == 2 else (a.fld 0).toI == 1 || (a.fld 0).toI == 9)
def onPiece (e : D) : Bool := inR (e.fld 2).toI 1 99 && (e.fld 3).toI == -1
def onPlayer (e : D) : Bool := (e.fld 2).toI == 0 && inR (e.fld 3).toI 0 2
def eventOk (e : D) : Bool :=
  inR (e.fld 4).toI 0 2147483647 &&
  (if (e.fld 0).toI = 1 then inR (e.fld 1).toI 1 99 && (onPiece e || onPlayer e) && (e.fld 5).toI == 0 && !(e.fld 6).toB
   else if (e.fld 0).toI = 2 then (e.fld 1).toI == 0 && onPiece e && inR (e.fld 5).toI 1 4 && decide ((e.fld 4).toI ≤ 99) && ((e.fld 5).toI == 2 || (e.fld 4).toI == 0 && !(e.fld 6).toB)
   else if (e.fld 0).toI = 3 ∨ (e.fld 0).toI = 4 then (e.fld 1).toI == 0 && onPlayer e && (e.fld 5).toI == 0 && !(e.fld 6).toB
   else if (e.fld 0).toI = 5 ∨ (e.fld 0).toI = 6 then (e.fld 1).toI == 0 && onPiece e && (e.fld 5).toI == 0 && !(e.fld 6).toB else false)
theorem take_elem {d : D} {i : Nat} (h : i < d.toL.length) : d.toL.take (i + 1) = d.toL.take i ++ [d.elem i] := by
  rw [List.take_add_one]; simp [D.elem, h]
def sameEv (a b : D) : Bool := (a.fld 0).toI == (b.fld 0).toI && (a.fld 1).toI == (b.fld 1).toI && (a.fld 2).toI == (b.fld 2).toI && (a.fld 3).toI == (b.fld 3).toI && (a.fld 4).toI == (b.fld 4).toI && (a.fld 5).toI == (b.fld 5).toI && (a.fld 6).toB == (b.fld 6).toB
def allR (p : Nat → Bool) (n : Nat) : Bool := (List.range n).all p
theorem allR_true {p : Nat → Bool} {n : Nat} (h : ∀ j, j < n → p j = true) : allR p n = true := by simp only [allR, List.all_eq_true, List.mem_range]; exact h
theorem allR_false {p : Nat → Bool} {n i : Nat} (hi : i < n) (h : p i = false) : allR p n = false := by simp only [allR, List.all_eq_false, List.mem_range]; exact ⟨i, hi, by simp [h]⟩
def sameEvs (a b : D) : Bool := decide (a.toL.length = b.toL.length) && allR (fun i => sameEv (a.elem i) (b.elem i)) a.toL.length
/-- The first place from 'i' on where the condition holds, of 'n' places; -1 if there is none. -/
def findR (p : Nat → Bool) (n : Nat) : Int := match (List.range n).find? p with
  | some j => j
  | none => -1
theorem findR_none {p : Nat → Bool} {n : Nat} (h : ∀ j, j < n → p j = false) : findR p n = -1 := by
  have : (List.range n).find? p = none := by simp only [List.find?_eq_none, List.mem_range]; intro j hj; simp [h j hj]
  simp [findR, this]
theorem findR_some {p : Nat → Bool} {n i : Nat} (hi : i < n) (hp : p i = true) (h : ∀ j, j < i → p j = false) : findR p n = i := by
  have : (List.range n).find? p = some i := by
    rw [List.find?_eq_some_iff_getElem]
    refine ⟨hp, i, by simpa using hi, by simp, fun j hj => by simp [h j hj]⟩
  simp [findR, this]
theorem findR_nn {p : Nat → Bool} {n : Nat} : decide (0 ≤ findR p n) = !allR (fun i => !p i) n := by
  by_cases h : ∃ j, j < n ∧ p j = true
  · obtain ⟨j, hj, hp⟩ := h
    rw [allR_false hj (by simp [hp])]
    cases hf : (List.range n).find? p with
    | none => simp only [List.find?_eq_none, List.mem_range] at hf; exact absurd hp (hf j hj)
    | some i => simp [findR, hf]
  · have h' : ∀ j, j < n → p j = false := fun j hj => by cases hp : p j <;> simp_all
    rw [findR_none h', allR_true fun j hj => by simp [h' j hj]]
    rfl
theorem okL_at {ks : List CK} {d : D} {i : Nat} {k : CK} (h : okL ks d) (hi : ks[i]? = some k) : CK.okD k (d.fld i) := by
  obtain ⟨es, rfl, h⟩ := h
  have : ∀ (ks : List CK) (es : List D) (i : Nat), CK.okDs ks es → ks[i]? = some k → CK.okD k ((D.lst es).fld i) := by
    intro ks
    induction ks with
    | nil => intro es i _ h; simp at h
    | cons c ks ih =>
      intro es i h hi
      cases es with
      | nil => simp [CK.okDs] at h
      | cons e es =>
        simp only [CK.okDs] at h
        cases i with
        | zero =>
          simp only [List.getElem?_cons_zero, Option.some.injEq] at hi
          subst hi
          exact h.1
        | succ i => exact ih es i h.2 (by simpa using hi)
  exact this ks es i h hi
theorem findR_range (p : Nat → Bool) (n : Nat) : -1 ≤ findR p n ∧ findR p n < n := by
  simp only [findR]
  cases hf : (List.range n).find? p with
  | none => simp; omega
  | some i =>
    have := List.mem_of_find?_eq_some hf
    simp only [List.mem_range] at this
    simp
    omega
def countR (p : Nat → Bool) (n : Nat) : Nat := ((List.range n).filter p).length
@[simp] theorem countR_zero (p : Nat → Bool) : countR p 0 = 0 := rfl
def bentP (s : D) (n : Int) (i : Nat) : Bool := (((s.fld 0).elem i).fld 3).toI == 2 && (((s.fld 0).elem i).fld 2).toI == n && (((s.fld 0).elem i).fld 12).toB
def manyP (s : D) (n : Int) (i : Nat) : Bool := (((s.fld 0).elem i).fld 3).toI == 2 && (((s.fld 0).elem i).fld 2).toI == n
def bentOf (s : D) (n : Int) : Int := countR (bentP s n) (s.fld 0).toL.length
def many (s : D) (n : Int) : Int := countR (manyP s n) (s.fld 0).toL.length
def holds (s : D) (n : Int) (g : D) : Bool :=
  guardOk g && inR n 0 ((s.fld 1).toL.length - 1) &&
  (if (g.fld 0).toI = 1 then decide ((((s.fld 1).elem n.toNat).fld 0).toI ≤ (g.fld 1).toI) else if (g.fld 0).toI = 2 then decide ((g.fld 1).toI ≤ many s n)
   else if (g.fld 0).toI = 3 then (s.fld 2).toI == n else if (g.fld 0).toI = 4 then decide ((g.fld 1).toI ≤ bentOf s n) else true)
def ev0 (e : D) : D := .lst [e.fld 0, e.fld 1, e.fld 2, e.fld 3, .int 0, e.fld 5, e.fld 6]
def partOk (e : D) : Bool := if (e.fld 4).toI = -1 ∧ (e.fld 0).toI ≠ 2 then eventOk (ev0 e) else eventOk e
def plain (a : D) : Bool := (a.fld 2).toI == 0 && (a.fld 3).toI == -1 && (a.fld 4).toI == 0 && !(a.fld 5).toB && ((a.fld 6).toL.length : Int) == 0
def actOk (a : D) : Bool :=
  if (a.fld 0).toI = 1 ∨ (a.fld 0).toI = 2 ∨ (a.fld 0).toI = 4 ∨ (a.fld 0).toI = 5 then plain a && (a.fld 1).toI == 0
  else if (a.fld 0).toI = 3 then plain a && inR (a.fld 1).toI 1 2147483647
  else if (a.fld 0).toI = 6 then (a.fld 1).toI == 0 && (a.fld 4).toI == 0 && !(a.fld 5).toB && ((a.fld 6).toL.length : Int) == 0 && (inR (a.fld 2).toI 1 99 && (a.fld 3).toI == -1 || (a.fld 2).toI == 0 && inR (a.fld 3).toI 0 2)
  else if (a.fld 0).toI = 7 then (a.fld 1).toI == 0 && (a.fld 2).toI == 0 && (a.fld 3).toI == -1 && !(a.fld 5).toB && ((a.fld 6).toL.length : Int) == 0 && inR (a.fld 4).toI 1 4
  else if (a.fld 0).toI = 8 then inR (a.fld 1).toI 0 99 && (a.fld 2).toI == 0 && (a.fld 3).toI == -1 && (a.fld 4).toI == 0 && ((a.fld 6).toL.length : Int) == 0
  else if (a.fld 0).toI = 9 then (a.fld 1).toI == 0 && (a.fld 2).toI == 0 && (a.fld 3).toI == -1 && (a.fld 4).toI == 0 && !(a.fld 5).toB && inR (a.fld 6).toL.length 1 3 && allR (fun i => partOk ((a.fld 6).elem i)) (a.fld 6).toL.length
  else false
def sameAct (a b : D) : Bool :=
  (a.fld 0).toI == (b.fld 0).toI && (a.fld 1).toI == (b.fld 1).toI && (a.fld 2).toI == (b.fld 2).toI && (a.fld 3).toI == (b.fld 3).toI && (a.fld 4).toI == (b.fld 4).toI && (a.fld 5).toB == (b.fld 5).toB && sameEvs (a.fld 6) (b.fld 6)
def sameEffect (a b : D) : Bool :=
  (a.fld 0).toI == (b.fld 0).toI && (a.fld 1).toI == (b.fld 1).toI && (a.fld 2).toI == (b.fld 2).toI && (a.fld 3).toI == (b.fld 3).toI && (a.fld 4).toI == (b.fld 4).toI && (a.fld 5).toI == (b.fld 5).toI && (a.fld 6).toI == (b.fld 6).toI && (a.fld 7).toI == (b.fld 7).toI && (a.fld 8).toI == (b.fld 8).toI && (a.fld 9).toI == (b.fld 9).toI && (a.fld 10).toI == (b.fld 10).toI && (a.fld 11).toI == (b.fld 11).toI && (a.fld 12).toI == (b.fld 12).toI && (a.fld 13).toI == (b.fld 13).toI && (a.fld 14).toI == (b.fld 14).toI && (a.fld 15).toI == (b.fld 15).toI && (a.fld 16).toI == (b.fld 16).toI && (a.fld 17).toI == (b.fld 17).toI && (a.fld 20).toI == (b.fld 20).toI && (a.fld 21).toI == (b.fld 21).toI && (a.fld 18).toB == (b.fld 18).toB && sameEvs (a.fld 19) (b.fld 19)
def patOf (e : D) : D := .lst [e.fld 4, e.fld 5, e.fld 6, e.fld 7, e.fld 8, e.fld 9, e.fld 10]
def grdOf (e : D) : D := .lst [e.fld 11, e.fld 12]
def actOf (e : D) : D := .lst [e.fld 13, e.fld 14, e.fld 15, e.fld 16, e.fld 17, e.fld 18, e.fld 19]
def effectOk (e : D) : Bool :=
  inR (e.fld 0).toI 1 99 && inR (e.fld 1).toI 0 2 && inR (e.fld 2).toI 0 99 && inR (e.fld 3).toI 0 4 && inR (e.fld 20).toI (-1) 9999 && inR (e.fld 21).toI (-1) 2147483647 &&
  !((e.fld 3).toI == 0 && (e.fld 2).toI == 0 || (e.fld 13).toI == 2 && decide ((e.fld 21).toI < 0)) && patOk (patOf e) && guardOk (grdOf e) && actOk (actOf e) && actFits (actOf e) (e.fld 4).toI
def sumR (f : Nat → Nat) : Nat → Nat
  | 0 => 0
  | n + 1 => sumR f n + f n
theorem sumR_mono (f : Nat → Nat) {i n : Nat} (h : i ≤ n) : sumR f i ≤ sumR f n := by
  induction h with
  | refl => exact Nat.le_refl _
  | step _ ih => exact Nat.le_trans ih (Nat.le_add_right _ _)
theorem sumR_at (f : Nat → Nat) {i n : Nat} (h : i < n) : f i ≤ sumR f n := by
  have h1 := sumR_mono f (show i + 1 ≤ n from h)
  simp only [sumR] at h1
  omega
def innerE (d : D) (i : Nat) : Nat := ((d.elem i).fld 19).toL.length
def szEs (n : Int) (d : D) : Int := if n - d.toL.length - sumR (innerE d) d.toL.length < 0 then -1 else n - d.toL.length - sumR (innerE d) d.toL.length
def smallE (d : D) : Prop := (d.toL.length : Int) ≤ 1048576 ∧ ∀ i, i < d.toL.length → (((d.elem i).fld 19).toL.length : Int) ≤ 1048576
theorem smallE_of {d : D} {n : Int} (h : 0 ≤ szEs n d) (hn : n ≤ 1048576) : smallE d := by
  have h' : 0 ≤ n - d.toL.length - sumR (innerE d) d.toL.length := by simp only [szEs] at h; split at h <;> omega
  refine ⟨by omega, fun i hi => ?_⟩
  have := sumR_at (innerE d) hi
  have e : innerE d i = ((d.elem i).fld 19).toL.length := rfl
  omega
def effAt (d : D) (n : Int) : Int := findR (fun i => ((d.elem i).fld 0).toI == n) d.toL.length
def sameTable (a b : D) : Bool := decide (a.toL.length = b.toL.length) && allR (fun i => sameEffect (a.elem i) (b.elem i)) a.toL.length
def rowOk (d : D) (i : Nat) : Bool := effectOk (d.elem i) && !(decide (0 < i) && decide (((d.elem i).fld 0).toI ≤ ((d.elem (i - 1)).fld 0).toI))
def tableOk (d : D) : Bool := decide (d.toL.length ≤ 5) && allR (rowOk d) d.toL.length
def partE (a v : D) (i : Nat) : D :=
  if (((a.fld 6).elem i).fld 4).toI = -1 then .lst [((a.fld 6).elem i).fld 0, ((a.fld 6).elem i).fld 1, ((a.fld 6).elem i).fld 2, ((a.fld 6).elem i).fld 3, .int (upto (v.fld 4).toI 2147483647), ((a.fld 6).elem i).fld 5, ((a.fld 6).elem i).fld 6]
  else (a.fld 6).elem i
def partsTo (a v : D) (k : Nat) : List D := (List.range k).map (partE a v)
@[simp] theorem partsTo_length (a v : D) (k : Nat) : (partsTo a v k).length = k := by simp [partsTo]
def evMark (m : Int) : D := .lst [.int m, .int (m + 1), .int (m + 2), .int (m + 3), .int (m + 4), .int (m + 5), .bool ((m + 6).tmod 3 == 0)]
def markedE (n : Int) (k : Nat) : List D := (List.range k).map fun (i : Nat) => evMark (n + 7 * i)
@[simp] theorem markedE_length (n : Int) (k : Nat) : (markedE n k).length = k := by simp [markedE]
def withL (d l : D) : D := .lst [d.fld 0, d.fld 1, d.fld 2, d.fld 3, d.fld 4, d.fld 5, d.fld 6, d.fld 7, d.fld 8, d.fld 9, d.fld 10, d.fld 11, d.fld 12, d.fld 13, d.fld 14, d.fld 15, d.fld 16, d.fld 17, d.fld 18, l, d.fld 20, d.fld 21]
def mkL (f : Nat → D) (k : Nat) : List D := (List.range k).map f
@[simp] theorem mkL_length (f : Nat → D) (k : Nat) : (mkL f k).length = k := by simp [mkL]
theorem mkL_elem {f : Nat → D} {k i : Nat} (hi : i < k) : (D.lst (mkL f k)).elem i = f i := by simp [D.elem, mkL, hi]
theorem sumR_congr {f g : Nat → Nat} {k : Nat} (h : ∀ i, i < k → f i = g i) : sumR f k = sumR g k := by
  induction k with
  | zero => rfl
  | succ k ih => rw [sumR, sumR, ih fun i hi => h i (by omega), h k (by omega)]
def effMark (m : Int) (q : Nat) : D := .lst [.int m, .int (m + 1), .int (m + 2), .int (m + 3), .int (m + 4), .int (m + 5), .int (m + 6), .int (m + 7), .int (m + 8), .int (m + 9), .int (m + 10), .int (m + 11), .int (m + 12), .int (m + 13), .int (m + 14), .int (m + 15), .int (m + 16), .int (m + 17), .bool ((m + 18).tmod 3 == 0), .lst (markedE (m + 19) q), .int (m + 19 + 7 * q), .int (m + 20 + 7 * q)]
def offE (n : Int) (d : D) (i : Nat) : Int := n + 21 * i + 7 * sumR (innerE d) i
def markEfs (n : Int) (d : D) (k : Nat) : List D := mkL (fun i => effMark (offE n d i) (innerE d i)) k
def endE (n : Int) (d : D) : Int := offE n d d.toL.length
@[simp] theorem markEfs_length (n : Int) (d : D) (k : Nat) : (markEfs n d k).length = k := by simp [markEfs]
theorem innerE_mark {n : Int} {d : D} {k i : Nat} (h : i < k) : innerE (.lst (markEfs n d k)) i = innerE d i := by
  simp only [innerE, markEfs, mkL_elem h]
  simp [effMark, innerE]
theorem offE_mark {n m : Int} {d : D} {i : Nat} (h : i ≤ d.toL.length) : offE m (.lst (markEfs n d d.toL.length)) i = offE m d i := by
  simp only [offE]
  rw [sumR_congr fun j hj => innerE_mark (n := n) (d := d) (by omega)]
theorem endE_mark {n m : Int} {d : D} : endE m (.lst (markEfs n d d.toL.length)) = endE m d := by
  simp only [endE, toL_lst, markEfs_length]
  exact offE_mark (Nat.le_refl _)
def has (l : D) (n : Int) : Bool := !allR (fun i => ((l.elem i).fld 0).toI != n) l.toL.length
@[simp] theorem withL_fld (d l : D) : (withL d l).fld 19 = l := rfl
/-- Every element is one of the other table's. -/
theorem smallE_sub {a b : D} (ha : smallE a) (hl : b.toL.length ≤ a.toL.length) (h : ∀ x ∈ b.toL, x ∈ a.toL) : smallE b := by
  refine ⟨by have := ha.1; omega, fun i hi => ?_⟩
  obtain ⟨j, hj, he⟩ := List.getElem_of_mem (h _ (elem_mem hi))
  have : a.elem j = b.elem i := by rw [← he]; simp [D.elem, hj]
  rw [← this]
  exact ha.2 j hj
theorem smallE_take {a : D} (h : smallE a) (k : Nat) : smallE (.lst (a.toL.take k)) := smallE_sub h (by simp; omega) fun x hx => List.mem_of_mem_take hx
theorem smallE_drop {a : D} (h : smallE a) (k : Nat) : smallE (.lst (a.toL.drop k)) := smallE_sub h (by simp) fun x hx => List.mem_of_mem_drop hx
theorem effAt_range (d : D) (n : Int) : -1 ≤ effAt d n ∧ effAt d n < d.toL.length := findR_range _ _
attribute [simp] endE_mark
@[simp] theorem bytes_append (a b : List UInt8) : (ByteArray.mk ⟨a⟩) ++ (ByteArray.mk ⟨b⟩) = ByteArray.mk ⟨a ++ b⟩ := by
  apply ByteArray.ext
  simp
@[simp] theorem bytes_size (a : List UInt8) : (ByteArray.mk ⟨a⟩).size = a.length := rfl
@[simp] theorem bytes_toList (a : List UInt8) : (ByteArray.mk ⟨a⟩).data.toList = a := rfl
theorem bits2_and255 (x : Int) : 0 ≤ bits2 .i64 (· &&& ·) x 255 ∧ bits2 .i64 (· &&& ·) x 255 ≤ 255 := by
  have h : (BitVec.ofInt (IntKind.bits .i64) x &&& BitVec.ofInt (IntKind.bits .i64) 255).toNat ≤ 255 := by
    rw [BitVec.toNat_and]
    refine Nat.le_trans Nat.and_le_right ?_
    decide
  simp only [bits2]
  rw [IntKind.wrap_i64]
  omega
theorem tmod_lt {m n : Int} (h0 : 0 ≤ m) (hn : 0 < n) : 0 ≤ m.tmod n ∧ m.tmod n < n := ⟨Int.tmod_nonneg n h0, Int.tmod_lt_of_pos m hn⟩
theorem mix3 {x y z : Int} (hx : 0 ≤ x) (hx2 : x ≤ 255) (hy : 0 ≤ y) (hy2 : y ≤ 255) (hz : 0 ≤ z) (hz2 : z ≤ 255) : IntKind.i64.wrap (IntKind.i64.wrap (IntKind.i64.wrap (x * 65536) + IntKind.i64.wrap (y * 256)) + z) = x * 65536 + y * 256 + z := by
  rw [IntKind.wrap_i64, IntKind.wrap_i64, IntKind.wrap_i64, IntKind.wrap_i64]
  omega
def oneOf (l : D) (m : Int) : Prop := m ∈ l.toL.map fun e => (e.fld 0).toI
def stateN (a b : Int) (s : D) : Prop := 1 ≤ (s.fld 0).toL.length ∧ ((s.fld 0).toL.length : Int) ≤ a ∧ 1 ≤ (s.fld 1).toL.length ∧ ((s.fld 1).toL.length : Int) ≤ b ∧ ∀ x ∈ (s.fld 0).toL, -1 ≤ (x.fld 2).toI
def effB (e : D) : Prop := ((e.fld 19).toL.length : Int) ≤ 5
def tabN (n : Int) (l : D) : Prop := (l.toL.length : Int) ≤ n ∧ ∀ x ∈ l.toL, effB x
abbrev tabB (l : D) : Prop := tabN 7 l
theorem tabN_app {n m : Int} {l : List D} {x : D} (h : tabN n (.lst l)) (hx : effB x) (hm : n + 1 ≤ m) : tabN m (.lst (l ++ [x])) := by
  refine ⟨?_, fun y hy => ?_⟩
  · have := h.1; simp only [D.toL, List.length_append, List.length_singleton] at *; omega
  · rcases List.mem_append.1 hy with hy | hy
    · exact h.2 y hy
    · simp at hy; subst hy; exact hx
theorem tabN_set {n m : Int} {l : List D} {x : D} {i : Nat} (h : tabN n (.lst l)) (hx : effB x) (hm : n ≤ m) : tabN m (.lst (l.set i x)) := by
  refine ⟨?_, fun y hy => ?_⟩
  · have := h.1; simp only [D.toL, List.length_set] at *; omega
  · rcases List.mem_or_eq_of_mem_set hy with hy | rfl
    · exact h.2 y hy
    · exact hx
theorem tabN_le {n m : Int} {l : D} (h : tabN n l) (hm : n ≤ m) : tabN m l := ⟨Int.le_trans h.1 hm, h.2⟩
theorem tabN_toL {n : Int} {l : D} (h : tabN n l) : tabN n (.lst l.toL) := h
theorem tabB_small {l : D} (h : tabB l) : smallE l := ⟨by have := h.1; omega, fun i hi => by have := h.2 _ (elem_mem hi); simp only [effB] at this; omega⟩
theorem stateN_mk {u v : Int} {ps ss : List D} {a b : D} (h0 : 1 ≤ ps.length) (h1 : (ps.length : Int) ≤ u) (h2 : 1 ≤ ss.length) (h3 : (ss.length : Int) ≤ v) (h : ∀ x ∈ ps, -1 ≤ (x.fld 2).toI) : stateN u v (.lst [.lst ps, .lst ss, a, b]) := ⟨h0, h1, h2, h3, h⟩
theorem sides_app {ps : List D} {x : D} (h : ∀ x ∈ ps, -1 ≤ (x.fld 2).toI) (hx : -1 ≤ (x.fld 2).toI) : ∀ y ∈ ps ++ [x], -1 ≤ (y.fld 2).toI := fun y hy => by
  rcases List.mem_append.1 hy with hy | hy
  · exact h y hy
  · simp at hy; subst hy; exact hx
theorem okD_int {k : IntKind} {n : Int} : CK.okD (.int k) (.int n) ↔ inK k n = true := by simp [CK.okD]
theorem okD_bool {b : Bool} : CK.okD .bool (.bool b) ↔ True := by simp [CK.okD]
theorem tabN_app3 {n m : Int} {l : List D} {x y z : D} (h : tabN n (.lst l)) (hx : effB x) (hy : effB y) (hz : effB z) (hm : n + 3 ≤ m) : tabN m (.lst (l ++ [x, y, z])) := by
  have := tabN_app (m := m) (tabN_app (m := n + 2) (tabN_app (m := n + 1) h hx (by omega)) hy (by omega)) hz (by omega)
  simpa using this
theorem sameEv_refl (a : D) : sameEv a a = true := by simp [sameEv]
theorem sameEvs_refl (a : D) : sameEvs a a = true := by
  simp only [sameEvs, decide_true, Bool.true_and]
  exact allR_true fun j _ => sameEv_refl _
theorem sameEffect_refl (a : D) : sameEffect a a = true := by
  simp [sameEffect, sameEvs_refl]
theorem allR_iff' {p : Nat → Bool} {n : Nat} : allR p n = true ↔ ∀ j, j < n → p j = true := by simp only [allR, List.all_eq_true, List.mem_range]
theorem elem_get {d : D} {i : Nat} (h : i < d.toL.length) : d.elem i = d.toL[i] := by simp [D.elem, h]
theorem tableOk_iff {d : D} : tableOk d = true ↔ d.toL.length ≤ 5 ∧ (∀ x ∈ d.toL, effectOk x = true) ∧ d.toL.Pairwise (fun x y => (x.fld 0).toI < (y.fld 0).toI) := by
  simp only [tableOk, Bool.and_eq_true, decide_eq_true_eq, allR_iff']
  refine and_congr_right fun _ => ?_
  constructor
  · intro h
    refine ⟨fun x hx => ?_, ?_⟩
    · obtain ⟨i, hi, rfl⟩ := List.getElem_of_mem hx
      have := h i hi
      simp only [rowOk, Bool.and_eq_true] at this
      rw [← elem_get hi]
      exact this.1
    · rw [List.pairwise_iff_getElem]
      have hs : ∀ i, i + 1 < d.toL.length → ((d.elem i).fld 0).toI < ((d.elem (i + 1)).fld 0).toI := by
        intro i hi
        have := h (i + 1) hi
        simp [rowOk] at this
        omega
      have hm : ∀ k i, i + k + 1 < d.toL.length → ((d.elem i).fld 0).toI < ((d.elem (i + k + 1)).fld 0).toI := by
        intro k
        induction k with
        | zero => intro i hi; exact hs i hi
        | succ k ih =>
          intro i hi
          have h1 := ih i (by omega)
          have h2 := hs (i + k + 1) hi
          exact Int.lt_trans h1 h2
      intro i j hi hj hij
      rw [← elem_get hi, ← elem_get hj]
      have := hm (j - i - 1) i (by omega)
      rwa [show i + (j - i - 1) + 1 = j by omega] at this
  · rintro ⟨h1, h2⟩ i hi
    simp only [rowOk, Bool.and_eq_true, h1 _ (elem_mem hi), true_and, Bool.not_eq_true', Bool.and_eq_false_iff, decide_eq_false_iff_not]
    by_cases h0 : i = 0
    · left; omega
    · right
      rw [List.pairwise_iff_getElem] at h2
      have := h2 (i - 1) i (by omega) hi (by omega)
      rw [elem_get hi, elem_get (show i - 1 < d.toL.length by omega)]
      omega
theorem sameTable_refl (a : D) : sameTable a a = true := by
  simp only [sameTable, decide_true, Bool.true_and]
  exact allR_true fun j _ => sameEffect_refl _
/-- Where an element of such a number goes. -/
def insAt (d : D) (n : Int) : Nat := (d.toL.takeWhile fun x => decide ((x.fld 0).toI < n)).length
theorem insAt_le (d : D) (n : Int) : insAt d n ≤ d.toL.length := (List.takeWhile_sublist _).length_le
def insT (d e : D) : D := .lst (d.toL.take (insAt d (e.fld 0).toI) ++ e :: d.toL.drop (insAt d (e.fld 0).toI))
def insOk (d e : D) : Bool := decide (effAt d (e.fld 0).toI < 0) && tableOk (insT d e)
def dropT (d : D) (n : Int) : D := if 0 ≤ effAt d n then .lst (d.toL.take (effAt d n).toNat ++ d.toL.drop ((effAt d n).toNat + 1)) else d
theorem insT_length (d e : D) : (insT d e).toL.length = d.toL.length + 1 := by
  have := insAt_le d (e.fld 0).toI
  simp only [insT, D.toL, List.length_append, List.length_cons, List.length_take, List.length_drop]
  omega
theorem findR_neg {p : Nat → Bool} {n : Nat} (h : findR p n < 0) : ∀ j, j < n → p j = false := by
  intro j hj
  simp only [findR] at h
  split at h
  · omega
  · rename_i hn
    simp only [List.find?_eq_none, List.mem_range] at hn
    simpa using hn j hj
theorem effAt_none {d : D} {n : Int} (h : effAt d n < 0) : ∀ x ∈ d.toL, (x.fld 0).toI ≠ n := by
  intro x hx
  obtain ⟨i, hi, rfl⟩ := List.getElem_of_mem hx
  have := findR_neg h i hi
  rw [elem_get hi] at this
  simpa using this
theorem insT_elem (d e : D) : (insT d e).elem (insAt d (e.fld 0).toI) = e := by
  have := insAt_le d (e.fld 0).toI
  have hl : (d.toL.take (insAt d (e.fld 0).toI)).length = insAt d (e.fld 0).toI := by simp; omega
  show ((d.toL.take (insAt d (e.fld 0).toI) ++ e :: d.toL.drop (insAt d (e.fld 0).toI)).getD (insAt d (e.fld 0).toI) default) = e
  rw [List.getD_eq_getElem?_getD, List.getElem?_append_right (by omega), hl]
  simp
theorem insT_before {d e : D} {i : Nat} (h : i < insAt d (e.fld 0).toI) : (insT d e).elem i = d.elem i := by
  have := insAt_le d (e.fld 0).toI
  show ((d.toL.take (insAt d (e.fld 0).toI) ++ e :: d.toL.drop (insAt d (e.fld 0).toI)).getD i default) = d.toL.getD i default
  rw [List.getD_eq_getElem?_getD, List.getElem?_append_left (by simp; omega), List.getElem?_take, if_pos h]
  simp
theorem effAt_ins {d e : D} (h : effAt d (e.fld 0).toI < 0) : effAt (insT d e) (e.fld 0).toI = insAt d (e.fld 0).toI := by
  have := insAt_le d (e.fld 0).toI
  refine findR_some (by rw [insT_length]; omega) (by rw [insT_elem]; simp) fun j hj => ?_
  rw [insT_before hj]
  have := effAt_none h _ (elem_mem (show j < d.toL.length by omega))
  simpa using this
theorem drop_ins {d e : D} (h : effAt d (e.fld 0).toI < 0) : dropT (insT d e) (e.fld 0).toI = .lst d.toL := by
  have hl := insAt_le d (e.fld 0).toI
  simp only [dropT, effAt_ins h]
  rw [if_pos (by omega)]
  congr 1
  have hl : (d.toL.take (insAt d (e.fld 0).toI)).length = insAt d (e.fld 0).toI := by simp; omega
  have h2 : (insT d e).toL = d.toL.take (insAt d (e.fld 0).toI) ++ e :: d.toL.drop (insAt d (e.fld 0).toI) := rfl
  rw [h2, Int.toNat_natCast]
  have h3 := List.take_append_drop (insAt d (e.fld 0).toI) d.toL
  generalize List.take (insAt d (e.fld 0).toI) d.toL = xs at *
  generalize List.drop (insAt d (e.fld 0).toI) d.toL = ys at *
  rw [← hl, ← h3, List.take_append_of_le_length (Nat.le_refl _), List.take_length, List.drop_append, List.drop_eq_nil_of_le (by omega), show xs.length + 1 - xs.length = 1 by omega]
  rfl
theorem dropT_small {d : D} {n : Int} (h : smallE d) : smallE (dropT d n) := by
  simp only [dropT]
  split
  · refine smallE_sub h (by simp; omega) fun x hx => ?_
    rcases List.mem_append.1 hx with hx | hx
    · exact List.mem_of_mem_take hx
    · exact List.mem_of_mem_drop hx
  · exact h
theorem takeWhile_at {α : Type} (p : α → Bool) (dflt : α) : ∀ (l : List α) (i : Nat), i < (l.takeWhile p).length → p (l.getD i dflt) = true
  | [], i, h => by simp at h
  | x :: l, i, h => by
    rw [List.takeWhile_cons] at h
    split at h
    · rename_i hx
      cases i with
      | zero => simpa using hx
      | succ i =>
        have := takeWhile_at p dflt l i (by simpa using h)
        simpa using this
    · simp at h
theorem takeWhile_end {α : Type} (p : α → Bool) (dflt : α) : ∀ (l : List α), (l.takeWhile p).length < l.length → p (l.getD (l.takeWhile p).length dflt) = false
  | [], h => by simp at h
  | x :: l, h => by
    rw [List.takeWhile_cons] at h ⊢
    split at h
    · rename_i hx
      rw [if_pos hx] at *
      have := takeWhile_end p dflt l (by simpa using h)
      simpa using this
    · rename_i hx
      rw [if_neg hx]
      simpa using hx
theorem insAt_before {d : D} {n : Int} {i : Nat} (h : i < insAt d n) : ((d.elem i).fld 0).toI < n := by
  have := takeWhile_at (fun x : D => decide ((x.fld 0).toI < n)) default d.toL i h
  simpa [D.elem] using this
theorem insAt_stop {d : D} {n : Int} (h : insAt d n < d.toL.length) : n ≤ ((d.elem (insAt d n)).fld 0).toI := by
  have := takeWhile_end (fun x : D => decide ((x.fld 0).toI < n)) default d.toL h
  simp only [decide_eq_false_iff_not, Int.not_lt] at this
  exact this
theorem insAt_find (d : D) (n : Int) : (if findR (fun i => decide (n ≤ ((d.elem i).fld 0).toI)) d.toL.length < 0 then (d.toL.length : Int) else findR (fun i => decide (n ≤ ((d.elem i).fld 0).toI)) d.toL.length) = insAt d n := by
  have hle := insAt_le d n
  by_cases hl : insAt d n < d.toL.length
  · have hs := insAt_stop hl
    have : findR (fun i => decide (n ≤ ((d.elem i).fld 0).toI)) d.toL.length = (insAt d n : Int) := findR_some hl (by simpa using hs) fun j hj => by
      have := insAt_before hj
      simp
      omega
    rw [this, if_neg (by omega)]
  · have : findR (fun i => decide (n ≤ ((d.elem i).fld 0).toI)) d.toL.length = -1 := findR_none fun j hj => by
      have := insAt_before (d := d) (n := n) (i := j) (by omega)
      simp
      omega
    rw [this, if_pos (by omega)]
    omega
theorem insT_small {d e : D} (h : smallE d) (he : ((e.fld 19).toL.length : Int) ≤ 1048576) : smallE (if insOk d e then insT d e else d) := by
  split
  · rename_i hok
    simp only [insOk, Bool.and_eq_true] at hok
    have h5 := (tableOk_iff.1 hok.2).1
    have hall := (tableOk_iff.1 hok.2).2.1
    refine ⟨by omega, fun i hi => ?_⟩
    have hm := elem_mem hi
    simp only [insT, toL_lst] at hm
    rcases List.mem_append.1 hm with hm | hm
    · obtain ⟨j, hj, hje⟩ := List.getElem_of_mem (List.mem_of_mem_take hm)
      rw [show (insT d e).elem i = d.elem j from by rw [elem_get hj, hje]; rfl]
      exact h.2 j hj
    · rcases List.mem_cons.1 hm with hm | hm
      · rw [show (insT d e).elem i = e from hm]
        exact he
      · obtain ⟨j, hj, hje⟩ := List.getElem_of_mem (List.mem_of_mem_drop hm)
        rw [show (insT d e).elem i = d.elem j from by rw [elem_get hj, hje]; rfl]
        exact h.2 j hj
  · exact h

end Go.Proofs.Ytammagpahfmenaa
