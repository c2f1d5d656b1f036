/- What the functions compute, as functions on data. -/
import Derived.Test.YtfbahdalemajcaaE6
namespace Go.Proofs.Ytfbahdalemajcaa
open Go.Proofs.Ytfbahdalemajcaa.Eng
abbrev evK : List CK := [.int .i64, .int .i64, .int .i64, .int .i64, .int .i64, .int .i64, .bool]
def gone (d : D) : Bool := (d.fld 4).toI == 0 && (d.fld 0).toI != 2
def inR (a b c : Int) : Bool := decide (b ≤ a) && decide (a ≤ c)
def bound (a : Int) : Int := if a > 2147483647 then 2147483647 else if a < -2147483647 then -2147483647 else a
def upto (a b : Int) : Int := if (if b < a then b else a) < 0 then 0 else if b < a then b else a
def guardOk (d : D) : Bool :=
  if (d.fld 0).toI = 0 ∨ (d.fld 0).toI = 3 then (d.fld 1).toI == 0 else if (d.fld 0).toI = 1 then inR (d.fld 1).toI (-2147483647) 2147483647
  else if (d.fld 0).toI = 2 ∨ (d.fld 0).toI = 4 then inR (d.fld 1).toI 0 8 else false
def stronger (a b : D) : Bool :=
  guardOk a && guardOk b && ((b.fld 0).toI == 0 || (a.fld 0).toI == (b.fld 0).toI && (if (a.fld 0).toI = 1 then decide ((a.fld 1).toI ≤ (b.fld 1).toI) else decide ((b.fld 1).toI ≤ (a.fld 1).toI)))
def patOk (d : D) : Bool :=
  inR (d.fld 0).toI 1 6 && inR (d.fld 1).toI 0 2 && inR (d.fld 2).toI 0 99 && inR (d.fld 3).toI 0 63 && inR (d.fld 4).toI 0 99 && inR (d.fld 5).toI 0 2147483647 && inR (d.fld 6).toI 0 4 &&
  !((d.fld 0).toI != 1 && ((d.fld 2).toI != 0 || (d.fld 3).toI != 0) || (d.fld 0).toI != 2 && (d.fld 6).toI != 0) && ((d.fld 4).toI == 0 || (d.fld 0).toI != 3 && (d.fld 0).toI != 4)
def demands (a b : Int) : Bool := b == 0 || a == b
def narrower (a b : D) : Bool :=
  patOk a && patOk b && (a.fld 0).toI == (b.fld 0).toI && demands (a.fld 1).toI (b.fld 1).toI && demands (a.fld 2).toI (b.fld 2).toI && demands (a.fld 4).toI (b.fld 4).toI && demands (a.fld 6).toI (b.fld 6).toI &&
  bits2 .i64 (· &&& ·) (a.fld 3).toI (b.fld 3).toI == (b.fld 3).toI && decide ((b.fld 5).toI ≤ (a.fld 5).toI)
theorem int_eta {d : D} {k : IntKind} (h : CK.okD (.int k) d) : D.int d.toI = d := by obtain ⟨n, rfl, _⟩ := ok_int h; rfl
theorem int_range {d : D} (h : CK.okD (.int .i64) d) : -9223372036854775808 ≤ d.toI ∧ d.toI ≤ 9223372036854775807 := by obtain ⟨n, rfl, h⟩ := ok_int h; exact inK_i64 h
theorem bool_eta {d : D} (h : CK.okD .bool d) : D.bool d.toB = d := by obtain ⟨n, rfl⟩ := ok_bool h; rfl
theorem sl_eta {d : D} {ks : List CK} (h : CK.okD (.sl ks) d) : D.lst d.toL = d := by obtain ⟨n, rfl, _⟩ := ok_sl h; rfl
theorem sl_len {d : D} {ks : List CK} (h : CK.okD (.sl ks) d) : d.toL.length ≤ maxL := by obtain ⟨n, rfl, h, _⟩ := ok_sl h; exact h
theorem sl_all {d : D} {ks : List CK} (h : CK.okD (.sl ks) d) : ∀ x ∈ d.toL, okL ks x := by obtain ⟨n, rfl, _, h⟩ := ok_sl h; exact h
theorem elem_mem {d : D} {i : Nat} (h : i < d.toL.length) : d.elem i ∈ d.toL := by simp [D.elem, h]
theorem copy_step {d z e : D} {i : Nat} (h : i < d.toL.length) (he : e = d.elem i) : (d.toL.take i ++ List.replicate (d.toL.length - i) z).set i e = d.toL.take (i + 1) ++ List.replicate (d.toL.length - (i + 1)) z := by
  subst he
  apply List.ext_getElem
  · simp; omega
  · intro j h1 h2
    simp only [List.getElem_set, List.getElem_append, List.length_take, List.getElem_take, List.getElem_replicate]
    have e : d.elem i = d.toL[i] := by simp [D.elem, h]
    split
    · rename_i hj
      subst hj
      rw [dif_pos (by omega)]
      exact e
    · by_cases hj : j < i
      · rw [dif_pos (by omega), dif_pos (by omega)]
      · rw [dif_neg (by omega), dif_neg (by omega)]
theorem copy_end {d z : D} {i : Nat} (h : d.toL.length ≤ i) : d.toL.take i ++ List.replicate (d.toL.length - i) z = d.toL := by
  rw [List.take_of_length_le h, show d.toL.length - i = 0 by omega]; simp
theorem eta1 {k : CK} {x : D} (h : okL [k] x) : D.lst [x.fld 0] = x := by simpa [List.range, List.range.loop] using okL_eta h
def markedN (n : Int) (k : Nat) : List D := (List.range k).map fun (i : Nat) => .lst [.int (n + i)]
@[simp] theorem markedN_length (n : Int) (k : Nat) : (markedN n k).length = k := by simp [markedN]
theorem mark_step {n : Int} {l : List D} {i : Nat} (h : i < l.length) : markedN n i ++ (l.drop i).set 0 (.lst [.int (n + i)]) = markedN n (i + 1) ++ l.drop (i + 1) := by
  simp only [markedN, List.range_succ, List.map_append, List.map_cons, List.map_nil, List.append_assoc, List.singleton_append]
  congr 1
  rw [List.drop_eq_getElem_cons h]
  rfl
theorem held_at {n : Int} {d : D} {i : Nat} (h : markedN n d.toL.length = d.toL) (hi : i < d.toL.length) : ((d.elem i).fld 0).toI = n + i := by
  have : d.elem i = .lst [.int (n + i)] := by
    simp only [D.elem]
    rw [← h]
    simp [markedN, hi]
  rw [this]
  rfl
def szS (n : Int) (l : Nat) : Int := if n - l < 0 then -1 else n - l
@[simp] theorem szS_neg {n : Int} {l : Nat} : szS n l < 0 ↔ n < l := by simp only [szS]; split <;> omega
@[simp] theorem szS_nn {n : Int} {l : Nat} : 0 ≤ szS n l ↔ l ≤ n := by simp only [szS]; split <;> omega
def pickN (d : D) (n : Int) : Int := if n < 2 ∨ d.toL = [] then 0 else if ((d.elem 0).fld 0).toI.tmod n < 0 then IntKind.i64.wrap (((d.elem 0).fld 0).toI.tmod n + n) else ((d.elem 0).fld 0).toI.tmod n
def pickL (d : D) (n : Int) : List D := if n < 2 ∨ d.toL = [] then d.toL else d.toL.drop 1
theorem pickL_le (d : D) (n : Int) : (pickL d n).length ≤ d.toL.length := by simp only [pickL]; split <;> simp
def total : List D → Int → Int
  | [], s => s
  | e :: l, s => total l (if (e.fld 0).toI = 1 then IntKind.i64.wrap (s + upto (e.fld 4).toI 2147483647) else s)
def actFits (a : D) (k : Int) : Bool :=
  inR k 1 6 && (if (a.fld 0).toI = 2 ∨ (a.fld 0).toI = 6 then k == 1 else if (a.fld 0).toI = 3 ∨ (a.fld 0).toI = 4 ∨ (a.fld 0).toI = 5 then k != 2 else if (a.fld 0).toI = 7 ∨ (a.fld 0).toI = 8 then k == 2 else (a.fld 0).toI == 1 || (a.fld 0).toI == 9)
def plus (a b : Int) : Int := bound (IntKind.i64.wrap (bound a + bound b))
def twice (a : Int) : Int := bound (IntKind.i64.wrap (2 * bound a))
def half (a : Int) : Int := IntKind.i64.wrap ((bound a).tdiv 2)
def amount (a : D) (n : Int) : Int :=
  if (a.fld 0).toI = 1 then 0 else if (a.fld 0).toI = 3 then plus (upto n 2147483647) (a.fld 1).toI else if (a.fld 0).toI = 4 then twice (upto n 2147483647) else if (a.fld 0).toI = 5 then half (upto n 2147483647) else upto n 2147483647
def onPiece (e : D) : Bool := inR (e.fld 2).toI 1 99 && (e.fld 3).toI == -1
def onPlayer (e : D) : Bool := (e.fld 2).toI == 0 && inR (e.fld 3).toI 0 2
def eventOk (e : D) : Bool :=
  inR (e.fld 4).toI 0 2147483647 &&
  (if (e.fld 0).toI = 1 then inR (e.fld 1).toI 1 99 && (onPiece e || onPlayer e) && (e.fld 5).toI == 0 && !(e.fld 6).toB
   else if (e.fld 0).toI = 2 then (e.fld 1).toI == 0 && onPiece e && inR (e.fld 5).toI 1 4 && decide ((e.fld 4).toI ≤ 99) && ((e.fld 5).toI == 2 || (e.fld 4).toI == 0 && !(e.fld 6).toB)
   else if (e.fld 0).toI = 3 ∨ (e.fld 0).toI = 4 then (e.fld 1).toI == 0 && onPlayer e && (e.fld 5).toI == 0 && !(e.fld 6).toB
   else if (e.fld 0).toI = 5 ∨ (e.fld 0).toI = 6 then (e.fld 1).toI == 0 && onPiece e && (e.fld 5).toI == 0 && !(e.fld 6).toB else false)
def ev4 (t : D) : D := .lst [t.fld 4, t.fld 5, t.fld 6, t.fld 7, t.fld 8, t.fld 9, t.fld 10]
theorem total_append (a b : List D) (s : Int) : total (a ++ b) s = total b (total a s) := by
  induction a generalizing s with
  | nil => rfl
  | cons x a ih => simp [total, ih]
theorem take_elem {d : D} {i : Nat} (h : i < d.toL.length) : d.toL.take (i + 1) = d.toL.take i ++ [d.elem i] := by
  rw [List.take_add_one]; simp [D.elem, h]
theorem total_take {d : D} {i : Nat} (h : i < d.toL.length) : total (d.toL.take (i + 1)) 0 = (if ((d.elem i).fld 0).toI = 1 then IntKind.i64.wrap (total (d.toL.take i) 0 + upto ((d.elem i).fld 4).toI 2147483647) else total (d.toL.take i) 0) := by
  rw [take_elem h, total_append]; simp [total]
def sameEv (a b : D) : Bool := (a.fld 0).toI == (b.fld 0).toI && (a.fld 1).toI == (b.fld 1).toI && (a.fld 2).toI == (b.fld 2).toI && (a.fld 3).toI == (b.fld 3).toI && (a.fld 4).toI == (b.fld 4).toI && (a.fld 5).toI == (b.fld 5).toI && (a.fld 6).toB == (b.fld 6).toB
def allR (p : Nat → Bool) (n : Nat) : Bool := (List.range n).all p
theorem allR_true {p : Nat → Bool} {n : Nat} (h : ∀ j, j < n → p j = true) : allR p n = true := by simp only [allR, List.all_eq_true, List.mem_range]; exact h
theorem allR_false {p : Nat → Bool} {n i : Nat} (hi : i < n) (h : p i = false) : allR p n = false := by simp only [allR, List.all_eq_false, List.mem_range]; exact ⟨i, hi, by simp [h]⟩
def sameEvs (a b : D) : Bool := decide (a.toL.length = b.toL.length) && allR (fun i => sameEv (a.elem i) (b.elem i)) a.toL.length
def sameTurn (a b : D) : Bool :=
  (a.fld 0).toI == (b.fld 0).toI && (a.fld 1).toI == (b.fld 1).toI && (a.fld 2).toI == (b.fld 2).toI && (a.fld 3).toI == (b.fld 3).toI && sameEv (ev4 a) (ev4 b) && (a.fld 12).toI == (b.fld 12).toI && (a.fld 13).toI == (b.fld 13).toI && sameEvs (a.fld 11) (b.fld 11)
def turnOk (t : D) : Bool :=
  inR (t.fld 0).toI 1 99 && inR (t.fld 1).toI 0 2 && inR (t.fld 3).toI 1 5 && inR (t.fld 2).toI 0 (IntKind.i64.wrap ((t.fld 3).toI - 1)) && eventOk (ev4 t) && inR (t.fld 12).toI 0 2147483647 && inR (t.fld 13).toI 0 4 &&
  decide ((t.fld 11).toL.length ≤ 3) && allR (fun i => eventOk ((t.fld 11).elem i)) (t.fld 11).toL.length
/-- The first place from 'i' on where the condition holds, of 'n' places; -1 if there is none. -/
def findR (p : Nat → Bool) (n : Nat) : Int := match (List.range n).find? p with
  | some j => j
  | none => -1
theorem findR_none {p : Nat → Bool} {n : Nat} (h : ∀ j, j < n → p j = false) : findR p n = -1 := by
  have : (List.range n).find? p = none := by simp only [List.find?_eq_none, List.mem_range]; intro j hj; simp [h j hj]
  simp [findR, this]
theorem findR_some {p : Nat → Bool} {n i : Nat} (hi : i < n) (hp : p i = true) (h : ∀ j, j < i → p j = false) : findR p n = i := by
  have : (List.range n).find? p = some i := by
    rw [List.find?_eq_some_iff_getElem]
    refine ⟨hp, i, by simpa using hi, by simp, fun j hj => by simp [h j hj]⟩
  simp [findR, this]
theorem findR_nn {p : Nat → Bool} {n : Nat} : decide (0 ≤ findR p n) = !allR (fun i => !p i) n := by
  by_cases h : ∃ j, j < n ∧ p j = true
  · obtain ⟨j, hj, hp⟩ := h
    rw [allR_false hj (by simp [hp])]
    cases hf : (List.range n).find? p with
    | none => simp only [List.find?_eq_none, List.mem_range] at hf; exact absurd hp (hf j hj)
    | some i => simp [findR, hf]
  · have h' : ∀ j, j < n → p j = false := fun j hj => by cases hp : p j <;> simp_all
    rw [findR_none h', allR_true fun j hj => by simp [h' j hj]]
    rfl
theorem okL_at {ks : List CK} {d : D} {i : Nat} {k : CK} (h : okL ks d) (hi : ks[i]? = some k) : CK.okD k (d.fld i) := by
  obtain ⟨es, rfl, h⟩ := h
  have : ∀ (ks : List CK) (es : List D) (i : Nat), CK.okDs ks es → ks[i]? = some k → CK.okD k ((D.lst es).fld i) := by
    intro ks
    induction ks with
    | nil => intro es i _ h; simp at h
    | cons c ks ih =>
      intro es i h hi
      cases es with
      | nil => simp [CK.okDs] at h
      | cons e es =>
        simp only [CK.okDs] at h
        cases i with
        | zero =>
          simp only [List.getElem?_cons_zero, Option.some.injEq] at hi
          subst hi
          exact h.1
        | succ i => exact ih es i h.2 (by simpa using hi)
  exact this ks es i h hi
def zeroPiece : D := .lst [.int 0, .int 0, .int 0, .int 0, .int 0, .int 0, .int 0, .int 0, .int 0, .int 0, .int 0, .bool false, .bool false]
theorem findR_range (p : Nat → Bool) (n : Nat) : -1 ≤ findR p n ∧ findR p n < n := by
  simp only [findR]
  cases hf : (List.range n).find? p with
  | none => simp; omega
  | some i =>
    have := List.mem_of_find?_eq_some hf
    simp only [List.mem_range] at this
    simp
    omega
def pieceAt (s : D) (n : Int) : Int := findR (fun i => (((s.fld 0).elem i).fld 0).toI == n) (s.fld 0).toL.length
theorem pieceAt_range (s : D) (n : Int) : -1 ≤ pieceAt s n ∧ pieceAt s n < (s.fld 0).toL.length := findR_range _ _
def countR (p : Nat → Bool) (n : Nat) : Nat := ((List.range n).filter p).length
@[simp] theorem countR_zero (p : Nat → Bool) : countR p 0 = 0 := rfl
theorem countR_succ (p : Nat → Bool) (n : Nat) : countR p (n + 1) = countR p n + if p n then 1 else 0 := by
  simp only [countR, List.range_succ, List.filter_append, List.length_append]
  cases hp : p n <;> simp [hp]
theorem countR_le (p : Nat → Bool) (n : Nat) : countR p n ≤ n := by
  have := List.length_filter_le p (List.range n)
  simpa [countR] using this
def bentP (s : D) (n : Int) (i : Nat) : Bool := (((s.fld 0).elem i).fld 3).toI == 2 && (((s.fld 0).elem i).fld 2).toI == n && (((s.fld 0).elem i).fld 12).toB
def manyP (s : D) (n : Int) (i : Nat) : Bool := (((s.fld 0).elem i).fld 3).toI == 2 && (((s.fld 0).elem i).fld 2).toI == n
def bentOf (s : D) (n : Int) : Int := countR (bentP s n) (s.fld 0).toL.length
def many (s : D) (n : Int) : Int := countR (manyP s n) (s.fld 0).toL.length
def source (s e : D) : D := if (e.fld 0).toI ≠ 1 ∨ pieceAt s (e.fld 1).toI < 0 then zeroPiece else (s.fld 0).elem (pieceAt s (e.fld 1).toI).toNat
def target (s e : D) : Int :=
  if (e.fld 2).toI = 0 then (if inR (e.fld 3).toI 0 ((s.fld 1).toL.length - 1) then (e.fld 3).toI else -1)
  else if pieceAt s (e.fld 2).toI < 0 then -1 else (((s.fld 0).elem (pieceAt s (e.fld 2).toI).toNat).fld 2).toI
def sourceFits (s p e : D) : Bool := ((p.fld 2).toI == 0 || (p.fld 2).toI == (e.fld 1).toI) && bits2 .i64 (· &&& ·) ((source s e).fld 7).toI (p.fld 3).toI == (p.fld 3).toI
def targetFits (s : D) (n : Int) (p e : D) : Bool :=
  !(target s e == -1 || (p.fld 1).toI == 1 && target s e != n || (p.fld 1).toI == 2 && target s e == n) && ((p.fld 4).toI == 0 || (p.fld 4).toI == (e.fld 2).toI)
def patFits (s : D) (n : Int) (p e : D) : Bool :=
  patOk p && eventOk e && (p.fld 0).toI == (e.fld 0).toI && targetFits s n p e && sourceFits s p e && decide ((p.fld 5).toI ≤ (e.fld 4).toI) && ((p.fld 6).toI == 0 || (p.fld 6).toI == (e.fld 5).toI)
def onFieldP (s : D) (n : Int) (i : Nat) : Bool := (((s.fld 0).elem i).fld 3).toI == 2 && (n == -1 || (((s.fld 0).elem i).fld 2).toI == n)
def onField (s : D) (n : Int) (k : Nat) : List D := ((List.range k).filter (onFieldP s n)).map fun i => .lst [((s.fld 0).elem i).fld 0]
theorem onField_succ (s : D) (n : Int) (k : Nat) : onField s n (k + 1) = onField s n k ++ if onFieldP s n k then [.lst [((s.fld 0).elem k).fld 0]] else [] := by
  simp only [onField, List.range_succ, List.filter_append, List.map_append]
  cases hp : onFieldP s n k <;> simp [hp]
theorem onField_length (s : D) (n : Int) (k : Nat) : (onField s n k).length = countR (onFieldP s n) k := by simp [onField, countR]
theorem onField_many {s : D} {n : Int} (h : 0 ≤ n) (k : Nat) : (onField s n k).length = countR (manyP s n) k := by
  rw [onField_length]
  have : onFieldP s n = manyP s n := by
    funext i
    have : (n == -1) = false := by simp; omega
    simp [onFieldP, manyP, this]
  rw [this]
def holds (s : D) (n : Int) (g : D) : Bool :=
  guardOk g && inR n 0 ((s.fld 1).toL.length - 1) &&
  (if (g.fld 0).toI = 1 then decide ((((s.fld 1).elem n.toNat).fld 0).toI ≤ (g.fld 1).toI) else if (g.fld 0).toI = 2 then decide ((g.fld 1).toI ≤ many s n)
   else if (g.fld 0).toI = 3 then (s.fld 2).toI == n else if (g.fld 0).toI = 4 then decide ((g.fld 1).toI ≤ bentOf s n) else true)
def ev0 (e : D) : D := .lst [e.fld 0, e.fld 1, e.fld 2, e.fld 3, .int 0, e.fld 5, e.fld 6]
def partOk (e : D) : Bool := if (e.fld 4).toI = -1 ∧ (e.fld 0).toI ≠ 2 then eventOk (ev0 e) else eventOk e
def plain (a : D) : Bool := (a.fld 2).toI == 0 && (a.fld 3).toI == -1 && (a.fld 4).toI == 0 && !(a.fld 5).toB && ((a.fld 6).toL.length : Int) == 0
def actOk (a : D) : Bool :=
  if (a.fld 0).toI = 1 ∨ (a.fld 0).toI = 2 ∨ (a.fld 0).toI = 4 ∨ (a.fld 0).toI = 5 then plain a && (a.fld 1).toI == 0
  else if (a.fld 0).toI = 3 then plain a && inR (a.fld 1).toI 1 2147483647
  else if (a.fld 0).toI = 6 then (a.fld 1).toI == 0 && (a.fld 4).toI == 0 && !(a.fld 5).toB && ((a.fld 6).toL.length : Int) == 0 && (inR (a.fld 2).toI 1 99 && (a.fld 3).toI == -1 || (a.fld 2).toI == 0 && inR (a.fld 3).toI 0 2)
  else if (a.fld 0).toI = 7 then (a.fld 1).toI == 0 && (a.fld 2).toI == 0 && (a.fld 3).toI == -1 && !(a.fld 5).toB && ((a.fld 6).toL.length : Int) == 0 && inR (a.fld 4).toI 1 4
  else if (a.fld 0).toI = 8 then inR (a.fld 1).toI 0 99 && (a.fld 2).toI == 0 && (a.fld 3).toI == -1 && (a.fld 4).toI == 0 && ((a.fld 6).toL.length : Int) == 0
  else if (a.fld 0).toI = 9 then (a.fld 1).toI == 0 && (a.fld 2).toI == 0 && (a.fld 3).toI == -1 && (a.fld 4).toI == 0 && !(a.fld 5).toB && inR (a.fld 6).toL.length 1 3 && allR (fun i => partOk ((a.fld 6).elem i)) (a.fld 6).toL.length
  else false
def sameAct (a b : D) : Bool :=
  (a.fld 0).toI == (b.fld 0).toI && (a.fld 1).toI == (b.fld 1).toI && (a.fld 2).toI == (b.fld 2).toI && (a.fld 3).toI == (b.fld 3).toI && (a.fld 4).toI == (b.fld 4).toI && (a.fld 5).toB == (b.fld 5).toB && sameEvs (a.fld 6) (b.fld 6)
def sameEffect (a b : D) : Bool :=
  (a.fld 0).toI == (b.fld 0).toI && (a.fld 1).toI == (b.fld 1).toI && (a.fld 2).toI == (b.fld 2).toI && (a.fld 3).toI == (b.fld 3).toI && (a.fld 4).toI == (b.fld 4).toI && (a.fld 5).toI == (b.fld 5).toI && (a.fld 6).toI == (b.fld 6).toI && (a.fld 7).toI == (b.fld 7).toI && (a.fld 8).toI == (b.fld 8).toI && (a.fld 9).toI == (b.fld 9).toI && (a.fld 10).toI == (b.fld 10).toI && (a.fld 11).toI == (b.fld 11).toI && (a.fld 12).toI == (b.fld 12).toI && (a.fld 13).toI == (b.fld 13).toI && (a.fld 14).toI == (b.fld 14).toI && (a.fld 15).toI == (b.fld 15).toI && (a.fld 16).toI == (b.fld 16).toI && (a.fld 17).toI == (b.fld 17).toI && (a.fld 20).toI == (b.fld 20).toI && (a.fld 21).toI == (b.fld 21).toI && (a.fld 18).toB == (b.fld 18).toB && sameEvs (a.fld 19) (b.fld 19)
def patOf (e : D) : D := .lst [e.fld 4, e.fld 5, e.fld 6, e.fld 7, e.fld 8, e.fld 9, e.fld 10]
def grdOf (e : D) : D := .lst [e.fld 11, e.fld 12]
def actOf (e : D) : D := .lst [e.fld 13, e.fld 14, e.fld 15, e.fld 16, e.fld 17, e.fld 18, e.fld 19]
def effectOk (e : D) : Bool :=
  inR (e.fld 0).toI 1 99 && inR (e.fld 1).toI 0 2 && inR (e.fld 2).toI 0 99 && inR (e.fld 3).toI 0 4 && inR (e.fld 20).toI (-1) 9999 && inR (e.fld 21).toI (-1) 2147483647 &&
  !((e.fld 3).toI == 0 && (e.fld 2).toI == 0 || (e.fld 13).toI == 2 && decide ((e.fld 21).toI < 0)) && patOk (patOf e) && guardOk (grdOf e) && actOk (actOf e) && actFits (actOf e) (e.fld 4).toI
def lives (e : D) (n : Int) : Bool := (e.fld 21).toI != 0 && ((e.fld 20).toI == -1 || decide (n ≤ (e.fld 20).toI))
def near (e v : D) : Bool := (e.fld 3).toI != 0 || (e.fld 2).toI == (v.fld 1).toI || (e.fld 2).toI == (v.fld 2).toI
def fitsE (s e v : D) : Bool := effectOk e && lives e (s.fld 3).toI && near e v && holds s (e.fld 1).toI (grdOf e) && patFits s (e.fld 1).toI (patOf e) v
def sumR (f : Nat → Nat) : Nat → Nat
  | 0 => 0
  | n + 1 => sumR f n + f n
theorem sumR_mono (f : Nat → Nat) {i n : Nat} (h : i ≤ n) : sumR f i ≤ sumR f n := by
  induction h with
  | refl => exact Nat.le_refl _
  | step _ ih => exact Nat.le_trans ih (Nat.le_add_right _ _)
theorem sumR_at (f : Nat → Nat) {i n : Nat} (h : i < n) : f i ≤ sumR f n := by
  have h1 := sumR_mono f (show i + 1 ≤ n from h)
  simp only [sumR] at h1
  omega
def innerE (d : D) (i : Nat) : Nat := ((d.elem i).fld 19).toL.length
def szEs (n : Int) (d : D) : Int := if n - d.toL.length - sumR (innerE d) d.toL.length < 0 then -1 else n - d.toL.length - sumR (innerE d) d.toL.length
def smallE (d : D) : Prop := (d.toL.length : Int) ≤ 1048576 ∧ ∀ i, i < d.toL.length → (((d.elem i).fld 19).toL.length : Int) ≤ 1048576
theorem smallE_of {d : D} {n : Int} (h : 0 ≤ szEs n d) (hn : n ≤ 1048576) : smallE d := by
  have h' : 0 ≤ n - d.toL.length - sumR (innerE d) d.toL.length := by simp only [szEs] at h; split at h <;> omega
  refine ⟨by omega, fun i hi => ?_⟩
  have := sumR_at (innerE d) hi
  have e : innerE d i = ((d.elem i).fld 19).toL.length := rfl
  omega
theorem szEs_le {d : D} {n : Int} (h : 0 ≤ szEs n d) : szEs n d ≤ n := by simp only [szEs] at h ⊢; split <;> split at h <;> omega
theorem szEs_le' {d : D} {n : Int} (hn : 0 ≤ n) : szEs n d ≤ n := by simp only [szEs]; split <;> omega
theorem smallE2 {a d : D} (h0 : 0 ≤ szEs 1048576 a) (h : 0 ≤ szEs (szEs 1048576 a) d) : smallE d := smallE_of h (szEs_le h0)
theorem wrapI {n : Int} (h1 : -9223372036854775808 ≤ n) (h2 : n ≤ 9223372036854775807) : IntKind.i64.wrap n = n := by rw [IntKind.wrap_i64]; omega
def effAt (d : D) (n : Int) : Int := findR (fun i => ((d.elem i).fld 0).toI == n) d.toL.length
def sameTable (a b : D) : Bool := decide (a.toL.length = b.toL.length) && allR (fun i => sameEffect (a.elem i) (b.elem i)) a.toL.length
def rowOk (d : D) (i : Nat) : Bool := effectOk (d.elem i) && !(decide (0 < i) && decide (((d.elem i).fld 0).toI ≤ ((d.elem (i - 1)).fld 0).toI))
def tableOk (d : D) : Bool := decide (d.toL.length ≤ 5) && allR (rowOk d) d.toL.length
def partE (a v : D) (i : Nat) : D :=
  if (((a.fld 6).elem i).fld 4).toI = -1 then .lst [((a.fld 6).elem i).fld 0, ((a.fld 6).elem i).fld 1, ((a.fld 6).elem i).fld 2, ((a.fld 6).elem i).fld 3, .int (upto (v.fld 4).toI 2147483647), ((a.fld 6).elem i).fld 5, ((a.fld 6).elem i).fld 6]
  else (a.fld 6).elem i
def partsTo (a v : D) (k : Nat) : List D := (List.range k).map (partE a v)
@[simp] theorem partsTo_length (a v : D) (k : Nat) : (partsTo a v k).length = k := by simp [partsTo]
theorem partsTo_succ (a v : D) (k : Nat) : partsTo a v (k + 1) = partsTo a v k ++ [partE a v k] := by simp [partsTo, List.range_succ]
def parts (a v : D) : List D := if (a.fld 0).toI = 9 then partsTo a v (a.fld 6).toL.length else []
theorem parts_le (a v : D) : (parts a v).length ≤ (a.fld 6).toL.length := by simp only [parts]; split <;> simp
def evMark (m : Int) : D := .lst [.int m, .int (m + 1), .int (m + 2), .int (m + 3), .int (m + 4), .int (m + 5), .bool ((m + 6).tmod 3 == 0)]
def markedE (n : Int) (k : Nat) : List D := (List.range k).map fun (i : Nat) => evMark (n + 7 * i)
@[simp] theorem markedE_length (n : Int) (k : Nat) : (markedE n k).length = k := by simp [markedE]
theorem markE_step {n : Int} {l : List D} {i : Nat} (h : i < l.length) : markedE n i ++ (l.drop i).set 0 (evMark (n + 7 * i)) = markedE n (i + 1) ++ l.drop (i + 1) := by
  simp only [markedE, List.range_succ, List.map_append, List.map_cons, List.map_nil, List.append_assoc, List.singleton_append]
  congr 1
  rw [List.drop_eq_getElem_cons h]
  rfl
theorem heldE_at {n : Int} {d : D} {i : Nat} (h : markedE n d.toL.length = d.toL) (hi : i < d.toL.length) : d.elem i = evMark (n + 7 * i) := by
  simp only [D.elem]
  rw [← h]
  simp [markedE, hi]
theorem elem_set {l : List D} {x : D} {i : Nat} (h : i < l.length) : (D.lst (l.set i x)).elem i = x := by simp [D.elem, h]
theorem elem_mark {n : Int} {d : D} {i : Nat} (h : i < d.toL.length) : (D.lst (markedE n i ++ d.toL.drop i)).elem i = d.elem i := by
  simp [D.elem, List.getElem?_append_right]
theorem elem_mark_set {n : Int} {d x : D} {i : Nat} (h : i < d.toL.length) : (D.lst (markedE n i ++ (d.toL.drop i).set 0 x)).elem i = x := by
  have hl : 0 < (d.toL.drop i).length := by simp; omega
  show (markedE n i ++ (d.toL.drop i).set 0 x).getD i default = x
  rw [List.getD_eq_getElem?_getD, List.getElem?_append_right (by simp), markedE_length, Nat.sub_self, List.getElem?_set_self hl]
  rfl
def less (a b : Int) : Int := bound (IntKind.i64.wrap (bound a - bound b))
def spent (e : D) (n : Int) : D := if (e.fld 13).toI = 2 then .lst [e.fld 0, e.fld 1, e.fld 2, e.fld 3, e.fld 4, e.fld 5, e.fld 6, e.fld 7, e.fld 8, e.fld 9, e.fld 10, e.fld 11, e.fld 12, e.fld 13, e.fld 14, e.fld 15, e.fld 16, e.fld 17, e.fld 18, e.fld 19, e.fld 20, .int (upto (less (e.fld 21).toI n) 2147483647)] else if (e.fld 21).toI > 0 then .lst [e.fld 0, e.fld 1, e.fld 2, e.fld 3, e.fld 4, e.fld 5, e.fld 6, e.fld 7, e.fld 8, e.fld 9, e.fld 10, e.fld 11, e.fld 12, e.fld 13, e.fld 14, e.fld 15, e.fld 16, e.fld 17, e.fld 18, e.fld 19, e.fld 20, .int (IntKind.i64.wrap ((e.fld 21).toI - 1))] else e
def withL (d l : D) : D := .lst [d.fld 0, d.fld 1, d.fld 2, d.fld 3, d.fld 4, d.fld 5, d.fld 6, d.fld 7, d.fld 8, d.fld 9, d.fld 10, d.fld 11, d.fld 12, d.fld 13, d.fld 14, d.fld 15, d.fld 16, d.fld 17, d.fld 18, l, d.fld 20, d.fld 21]
def mkL (f : Nat → D) (k : Nat) : List D := (List.range k).map f
@[simp] theorem mkL_length (f : Nat → D) (k : Nat) : (mkL f k).length = k := by simp [mkL]
theorem mkL_step {f : Nat → D} {l : List D} {i : Nat} (h : i < l.length) : mkL f i ++ (l.drop i).set 0 (f i) = mkL f (i + 1) ++ l.drop (i + 1) := by
  simp only [mkL, List.range_succ, List.map_append, List.map_cons, List.map_nil, List.append_assoc, List.singleton_append]
  congr 1
  rw [List.drop_eq_getElem_cons h]
  rfl
theorem elem_mkL {f : Nat → D} {d : D} {i : Nat} (h : i < d.toL.length) : (D.lst (mkL f i ++ d.toL.drop i)).elem i = d.elem i := by
  simp [D.elem, List.getElem?_append_right]
theorem elem_mkL_set {f : Nat → D} {d x : D} {i : Nat} (h : i < d.toL.length) : (D.lst (mkL f i ++ (d.toL.drop i).set 0 x)).elem i = x := by
  have hl : 0 < (d.toL.drop i).length := by simp; omega
  show (mkL f i ++ (d.toL.drop i).set 0 x).getD i default = x
  rw [List.getD_eq_getElem?_getD, List.getElem?_append_right (by simp), mkL_length, Nat.sub_self, List.getElem?_set_self hl]
  rfl
theorem mkL_at {f : Nat → D} {d : D} {i : Nat} (h : mkL f d.toL.length = d.toL) (hi : i < d.toL.length) : d.elem i = f i := by
  simp only [D.elem]
  rw [← h]
  simp [mkL, hi]
theorem mkL_elem {f : Nat → D} {k i : Nat} (hi : i < k) : (D.lst (mkL f k)).elem i = f i := by simp [D.elem, mkL, hi]
theorem sumR_le (f : Nat → Nat) {k M : Nat} (h : ∀ i, i < k → f i ≤ M) : sumR f k ≤ k * M := by
  induction k with
  | zero => simp [sumR]
  | succ k ih =>
    have h1 := ih fun i hi => h i (by omega)
    have h2 := h k (by omega)
    rw [sumR, Nat.succ_mul]
    omega
theorem sumR_congr {f g : Nat → Nat} {k : Nat} (h : ∀ i, i < k → f i = g i) : sumR f k = sumR g k := by
  induction k with
  | zero => rfl
  | succ k ih => rw [sumR, sumR, ih fun i hi => h i (by omega), h k (by omega)]
def effMark (m : Int) (q : Nat) : D := .lst [.int m, .int (m + 1), .int (m + 2), .int (m + 3), .int (m + 4), .int (m + 5), .int (m + 6), .int (m + 7), .int (m + 8), .int (m + 9), .int (m + 10), .int (m + 11), .int (m + 12), .int (m + 13), .int (m + 14), .int (m + 15), .int (m + 16), .int (m + 17), .bool ((m + 18).tmod 3 == 0), .lst (markedE (m + 19) q), .int (m + 19 + 7 * q), .int (m + 20 + 7 * q)]
def offE (n : Int) (d : D) (i : Nat) : Int := n + 21 * i + 7 * sumR (innerE d) i
def markEfs (n : Int) (d : D) (k : Nat) : List D := mkL (fun i => effMark (offE n d i) (innerE d i)) k
def endE (n : Int) (d : D) : Int := offE n d d.toL.length
@[simp] theorem markEfs_length (n : Int) (d : D) (k : Nat) : (markEfs n d k).length = k := by simp [markEfs]
theorem innerE_mark {n : Int} {d : D} {k i : Nat} (h : i < k) : innerE (.lst (markEfs n d k)) i = innerE d i := by
  simp only [innerE, markEfs, mkL_elem h]
  simp [effMark, innerE]
theorem smallE_mark {n : Int} {d : D} (h : smallE d) : smallE (.lst (markEfs n d d.toL.length)) := by
  refine ⟨by simpa using h.1, fun i hi => ?_⟩
  have hi' : i < d.toL.length := by simpa using hi
  have := h.2 i hi'
  have e := innerE_mark (n := n) (d := d) hi'
  simp only [innerE] at e
  rw [e]
  exact this
theorem offE_mark {n m : Int} {d : D} {i : Nat} (h : i ≤ d.toL.length) : offE m (.lst (markEfs n d d.toL.length)) i = offE m d i := by
  simp only [offE]
  rw [sumR_congr fun j hj => innerE_mark (n := n) (d := d) (by omega)]
theorem endE_mark {n m : Int} {d : D} : endE m (.lst (markEfs n d d.toL.length)) = endE m d := by
  simp only [endE, toL_lst, markEfs_length]
  exact offE_mark (Nat.le_refl _)
theorem markEfs_mark {n : Int} {d : D} : markEfs n (.lst (markEfs n d d.toL.length)) (D.lst (markEfs n d d.toL.length)).toL.length = (D.lst (markEfs n d d.toL.length)).toL := by
  simp only [toL_lst, markEfs_length]
  conv => lhs; rw [markEfs]
  conv => rhs; rw [markEfs]
  unfold mkL
  apply List.map_congr_left
  intro i hi
  have hi' : i < d.toL.length := by simpa using hi
  rw [offE_mark (by omega), innerE_mark hi']
theorem offE_range {n : Int} {d : D} {i : Nat} (hn : 0 ≤ n ∧ n ≤ 1073741824) (h : smallE d) (hi : i ≤ d.toL.length) : 0 ≤ offE n d i ∧ offE n d i ≤ 100000000000000 := by
  have h1 := sumR_le (innerE d) (k := i) (M := 1048576) fun j hj => by have := h.2 j (by omega); simp only [innerE]; omega
  have h2 := h.1
  simp only [offE]
  omega
theorem offE_succ {n : Int} {d : D} {i : Nat} : offE n d (i + 1) = offE n d i + 21 + 7 * innerE d i := by simp only [offE, sumR]; omega
def pcMark (m : Int) : D := .lst [.int m, .int (m + 1), .int (m + 2), .int (m + 3), .int (m + 4), .int (m + 5), .int (m + 6), .int (m + 7), .int (m + 8), .int (m + 9), .int (m + 10), .bool ((m + 11).tmod 3 == 0), .bool ((m + 12).tmod 3 == 0)]
def sdMark (m : Int) : D := .lst [.int m, .int (m + 1), .bool ((m + 2).tmod 3 == 0)]
def stMark (n : Int) (s : D) : D := .lst [.lst (mkL (fun i => pcMark (n + 13 * i)) (s.fld 0).toL.length), .lst (mkL (fun i => sdMark (n + 13 * (s.fld 0).toL.length + 3 * i)) (s.fld 1).toL.length), s.fld 2, s.fld 3]
def has (l : D) (n : Int) : Bool := !allR (fun i => ((l.elem i).fld 0).toI != n) l.toL.length
def openP (s l e u : D) (i : Nat) : Bool := !has u ((l.elem i).fld 0).toI && fitsE s (l.elem i) e
def openL (s l e u : D) (k : Nat) : List D := ((List.range k).filter (openP s l e u)).map fun i => .lst [(l.elem i).fld 0]
theorem openL_succ (s l e u : D) (k : Nat) : openL s l e u (k + 1) = openL s l e u k ++ if openP s l e u k then [.lst [(l.elem k).fld 0]] else [] := by
  simp only [openL, List.range_succ, List.filter_append, List.map_append]
  cases hp : openP s l e u k <;> simp [hp]
theorem openL_le (s l e u : D) (k : Nat) : (openL s l e u k).length ≤ k := by
  have := List.length_filter_le (openP s l e u) (List.range k)
  simpa [openL] using this
/-- The least class so far (5: none yet) and the effects of that class. -/
def optL (s l e u : D) : Nat → Int × List D
  | 0 => (5, [])
  | k + 1 =>
    if openP s l e u k = false ∨ ((l.elem k).fld 3).toI > (optL s l e u k).1 then optL s l e u k
    else if ((l.elem k).fld 3).toI < (optL s l e u k).1 then (((l.elem k).fld 3).toI, [.lst [(l.elem k).fld 0]])
    else ((optL s l e u k).1, (optL s l e u k).2 ++ [.lst [(l.elem k).fld 0]])
theorem optL_le (s l e u : D) : ∀ k, (optL s l e u k).2.length ≤ k
  | 0 => by simp [optL]
  | k + 1 => by
    have := optL_le s l e u k
    simp only [optL]
    split
    · omega
    · split <;> simp <;> omega
theorem openP_class {s l e u : D} {k : Nat} (h : openP s l e u k = true) : 0 ≤ ((l.elem k).fld 3).toI ∧ ((l.elem k).fld 3).toI ≤ 4 := by
  simp only [openP, fitsE, effectOk, inR, Bool.and_eq_true, decide_eq_true_eq] at h
  omega
theorem optL_none {s l e u : D} : ∀ {k : Nat}, ((optL s l e u k).2 = [] → (optL s l e u k).1 = 5) ∧ ((optL s l e u k).2 ≠ [] → (optL s l e u k).1 ≤ 4)
  | 0 => by simp [optL]
  | k + 1 => by
    have ih := optL_none (s := s) (l := l) (e := e) (u := u) (k := k)
    simp only [optL]
    split
    · exact ih
    · rename_i h
      have hp : openP s l e u k = true := by simpa using fun hc => h (.inl hc)
      have hc := openP_class hp
      split
      · simp; omega
      · rename_i h2
        have h3 : ((l.elem k).fld 3).toI = (optL s l e u k).1 := by
          have : ¬ ((l.elem k).fld 3).toI > (optL s l e u k).1 := fun hx => h (.inr hx)
          omega
        simp
        omega
theorem szS_bound {a b : Nat} (h : ¬ szS (szS 1048576 a) b < 0) : (a : Int) ≤ 1048576 ∧ (b : Int) ≤ 1048576 ∧ szS (szS 1048576 a) b ≤ 1048576 ∧ 0 ≤ szS (szS 1048576 a) b := by
  simp only [szS] at h ⊢
  repeat' split at h
  all_goals (repeat' split)
  all_goals omega
theorem optL_skip {s l e u : D} {k : Nat} (h : openP s l e u k = false) : optL s l e u (k + 1) = optL s l e u k := by simp [optL, h]
theorem optL_gt {s l e u : D} {k : Nat} (h : (optL s l e u k).1 < ((l.elem k).fld 3).toI) : optL s l e u (k + 1) = optL s l e u k := by simp [optL, h]
theorem optL_lt {s l e u : D} {k : Nat} (hp : openP s l e u k = true) (h : ((l.elem k).fld 3).toI < (optL s l e u k).1) : optL s l e u (k + 1) = (((l.elem k).fld 3).toI, [.lst [(l.elem k).fld 0]]) := by
  rw [optL, if_neg (by simp [hp]; omega), if_pos h]
theorem optL_eq {s l e u : D} {k : Nat} (hp : openP s l e u k = true) (h : ((l.elem k).fld 3).toI = (optL s l e u k).1) : optL s l e u (k + 1) = ((optL s l e u k).1, (optL s l e u k).2 ++ [.lst [(l.elem k).fld 0]]) := by
  rw [optL, if_neg (by simp [hp]; omega), if_neg (by omega)]
theorem spent_fld (e : D) (n : Int) : (spent e n).fld 19 = e.fld 19 := by
  simp only [spent]
  repeat' split
  all_goals rfl
@[simp] theorem withL_fld (d l : D) : (withL d l).fld 19 = l := rfl
def updT (a b : D) : D := if 0 ≤ effAt a (b.fld 0).toI then .lst (a.toL.set (effAt a (b.fld 0).toI).toNat b) else a
theorem smallE_upd {a b : D} (h : smallE a) (hb : ((b.fld 19).toL.length : Int) ≤ 1048576) : smallE (updT a b) := by
  simp only [updT]
  split
  · refine ⟨by simpa using h.1, fun i hi => ?_⟩
    have hi' : i < a.toL.length := by simpa using hi
    by_cases hj : (effAt a (b.fld 0).toI).toNat = i
    · rw [hj, elem_set hi']; exact hb
    · have : (D.lst (a.toL.set (effAt a (b.fld 0).toI).toNat b)).elem i = a.elem i := by simp [D.elem, List.getElem?_set_ne hj]
      rw [this]
      exact h.2 i hi'
  · exact h
theorem smallE_zero : smallE (.lst []) := ⟨by simp, fun i hi => by simp at hi⟩
theorem smallE_app {a b : D} (ha : smallE a) (hb : smallE b) (h : (a.toL.length : Int) + b.toL.length ≤ 1048576) : smallE (.lst (a.toL ++ b.toL)) := by
  refine ⟨by simpa using h, fun i hi => ?_⟩
  have hi' : i < a.toL.length + b.toL.length := by simpa using hi
  by_cases hlt : i < a.toL.length
  · have : (D.lst (a.toL ++ b.toL)).elem i = a.elem i := by simp [D.elem, List.getElem?_append_left hlt]
    rw [this]; exact ha.2 i hlt
  · have : (D.lst (a.toL ++ b.toL)).elem i = b.elem (i - a.toL.length) := by simp [D.elem, List.getElem?_append_right (Nat.le_of_not_lt hlt)]
    rw [this]; exact hb.2 _ (by omega)
/-- Every element is one of the other table's. -/
theorem smallE_sub {a b : D} (ha : smallE a) (hl : b.toL.length ≤ a.toL.length) (h : ∀ x ∈ b.toL, x ∈ a.toL) : smallE b := by
  refine ⟨by have := ha.1; omega, fun i hi => ?_⟩
  obtain ⟨j, hj, he⟩ := List.getElem_of_mem (h _ (elem_mem hi))
  have : a.elem j = b.elem i := by rw [← he]; simp [D.elem, hj]
  rw [← this]
  exact ha.2 j hj
theorem smallE_take {a : D} (h : smallE a) (k : Nat) : smallE (.lst (a.toL.take k)) := smallE_sub h (by simp; omega) fun x hx => List.mem_of_mem_take hx
theorem smallE_drop {a : D} (h : smallE a) (k : Nat) : smallE (.lst (a.toL.drop k)) := smallE_sub h (by simp) fun x hx => List.mem_of_mem_drop hx
theorem endE_range {n : Int} {d : D} (hn : 0 ≤ n ∧ n ≤ 1073741824) (h : smallE d) : 0 ≤ endE n d ∧ endE n d ≤ 100000000000000 := offE_range hn h (Nat.le_refl _)
theorem effAt_range (d : D) (n : Int) : -1 ≤ effAt d n ∧ effAt d n < d.toL.length := findR_range _ _
attribute [simp] endE_mark
def natText (n : Nat) : List UInt8 := if n < 10 then [UInt8.ofNat (48 + n)] else natText (n / 10) ++ [UInt8.ofNat (48 + n % 10)]
termination_by n
decreasing_by omega
theorem natText_lt {n : Nat} (h : n < 10) : natText n = [UInt8.ofNat (48 + n)] := by rw [natText, if_pos h]
theorem natText_ge {n : Nat} (h : 10 ≤ n) : natText n = natText (n / 10) ++ [UInt8.ofNat (48 + n % 10)] := by rw [natText, if_neg (by omega)]
theorem natText_len : ∀ (k n : Nat), n < 10 ^ (k + 1) → (natText n).length ≤ k + 1
  | 0, n, h => by rw [natText_lt (by simpa using h)]; simp
  | k + 1, n, h => by
    by_cases hn : n < 10
    · rw [natText_lt hn]; simp
    · have := natText_len k (n / 10) (by rw [Nat.div_lt_iff_lt_mul (by omega)]; rw [Nat.pow_succ] at h; exact h)
      rw [natText_ge (by omega)]
      simp
      omega
theorem natText_small {n : Nat} (h : n ≤ 9223372036854775808) : (natText n).length ≤ 20 := natText_len 19 n (by omega)
theorem natText_ne (n : Nat) : natText n ≠ [] := by
  rw [natText]; split <;> simp
def numL (n : Int) : List UInt8 := if n < 0 then 45 :: natText n.natAbs else natText n.natAbs
def txt (l : List UInt8) : D := .str ⟨⟨l⟩⟩
theorem numL_small {n : Int} (h : -9223372036854775808 ≤ n ∧ n ≤ 9223372036854775807) : (numL n).length ≤ 21 := by
  have := natText_small (n := n.natAbs) (by omega)
  simp only [numL]
  split
  · simp; omega
  · omega
@[simp] theorem bytes_append (a b : List UInt8) : (ByteArray.mk ⟨a⟩) ++ (ByteArray.mk ⟨b⟩) = ByteArray.mk ⟨a ++ b⟩ := by
  apply ByteArray.ext
  simp
@[simp] theorem bytes_size (a : List UInt8) : (ByteArray.mk ⟨a⟩).size = a.length := rfl
@[simp] theorem bytes_toList (a : List UInt8) : (ByteArray.mk ⟨a⟩).data.toList = a := rfl
theorem digit_u8 {d : Nat} (h : d < 10) : UInt8.ofNat (IntKind.u8.wrap (48 + (d : Int))).toNat = UInt8.ofNat (48 + d) := by
  have : IntKind.u8.wrap (48 + (d : Int)) = ((48 + d : Nat) : Int) := by rw [IntKind.wrap_u8]; omega
  rw [this]; rfl
theorem digit_chr {d : Nat} (h : d < 10) : Utf8.encode (48 + (d : Int)) = ⟨⟨[UInt8.ofNat (48 + d)]⟩⟩ := by
  match d, h with
  | 0, _ | 1, _ | 2, _ | 3, _ | 4, _ | 5, _ | 6, _ | 7, _ | 8, _ | 9, _ => rfl
theorem tmod10 (x : Int) : x.tmod 10 = if x < 0 then -((x.natAbs % 10 : Nat) : Int) else ((x.natAbs % 10 : Nat) : Int) := by
  split
  · obtain ⟨y, rfl⟩ : ∃ y, x = -y := ⟨-x, by omega⟩
    rw [Int.neg_tmod, Int.tmod_eq_emod_of_nonneg (by omega)]
    omega
  · rw [Int.tmod_eq_emod_of_nonneg (by omega)]
    omega
theorem tdiv10 (x : Int) : x.tdiv 10 = if x < 0 then -((x.natAbs / 10 : Nat) : Int) else ((x.natAbs / 10 : Nat) : Int) := by
  split
  · obtain ⟨y, rfl⟩ : ∃ y, x = -y := ⟨-x, by omega⟩
    rw [Int.neg_tdiv, Int.tdiv_eq_ediv_of_nonneg (by omega)]
    omega
  · rw [Int.tdiv_eq_ediv_of_nonneg (by omega)]
    omega
def actText (a : D) : List UInt8 :=
  if actOk a = false then [] else if (a.fld 0).toI = 1 then [115, 116, 111, 112] else if (a.fld 0).toI = 2 then [115, 104, 105, 101, 108, 100] else if (a.fld 0).toI = 3 then [109, 111, 114, 101, 32] ++ numL (a.fld 1).toI else if (a.fld 0).toI = 4 then [116, 119, 105, 99, 101] else if (a.fld 0).toI = 5 then [104, 97, 108, 102]
  else if (a.fld 0).toI = 6 then (if (a.fld 2).toI = 0 then [116, 117, 114, 110, 32, 115, 105, 100, 101, 32] ++ numL (a.fld 3).toI else [116, 117, 114, 110, 32, 112, 105, 101, 99, 101, 32] ++ numL (a.fld 2).toI) else if (a.fld 0).toI = 7 then [122, 111, 110, 101, 32] ++ numL (a.fld 4).toI
  else if (a.fld 0).toI = 8 then (if (a.fld 5).toB = true then [101, 110, 116, 101, 114, 32] ++ numL (a.fld 1).toI ++ [32, 98, 101, 110, 116] else [101, 110, 116, 101, 114, 32] ++ numL (a.fld 1).toI) else [112, 97, 114, 116, 115, 32] ++ numL (a.fld 6).toL.length
def eventText (e : D) : List UInt8 :=
  if eventOk e = false then []
  else if (e.fld 0).toI = 1 then (if (e.fld 2).toI = 0 then [104, 117, 114, 116, 32] ++ numL (e.fld 1).toI ++ (32 :: numL (e.fld 4).toI) ++ [32, 115, 105, 100, 101, 32] ++ numL (e.fld 3).toI else [104, 117, 114, 116, 32] ++ numL (e.fld 1).toI ++ (32 :: numL (e.fld 4).toI) ++ [32, 112, 105, 101, 99, 101, 32] ++ numL (e.fld 2).toI)
  else if (e.fld 0).toI = 2 then (if (e.fld 6).toB = true then [109, 111, 118, 101, 32] ++ numL (e.fld 2).toI ++ [32] ++ numL (e.fld 5).toI ++ (32 :: numL (e.fld 4).toI) ++ [32, 98, 101, 110, 116] else [109, 111, 118, 101, 32] ++ numL (e.fld 2).toI ++ [32] ++ numL (e.fld 5).toI ++ (32 :: numL (e.fld 4).toI))
  else if (e.fld 0).toI = 3 then [103, 97, 105, 110, 32] ++ numL (e.fld 3).toI ++ (32 :: numL (e.fld 4).toI) else if (e.fld 0).toI = 4 then [108, 111, 115, 101, 32] ++ numL (e.fld 3).toI ++ (32 :: numL (e.fld 4).toI)
  else if (e.fld 0).toI = 5 then [112, 117, 116, 32] ++ numL (e.fld 2).toI ++ (32 :: numL (e.fld 4).toI) else [99, 117, 116, 32] ++ numL (e.fld 2).toI ++ (32 :: numL (e.fld 4).toI)
theorem bits2_and255 (x : Int) : 0 ≤ bits2 .i64 (· &&& ·) x 255 ∧ bits2 .i64 (· &&& ·) x 255 ≤ 255 := by
  have h : (BitVec.ofInt (IntKind.bits .i64) x &&& BitVec.ofInt (IntKind.bits .i64) 255).toNat ≤ 255 := by
    rw [BitVec.toNat_and]
    refine Nat.le_trans Nat.and_le_right ?_
    decide
  simp only [bits2]
  rw [IntKind.wrap_i64]
  omega
theorem tmod_lt {m n : Int} (h0 : 0 ≤ m) (hn : 0 < n) : 0 ≤ m.tmod n ∧ m.tmod n < n := ⟨Int.tmod_nonneg n h0, Int.tmod_lt_of_pos m hn⟩
theorem mix3 {x y z : Int} (hx : 0 ≤ x) (hx2 : x ≤ 255) (hy : 0 ≤ y) (hy2 : y ≤ 255) (hz : 0 ≤ z) (hz2 : z ≤ 255) : IntKind.i64.wrap (IntKind.i64.wrap (IntKind.i64.wrap (x * 65536) + IntKind.i64.wrap (y * 256)) + z) = x * 65536 + y * 256 + z := by
  rw [IntKind.wrap_i64, IntKind.wrap_i64, IntKind.wrap_i64, IntKind.wrap_i64]
  omega
def oneOf (l : D) (m : Int) : Prop := m ∈ l.toL.map fun e => (e.fld 0).toI
def stateN (a b : Int) (s : D) : Prop := 1 ≤ (s.fld 0).toL.length ∧ ((s.fld 0).toL.length : Int) ≤ a ∧ 1 ≤ (s.fld 1).toL.length ∧ ((s.fld 1).toL.length : Int) ≤ b ∧ ∀ x ∈ (s.fld 0).toL, -1 ≤ (x.fld 2).toI
abbrev stateB (s : D) : Prop := stateN 64 64 s
def effB (e : D) : Prop := ((e.fld 19).toL.length : Int) ≤ 5
def tabN (n : Int) (l : D) : Prop := (l.toL.length : Int) ≤ n ∧ ∀ x ∈ l.toL, effB x
abbrev tabB (l : D) : Prop := tabN 7 l
theorem tabN_app {n m : Int} {l : List D} {x : D} (h : tabN n (.lst l)) (hx : effB x) (hm : n + 1 ≤ m) : tabN m (.lst (l ++ [x])) := by
  refine ⟨?_, fun y hy => ?_⟩
  · have := h.1; simp only [D.toL, List.length_append, List.length_singleton] at *; omega
  · rcases List.mem_append.1 hy with hy | hy
    · exact h.2 y hy
    · simp at hy; subst hy; exact hx
theorem tabN_set {n m : Int} {l : List D} {x : D} {i : Nat} (h : tabN n (.lst l)) (hx : effB x) (hm : n ≤ m) : tabN m (.lst (l.set i x)) := by
  refine ⟨?_, fun y hy => ?_⟩
  · have := h.1; simp only [D.toL, List.length_set] at *; omega
  · rcases List.mem_or_eq_of_mem_set hy with hy | rfl
    · exact h.2 y hy
    · exact hx
theorem tabN_le {n m : Int} {l : D} (h : tabN n l) (hm : n ≤ m) : tabN m l := ⟨Int.le_trans h.1 hm, h.2⟩
theorem tabN_toL {n : Int} {l : D} (h : tabN n l) : tabN n (.lst l.toL) := h
theorem tabB_small {l : D} (h : tabB l) : smallE l := ⟨by have := h.1; omega, fun i hi => by have := h.2 _ (elem_mem hi); simp only [effB] at this; omega⟩
theorem stateN_mk {u v : Int} {ps ss : List D} {a b : D} (h0 : 1 ≤ ps.length) (h1 : (ps.length : Int) ≤ u) (h2 : 1 ≤ ss.length) (h3 : (ss.length : Int) ≤ v) (h : ∀ x ∈ ps, -1 ≤ (x.fld 2).toI) : stateN u v (.lst [.lst ps, .lst ss, a, b]) := ⟨h0, h1, h2, h3, h⟩
theorem stateB_eta {u v : Int} {s x y : D} (h : stateN u v s) (hu : u ≤ 64) (hv : v ≤ 64) : stateB (.lst [s.fld 0, s.fld 1, x, y]) := by
  obtain ⟨h1, h2, h3, h4, h5⟩ := h
  exact ⟨h1, Int.le_trans h2 hu, h3, Int.le_trans h4 hv, h5⟩
theorem stateB_0 {u v : Int} {s t x y : D} (h : stateN u v s) (hv : v ≤ 64) (h0 : 1 ≤ t.toL.length) (h1 : (t.toL.length : Int) ≤ 64) (h2 : ∀ x ∈ t.toL, -1 ≤ (x.fld 2).toI) : stateB (.lst [t, s.fld 1, x, y]) := ⟨h0, h1, h.2.2.1, Int.le_trans h.2.2.2.1 hv, h2⟩
theorem stateB_1 {u v : Int} {s t x y : D} (h : stateN u v s) (hu : u ≤ 64) (h0 : 1 ≤ t.toL.length) (h1 : (t.toL.length : Int) ≤ 64) : stateB (.lst [s.fld 0, t, x, y]) := ⟨h.1, Int.le_trans h.2.1 hu, h0, h1, h.2.2.2.2⟩
theorem sides_app {ps : List D} {x : D} (h : ∀ x ∈ ps, -1 ≤ (x.fld 2).toI) (hx : -1 ≤ (x.fld 2).toI) : ∀ y ∈ ps ++ [x], -1 ≤ (y.fld 2).toI := fun y hy => by
  rcases List.mem_append.1 hy with hy | hy
  · exact h y hy
  · simp at hy; subst hy; exact hx
theorem sides_set {ps : List D} {x : D} {i : Nat} (h : ∀ x ∈ ps, -1 ≤ (x.fld 2).toI) (hx : -1 ≤ (x.fld 2).toI) : ∀ y ∈ ps.set i x, -1 ≤ (y.fld 2).toI := fun y hy => by
  rcases List.mem_or_eq_of_mem_set hy with hy | rfl
  · exact h y hy
  · exact hx
theorem okD_int {k : IntKind} {n : Int} : CK.okD (.int k) (.int n) ↔ inK k n = true := by simp [CK.okD]
theorem okD_bool {b : Bool} : CK.okD .bool (.bool b) ↔ True := by simp [CK.okD]
theorem tabN_app3 {n m : Int} {l : List D} {x y z : D} (h : tabN n (.lst l)) (hx : effB x) (hy : effB y) (hz : effB z) (hm : n + 3 ≤ m) : tabN m (.lst (l ++ [x, y, z])) := by
  have := tabN_app (m := m) (tabN_app (m := n + 2) (tabN_app (m := n + 1) h hx (by omega)) hy (by omega)) hz (by omega)
  simpa using this
theorem upto_range (n : Int) : 0 ≤ upto n 2147483647 ∧ upto n 2147483647 ≤ 2147483647 := by
  simp only [upto]; split <;> (try split) <;> omega
theorem upto_rangeB (n b : Int) (h : 0 ≤ b) : 0 ≤ upto n b ∧ upto n b ≤ b := by
  simp only [upto]; grind
theorem actOk_more {a : D} (h : (a.fld 0).toI = 3) (h2 : actOk a = true) : 1 ≤ (a.fld 1).toI ∧ (a.fld 1).toI ≤ 2147483647 := by
  simp [actOk, h, inR] at h2; omega
theorem bound_id {u : Int} (h : -2147483647 ≤ u) (h2 : u ≤ 2147483647) : bound u = u := by
  simp only [bound]; rw [if_neg (by omega), if_neg (by omega)]
theorem bound_up {u : Int} (h : -2147483647 ≤ u) : bound u = if u > 2147483647 then 2147483647 else u := by
  simp only [bound]; split
  · rfl
  · rw [if_neg (by omega)]
theorem amount_plus {a : D} {n : Int} (h : (a.fld 0).toI = 3) (h2 : actOk a = true) : amount a n = (if upto n 2147483647 + (a.fld 1).toI > 2147483647 then 2147483647 else upto n 2147483647 + (a.fld 1).toI) := by
  have h3 := actOk_more h h2
  have h4 := upto_range n
  simp [amount, h, plus]
  generalize upto n 2147483647 = u at *
  have hw : IntKind.i64.wrap (u + (a.fld 1).toI) = u + (a.fld 1).toI := by simp only [IntKind.wrap_i64]; omega
  rw [bound_id (u := u) (by omega) (by omega), bound_id (u := (a.fld 1).toI) (by omega) (by omega), hw, bound_up (by omega)]
theorem amount_twice {a : D} {n : Int} (h : (a.fld 0).toI = 4) : amount a n = (if 2 * upto n 2147483647 > 2147483647 then 2147483647 else 2 * upto n 2147483647) := by
  have h4 := upto_range n
  simp [amount, h, twice]
  generalize upto n 2147483647 = u at *
  have hw : IntKind.i64.wrap (2 * u) = 2 * u := by simp only [IntKind.wrap_i64]; omega
  rw [bound_id (u := u) (by omega) (by omega), hw, bound_up (by omega)]
theorem amount_half {a : D} {n : Int} (h : (a.fld 0).toI = 5) : amount a n = upto n 2147483647 / 2 := by
  have h4 := upto_range n
  simp [amount, h, half]
  generalize upto n 2147483647 = u at *
  rw [bound_id (u := u) (by omega) (by omega), Int.tdiv_eq_ediv_of_nonneg (by omega)]
  simp only [IntKind.wrap_i64]; omega
theorem amount_range {a : D} (n : Int) (h : actOk a = true) : 0 ≤ amount a n ∧ amount a n ≤ 2147483647 := by
  have h4 := upto_range n
  by_cases h1 : (a.fld 0).toI = 3
  · have h3 := actOk_more h1 h
    rw [amount_plus h1 h]; split <;> omega
  by_cases h1 : (a.fld 0).toI = 4
  · rw [amount_twice h1]; split <;> omega
  by_cases h1 : (a.fld 0).toI = 5
  · rw [amount_half h1]; omega
  simp only [amount]
  grind
theorem amount_up {a : D} (n : Int) : ((¬(a.fld 0).toI = 3 ∨ actOk a = false) ∨ upto n 2147483647 < amount a n) ∨ upto n 2147483647 = 2147483647 ∧ amount a n = upto n 2147483647 := by
  by_cases h1 : (a.fld 0).toI = 3
  · by_cases h2 : actOk a = true
    · have h3 := actOk_more h1 h2
      have h4 := upto_range n
      rw [amount_plus h1 h2]; split <;> omega
    · simp at h2; simp [h2]
  · simp [h1]
theorem amount_th {a b : D} (n : Int) (ha : (a.fld 0).toI = 4) (hb : (b.fld 0).toI = 5) : amount a n = 2147483647 ∨ amount b (amount a n) = upto n 2147483647 := by
  have h4 := upto_range n
  rw [amount_half hb, amount_twice ha]
  generalize upto n 2147483647 = u at *
  split
  · simp
  · right; simp only [upto]; rw [if_neg (by omega), if_neg (by omega)] <;> (try split) <;> omega
theorem bits2_and6 {a b : Int} (h0 : 0 ≤ a) (h1 : a ≤ 63) (h2 : 0 ≤ b) (h3 : b ≤ 63) : bits2 .i64 (· &&& ·) a b = ((a.toNat &&& b.toNat : Nat) : Int) := by
  obtain ⟨x, rfl⟩ := Int.eq_ofNat_of_zero_le h0
  obtain ⟨y, rfl⟩ := Int.eq_ofNat_of_zero_le h2
  have hx : x < 64 := by omega
  have hy : y < 64 := by omega
  have h : ∀ x : Fin 64, ∀ y : Fin 64, bits2 .i64 (· &&& ·) (x.val : Int) (y.val : Int) = (((x.val : Int).toNat &&& (y.val : Int).toNat : Nat) : Int) := by decide +kernel
  exact h ⟨x, hx⟩ ⟨y, hy⟩
theorem patOk_traits {p : D} (h : patOk p = true) : 0 ≤ (p.fld 3).toI ∧ (p.fld 3).toI ≤ 63 := by
  simp [patOk, inR] at h; omega
theorem bits2_zero {a : Int} (h0 : 0 ≤ a) (h1 : a ≤ 63) : bits2 .i64 (· &&& ·) a 0 = 0 := by
  rw [bits2_and6 h0 h1 (by omega) (by omega)]; simp
theorem narrower_self (p : D) : narrower p p = patOk p := by
  simp only [narrower, demands]
  cases h : patOk p
  · rfl
  · have ht := patOk_traits h
    rw [bits2_and6 ht.1 ht.2 ht.1 ht.2]
    simp
    omega
theorem narrower_ok {p q : D} (h : narrower p q = true) : patOk p = true ∧ patOk q = true := by
  simp [narrower] at h; simp [h]
def wide (q : D) : D := .lst [q.fld 0, .int 0, q.fld 2, .int 0, q.fld 4, .int 0, q.fld 6]
theorem wide_ok {q : D} (h : patOk q = true) : patOk (wide q) = true := by
  simp [patOk, inR, wide] at *
  omega
theorem narrower_wide {p q : D} (h : narrower p q = true) : narrower p (wide q) = true ∧ narrower q (wide q) = true := by
  obtain ⟨hp, hq⟩ := narrower_ok h
  have hw := wide_ok hq
  have tp := patOk_traits hp
  have tq := patOk_traits hq
  have b1 := bits2_zero tp.1 tp.2
  have b2 := bits2_zero tq.1 tq.2
  have l1 : 0 ≤ (p.fld 5).toI := by simp [patOk, inR] at hp; omega
  have l2 : 0 ≤ (q.fld 5).toI := by simp [patOk, inR] at hq; omega
  simp only [narrower, hp, hq, hw] at *
  simp [wide, demands] at *
  simp_all
theorem narrower_anti {p q : D} (h : narrower p q = true) (h2 : narrower q p = true) : (p.fld 0).toI = (q.fld 0).toI ∧ (p.fld 1).toI = (q.fld 1).toI ∧ (p.fld 2).toI = (q.fld 2).toI ∧ (p.fld 3).toI = (q.fld 3).toI ∧ (p.fld 4).toI = (q.fld 4).toI ∧ (p.fld 5).toI = (q.fld 5).toI ∧ (p.fld 6).toI = (q.fld 6).toI := by
  obtain ⟨hp, hq⟩ := narrower_ok h
  have tp := patOk_traits hp
  have tq := patOk_traits hq
  simp only [narrower, demands, hp, hq, bits2_and6 tp.1 tp.2 tq.1 tq.2, bits2_and6 tq.1 tq.2 tp.1 tp.2] at h h2
  rw [Nat.and_comm] at h2
  simp at h h2
  omega
theorem narrower_wide' (p q : D) : narrower p q = false ∨ narrower p (wide q) = true ∧ narrower q (wide q) = true := by
  cases h : narrower p q
  · simp
  · right; exact narrower_wide h
theorem narrower_anti' (p q : D) : (narrower p q = false ∨ narrower q p = false) ∨ (p.fld 0).toI = (q.fld 0).toI ∧ (p.fld 1).toI = (q.fld 1).toI ∧ (p.fld 2).toI = (q.fld 2).toI ∧ (p.fld 3).toI = (q.fld 3).toI ∧ (p.fld 4).toI = (q.fld 4).toI ∧ (p.fld 5).toI = (q.fld 5).toI ∧ (p.fld 6).toI = (q.fld 6).toI := by
  cases h : narrower p q <;> cases h2 : narrower q p <;> simp
  exact narrower_anti h h2
theorem spent_fld2 (e : D) (n : Int) (i : Nat) (h : i < 21) : (spent e n).fld i = e.fld i := by
  have h' : i = 0 ∨ i = 1 ∨ i = 2 ∨ i = 3 ∨ i = 4 ∨ i = 5 ∨ i = 6 ∨ i = 7 ∨ i = 8 ∨ i = 9 ∨ i = 10 ∨ i = 11 ∨ i = 12 ∨ i = 13 ∨ i = 14 ∨ i = 15 ∨ i = 16 ∨ i = 17 ∨ i = 18 ∨ i = 19 ∨ i = 20 := by omega
  rcases h' with rfl | rfl | rfl | rfl | rfl | rfl | rfl | rfl | rfl | rfl | rfl | rfl | rfl | rfl | rfl | rfl | rfl | rfl | rfl | rfl | rfl <;> (simp only [spent]; repeat' split) <;> rfl
theorem sameEv_refl (a : D) : sameEv a a = true := by simp [sameEv]
theorem sameEvs_refl (a : D) : sameEvs a a = true := by
  simp only [sameEvs, decide_true, Bool.true_and]
  exact allR_true fun j _ => sameEv_refl _
theorem sameEffect_refl (a : D) : sameEffect a a = true := by
  simp [sameEffect, sameEvs_refl]
def left' (e : D) (n : Int) : Int := if (e.fld 13).toI = 2 then upto (less (e.fld 21).toI n) 2147483647 else if (e.fld 21).toI > 0 then IntKind.i64.wrap ((e.fld 21).toI - 1) else (e.fld 21).toI
theorem spent_left (e : D) (n : Int) : ((spent e n).fld 21).toI = left' e n := by
  simp only [spent, left']
  repeat' split
  all_goals rfl
theorem effectOk_left {e : D} (h : effectOk e = true) : -1 ≤ (e.fld 21).toI ∧ (e.fld 21).toI ≤ 2147483647 ∧ ((e.fld 13).toI = 2 → 0 ≤ (e.fld 21).toI) := by
  simp [effectOk, inR] at h
  omega
theorem less_in {a n : Int} (h0 : 0 ≤ a) (h1 : a ≤ 2147483647) (h2 : 0 ≤ n) (h3 : n ≤ 2147483647) : less a n = a - n := by
  simp only [less]
  rw [bound_id (u := a) (by omega) (by omega), bound_id (u := n) (by omega) (by omega)]
  have hw : IntKind.i64.wrap (a - n) = a - n := by simp only [IntKind.wrap_i64]; omega
  rw [hw, bound_id (by omega) (by omega)]
theorem left_ok {e : D} {n : Int} (h : effectOk e = true) (h2 : 0 ≤ n) (h3 : n ≤ 2147483647) : -1 ≤ left' e n ∧ left' e n ≤ 2147483647 ∧ ((e.fld 13).toI = 2 → 0 ≤ left' e n) ∧ left' e n ≤ (e.fld 21).toI := by
  obtain ⟨g1, g2, g3⟩ := effectOk_left h
  simp only [left']
  split
  · next hk =>
    have g3 := g3 hk
    rw [less_in g3 g2 h2 h3]
    have := upto_range ((e.fld 21).toI - n)
    refine ⟨by omega, by omega, fun _ => by omega, ?_⟩
    simp only [upto]; grind
  · next hk =>
    split
    · have hw : IntKind.i64.wrap ((e.fld 21).toI - 1) = (e.fld 21).toI - 1 := by simp only [IntKind.wrap_i64]; omega
      rw [hw]; exact ⟨by omega, by omega, fun h => absurd h hk, by omega⟩
    · exact ⟨g1, g2, g3, by omega⟩
theorem effectOk_spent {e : D} {n : Int} (h : effectOk e = true) (h2 : 0 ≤ n) (h3 : n ≤ 2147483647) : effectOk (.lst [e.fld 0, e.fld 1, e.fld 2, e.fld 3, e.fld 4, e.fld 5, e.fld 6, e.fld 7, e.fld 8, e.fld 9, e.fld 10, e.fld 11, e.fld 12, e.fld 13, e.fld 14, e.fld 15, e.fld 16, e.fld 17, e.fld 18, e.fld 19, e.fld 20, (spent e n).fld 21]) = true := by
  obtain ⟨g1, g2, g3, g4⟩ := left_ok h h2 h3
  rw [← spent_left e n] at g1 g2 g3
  have k : ∀ x : D, effectOk (.lst [e.fld 0, e.fld 1, e.fld 2, e.fld 3, e.fld 4, e.fld 5, e.fld 6, e.fld 7, e.fld 8, e.fld 9, e.fld 10, e.fld 11, e.fld 12, e.fld 13, e.fld 14, e.fld 15, e.fld 16, e.fld 17, e.fld 18, e.fld 19, e.fld 20, x]) =
    (inR (e.fld 0).toI 1 99 && inR (e.fld 1).toI 0 2 && inR (e.fld 2).toI 0 99 && inR (e.fld 3).toI 0 4 && inR (e.fld 20).toI (-1) 9999 && inR x.toI (-1) 2147483647 &&
  !((e.fld 3).toI == 0 && (e.fld 2).toI == 0 || (e.fld 13).toI == 2 && decide (x.toI < 0)) && patOk (patOf e) && guardOk (grdOf e) && actOk (actOf e) && actFits (actOf e) (e.fld 4).toI) := fun _ => rfl
  rw [k]
  have h' := h
  simp only [effectOk, Bool.and_eq_true] at h' ⊢
  obtain ⟨⟨⟨⟨⟨⟨⟨⟨⟨⟨a1, a2⟩, a3⟩, a4⟩, a5⟩, a6⟩, a7⟩, a8⟩, a9⟩, a10⟩, a11⟩ := h'
  refine ⟨⟨⟨⟨⟨⟨⟨⟨⟨⟨a1, a2⟩, a3⟩, a4⟩, a5⟩, ?_⟩, ?_⟩, a8⟩, a9⟩, a10⟩, a11⟩
  · simp [inR]; omega
  · simp at a7 ⊢; omega
theorem spent_step (e : D) (n : Int) : ((e.fld 13).toI = 2 ∨ ((spent e n).fld 21).toI = (e.fld 21).toI) ∨ ((spent e n).fld 21).toI = IntKind.i64.wrap ((e.fld 21).toI - 1) := by
  rw [spent_left]; simp only [left']
  split
  · simp_all
  · split <;> simp
theorem spent_shield {e : D} {n : Int} (h : effectOk e = true) (h2 : 0 ≤ n) (h3 : n ≤ 2147483647) : ¬(e.fld 13).toI = 2 ∨ ((spent e n).fld 21).toI = upto (IntKind.i64.wrap ((e.fld 21).toI - n)) (e.fld 21).toI := by
  by_cases hk : (e.fld 13).toI = 2
  · right
    obtain ⟨g1, g2, g3⟩ := effectOk_left h
    have g3 := g3 hk
    have hw : IntKind.i64.wrap ((e.fld 21).toI - n) = (e.fld 21).toI - n := by simp only [IntKind.wrap_i64]; omega
    rw [spent_left, hw]; simp only [left', if_pos hk]
    rw [less_in g3 g2 h2 h3]
    simp only [upto]; grind
  · exact .inl hk
theorem spent_same (e : D) : sameEffect (.lst [e.fld 0, e.fld 1, e.fld 2, e.fld 3, e.fld 4, e.fld 5, e.fld 6, e.fld 7, e.fld 8, e.fld 9, e.fld 10, e.fld 11, e.fld 12, e.fld 13, e.fld 14, e.fld 15, e.fld 16, e.fld 17, e.fld 18, e.fld 19, e.fld 20, e.fld 21]) e = true := sameEffect_refl e
theorem stronger_self (a : D) : stronger a a = guardOk a := by
  simp [stronger]
theorem holds_stronger {s a b : D} {n : Int} (h : stronger a b = true) (h2 : holds s n a = true) : holds s n b = true := by
  simp [stronger] at h
  obtain ⟨⟨ha, hb⟩, h⟩ := h
  simp [holds, ha, hb] at h2 ⊢
  refine ⟨h2.1, ?_⟩
  have h2 := h2.2
  rcases h with h | ⟨he, h⟩
  · simp [h]
  · rw [he] at h2 h
    by_cases c1 : (b.fld 0).toI = 1
    · simp [c1] at h h2 ⊢; omega
    · by_cases c2 : (b.fld 0).toI = 2
      · simp [c2] at h h2 ⊢; omega
      · by_cases c3 : (b.fld 0).toI = 3
        · simp [c3] at h h2 ⊢; omega
        · by_cases c4 : (b.fld 0).toI = 4
          · simp [c4] at h h2 ⊢; omega
          · simp [c1, c2, c3, c4]
theorem countR_mono {p q : Nat → Bool} (h : ∀ i, p i = true → q i = true) : ∀ n, countR p n ≤ countR q n
  | 0 => Nat.le_refl _
  | n + 1 => by
    rw [countR_succ, countR_succ]
    have := countR_mono h n
    have := h n
    cases hp : p n <;> cases hq : q n <;> simp_all <;> omega
theorem bent_field {s : D} {n : Int} : bentOf s n ≤ (onField s n (s.fld 0).toL.length).length := by
  rw [onField_length, bentOf]
  exact Int.ofNat_le.2 (countR_mono (fun i h => by simp [bentP] at h; simp [onFieldP, h]) _)
def sameI (a b : D) : Bool := (a.fld 0).toI == (b.fld 0).toI
def sameInts (a b : D) : Bool := decide (a.toL.length = b.toL.length) && allR (fun i => sameI (a.elem i) (b.elem i)) a.toL.length
theorem sameInts_refl (a : D) : sameInts a a = true := by
  simp only [sameInts, decide_true, Bool.true_and]
  exact allR_true fun j _ => by simp [sameI]
theorem bits2_low {t p : Int} (h0 : 0 ≤ p) (h1 : p ≤ 63) : bits2 .i64 (· &&& ·) t p = ((BitVec.ofInt 64 t &&& BitVec.ofInt 64 p).toNat : Int) := by
  have h : (BitVec.ofInt 64 t &&& BitVec.ofInt 64 p).toNat ≤ 63 := by
    rw [BitVec.toNat_and]
    refine Nat.le_trans Nat.and_le_right ?_
    rw [BitVec.toNat_ofInt]
    omega
  show IntKind.i64.wrap ((BitVec.ofInt 64 t &&& BitVec.ofInt 64 p).toNat : Int) = _
  rw [IntKind.wrap_i64]
  omega
theorem bits2_sub {t p : Int} (h0 : 0 ≤ p) (h1 : p ≤ 63) : bits2 .i64 (· &&& ·) t p = p ↔ BitVec.ofInt 64 t &&& BitVec.ofInt 64 p = BitVec.ofInt 64 p := by
  have hp : (BitVec.ofInt 64 p).toNat = p.toNat := by
    rw [BitVec.toNat_ofInt]
    omega
  rw [bits2_low h0 h1]
  constructor
  · intro h
    apply BitVec.eq_of_toNat_eq
    omega
  · intro h
    rw [h]
    omega
theorem bits2_trans {t p q : Int} (hp : 0 ≤ p ∧ p ≤ 63) (hq : 0 ≤ q ∧ q ≤ 63) (h1 : bits2 .i64 (· &&& ·) t p = p) (h2 : bits2 .i64 (· &&& ·) p q = q) : bits2 .i64 (· &&& ·) t q = q := by
  rw [bits2_sub hp.1 hp.2] at h1
  rw [bits2_sub hq.1 hq.2] at h2 ⊢
  rw [← h2, ← BitVec.and_assoc, h1]
theorem patFits_wide {s p q e : D} {n : Int} (h : narrower p q = true) (h2 : patFits s n p e = true) : patFits s n q e = true := by
  obtain ⟨hp, hq⟩ := narrower_ok h
  have tp := patOk_traits hp
  have tq := patOk_traits hq
  simp only [narrower, demands, hp, hq, Bool.true_and, Bool.and_eq_true, Bool.or_eq_true, beq_iff_eq, decide_eq_true_eq] at h
  simp only [patFits, targetFits, sourceFits, hp, hq, Bool.true_and, Bool.and_eq_true, Bool.or_eq_true, beq_iff_eq, decide_eq_true_eq, Bool.not_eq_true', Bool.or_eq_false_iff, Bool.and_eq_false_iff, beq_eq_false_iff_ne, bne_eq_false_iff_eq] at h2 ⊢
  obtain ⟨⟨⟨⟨⟨⟨a1, a2⟩, a3⟩, a4⟩, a5⟩, a6⟩, a7⟩ := h
  obtain ⟨⟨⟨⟨⟨b1, b2⟩, b3⟩, b4⟩, b5⟩, b6⟩ := h2
  have b42 := bits2_trans tp tq b4.2 a6
  refine ⟨⟨⟨⟨⟨b1, by omega⟩, ?_⟩, ?_, b42⟩, by omega⟩, by omega⟩
  · obtain ⟨⟨⟨c1, c2⟩, c3⟩, c4⟩ := b3
    refine ⟨⟨⟨c1, ?_⟩, ?_⟩, by omega⟩
    · rcases c2 with c2 | c2
      · by_cases hz : (q.fld 1).toI = 1
        · left; omega
        · exact .inl hz
      · exact .inr c2
    · rcases c3 with c3 | c3
      · by_cases hz : (q.fld 1).toI = 2
        · left; omega
        · exact .inl hz
      · exact .inr c3
  · rcases a3 with a3 | a3
    · exact .inl a3
    · rw [← a3]; exact b4.1
theorem patFits_event {s p e : D} {n : Int} (h : patFits s n p e = true) : (p.fld 0).toI = (e.fld 0).toI ∧ (p.fld 5).toI ≤ (e.fld 4).toI ∧ target s e ≠ -1 := by
  simp [patFits, targetFits] at h
  omega
theorem target_least {s e : D} (h : ∀ x ∈ (s.fld 0).toL, -1 ≤ (x.fld 2).toI) : -1 ≤ target s e := by
  have hr := pieceAt_range s (e.fld 2).toI
  simp only [target, inR]
  repeat' split
  all_goals simp at *
  · omega
  · exact h _ (elem_mem (by omega))
theorem target_none {s e : D} (h : ∀ x ∈ (s.fld 0).toL, 0 ≤ (x.fld 2).toI) : target s e ≠ -1 ∨ (e.fld 2).toI = 0 ∨ pieceAt s (e.fld 2).toI < 0 := by
  have hr := pieceAt_range s (e.fld 2).toI
  by_cases h0 : (e.fld 2).toI = 0
  · exact .inr (.inl h0)
  by_cases h1 : pieceAt s (e.fld 2).toI < 0
  · exact .inr (.inr h1)
  left
  simp only [target, if_neg h0, if_neg h1]
  have := h _ (elem_mem (d := s.fld 0) (i := (pieceAt s (e.fld 2).toI).toNat) (by omega))
  omega
theorem eventText_ne (e : D) : (eventText e == []) = !eventOk e := by
  simp only [eventText]
  cases h : eventOk e
  · simp
  · simp
    repeat' split
    all_goals simp
theorem actText_ne (a : D) : (actText a == []) = !actOk a := by
  simp only [actText]
  cases h : actOk a
  · simp
  · simp
    repeat' split
    all_goals simp
theorem allR_iff' {p : Nat → Bool} {n : Nat} : allR p n = true ↔ ∀ j, j < n → p j = true := by simp only [allR, List.all_eq_true, List.mem_range]
theorem partE_ok {a v : D} {i : Nat} (ha : actOk a = true) (h9 : (a.fld 0).toI = 9) (hv : eventOk v = true) (hi : i < (a.fld 6).toL.length) : eventOk (partE a v i) = true := by
  have hu := upto_range (v.fld 4).toI
  simp [actOk, h9] at ha
  have hp := allR_iff'.1 ha.2 i hi
  simp only [partE]
  generalize (a.fld 6).elem i = x at *
  split
  · next hn =>
    by_cases hk : (x.fld 0).toI = 2
    · simp only [partOk, hn, hk, true_and, ne_eq, not_true_eq_false, if_false] at hp
      simp [eventOk, hn, inR] at hp
    · simp only [partOk, hn, hk, true_and, ne_eq, not_false_eq_true, if_true] at hp
      generalize upto (v.fld 4).toI 2147483647 = u at *
      simp only [eventOk, ev0, onPiece, onPlayer, fld_zero, fld_succ, toI_int, toB_bool, hk, if_false] at hp ⊢
      rw [Bool.and_eq_true] at hp ⊢
      exact ⟨by simp [inR]; omega, hp.2⟩
  · next hn =>
    simpa [partOk, hn] using hp

theorem elem_get {d : D} {i : Nat} (h : i < d.toL.length) : d.elem i = d.toL[i] := by simp [D.elem, h]
theorem tableOk_iff {d : D} : tableOk d = true ↔ d.toL.length ≤ 5 ∧ (∀ x ∈ d.toL, effectOk x = true) ∧ d.toL.Pairwise (fun x y => (x.fld 0).toI < (y.fld 0).toI) := by
  simp only [tableOk, Bool.and_eq_true, decide_eq_true_eq, allR_iff']
  refine and_congr_right fun _ => ?_
  constructor
  · intro h
    refine ⟨fun x hx => ?_, ?_⟩
    · obtain ⟨i, hi, rfl⟩ := List.getElem_of_mem hx
      have := h i hi
      simp only [rowOk, Bool.and_eq_true] at this
      rw [← elem_get hi]
      exact this.1
    · rw [List.pairwise_iff_getElem]
      have hs : ∀ i, i + 1 < d.toL.length → ((d.elem i).fld 0).toI < ((d.elem (i + 1)).fld 0).toI := by
        intro i hi
        have := h (i + 1) hi
        simp [rowOk] at this
        omega
      have hm : ∀ k i, i + k + 1 < d.toL.length → ((d.elem i).fld 0).toI < ((d.elem (i + k + 1)).fld 0).toI := by
        intro k
        induction k with
        | zero => intro i hi; exact hs i hi
        | succ k ih =>
          intro i hi
          have h1 := ih i (by omega)
          have h2 := hs (i + k + 1) hi
          exact Int.lt_trans h1 h2
      intro i j hi hj hij
      rw [← elem_get hi, ← elem_get hj]
      have := hm (j - i - 1) i (by omega)
      rwa [show i + (j - i - 1) + 1 = j by omega] at this
  · rintro ⟨h1, h2⟩ i hi
    simp only [rowOk, Bool.and_eq_true, h1 _ (elem_mem hi), true_and, Bool.not_eq_true', Bool.and_eq_false_iff, decide_eq_false_iff_not]
    by_cases h0 : i = 0
    · left; omega
    · right
      rw [List.pairwise_iff_getElem] at h2
      have := h2 (i - 1) i (by omega) hi (by omega)
      rw [elem_get hi, elem_get (show i - 1 < d.toL.length by omega)]
      omega
def expire (d : D) (n : Int) : D := .lst (d.toL.filter fun e => lives e n)
theorem expire_le (d : D) (n : Int) : (expire d n).toL.length ≤ d.toL.length := List.length_filter_le _ _
theorem expire_lives {d : D} {n : Int} {i : Nat} (h : i < (expire d n).toL.length) : lives ((expire d n).elem i) n = true := by
  have := elem_mem h
  simp only [expire, D.toL, List.mem_filter] at this
  exact this.2
theorem expire_twice (d : D) (n : Int) : expire (expire d n) n = expire d n := by simp [expire, D.toL]
theorem expire_ok {d : D} {n : Int} (h : tableOk d = true) : tableOk (expire d n) = true := by
  rw [tableOk_iff] at h ⊢
  refine ⟨Nat.le_trans (expire_le d n) h.1, fun x hx => h.2.1 x ?_, ?_⟩
  · simp only [expire, D.toL, List.mem_filter] at hx; exact hx.1
  · exact h.2.2.sublist List.filter_sublist
theorem expire_small {d : D} {n : Int} (h : smallE d) : smallE (expire d n) := smallE_sub h (expire_le d n) fun x hx => by
  simp only [expire, D.toL, List.mem_filter] at hx; exact hx.1
theorem sameTable_refl (a : D) : sameTable a a = true := by
  simp only [sameTable, decide_true, Bool.true_and]
  exact allR_true fun j _ => sameEffect_refl _
theorem updT_length (a b : D) : (updT a b).toL.length = a.toL.length := by
  simp only [updT]; split <;> simp
theorem updT_at {a b : D} (h : 0 ≤ effAt a (b.fld 0).toI) : (updT a b).elem (effAt a (b.fld 0).toI).toNat = b := by
  have := effAt_range a (b.fld 0).toI
  simp only [updT, if_pos h]
  exact elem_set (by omega)
/-- Where an element of such a number goes. -/
def insAt (d : D) (n : Int) : Nat := (d.toL.takeWhile fun x => decide ((x.fld 0).toI < n)).length
theorem insAt_le (d : D) (n : Int) : insAt d n ≤ d.toL.length := (List.takeWhile_sublist _).length_le
def insT (d e : D) : D := .lst (d.toL.take (insAt d (e.fld 0).toI) ++ e :: d.toL.drop (insAt d (e.fld 0).toI))
def insOk (d e : D) : Bool := decide (effAt d (e.fld 0).toI < 0) && tableOk (insT d e)
def dropT (d : D) (n : Int) : D := if 0 ≤ effAt d n then .lst (d.toL.take (effAt d n).toNat ++ d.toL.drop ((effAt d n).toNat + 1)) else d
theorem insT_length (d e : D) : (insT d e).toL.length = d.toL.length + 1 := by
  have := insAt_le d (e.fld 0).toI
  simp only [insT, D.toL, List.length_append, List.length_cons, List.length_take, List.length_drop]
  omega
theorem findR_neg {p : Nat → Bool} {n : Nat} (h : findR p n < 0) : ∀ j, j < n → p j = false := by
  intro j hj
  simp only [findR] at h
  split at h
  · omega
  · rename_i hn
    simp only [List.find?_eq_none, List.mem_range] at hn
    simpa using hn j hj
theorem findR_pos {p : Nat → Bool} {n : Nat} (h : 0 ≤ findR p n) : ∃ i : Nat, findR p n = (i : Int) ∧ i < n ∧ p i = true ∧ ∀ j, j < i → p j = false := by
  simp only [findR] at h ⊢
  split at h
  · rename_i i hi
    rw [List.find?_eq_some_iff_getElem] at hi
    obtain ⟨hp, k, hk, he, hb⟩ := hi
    simp only [List.getElem_range] at he hb
    subst he
    simp only [List.length_range] at hk
    refine ⟨k, rfl, hk, hp, fun j hj => by simpa using hb j hj⟩
  · omega
theorem effAt_none {d : D} {n : Int} (h : effAt d n < 0) : ∀ x ∈ d.toL, (x.fld 0).toI ≠ n := by
  intro x hx
  obtain ⟨i, hi, rfl⟩ := List.getElem_of_mem hx
  have := findR_neg h i hi
  rw [elem_get hi] at this
  simpa using this
theorem insT_elem (d e : D) : (insT d e).elem (insAt d (e.fld 0).toI) = e := by
  have := insAt_le d (e.fld 0).toI
  have hl : (d.toL.take (insAt d (e.fld 0).toI)).length = insAt d (e.fld 0).toI := by simp; omega
  show ((d.toL.take (insAt d (e.fld 0).toI) ++ e :: d.toL.drop (insAt d (e.fld 0).toI)).getD (insAt d (e.fld 0).toI) default) = e
  rw [List.getD_eq_getElem?_getD, List.getElem?_append_right (by omega), hl]
  simp
theorem insT_before {d e : D} {i : Nat} (h : i < insAt d (e.fld 0).toI) : (insT d e).elem i = d.elem i := by
  have := insAt_le d (e.fld 0).toI
  show ((d.toL.take (insAt d (e.fld 0).toI) ++ e :: d.toL.drop (insAt d (e.fld 0).toI)).getD i default) = d.toL.getD i default
  rw [List.getD_eq_getElem?_getD, List.getElem?_append_left (by simp; omega), List.getElem?_take, if_pos h]
  simp
theorem effAt_ins {d e : D} (h : effAt d (e.fld 0).toI < 0) : effAt (insT d e) (e.fld 0).toI = insAt d (e.fld 0).toI := by
  have := insAt_le d (e.fld 0).toI
  refine findR_some (by rw [insT_length]; omega) (by rw [insT_elem]; simp) fun j hj => ?_
  rw [insT_before hj]
  have := effAt_none h _ (elem_mem (show j < d.toL.length by omega))
  simpa using this
theorem drop_ins {d e : D} (h : effAt d (e.fld 0).toI < 0) : dropT (insT d e) (e.fld 0).toI = .lst d.toL := by
  have hl := insAt_le d (e.fld 0).toI
  simp only [dropT, effAt_ins h]
  rw [if_pos (by omega)]
  congr 1
  have hl : (d.toL.take (insAt d (e.fld 0).toI)).length = insAt d (e.fld 0).toI := by simp; omega
  have h2 : (insT d e).toL = d.toL.take (insAt d (e.fld 0).toI) ++ e :: d.toL.drop (insAt d (e.fld 0).toI) := rfl
  rw [h2, Int.toNat_natCast]
  have h3 := List.take_append_drop (insAt d (e.fld 0).toI) d.toL
  generalize List.take (insAt d (e.fld 0).toI) d.toL = xs at *
  generalize List.drop (insAt d (e.fld 0).toI) d.toL = ys at *
  rw [← hl, ← h3, List.take_append_of_le_length (Nat.le_refl _), List.take_length, List.drop_append, List.drop_eq_nil_of_le (by omega), show xs.length + 1 - xs.length = 1 by omega]
  rfl
/-- What the options are, of the first 'k' effects. -/
structure OptS (s l e u : D) (k : Nat) : Prop where
  mem : ∀ x ∈ (optL s l e u k).2, ∃ i, i < k ∧ openP s l e u i = true ∧ ((l.elem i).fld 3).toI = (optL s l e u k).1 ∧ x = .lst [(l.elem i).fld 0]
  least : ∀ i, i < k → openP s l e u i = true → (optL s l e u k).1 ≤ ((l.elem i).fld 3).toI
  some : ∀ i, i < k → openP s l e u i = true → (optL s l e u k).2 ≠ []
theorem optS (s l e u : D) : ∀ k, OptS s l e u k
  | 0 => ⟨by simp [optL], by omega, by omega⟩
  | k + 1 => by
    have ih := optS s l e u k
    by_cases hp : openP s l e u k = true
    · rcases Int.lt_trichotomy ((l.elem k).fld 3).toI (optL s l e u k).1 with h | h | h
      · have he := optL_lt hp h
        refine ⟨fun x hx => ?_, fun i hi hpi => ?_, fun i hi hpi => ?_⟩
        · rw [he] at hx ⊢
          simp only [List.mem_singleton] at hx
          exact ⟨k, by omega, hp, rfl, hx⟩
        · rw [he]
          by_cases hk : i = k
          · subst hk; exact Int.le_refl _
          · have := ih.least i (by omega) hpi
            simp only
            omega
        · rw [he]; simp
      · have he := optL_eq hp h
        refine ⟨fun x hx => ?_, fun i hi hpi => ?_, fun i hi hpi => ?_⟩
        · rw [he] at hx ⊢
          simp only [List.mem_append, List.mem_singleton] at hx
          rcases hx with hx | hx
          · obtain ⟨i, h1, h2, h3, h4⟩ := ih.mem x hx
            exact ⟨i, by omega, h2, h3, h4⟩
          · exact ⟨k, by omega, hp, h, hx⟩
        · rw [he]
          by_cases hk : i = k
          · subst hk; simp only; omega
          · exact ih.least i (by omega) hpi
        · rw [he]; simp
      · have he := optL_gt h
        refine ⟨fun x hx => ?_, fun i hi hpi => ?_, fun i hi hpi => ?_⟩
        · rw [he] at hx ⊢
          obtain ⟨i, h1, h2, h3, h4⟩ := ih.mem x hx
          exact ⟨i, by omega, h2, h3, h4⟩
        · rw [he]
          by_cases hk : i = k
          · subst hk; omega
          · exact ih.least i (by omega) hpi
        · rw [he]
          intro hn
          have := (optL_none (s := s) (l := l) (e := e) (u := u) (k := k)).1 hn
          have := openP_class hp
          omega
    · have he := optL_skip (s := s) (l := l) (e := e) (u := u) (k := k) (by simpa using hp)
      refine ⟨fun x hx => ?_, fun i hi hpi => ?_, fun i hi hpi => ?_⟩
      · rw [he] at hx ⊢
        obtain ⟨i, h1, h2, h3, h4⟩ := ih.mem x hx
        exact ⟨i, by omega, h2, h3, h4⟩
      · have hk : i ≠ k := fun hk => hp (hk ▸ hpi)
        rw [he]
        exact ih.least i (by omega) hpi
      · have hk : i ≠ k := fun hk => hp (hk ▸ hpi)
        rw [he]
        exact ih.some i (by omega) hpi
theorem openL_mem {s l e u x : D} {k : Nat} : x ∈ openL s l e u k ↔ ∃ i, i < k ∧ openP s l e u i = true ∧ x = .lst [(l.elem i).fld 0] := by
  simp only [openL, List.mem_map, List.mem_filter, List.mem_range]
  constructor
  · rintro ⟨i, ⟨h1, h2⟩, rfl⟩; exact ⟨i, h1, h2, rfl⟩
  · rintro ⟨i, h1, h2, rfl⟩; exact ⟨i, ⟨h1, h2⟩, rfl⟩
theorem has_iff {l : D} {n : Int} : has l n = true ↔ ∃ x ∈ l.toL, (x.fld 0).toI = n := by
  simp only [has, Bool.not_eq_true', ← Bool.not_eq_true, allR_iff']
  constructor
  · intro h
    simp only [Classical.not_forall] at h
    obtain ⟨i, hi, hn⟩ := h
    exact ⟨l.elem i, elem_mem hi, by simpa using hn⟩
  · rintro ⟨x, hx, rfl⟩ h
    obtain ⟨i, hi, rfl⟩ := List.getElem_of_mem hx
    have := h i hi
    rw [elem_get hi] at this
    simp at this
theorem opt_in_open {s l e u x : D} {k : Nat} (h : x ∈ (optL s l e u k).2) : x ∈ openL s l e u k := by
  obtain ⟨i, h1, h2, _, h4⟩ := (optS s l e u k).mem x h
  exact openL_mem.2 ⟨i, h1, h2, h4⟩
theorem opt_nil_iff {s l e u : D} {k : Nat} : (optL s l e u k).2 = [] ↔ openL s l e u k = [] := by
  constructor
  · intro h
    rw [List.eq_nil_iff_forall_not_mem]
    intro x hx
    obtain ⟨i, h1, h2, _⟩ := openL_mem.1 hx
    exact (optS s l e u k).some i h1 h2 h
  · intro h
    rw [List.eq_nil_iff_forall_not_mem]
    intro x hx
    have := opt_in_open hx
    rw [h] at this
    cases this
/-- In a valid table each effect is found by its number. -/
theorem effAt_self {d : D} {i : Nat} (h : tableOk d = true) (hi : i < d.toL.length) : effAt d ((d.elem i).fld 0).toI = i := by
  have hp := (tableOk_iff.1 h).2.2
  rw [List.pairwise_iff_getElem] at hp
  refine findR_some hi (by simp) fun j hj => ?_
  have := hp j i (by omega) hi hj
  rw [elem_get hi, elem_get (show j < d.toL.length by omega)]
  simp
  omega
theorem opt_all {s l e u v : D} (h : ∀ n, has v n = true ↔ has u n = true ∨ has (.lst (openL s l e u l.toL.length)) n = true) : (optL s l e v l.toL.length).2 = [] := by
  rw [opt_nil_iff, List.eq_nil_iff_forall_not_mem]
  intro x hx
  obtain ⟨i, h1, h2, _⟩ := openL_mem.1 hx
  simp only [openP, Bool.and_eq_true, Bool.not_eq_true', ← Bool.not_eq_true] at h2
  have h3 : ¬ has u ((l.elem i).fld 0).toI = true := fun hc => h2.1 ((h _).2 (.inl hc))
  refine h2.1 ((h _).2 (.inr (has_iff.2 ⟨.lst [(l.elem i).fld 0], openL_mem.2 ⟨i, h1, ?_, rfl⟩, rfl⟩)))
  simp only [openP, Bool.and_eq_true, Bool.not_eq_true', ← Bool.not_eq_true]
  exact ⟨h3, h2.2⟩
theorem tmodN (x n : Int) : x.tmod n = if x < 0 then -((-x) % n) else x % n := by
  split
  · have h := Int.neg_tmod (-x) n
    rw [Int.neg_neg] at h
    rw [h, Int.tmod_eq_emod_of_nonneg (by omega)]
  · exact Int.tmod_eq_emod_of_nonneg (by omega)
theorem pick_word {d : D} {n : Int} (h : ¬ n < 2) (h2 : d.toL ≠ []) : pickN d n = if ((d.elem 0).fld 0).toI.tmod n < 0 then IntKind.i64.wrap (((d.elem 0).fld 0).toI.tmod n + n) else ((d.elem 0).fld 0).toI.tmod n := by
  simp only [pickN, if_neg (show ¬ (n < 2 ∨ d.toL = []) by simp [h, h2])]
theorem pick_range {d : D} {n : Int} (h : ¬ n < 2) (h2 : d.toL ≠ []) (h3 : n ≤ 4) : 0 ≤ pickN d n ∧ pickN d n < n := by
  rw [pick_word h h2]
  generalize ((d.elem 0).fld 0).toI = c
  have hn : n = 2 ∨ n = 3 ∨ n = 4 := by omega
  simp only [IntKind.wrap_i64, tmodN]
  rcases hn with rfl | rfl | rfl <;> (repeat' split) <;> omega
theorem pick_more {d : D} {n : Int} (h : ¬ n < 2) (h2 : d.toL ≠ []) (h3 : n ≤ 4) (h4 : -2147483647 ≤ ((d.elem 0).fld 0).toI) (h5 : ((d.elem 0).fld 0).toI ≤ 2147483647) :
    pickN (.lst [.lst [.int (IntKind.i64.wrap (((d.elem 0).fld 0).toI + n))]]) n = pickN d n := by
  have hx : ∀ x : Int, (((D.lst [.lst [.int x]]).elem 0).fld 0).toI = x := fun x => rfl
  rw [pick_word h h2, pick_word h (by simp), hx]
  generalize ((d.elem 0).fld 0).toI = c at *
  have hn : n = 2 ∨ n = 3 ∨ n = 4 := by omega
  have hw : IntKind.i64.wrap (c + n) = c + n := by simp only [IntKind.wrap_i64]; omega
  rw [hw]
  simp only [IntKind.wrap_i64, tmodN]
  rcases hn with rfl | rfl | rfl <;> (repeat' split) <;> omega
theorem ends_pick (d : D) (n : Int) : (decide ((pickL d n).length ≤ d.toL.length) && sameInts (.lst (d.toL.drop (d.toL.length - (pickL d n).length))) (.lst (pickL d n))) = true := by
  rw [Bool.and_eq_true]
  refine ⟨by simpa using pickL_le d n, ?_⟩
  have : d.toL.drop (d.toL.length - (pickL d n).length) = pickL d n := by
    simp only [pickL]
    split
    · simp
    · rename_i h
      have : 0 < d.toL.length := by
        cases hl : d.toL <;> simp_all
      rw [List.length_drop]
      congr 1
      omega
  rw [this]
  exact sameInts_refl _
theorem ends_pick2 (d : D) (n : Int) : sameInts (.lst (d.toL.drop (d.toL.length - (pickL d n).length))) (.lst (pickL d n)) = true := ((Bool.and_eq_true _ _).mp (ends_pick d n)).2
theorem sameInts_min (d : D) (k : Nat) : sameInts (.lst (d.toL.take k)) (.lst (d.toL.take (min k d.toL.length))) = true := by
  rw [← List.take_eq_take_min]
  exact sameInts_refl _
theorem pick_zero {d : D} {n : Int} (h : n < 2 ∨ d.toL = []) : pickN d n = 0 := by simp only [pickN, if_pos h]
theorem pick_all {d : D} {n : Int} (h : n < 2 ∨ d.toL = []) : sameInts (.lst (pickL d n)) d = true := by
  have : sameInts (.lst (pickL d n)) d = sameInts (.lst (pickL d n)) (.lst d.toL) := rfl
  rw [this]
  simp only [pickL, if_pos h]
  exact sameInts_refl _
theorem some_pos {l : List D} (h : ¬ l = []) : 0 < l.length := by cases l <;> simp_all
theorem pick_less {d : D} {n : Int} (h : 2 ≤ n) (h2 : ¬ d.toL = []) (h3 : (d.toL.length : Int) ≤ 8) : ((pickL d n).length : Int) = IntKind.i64.wrap ((d.toL.length : Int) - 1) := by
  have := some_pos h2
  simp only [pickL, if_neg (show ¬ (n < 2 ∨ d.toL = []) by simp [h2]; omega), List.length_drop, IntKind.wrap_i64]
  omega
def sideBad (x : D) : Bool := bound (x.fld 0).toI != (x.fld 0).toI || !inR (x.fld 1).toI 0 2147483647
def withN (e : D) (n : Int) : D := .lst [e.fld 0, e.fld 1, e.fld 2, e.fld 3, .int (upto n 2147483647), e.fld 5, e.fld 6]
def stateOkP (s : D) (b : Bool) : Prop := b = true → ∀ x ∈ (s.fld 0).toL, 0 ≤ (x.fld 2).toI
theorem bytes_loop (bs : ByteArray) : ∀ (n i : Nat) (r : List UInt8), bs.size - i = n → ByteArray.toList.loop bs i r = r.reverse ++ bs.data.toList.drop i := by
  intro n
  induction n with
  | zero =>
    intro i r h
    unfold ByteArray.toList.loop
    have h2 : bs.data.toList.length = bs.size := Array.length_toList
    rw [if_neg (by omega), List.drop_eq_nil_of_le (by omega), List.append_nil]
  | succ n ih =>
    intro i r h
    have h2 : bs.data.toList.length = bs.size := Array.length_toList
    have hi : i < bs.data.toList.length := by omega
    unfold ByteArray.toList.loop
    rw [if_pos (by omega), ih (i + 1) _ (by omega), List.drop_eq_getElem_cons hi, List.reverse_cons, List.append_assoc, List.singleton_append]
    congr 2
    have hi2 : i < bs.data.size := by simpa using hi
    show bs.data[i]! = _
    rw [getElem!_pos bs.data i hi2, Array.getElem_toList]
theorem bytes_list (l : List UInt8) : (ByteArray.mk ⟨l⟩).toList = l := by
  simp [ByteArray.toList, bytes_loop]
theorem txt_list (l : List UInt8) : (txt l).toS.toList = l := bytes_list l
theorem txt_ne (l : List UInt8) : ((txt l).toS.toList == (ByteArray.mk ⟨[]⟩).toList) = (l == []) := by rw [txt_list, bytes_list]
theorem parts_ok {a v : D} {i : Nat} (ha : actOk a = true) (hv : eventOk v = true) (hi : i < (parts a v).length) : eventOk ((D.lst (parts a v)).elem i) = true := by
  by_cases h9 : (a.fld 0).toI = 9
  · have hp : parts a v = partsTo a v (a.fld 6).toL.length := by simp [parts, h9]
    rw [hp] at hi ⊢
    have hi' : i < (a.fld 6).toL.length := by simpa using hi
    have he : (D.lst (partsTo a v (a.fld 6).toL.length)).elem i = partE a v i := by simp [D.elem, partsTo, hi']
    rw [he]
    exact partE_ok ha h9 hv hi'
  · simp [parts, h9] at hi
theorem parts_num (a v : D) : (((a.fld 0).toI == 9 && decide ((parts a v).length = (a.fld 6).toL.length)) || ((a.fld 0).toI != 9 && decide ((parts a v).length = 0))) = true := by
  by_cases h9 : (a.fld 0).toI = 9
  · simp [parts, h9]
  · simp [parts, h9]
theorem empty_beq (l : List UInt8) : l.isEmpty = (l == []) := by cases l <;> rfl
theorem actText_empty (a : D) : (txt (actText a)).toS.toList.isEmpty = !actOk a := by rw [txt_list, empty_beq, actText_ne]
theorem eventText_empty (e : D) : (txt (eventText e)).toS.toList.isEmpty = !eventOk e := by rw [txt_list, empty_beq, eventText_ne]
theorem dropT_small {d : D} {n : Int} (h : smallE d) : smallE (dropT d n) := by
  simp only [dropT]
  split
  · refine smallE_sub h (by simp; omega) fun x hx => ?_
    rcases List.mem_append.1 hx with hx | hx
    · exact List.mem_of_mem_take hx
    · exact List.mem_of_mem_drop hx
  · exact h

end Go.Proofs.Ytfbahdalemajcaa
