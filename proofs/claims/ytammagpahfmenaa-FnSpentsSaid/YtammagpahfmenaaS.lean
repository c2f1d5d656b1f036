/- What the functions compute, as functions on data. -/
import Derived.Test.YtammagpahfmenaaE6
namespace Go.Proofs.Ytammagpahfmenaa
open Go.Proofs.Ytammagpahfmenaa.Eng
abbrev evK : List CK := [.int .i64, .int .i64, .int .i64, .int .i64, .int .i64, .int .i64, .bool]
def gone (d : D) : Bool := (d.fld 4).toI == 0 && (d.fld 0).toI != 2
def inR (a b c : Int) : Bool := decide (b ≤ a) && decide (a ≤ c)
def bound (a : Int) : Int := if a > 2147483647 then 2147483647 else if a < -2147483647 then -2147483647 else a
def upto (a b : Int) : Int := if (if b < a then b else a) < 0 then 0 else if b < a then b else a
def guardOk (d : D) : Bool :=
  if (d.fld 0).toI = 0 ∨ (d.fld 0).toI = 3 then (d.fld 1).toI == 0 else if (d.fld 0).toI = 1 then inR (d.fld 1).toI (-2147483647) 2147483647
  else if (d.fld 0).toI = 2 ∨ (d.fld 0).toI = 4 then inR (d.fld 1).toI 0 8 else false
def stronger (a b : D) : Bool :=
  guardOk a && guardOk b && ((b.fld 0).toI == 0 || (a.fld 0).toI == (b.fld 0).toI && (if (a.fld 0).toI = 1 then decide ((a.fld 1).toI ≤ (b.fld 1).toI) else decide ((b.fld 1).toI ≤ (a.fld 1).toI)))
def patOk (d : D) : Bool :=
  inR (d.fld 0).toI 1 6 && inR (d.fld 1).toI 0 2 && inR (d.fld 2).toI 0 99 && inR (d.fld 3).toI 0 63 && inR (d.fld 4).toI 0 99 && inR (d.fld 5).toI 0 2147483647 && inR (d.fld 6).toI 0 4 &&
  !((d.fld 0).toI != 1 && ((d.fld 2).toI != 0 || (d.fld 3).toI != 0) || (d.fld 0).toI != 2 && (d.fld 6).toI != 0) && ((d.fld 4).toI == 0 || (d.fld 0).toI != 3 && (d.fld 0).toI != 4)
def demands (a b : Int) : Bool := b == 0 || a == b
def narrower (a b : D) : Bool :=
  patOk a && patOk b && (a.fld 0).toI == (b.fld 0).toI && demands (a.fld 1).toI (b.fld 1).toI && demands (a.fld 2).toI (b.fld 2).toI && demands (a.fld 4).toI (b.fld 4).toI && demands (a.fld 6).toI (b.fld 6).toI &&
  bits2 .i64 (· &&& ·) (a.fld 3).toI (b.fld 3).toI == (b.fld 3).toI && decide ((b.fld 5).toI ≤ (a.fld 5).toI)
theorem int_eta {d : D} {k : IntKind} (h : CK.okD (.int k) d) : D.int d.toI = d := by obtain ⟨n, rfl, _⟩ := ok_int h; rfl
theorem int_range {d : D} (h : CK.okD (.int .i64) d) : -9223372036854775808 ≤ d.toI ∧ d.toI ≤ 9223372036854775807 := by obtain ⟨n, rfl, h⟩ := ok_int h; exact inK_i64 h
theorem bool_eta {d : D} (h : CK.okD .bool d) : D.bool d.toB = d := by obtain ⟨n, rfl⟩ := ok_bool h; rfl
theorem sl_eta {d : D} {ks : List CK} (h : CK.okD (.sl ks) d) : D.lst d.toL = d := by obtain ⟨n, rfl, _⟩ := ok_sl h; rfl
theorem sl_len {d : D} {ks : List CK} (h : CK.okD (.sl ks) d) : d.toL.length ≤ maxL := by obtain ⟨n, rfl, h, _⟩ := ok_sl h; exact h
theorem sl_all {d : D} {ks : List CK} (h : CK.okD (.sl ks) d) : ∀ x ∈ d.toL, okL ks x := by obtain ⟨n, rfl, _, h⟩ := ok_sl h; exact h
theorem elem_mem {d : D} {i : Nat} (h : i < d.toL.length) : d.elem i ∈ d.toL := by simp [D.elem, h]
theorem copy_step {d z e : D} {i : Nat} (h : i < d.toL.length) (he : e = d.elem i) : (d.toL.take i ++ List.replicate (d.toL.length - i) z).set i e = d.toL.take (i + 1) ++ List.replicate (d.toL.length - (i + 1)) z := by
  subst he
  apply List.ext_getElem
  · simp; omega
  · intro j h1 h2
    simp only [List.getElem_set, List.getElem_append, List.length_take, List.getElem_take, List.getElem_replicate]
    have e : d.elem i = d.toL[i] := by simp [D.elem, h]
    split
    · rename_i hj
      subst hj
      rw [dif_pos (by omega)]
      exact e
    · by_cases hj : j < i
      · rw [dif_pos (by omega), dif_pos (by omega)]
      · rw [dif_neg (by omega), dif_neg (by omega)]
theorem copy_end {d z : D} {i : Nat} (h : d.toL.length ≤ i) : d.toL.take i ++ List.replicate (d.toL.length - i) z = d.toL := by
  rw [List.take_of_length_le h, show d.toL.length - i = 0 by omega]; simp
theorem eta1 {k : CK} {x : D} (h : okL [k] x) : D.lst [x.fld 0] = x := by simpa [List.range, List.range.loop] using okL_eta h
def markedN (n : Int) (k : Nat) : List D := (List.range k).map fun (i : Nat) => .lst [.int (n + i)]
@[simp] theorem markedN_length (n : Int) (k : Nat) : (markedN n k).length = k := by simp [markedN]
theorem mark_step {n : Int} {l : List D} {i : Nat} (h : i < l.length) : markedN n i ++ (l.drop i).set 0 (.lst [.int (n + i)]) = markedN n (i + 1) ++ l.drop (i + 1) := by
  simp only [markedN, List.range_succ, List.map_append, List.map_cons, List.map_nil, List.append_assoc, List.singleton_append]
  congr 1
  rw [List.drop_eq_getElem_cons h]
  rfl
theorem held_at {n : Int} {d : D} {i : Nat} (h : markedN n d.toL.length = d.toL) (hi : i < d.toL.length) : ((d.elem i).fld 0).toI = n + i := by
  have : d.elem i = .lst [.int (n + i)] := by
    simp only [D.elem]
    rw [← h]
    simp [markedN, hi]
  rw [this]
  rfl
def szS (n : Int) (l : Nat) : Int := if n - l < 0 then -1 else n - l
@[simp] theorem szS_neg {n : Int} {l : Nat} : szS n l < 0 ↔ n < l := by simp only [szS]; split <;> omega
@[simp] theorem szS_nn {n : Int} {l : Nat} : 0 ≤ szS n l ↔ l ≤ n := by simp only [szS]; split <;> omega
def pickN (d : D) (n : Int) : Int := if n < 2 ∨ d.toL = [] then 0 else if ((d.elem 0).fld 0).toI.tmod n < 0 then IntKind.i64.wrap (((d.elem 0).fld 0).toI.tmod n + n) else ((d.elem 0).fld 0).toI.tmod n
def pickL (d : D) (n : Int) : List D := if n < 2 ∨ d.toL = [] then d.toL else d.toL.drop 1
theorem pickL_le (d : D) (n : Int) : (pickL d n).length ≤ d.toL.length := by simp only [pickL]; split <;> simp
def total : List D → Int → Int
  | [], s => s
  | e :: l, s => total l (if (e.fld 0).toI = 1 then IntKind.i64.wrap (s + upto (e.fld 4).toI 2147483647) else s)
def actFits (a : D) (k : Int) : Bool :=
  inR k 1 6 && (if (a.fld 0).toI = 2 ∨ (a.fld 0).toI = 6 then k == 1 else if (a.fld 0).toI = 3 ∨ (a.fld 0).toI = 4 ∨ (a.fld 0).toI = 5 then k != 2 else if (a.fld 0).toI = 7 ∨ (a.fld 0).toI = 8 then k == 2 else (a.fld 0).toI == 1 || (a.fld 0).toI == 9)
def plus (a b : Int) : Int := bound (IntKind.i64.wrap (bound a + bound b))
def twice (a : Int) : Int := bound (IntKind.i64.wrap (2 * bound a))
def half (a : Int) : Int := IntKind.i64.wrap ((bound a).tdiv 2)
def amount (a : D) (n : Int) : Int :=
  if (a.fld 0).toI = 1 then 0 else if (a.fld 0).toI = 3 then plus (upto n 2147483647) (a.fld 1).toI else if (a.fld 0).toI = 4 then twice (upto n 2147483647) else if (a.fld 0).toI = 5 then half (upto n 2147483647) else upto n 2147483647
def onPiece (e : D) : Bool := inR (e.fld 2).toI 1 99 && (e.fld 3).toI == -1
def onPlayer (e : D) : Bool := (e.fld 2).toI == 0 && inR (e.fld 3).toI 0 2
def eventOk (e : D) : Bool :=
  inR (e.fld 4).toI 0 2147483647 &&
  (if (e.fld 0).toI = 1 then inR (e.fld 1).toI 1 99 && (onPiece e || onPlayer e) && (e.fld 5).toI == 0 && !(e.fld 6).toB
   else if (e.fld 0).toI = 2 then (e.fld 1).toI == 0 && onPiece e && inR (e.fld 5).toI 1 4 && decide ((e.fld 4).toI ≤ 99) && ((e.fld 5).toI == 2 || (e.fld 4).toI == 0 && !(e.fld 6).toB)
   else if (e.fld 0).toI = 3 ∨ (e.fld 0).toI = 4 then (e.fld 1).toI == 0 && onPlayer e && (e.fld 5).toI == 0 && !(e.fld 6).toB
   else if (e.fld 0).toI = 5 ∨ (e.fld 0).toI = 6 then (e.fld 1).toI == 0 && onPiece e && (e.fld 5).toI == 0 && !(e.fld 6).toB else false)
def ev4 (t : D) : D := .lst [t.fld 4, t.fld 5, t.fld 6, t.fld 7, t.fld 8, t.fld 9, t.fld 10]
theorem total_append (a b : List D) (s : Int) : total (a ++ b) s = total b (total a s) := by
  induction a generalizing s with
  | nil => rfl
  | cons x a ih => simp [total, ih]
theorem take_elem {d : D} {i : Nat} (h : i < d.toL.length) : d.toL.take (i + 1) = d.toL.take i ++ [d.elem i] := by
  rw [List.take_add_one]; simp [D.elem, h]
theorem total_take {d : D} {i : Nat} (h : i < d.toL.length) : total (d.toL.take (i + 1)) 0 = (if ((d.elem i).fld 0).toI = 1 then IntKind.i64.wrap (total (d.toL.take i) 0 + upto ((d.elem i).fld 4).toI 2147483647) else total (d.toL.take i) 0) := by
  rw [take_elem h, total_append]; simp [total]
def sameEv (a b : D) : Bool := (a.fld 0).toI == (b.fld 0).toI && (a.fld 1).toI == (b.fld 1).toI && (a.fld 2).toI == (b.fld 2).toI && (a.fld 3).toI == (b.fld 3).toI && (a.fld 4).toI == (b.fld 4).toI && (a.fld 5).toI == (b.fld 5).toI && (a.fld 6).toB == (b.fld 6).toB
def allR (p : Nat → Bool) (n : Nat) : Bool := (List.range n).all p
theorem allR_true {p : Nat → Bool} {n : Nat} (h : ∀ j, j < n → p j = true) : allR p n = true := by simp only [allR, List.all_eq_true, List.mem_range]; exact h
theorem allR_false {p : Nat → Bool} {n i : Nat} (hi : i < n) (h : p i = false) : allR p n = false := by simp only [allR, List.all_eq_false, List.mem_range]; exact ⟨i, hi, by simp [h]⟩
def sameEvs (a b : D) : Bool := decide (a.toL.length = b.toL.length) && allR (fun i => sameEv (a.elem i) (b.elem i)) a.toL.length
def sameTurn (a b : D) : Bool :=
  (a.fld 0).toI == (b.fld 0).toI && (a.fld 1).toI == (b.fld 1).toI && (a.fld 2).toI == (b.fld 2).toI && (a.fld 3).toI == (b.fld 3).toI && sameEv (ev4 a) (ev4 b) && (a.fld 12).toI == (b.fld 12).toI && (a.fld 13).toI == (b.fld 13).toI && sameEvs (a.fld 11) (b.fld 11)
def turnOk (t : D) : Bool :=
  inR (t.fld 0).toI 1 99 && inR (t.fld 1).toI 0 2 && inR (t.fld 3).toI 1 5 && inR (t.fld 2).toI 0 (IntKind.i64.wrap ((t.fld 3).toI - 1)) && eventOk (ev4 t) && inR (t.fld 12).toI 0 2147483647 && inR (t.fld 13).toI 0 4 &&
  decide ((t.fld 11).toL.length ≤ 3) && allR (fun i => eventOk ((t.fld 11).elem i)) (t.fld 11).toL.length
/-- The first place from 'i' on where the condition holds, of 'n' places; -1 if there is none. -/
def findR (p : Nat → Bool) (n : Nat) : Int := match (List.range n).find? p with
  | some j => j
  | none => -1
theorem findR_none {p : Nat → Bool} {n : Nat} (h : ∀ j, j < n → p j = false) : findR p n = -1 := by
  have : (List.range n).find? p = none := by simp only [List.find?_eq_none, List.mem_range]; intro j hj; simp [h j hj]
  simp [findR, this]
theorem findR_some {p : Nat → Bool} {n i : Nat} (hi : i < n) (hp : p i = true) (h : ∀ j, j < i → p j = false) : findR p n = i := by
  have : (List.range n).find? p = some i := by
    rw [List.find?_eq_some_iff_getElem]
    refine ⟨hp, i, by simpa using hi, by simp, fun j hj => by simp [h j hj]⟩
  simp [findR, this]
theorem findR_nn {p : Nat → Bool} {n : Nat} : decide (0 ≤ findR p n) = !allR (fun i => !p i) n := by
  by_cases h : ∃ j, j < n ∧ p j = true
  · obtain ⟨j, hj, hp⟩ := h
    rw [allR_false hj (by simp [hp])]
    cases hf : (List.range n).find? p with
    | none => simp only [List.find?_eq_none, List.mem_range] at hf; exact absurd hp (hf j hj)
    | some i => simp [findR, hf]
  · have h' : ∀ j, j < n → p j = false := fun j hj => by cases hp : p j <;> simp_all
    rw [findR_none h', allR_true fun j hj => by simp [h' j hj]]
    rfl
theorem okL_at {ks : List CK} {d : D} {i : Nat} {k : CK} (h : okL ks d) (hi : ks[i]? = some k) : CK.okD k (d.fld i) := by
  obtain ⟨es, rfl, h⟩ := h
  have : ∀ (ks : List CK) (es : List D) (i : Nat), CK.okDs ks es → ks[i]? = some k → CK.okD k ((D.lst es).fld i) := by
    intro ks
    induction ks with
    | nil => intro es i _ h; simp at h
    | cons c ks ih =>
      intro es i h hi
      cases es with
      | nil => simp [CK.okDs] at h
      | cons e es =>
        simp only [CK.okDs] at h
        cases i with
        | zero =>
          simp only [List.getElem?_cons_zero, Option.some.injEq] at hi
          subst hi
          exact h.1
        | succ i => exact ih es i h.2 (by simpa using hi)
  exact this ks es i h hi
def zeroPiece : D := .lst [.int 0, .int 0, .int 0, .int 0, .int 0, .int 0, .int 0, .int 0, .int 0, .int 0, .int 0, .bool false, .bool false]
theorem findR_range (p : Nat → Bool) (n : Nat) : -1 ≤ findR p n ∧ findR p n < n := by
  simp only [findR]
  cases hf : (List.range n).find? p with
  | none => simp; omega
  | some i =>
    have := List.mem_of_find?_eq_some hf
    simp only [List.mem_range] at this
    simp
    omega
def pieceAt (s : D) (n : Int) : Int := findR (fun i => (((s.fld 0).elem i).fld 0).toI == n) (s.fld 0).toL.length
theorem pieceAt_range (s : D) (n : Int) : -1 ≤ pieceAt s n ∧ pieceAt s n < (s.fld 0).toL.length := findR_range _ _
def countR (p : Nat → Bool) (n : Nat) : Nat := ((List.range n).filter p).length
@[simp] theorem countR_zero (p : Nat → Bool) : countR p 0 = 0 := rfl
theorem countR_succ (p : Nat → Bool) (n : Nat) : countR p (n + 1) = countR p n + if p n then 1 else 0 := by
  simp only [countR, List.range_succ, List.filter_append, List.length_append]
  cases hp : p n <;> simp [hp]
theorem countR_le (p : Nat → Bool) (n : Nat) : countR p n ≤ n := by
  have := List.length_filter_le p (List.range n)
  simpa [countR] using this
def bentP (s : D) (n : Int) (i : Nat) : Bool := (((s.fld 0).elem i).fld 3).toI == 2 && (((s.fld 0).elem i).fld 2).toI == n && (((s.fld 0).elem i).fld 12).toB
def manyP (s : D) (n : Int) (i : Nat) : Bool := (((s.fld 0).elem i).fld 3).toI == 2 && (((s.fld 0).elem i).fld 2).toI == n
def bentOf (s : D) (n : Int) : Int := countR (bentP s n) (s.fld 0).toL.length
def many (s : D) (n : Int) : Int := countR (manyP s n) (s.fld 0).toL.length
def source (s e : D) : D := if (e.fld 0).toI ≠ 1 ∨ pieceAt s (e.fld 1).toI < 0 then zeroPiece else (s.fld 0).elem (pieceAt s (e.fld 1).toI).toNat
def target (s e : D) : Int :=
  if (e.fld 2).toI = 0 then (if inR (e.fld 3).toI 0 ((s.fld 1).toL.length - 1) then (e.fld 3).toI else -1)
  else if pieceAt s (e.fld 2).toI < 0 then -1 else (((s.fld 0).elem (pieceAt s (e.fld 2).toI).toNat).fld 2).toI
def sourceFits (s p e : D) : Bool := ((p.fld 2).toI == 0 || (p.fld 2).toI == (e.fld 1).toI) && bits2 .i64 (· &&& ·) ((source s e).fld 7).toI (p.fld 3).toI == (p.fld 3).toI
def targetFits (s : D) (n : Int) (p e : D) : Bool :=
  !(target s e == -1 || (p.fld 1).toI == 1 && target s e != n || (p.fld 1).toI == 2 && target s e == n) && ((p.fld 4).toI == 0 || (p.fld 4).toI == (e.fld 2).toI)
def patFits (s : D) (n : Int) (p e : D) : Bool :=
  patOk p && eventOk e && (p.fld 0).toI == (e.fld 0).toI && targetFits s n p e && sourceFits s p e && decide ((p.fld 5).toI ≤ (e.fld 4).toI) && ((p.fld 6).toI == 0 || (p.fld 6).toI == (e.fld 5).toI)
def onFieldP (s : D) (n : Int) (i : Nat) : Bool := (((s.fld 0).elem i).fld 3).toI == 2 && (n == -1 || (((s.fld 0).elem i).fld 2).toI == n)
def onField (s : D) (n : Int) (k : Nat) : List D := ((List.range k).filter (onFieldP s n)).map fun i => .lst [((s.fld 0).elem i).fld 0]
theorem onField_succ (s : D) (n : Int) (k : Nat) : onField s n (k + 1) = onField s n k ++ if onFieldP s n k then [.lst [((s.fld 0).elem k).fld 0]] else [] := by
  simp only [onField, List.range_succ, List.filter_append, List.map_append]
  cases hp : onFieldP s n k <;> simp [hp]
theorem onField_length (s : D) (n : Int) (k : Nat) : (onField s n k).length = countR (onFieldP s n) k := by simp [onField, countR]
theorem onField_many {s : D} {n : Int} (h : 0 ≤ n) (k : Nat) : (onField s n k).length = countR (manyP s n) k := by
  rw [onField_length]
  have : onFieldP s n = manyP s n := by
    funext i
    have : (n == -1) = false := by simp; omega
    simp [onFieldP, manyP, this]
  rw [this]
def holds (s : D) (n : Int) (g : D) : Bool :=
  guardOk g && inR n 0 ((s.fld 1).toL.length - 1) &&
  (if (g.fld 0).toI = 1 then decide ((((s.fld 1).elem n.toNat).fld 0).toI ≤ (g.fld 1).toI) else if (g.fld 0).toI = 2 then decide ((g.fld 1).toI ≤ many s n)
   else if (g.fld 0).toI = 3 then (s.fld 2).toI == n else if (g.fld 0).toI = 4 then decide ((g.fld 1).toI ≤ bentOf s n) else true)
def ev0 (e : D) : D := .lst [e.fld 0, e.fld 1, e.fld 2, e.fld 3, .int 0, e.fld 5, e.fld 6]
def partOk (e : D) : Bool := if (e.fld 4).toI = -1 ∧ (e.fld 0).toI ≠ 2 then eventOk (ev0 e) else eventOk e
def plain (a : D) : Bool := (a.fld 2).toI == 0 && (a.fld 3).toI == -1 && (a.fld 4).toI == 0 && !(a.fld 5).toB && ((a.fld 6).toL.length : Int) == 0
def actOk (a : D) : Bool :=
  if (a.fld 0).toI = 1 ∨ (a.fld 0).toI = 2 ∨ (a.fld 0).toI = 4 ∨ (a.fld 0).toI = 5 then plain a && (a.fld 1).toI == 0
  else if (a.fld 0).toI = 3 then plain a && inR (a.fld 1).toI 1 2147483647
  else if (a.fld 0).toI = 6 then (a.fld 1).toI == 0 && (a.fld 4).toI == 0 && !(a.fld 5).toB && ((a.fld 6).toL.length : Int) == 0 && (inR (a.fld 2).toI 1 99 && (a.fld 3).toI == -1 || (a.fld 2).toI == 0 && inR (a.fld 3).toI 0 2)
  else if (a.fld 0).toI = 7 then (a.fld 1).toI == 0 && (a.fld 2).toI == 0 && (a.fld 3).toI == -1 && !(a.fld 5).toB && ((a.fld 6).toL.length : Int) == 0 && inR (a.fld 4).toI 1 4
  else if (a.fld 0).toI = 8 then inR (a.fld 1).toI 0 99 && (a.fld 2).toI == 0 && (a.fld 3).toI == -1 && (a.fld 4).toI == 0 && ((a.fld 6).toL.length : Int) == 0
  else if (a.fld 0).toI = 9 then (a.fld 1).toI == 0 && (a.fld 2).toI == 0 && (a.fld 3).toI == -1 && (a.fld 4).toI == 0 && !(a.fld 5).toB && inR (a.fld 6).toL.length 1 3 && allR (fun i => partOk ((a.fld 6).elem i)) (a.fld 6).toL.length
  else false
def sameAct (a b : D) : Bool :=
  (a.fld 0).toI == (b.fld 0).toI && (a.fld 1).toI == (b.fld 1).toI && (a.fld 2).toI == (b.fld 2).toI && (a.fld 3).toI == (b.fld 3).toI && (a.fld 4).toI == (b.fld 4).toI && (a.fld 5).toB == (b.fld 5).toB && sameEvs (a.fld 6) (b.fld 6)
def sameEffect (a b : D) : Bool :=
  (a.fld 0).toI == (b.fld 0).toI && (a.fld 1).toI == (b.fld 1).toI && (a.fld 2).toI == (b.fld 2).toI && (a.fld 3).toI == (b.fld 3).toI && (a.fld 4).toI == (b.fld 4).toI && (a.fld 5).toI == (b.fld 5).toI && (a.fld 6).toI == (b.fld 6).toI && (a.fld 7).toI == (b.fld 7).toI && (a.fld 8).toI == (b.fld 8).toI && (a.fld 9).toI == (b.fld 9).toI && (a.fld 10).toI == (b.fld 10).toI && (a.fld 11).toI == (b.fld 11).toI && (a.fld 12).toI == (b.fld 12).toI && (a.fld 13).toI == (b.fld 13).toI && (a.fld 14).toI == (b.fld 14).toI && (a.fld 15).toI == (b.fld 15).toI && (a.fld 16).toI == (b.fld 16).toI && (a.fld 17).toI == (b.fld 17).toI && (a.fld 20).toI == (b.fld 20).toI && (a.fld 21).toI == (b.fld 21).toI && (a.fld 18).toB == (b.fld 18).toB && sameEvs (a.fld 19) (b.fld 19)
def patOf (e : D) : D := .lst [e.fld 4, e.fld 5, e.fld 6, e.fld 7, e.fld 8, e.fld 9, e.fld 10]
def grdOf (e : D) : D := .lst [e.fld 11, e.fld 12]
def actOf (e : D) : D := .lst [e.fld 13, e.fld 14, e.fld 15, e.fld 16, e.fld 17, e.fld 18, e.fld 19]
def effectOk (e : D) : Bool :=
  inR (e.fld 0).toI 1 99 && inR (e.fld 1).toI 0 2 && inR (e.fld 2).toI 0 99 && inR (e.fld 3).toI 0 4 && inR (e.fld 20).toI (-1) 9999 && inR (e.fld 21).toI (-1) 2147483647 &&
  !((e.fld 3).toI == 0 && (e.fld 2).toI == 0 || (e.fld 13).toI == 2 && decide ((e.fld 21).toI < 0)) && patOk (patOf e) && guardOk (grdOf e) && actOk (actOf e) && actFits (actOf e) (e.fld 4).toI
def lives (e : D) (n : Int) : Bool := (e.fld 21).toI != 0 && ((e.fld 20).toI == -1 || decide (n ≤ (e.fld 20).toI))
def near (e v : D) : Bool := (e.fld 3).toI != 0 || (e.fld 2).toI == (v.fld 1).toI || (e.fld 2).toI == (v.fld 2).toI
def fitsE (s e v : D) : Bool := effectOk e && lives e (s.fld 3).toI && near e v && holds s (e.fld 1).toI (grdOf e) && patFits s (e.fld 1).toI (patOf e) v
def sumR (f : Nat → Nat) : Nat → Nat
  | 0 => 0
  | n + 1 => sumR f n + f n
theorem sumR_mono (f : Nat → Nat) {i n : Nat} (h : i ≤ n) : sumR f i ≤ sumR f n := by
  induction h with
  | refl => exact Nat.le_refl _
  | step _ ih => exact Nat.le_trans ih (Nat.le_add_right _ _)
theorem sumR_at (f : Nat → Nat) {i n : Nat} (h : i < n) : f i ≤ sumR f n := by
  have h1 := sumR_mono f (show i + 1 ≤ n from h)
  simp only [sumR] at h1
  omega
def innerE (d : D) (i : Nat) : Nat := ((d.elem i).fld 19).toL.length
def szEs (n : Int) (d : D) : Int := if n - d.toL.length - sumR (innerE d) d.toL.length < 0 then -1 else n - d.toL.length - sumR (innerE d) d.toL.length
def smallE (d : D) : Prop := (d.toL.length : Int) ≤ 1048576 ∧ ∀ i, i < d.toL.length → (((d.elem i).fld 19).toL.length : Int) ≤ 1048576
theorem smallE_of {d : D} {n : Int} (h : 0 ≤ szEs n d) (hn : n ≤ 1048576) : smallE d := by
  have h' : 0 ≤ n - d.toL.length - sumR (innerE d) d.toL.length := by simp only [szEs] at h; split at h <;> omega
  refine ⟨by omega, fun i hi => ?_⟩
  have := sumR_at (innerE d) hi
  have e : innerE d i = ((d.elem i).fld 19).toL.length := rfl
  omega
theorem szEs_le {d : D} {n : Int} (h : 0 ≤ szEs n d) : szEs n d ≤ n := by simp only [szEs] at h ⊢; split <;> split at h <;> omega
theorem szEs_le' {d : D} {n : Int} (hn : 0 ≤ n) : szEs n d ≤ n := by simp only [szEs]; split <;> omega
theorem smallE2 {a d : D} (h0 : 0 ≤ szEs 1048576 a) (h : 0 ≤ szEs (szEs 1048576 a) d) : smallE d := smallE_of h (szEs_le h0)
theorem wrapI {n : Int} (h1 : -9223372036854775808 ≤ n) (h2 : n ≤ 9223372036854775807) : IntKind.i64.wrap n = n := by rw [IntKind.wrap_i64]; omega
def effAt (d : D) (n : Int) : Int := findR (fun i => ((d.elem i).fld 0).toI == n) d.toL.length
def sameTable (a b : D) : Bool := decide (a.toL.length = b.toL.length) && allR (fun i => sameEffect (a.elem i) (b.elem i)) a.toL.length
def rowOk (d : D) (i : Nat) : Bool := effectOk (d.elem i) && !(decide (0 < i) && decide (((d.elem i).fld 0).toI ≤ ((d.elem (i - 1)).fld 0).toI))
def tableOk (d : D) : Bool := decide (d.toL.length ≤ 5) && allR (rowOk d) d.toL.length
def partE (a v : D) (i : Nat) : D :=
  if (((a.fld 6).elem i).fld 4).toI = -1 then .lst [((a.fld 6).elem i).fld 0, ((a.fld 6).elem i).fld 1, ((a.fld 6).elem i).fld 2, ((a.fld 6).elem i).fld 3, .int (upto (v.fld 4).toI 2147483647), ((a.fld 6).elem i).fld 5, ((a.fld 6).elem i).fld 6]
  else (a.fld 6).elem i
def partsTo (a v : D) (k : Nat) : List D := (List.range k).map (partE a v)
@[simp] theorem partsTo_length (a v : D) (k : Nat) : (partsTo a v k).length = k := by simp [partsTo]
theorem partsTo_succ (a v : D) (k : Nat) : partsTo a v (k + 1) = partsTo a v k ++ [partE a v k] := by simp [partsTo, List.range_succ]
def parts (a v : D) : List D := if (a.fld 0).toI = 9 then partsTo a v (a.fld 6).toL.length else []
theorem parts_le (a v : D) : (parts a v).length ≤ (a.fld 6).toL.length := by simp only [parts]; split <;> simp
def evMark (m : Int) : D := .lst [.int m, .int (m + 1), .int (m + 2), .int (m + 3), .int (m + 4), .int (m + 5), .bool ((m + 6).tmod 3 == 0)]
def markedE (n : Int) (k : Nat) : List D := (List.range k).map fun (i : Nat) => evMark (n + 7 * i)
@[simp] theorem markedE_length (n : Int) (k : Nat) : (markedE n k).length = k := by simp [markedE]
theorem markE_step {n : Int} {l : List D} {i : Nat} (h : i < l.length) : markedE n i ++ (l.drop i).set 0 (evMark (n + 7 * i)) = markedE n (i + 1) ++ l.drop (i + 1) := by
  simp only [markedE, List.range_succ, List.map_append, List.map_cons, List.map_nil, List.append_assoc, List.singleton_append]
  congr 1
  rw [List.drop_eq_getElem_cons h]
  rfl
theorem heldE_at {n : Int} {d : D} {i : Nat} (h : markedE n d.toL.length = d.toL) (hi : i < d.toL.length) : d.elem i = evMark (n + 7 * i) := by
  simp only [D.elem]
  rw [← h]
  simp [markedE, hi]
theorem elem_set {l : List D} {x : D} {i : Nat} (h : i < l.length) : (D.lst (l.set i x)).elem i = x := by simp [D.elem, h]
theorem elem_mark {n : Int} {d : D} {i : Nat} (h : i < d.toL.length) : (D.lst (markedE n i ++ d.toL.drop i)).elem i = d.elem i := by
  simp [D.elem, List.getElem?_append_right]
theorem elem_mark_set {n : Int} {d x : D} {i : Nat} (h : i < d.toL.length) : (D.lst (markedE n i ++ (d.toL.drop i).set 0 x)).elem i = x := by
  have hl : 0 < (d.toL.drop i).length := by simp; omega
  show (markedE n i ++ (d.toL.drop i).set 0 x).getD i default = x
  rw [List.getD_eq_getElem?_getD, List.getElem?_append_right (by simp), markedE_length, Nat.sub_self, List.getElem?_set_self hl]
  rfl
def less (a b : Int) : Int := bound (IntKind.i64.wrap (bound a - bound b))
def spent (e : D) (n : Int) : D := if (e.fld 13).toI = 2 then .lst [e.fld 0, e.fld 1, e.fld 2, e.fld 3, e.fld 4, e.fld 5, e.fld 6, e.fld 7, e.fld 8, e.fld 9, e.fld 10, e.fld 11, e.fld 12, e.fld 13, e.fld 14, e.fld 15, e.fld 16, e.fld 17, e.fld 18, e.fld 19, e.fld 20, .int (upto (less (e.fld 21).toI n) 2147483647)] else if (e.fld 21).toI > 0 then .lst [e.fld 0, e.fld 1, e.fld 2, e.fld 3, e.fld 4, e.fld 5, e.fld 6, e.fld 7, e.fld 8, e.fld 9, e.fld 10, e.fld 11, e.fld 12, e.fld 13, e.fld 14, e.fld 15, e.fld 16, e.fld 17, e.fld 18, e.fld 19, e.fld 20, .int (IntKind.i64.wrap ((e.fld 21).toI - 1))] else e
def withL (d l : D) : D := .lst [d.fld 0, d.fld 1, d.fld 2, d.fld 3, d.fld 4, d.fld 5, d.fld 6, d.fld 7, d.fld 8, d.fld 9, d.fld 10, d.fld 11, d.fld 12, d.fld 13, d.fld 14, d.fld 15, d.fld 16, d.fld 17, d.fld 18, l, d.fld 20, d.fld 21]
def mkL (f : Nat → D) (k : Nat) : List D := (List.range k).map f
@[simp] theorem mkL_length (f : Nat → D) (k : Nat) : (mkL f k).length = k := by simp [mkL]
theorem mkL_step {f : Nat → D} {l : List D} {i : Nat} (h : i < l.length) : mkL f i ++ (l.drop i).set 0 (f i) = mkL f (i + 1) ++ l.drop (i + 1) := by
  simp only [mkL, List.range_succ, List.map_append, List.map_cons, List.map_nil, List.append_assoc, List.singleton_append]
  congr 1
  rw [List.drop_eq_getElem_cons h]
  rfl
theorem elem_mkL {f : Nat → D} {d : D} {i : Nat} (h : i < d.toL.length) : (D.lst (mkL f i ++ d.toL.drop i)).elem i = d.elem i := by
  simp [D.elem, List.getElem?_append_right]
theorem elem_mkL_set {f : Nat → D} {d x : D} {i : Nat} (h : i < d.toL.length) : (D.lst (mkL f i ++ (d.toL.drop i).set 0 x)).elem i = x := by
  have hl : 0 < (d.toL.drop i).length := by simp; omega
  show (mkL f i ++ (d.toL.drop i).set 0 x).getD i default = x
  rw [List.getD_eq_getElem?_getD, List.getElem?_append_right (by simp), mkL_length, Nat.sub_self, List.getElem?_set_self hl]
  rfl
theorem mkL_at {f : Nat → D} {d : D} {i : Nat} (h : mkL f d.toL.length = d.toL) (hi : i < d.toL.length) : d.elem i = f i := by
  simp only [D.elem]
  rw [← h]
  simp [mkL, hi]
theorem mkL_elem {f : Nat → D} {k i : Nat} (hi : i < k) : (D.lst (mkL f k)).elem i = f i := by simp [D.elem, mkL, hi]
theorem sumR_le (f : Nat → Nat) {k M : Nat} (h : ∀ i, i < k → f i ≤ M) : sumR f k ≤ k * M := by
  induction k with
  | zero => simp [sumR]
  | succ k ih =>
    have h1 := ih fun i hi => h i (by omega)
    have h2 := h k (by omega)
    rw [sumR, Nat.succ_mul]
    omega
theorem sumR_congr {f g : Nat → Nat} {k : Nat} (h : ∀ i, i < k → f i = g i) : sumR f k = sumR g k := by
  induction k with
  | zero => rfl
  | succ k ih => rw [sumR, sumR, ih fun i hi => h i (by omega), h k (by omega)]
def effMark (m : Int) (q : Nat) : D := .lst [.int m, .int (m + 1), .int (m + 2), .int (m + 3), .int (m + 4), .int (m + 5), .int (m + 6), .int (m + 7), .int (m + 8), .int (m + 9), .int (m + 10), .int (m + 11), .int (m + 12), .int (m + 13), .int (m + 14), .int (m + 15), .int (m + 16), .int (m + 17), .bool ((m + 18).tmod 3 == 0), .lst (markedE (m + 19) q), .int (m + 19 + 7 * q), .int (m + 20 + 7 * q)]
def offE (n : Int) (d : D) (i : Nat) : Int := n + 21 * i + 7 * sumR (innerE d) i
def markEfs (n : Int) (d : D) (k : Nat) : List D := mkL (fun i => effMark (offE n d i) (innerE d i)) k
def endE (n : Int) (d : D) : Int := offE n d d.toL.length
@[simp] theorem markEfs_length (n : Int) (d : D) (k : Nat) : (markEfs n d k).length = k := by simp [markEfs]
theorem innerE_mark {n : Int} {d : D} {k i : Nat} (h : i < k) : innerE (.lst (markEfs n d k)) i = innerE d i := by
  simp only [innerE, markEfs, mkL_elem h]
  simp [effMark, innerE]
theorem smallE_mark {n : Int} {d : D} (h : smallE d) : smallE (.lst (markEfs n d d.toL.length)) := by
  refine ⟨by simpa using h.1, fun i hi => ?_⟩
  have hi' : i < d.toL.length := by simpa using hi
  have := h.2 i hi'
  have e := innerE_mark (n := n) (d := d) hi'
  simp only [innerE] at e
  rw [e]
  exact this
theorem offE_mark {n m : Int} {d : D} {i : Nat} (h : i ≤ d.toL.length) : offE m (.lst (markEfs n d d.toL.length)) i = offE m d i := by
  simp only [offE]
  rw [sumR_congr fun j hj => innerE_mark (n := n) (d := d) (by omega)]
theorem endE_mark {n m : Int} {d : D} : endE m (.lst (markEfs n d d.toL.length)) = endE m d := by
  simp only [endE, toL_lst, markEfs_length]
  exact offE_mark (Nat.le_refl _)
theorem markEfs_mark {n : Int} {d : D} : markEfs n (.lst (markEfs n d d.toL.length)) (D.lst (markEfs n d d.toL.length)).toL.length = (D.lst (markEfs n d d.toL.length)).toL := by
  simp only [toL_lst, markEfs_length]
  conv => lhs; rw [markEfs]
  conv => rhs; rw [markEfs]
  unfold mkL
  apply List.map_congr_left
  intro i hi
  have hi' : i < d.toL.length := by simpa using hi
  rw [offE_mark (by omega), innerE_mark hi']
theorem offE_range {n : Int} {d : D} {i : Nat} (hn : 0 ≤ n ∧ n ≤ 1073741824) (h : smallE d) (hi : i ≤ d.toL.length) : 0 ≤ offE n d i ∧ offE n d i ≤ 100000000000000 := by
  have h1 := sumR_le (innerE d) (k := i) (M := 1048576) fun j hj => by have := h.2 j (by omega); simp only [innerE]; omega
  have h2 := h.1
  simp only [offE]
  omega
theorem offE_succ {n : Int} {d : D} {i : Nat} : offE n d (i + 1) = offE n d i + 21 + 7 * innerE d i := by simp only [offE, sumR]; omega
def pcMark (m : Int) : D := .lst [.int m, .int (m + 1), .int (m + 2), .int (m + 3), .int (m + 4), .int (m + 5), .int (m + 6), .int (m + 7), .int (m + 8), .int (m + 9), .int (m + 10), .bool ((m + 11).tmod 3 == 0), .bool ((m + 12).tmod 3 == 0)]
def sdMark (m : Int) : D := .lst [.int m, .int (m + 1), .bool ((m + 2).tmod 3 == 0)]
def stMark (n : Int) (s : D) : D := .lst [.lst (mkL (fun i => pcMark (n + 13 * i)) (s.fld 0).toL.length), .lst (mkL (fun i => sdMark (n + 13 * (s.fld 0).toL.length + 3 * i)) (s.fld 1).toL.length), s.fld 2, s.fld 3]
def has (l : D) (n : Int) : Bool := !allR (fun i => ((l.elem i).fld 0).toI != n) l.toL.length
def openP (s l e u : D) (i : Nat) : Bool := !has u ((l.elem i).fld 0).toI && fitsE s (l.elem i) e
def openL (s l e u : D) (k : Nat) : List D := ((List.range k).filter (openP s l e u)).map fun i => .lst [(l.elem i).fld 0]
theorem openL_succ (s l e u : D) (k : Nat) : openL s l e u (k + 1) = openL s l e u k ++ if openP s l e u k then [.lst [(l.elem k).fld 0]] else [] := by
  simp only [openL, List.range_succ, List.filter_append, List.map_append]
  cases hp : openP s l e u k <;> simp [hp]
theorem openL_le (s l e u : D) (k : Nat) : (openL s l e u k).length ≤ k := by
  have := List.length_filter_le (openP s l e u) (List.range k)
  simpa [openL] using this
/-- The least class so far (5: none yet) and the effects of that class. -/
def optL (s l e u : D) : Nat → Int × List D
  | 0 => (5, [])
  | k + 1 =>
    if openP s l e u k = false ∨ ((l.elem k).fld 3).toI > (optL s l e u k).1 then optL s l e u k
    else if ((l.elem k).fld 3).toI < (optL s l e u k).1 then (((l.elem k).fld 3).toI, [.lst [(l.elem k).fld 0]])
    else ((optL s l e u k).1, (optL s l e u k).2 ++ [.lst [(l.elem k).fld 0]])
theorem optL_le (s l e u : D) : ∀ k, (optL s l e u k).2.length ≤ k
  | 0 => by simp [optL]
  | k + 1 => by
    have := optL_le s l e u k
    simp only [optL]
    split
    · omega
    · split <;> simp <;> omega
theorem openP_class {s l e u : D} {k : Nat} (h : openP s l e u k = true) : 0 ≤ ((l.elem k).fld 3).toI ∧ ((l.elem k).fld 3).toI ≤ 4 := by
  simp only [openP, fitsE, effectOk, inR, Bool.and_eq_true, decide_eq_true_eq] at h
  omega
theorem optL_none {s l e u : D} : ∀ {k : Nat}, ((optL s l e u k).2 = [] → (optL s l e u k).1 = 5) ∧ ((optL s l e u k).2 ≠ [] → (optL s l e u k).1 ≤ 4)
  | 0 => by simp [optL]
  | k + 1 => by
    have ih := optL_none (s := s) (l := l) (e := e) (u := u) (k := k)
    simp only [optL]
    split
    · exact ih
    · rename_i h
      have hp : openP s l e u k = true := by simpa using fun hc => h (.inl hc)
      have hc := openP_class hp
      split
      · simp; omega
      · rename_i h2
        have h3 : ((l.elem k).fld 3).toI = (optL s l e u k).1 := by
          have : ¬ ((l.elem k).fld 3).toI > (optL s l e u k).1 := fun hx => h (.inr hx)
          omega
        simp
        omega
theorem szS_bound {a b : Nat} (h : ¬ szS (szS 1048576 a) b < 0) : (a : Int) ≤ 1048576 ∧ (b : Int) ≤ 1048576 ∧ szS (szS 1048576 a) b ≤ 1048576 ∧ 0 ≤ szS (szS 1048576 a) b := by
  simp only [szS] at h ⊢
  repeat' split at h
  all_goals (repeat' split)
  all_goals omega
theorem optL_skip {s l e u : D} {k : Nat} (h : openP s l e u k = false) : optL s l e u (k + 1) = optL s l e u k := by simp [optL, h]
theorem optL_gt {s l e u : D} {k : Nat} (h : (optL s l e u k).1 < ((l.elem k).fld 3).toI) : optL s l e u (k + 1) = optL s l e u k := by simp [optL, h]
theorem optL_lt {s l e u : D} {k : Nat} (hp : openP s l e u k = true) (h : ((l.elem k).fld 3).toI < (optL s l e u k).1) : optL s l e u (k + 1) = (((l.elem k).fld 3).toI, [.lst [(l.elem k).fld 0]]) := by
  rw [optL, if_neg (by simp [hp]; omega), if_pos h]
theorem optL_eq {s l e u : D} {k : Nat} (hp : openP s l e u k = true) (h : ((l.elem k).fld 3).toI = (optL s l e u k).1) : optL s l e u (k + 1) = ((optL s l e u k).1, (optL s l e u k).2 ++ [.lst [(l.elem k).fld 0]]) := by
  rw [optL, if_neg (by simp [hp]; omega), if_neg (by omega)]
theorem spent_fld (e : D) (n : Int) : (spent e n).fld 19 = e.fld 19 := by
  simp only [spent]
  repeat' split
  all_goals rfl
@[simp] theorem withL_fld (d l : D) : (withL d l).fld 19 = l := rfl
def updT (a b : D) : D := if 0 ≤ effAt a (b.fld 0).toI then .lst (a.toL.set (effAt a (b.fld 0).toI).toNat b) else a
theorem smallE_upd {a b : D} (h : smallE a) (hb : ((b.fld 19).toL.length : Int) ≤ 1048576) : smallE (updT a b) := by
  simp only [updT]
  split
  · refine ⟨by simpa using h.1, fun i hi => ?_⟩
    have hi' : i < a.toL.length := by simpa using hi
    by_cases hj : (effAt a (b.fld 0).toI).toNat = i
    · rw [hj, elem_set hi']; exact hb
    · have : (D.lst (a.toL.set (effAt a (b.fld 0).toI).toNat b)).elem i = a.elem i := by simp [D.elem, List.getElem?_set_ne hj]
      rw [this]
      exact h.2 i hi'
  · exact h
theorem smallE_zero : smallE (.lst []) := ⟨by simp, fun i hi => by simp at hi⟩
theorem smallE_app {a b : D} (ha : smallE a) (hb : smallE b) (h : (a.toL.length : Int) + b.toL.length ≤ 1048576) : smallE (.lst (a.toL ++ b.toL)) := by
  refine ⟨by simpa using h, fun i hi => ?_⟩
  have hi' : i < a.toL.length + b.toL.length := by simpa using hi
  by_cases hlt : i < a.toL.length
  · have : (D.lst (a.toL ++ b.toL)).elem i = a.elem i := by simp [D.elem, List.getElem?_append_left hlt]
    rw [this]; exact ha.2 i hlt
  · have : (D.lst (a.toL ++ b.toL)).elem i = b.elem (i - a.toL.length) := by simp [D.elem, List.getElem?_append_right (Nat.le_of_not_lt hlt)]
    rw [this]; exact hb.2 _ (by omega)
/-- Every element is one of the other table's. -/
theorem smallE_sub {a b : D} (ha : smallE a) (hl : b.toL.length ≤ a.toL.length) (h : ∀ x ∈ b.toL, x ∈ a.toL) : smallE b := by
  refine ⟨by have := ha.1; omega, fun i hi => ?_⟩
  obtain ⟨j, hj, he⟩ := List.getElem_of_mem (h _ (elem_mem hi))
  have : a.elem j = b.elem i := by rw [← he]; simp [D.elem, hj]
  rw [← this]
  exact ha.2 j hj
theorem smallE_take {a : D} (h : smallE a) (k : Nat) : smallE (.lst (a.toL.take k)) := smallE_sub h (by simp; omega) fun x hx => List.mem_of_mem_take hx
theorem smallE_drop {a : D} (h : smallE a) (k : Nat) : smallE (.lst (a.toL.drop k)) := smallE_sub h (by simp) fun x hx => List.mem_of_mem_drop hx
theorem endE_range {n : Int} {d : D} (hn : 0 ≤ n ∧ n ≤ 1073741824) (h : smallE d) : 0 ≤ endE n d ∧ endE n d ≤ 100000000000000 := offE_range hn h (Nat.le_refl _)
theorem effAt_range (d : D) (n : Int) : -1 ≤ effAt d n ∧ effAt d n < d.toL.length := findR_range _ _
attribute [simp] endE_mark
def natText (n : Nat) : List UInt8 := if n < 10 then [UInt8.ofNat (48 + n)] else natText (n / 10) ++ [UInt8.ofNat (48 + n % 10)]
termination_by n
decreasing_by omega
theorem natText_lt {n : Nat} (h : n < 10) : natText n = [UInt8.ofNat (48 + n)] := by rw [natText, if_pos h]
theorem natText_ge {n : Nat} (h : 10 ≤ n) : natText n = natText (n / 10) ++ [UInt8.ofNat (48 + n % 10)] := by rw [natText, if_neg (by omega)]
theorem natText_len : ∀ (k n : Nat), n < 10 ^ (k + 1) → (natText n).length ≤ k + 1
  | 0, n, h => by rw [natText_lt (by simpa using h)]; simp
  | k + 1, n, h => by
    by_cases hn : n < 10
    · rw [natText_lt hn]; simp
    · have := natText_len k (n / 10) (by rw [Nat.div_lt_iff_lt_mul (by omega)]; rw [Nat.pow_succ] at h; exact h)
      rw [natText_ge (by omega)]
      simp
      omega
theorem natText_small {n : Nat} (h : n ≤ 9223372036854775808) : (natText n).length ≤ 20 := natText_len 19 n (by omega)
theorem natText_ne (n : Nat) : natText n ≠ [] := by
  rw [natText]; split <;> simp
def numL (n : Int) : List UInt8 := if n < 0 then 45 :: natText n.natAbs else natText n.natAbs
def txt (l : List UInt8) : D := .str ⟨⟨l⟩⟩
theorem numL_small {n : Int} (h : -9223372036854775808 ≤ n ∧ n ≤ 9223372036854775807) : (numL n).length ≤ 21 := by
  have := natText_small (n := n.natAbs) (by omega)
  simp only [numL]
  split
  · simp; omega
  · omega
@[simp] theorem bytes_append (a b : List UInt8) : (ByteArray.mk ⟨a⟩) ++ (ByteArray.mk ⟨b⟩) = ByteArray.mk ⟨a ++ b⟩ := by
  apply ByteArray.ext
  simp
@[simp] theorem bytes_size (a : List UInt8) : (ByteArray.mk ⟨a⟩).size = a.length := rfl
@[simp] theorem bytes_toList (a : List UInt8) : (ByteArray.mk ⟨a⟩).data.toList = a := rfl
theorem digit_u8 {d : Nat} (h : d < 10) : UInt8.ofNat (IntKind.u8.wrap (48 + (d : Int))).toNat = UInt8.ofNat (48 + d) := by
  have : IntKind.u8.wrap (48 + (d : Int)) = ((48 + d : Nat) : Int) := by rw [IntKind.wrap_u8]; omega
  rw [this]; rfl
theorem digit_chr {d : Nat} (h : d < 10) : Utf8.encode (48 + (d : Int)) = ⟨⟨[UInt8.ofNat (48 + d)]⟩⟩ := by
  match d, h with
  | 0, _ | 1, _ | 2, _ | 3, _ | 4, _ | 5, _ | 6, _ | 7, _ | 8, _ | 9, _ => rfl
theorem tmod10 (x : Int) : x.tmod 10 = if x < 0 then -((x.natAbs % 10 : Nat) : Int) else ((x.natAbs % 10 : Nat) : Int) := by
  split
  · obtain ⟨y, rfl⟩ : ∃ y, x = -y := ⟨-x, by omega⟩
    rw [Int.neg_tmod, Int.tmod_eq_emod_of_nonneg (by omega)]
    omega
  · rw [Int.tmod_eq_emod_of_nonneg (by omega)]
    omega
theorem tdiv10 (x : Int) : x.tdiv 10 = if x < 0 then -((x.natAbs / 10 : Nat) : Int) else ((x.natAbs / 10 : Nat) : Int) := by
  split
  · obtain ⟨y, rfl⟩ : ∃ y, x = -y := ⟨-x, by omega⟩
    rw [Int.neg_tdiv, Int.tdiv_eq_ediv_of_nonneg (by omega)]
    omega
  · rw [Int.tdiv_eq_ediv_of_nonneg (by omega)]
    omega
def actText (a : D) : List UInt8 :=
  if actOk a = false then [] else if (a.fld 0).toI = 1 then [115, 116, 111, 112] else if (a.fld 0).toI = 2 then [115, 104, 105, 101, 108, 100] else if (a.fld 0).toI = 3 then [109, 111, 114, 101, 32] ++ numL (a.fld 1).toI else if (a.fld 0).toI = 4 then [116, 119, 105, 99, 101] else if (a.fld 0).toI = 5 then [104, 97, 108, 102]
  else if (a.fld 0).toI = 6 then (if (a.fld 2).toI = 0 then [116, 117, 114, 110, 32, 115, 105, 100, 101, 32] ++ numL (a.fld 3).toI else [116, 117, 114, 110, 32, 112, 105, 101, 99, 101, 32] ++ numL (a.fld 2).toI) else if (a.fld 0).toI = 7 then [122, 111, 110, 101, 32] ++ numL (a.fld 4).toI
  else if (a.fld 0).toI = 8 then (if (a.fld 5).toB = true then [101, 110, 116, 101, 114, 32] ++ numL (a.fld 1).toI ++ [32, 98, 101, 110, 116] else [101, 110, 116, 101, 114, 32] ++ numL (a.fld 1).toI) else [112, 97, 114, 116, 115, 32] ++ numL (a.fld 6).toL.length
def eventText (e : D) : List UInt8 :=
  if eventOk e = false then []
  else if (e.fld 0).toI = 1 then (if (e.fld 2).toI = 0 then [104, 117, 114, 116, 32] ++ numL (e.fld 1).toI ++ (32 :: numL (e.fld 4).toI) ++ [32, 115, 105, 100, 101, 32] ++ numL (e.fld 3).toI else [104, 117, 114, 116, 32] ++ numL (e.fld 1).toI ++ (32 :: numL (e.fld 4).toI) ++ [32, 112, 105, 101, 99, 101, 32] ++ numL (e.fld 2).toI)
  else if (e.fld 0).toI = 2 then (if (e.fld 6).toB = true then [109, 111, 118, 101, 32] ++ numL (e.fld 2).toI ++ [32] ++ numL (e.fld 5).toI ++ (32 :: numL (e.fld 4).toI) ++ [32, 98, 101, 110, 116] else [109, 111, 118, 101, 32] ++ numL (e.fld 2).toI ++ [32] ++ numL (e.fld 5).toI ++ (32 :: numL (e.fld 4).toI))
  else if (e.fld 0).toI = 3 then [103, 97, 105, 110, 32] ++ numL (e.fld 3).toI ++ (32 :: numL (e.fld 4).toI) else if (e.fld 0).toI = 4 then [108, 111, 115, 101, 32] ++ numL (e.fld 3).toI ++ (32 :: numL (e.fld 4).toI)
  else if (e.fld 0).toI = 5 then [112, 117, 116, 32] ++ numL (e.fld 2).toI ++ (32 :: numL (e.fld 4).toI) else [99, 117, 116, 32] ++ numL (e.fld 2).toI ++ (32 :: numL (e.fld 4).toI)
theorem bits2_and255 (x : Int) : 0 ≤ bits2 .i64 (· &&& ·) x 255 ∧ bits2 .i64 (· &&& ·) x 255 ≤ 255 := by
  have h : (BitVec.ofInt (IntKind.bits .i64) x &&& BitVec.ofInt (IntKind.bits .i64) 255).toNat ≤ 255 := by
    rw [BitVec.toNat_and]
    refine Nat.le_trans Nat.and_le_right ?_
    decide
  simp only [bits2]
  rw [IntKind.wrap_i64]
  omega
theorem tmod_lt {m n : Int} (h0 : 0 ≤ m) (hn : 0 < n) : 0 ≤ m.tmod n ∧ m.tmod n < n := ⟨Int.tmod_nonneg n h0, Int.tmod_lt_of_pos m hn⟩
theorem mix3 {x y z : Int} (hx : 0 ≤ x) (hx2 : x ≤ 255) (hy : 0 ≤ y) (hy2 : y ≤ 255) (hz : 0 ≤ z) (hz2 : z ≤ 255) : IntKind.i64.wrap (IntKind.i64.wrap (IntKind.i64.wrap (x * 65536) + IntKind.i64.wrap (y * 256)) + z) = x * 65536 + y * 256 + z := by
  rw [IntKind.wrap_i64, IntKind.wrap_i64, IntKind.wrap_i64, IntKind.wrap_i64]
  omega
def oneOf (l : D) (m : Int) : Prop := m ∈ l.toL.map fun e => (e.fld 0).toI
def stateN (a b : Int) (s : D) : Prop := 1 ≤ (s.fld 0).toL.length ∧ ((s.fld 0).toL.length : Int) ≤ a ∧ 1 ≤ (s.fld 1).toL.length ∧ ((s.fld 1).toL.length : Int) ≤ b ∧ ∀ x ∈ (s.fld 0).toL, -1 ≤ (x.fld 2).toI
abbrev stateB (s : D) : Prop := stateN 64 64 s
def effB (e : D) : Prop := ((e.fld 19).toL.length : Int) ≤ 5
def tabN (n : Int) (l : D) : Prop := (l.toL.length : Int) ≤ n ∧ ∀ x ∈ l.toL, effB x
abbrev tabB (l : D) : Prop := tabN 7 l
theorem tabN_app {n m : Int} {l : List D} {x : D} (h : tabN n (.lst l)) (hx : effB x) (hm : n + 1 ≤ m) : tabN m (.lst (l ++ [x])) := by
  refine ⟨?_, fun y hy => ?_⟩
  · have := h.1; simp only [D.toL, List.length_append, List.length_singleton] at *; omega
  · rcases List.mem_append.1 hy with hy | hy
    · exact h.2 y hy
    · simp at hy; subst hy; exact hx
theorem tabN_set {n m : Int} {l : List D} {x : D} {i : Nat} (h : tabN n (.lst l)) (hx : effB x) (hm : n ≤ m) : tabN m (.lst (l.set i x)) := by
  refine ⟨?_, fun y hy => ?_⟩
  · have := h.1; simp only [D.toL, List.length_set] at *; omega
  · rcases List.mem_or_eq_of_mem_set hy with hy | rfl
    · exact h.2 y hy
    · exact hx
theorem tabN_le {n m : Int} {l : D} (h : tabN n l) (hm : n ≤ m) : tabN m l := ⟨Int.le_trans h.1 hm, h.2⟩
theorem tabN_toL {n : Int} {l : D} (h : tabN n l) : tabN n (.lst l.toL) := h
theorem tabB_small {l : D} (h : tabB l) : smallE l := ⟨by have := h.1; omega, fun i hi => by have := h.2 _ (elem_mem hi); simp only [effB] at this; omega⟩
theorem stateN_mk {u v : Int} {ps ss : List D} {a b : D} (h0 : 1 ≤ ps.length) (h1 : (ps.length : Int) ≤ u) (h2 : 1 ≤ ss.length) (h3 : (ss.length : Int) ≤ v) (h : ∀ x ∈ ps, -1 ≤ (x.fld 2).toI) : stateN u v (.lst [.lst ps, .lst ss, a, b]) := ⟨h0, h1, h2, h3, h⟩
theorem stateB_eta {u v : Int} {s x y : D} (h : stateN u v s) (hu : u ≤ 64) (hv : v ≤ 64) : stateB (.lst [s.fld 0, s.fld 1, x, y]) := by
  obtain ⟨h1, h2, h3, h4, h5⟩ := h
  exact ⟨h1, Int.le_trans h2 hu, h3, Int.le_trans h4 hv, h5⟩
theorem stateB_0 {u v : Int} {s t x y : D} (h : stateN u v s) (hv : v ≤ 64) (h0 : 1 ≤ t.toL.length) (h1 : (t.toL.length : Int) ≤ 64) (h2 : ∀ x ∈ t.toL, -1 ≤ (x.fld 2).toI) : stateB (.lst [t, s.fld 1, x, y]) := ⟨h0, h1, h.2.2.1, Int.le_trans h.2.2.2.1 hv, h2⟩
theorem stateB_1 {u v : Int} {s t x y : D} (h : stateN u v s) (hu : u ≤ 64) (h0 : 1 ≤ t.toL.length) (h1 : (t.toL.length : Int) ≤ 64) : stateB (.lst [s.fld 0, t, x, y]) := ⟨h.1, Int.le_trans h.2.1 hu, h0, h1, h.2.2.2.2⟩
theorem sides_app {ps : List D} {x : D} (h : ∀ x ∈ ps, -1 ≤ (x.fld 2).toI) (hx : -1 ≤ (x.fld 2).toI) : ∀ y ∈ ps ++ [x], -1 ≤ (y.fld 2).toI := fun y hy => by
  rcases List.mem_append.1 hy with hy | hy
  · exact h y hy
  · simp at hy; subst hy; exact hx
theorem sides_set {ps : List D} {x : D} {i : Nat} (h : ∀ x ∈ ps, -1 ≤ (x.fld 2).toI) (hx : -1 ≤ (x.fld 2).toI) : ∀ y ∈ ps.set i x, -1 ≤ (y.fld 2).toI := fun y hy => by
  rcases List.mem_or_eq_of_mem_set hy with hy | rfl
  · exact h y hy
  · exact hx
theorem okD_int {k : IntKind} {n : Int} : CK.okD (.int k) (.int n) ↔ inK k n = true := by simp [CK.okD]
theorem okD_bool {b : Bool} : CK.okD .bool (.bool b) ↔ True := by simp [CK.okD]
theorem tabN_app3 {n m : Int} {l : List D} {x y z : D} (h : tabN n (.lst l)) (hx : effB x) (hy : effB y) (hz : effB z) (hm : n + 3 ≤ m) : tabN m (.lst (l ++ [x, y, z])) := by
  have := tabN_app (m := m) (tabN_app (m := n + 2) (tabN_app (m := n + 1) h hx (by omega)) hy (by omega)) hz (by omega)
  simpa using this
theorem upto_range (n : Int) : 0 ≤ upto n 2147483647 ∧ upto n 2147483647 ≤ 2147483647 := by
  simp only [upto]; split <;> (try split) <;> omega
theorem upto_rangeB (n b : Int) (h : 0 ≤ b) : 0 ≤ upto n b ∧ upto n b ≤ b := by
  simp only [upto]; grind
theorem actOk_more {a : D} (h : (a.fld 0).toI = 3) (h2 : actOk a = true) : 1 ≤ (a.fld 1).toI ∧ (a.fld 1).toI ≤ 2147483647 := by
  simp [actOk, h, inR] at h2; omega
theorem bound_id {u : Int} (h : -2147483647 ≤ u) (h2 : u ≤ 2147483647) : bound u = u := by
  simp only [bound]; rw [if_neg (by omega), if_neg (by omega)]
theorem bound_up {u : Int} (h : -2147483647 ≤ u) : bound u = if u > 2147483647 then 2147483647 else u := by
  simp only [bound]; split
  · rfl
  · rw [if_neg (by omega)]
theorem amount_plus {a : D} {n : Int} (h : (a.fld 0).toI = 3) (h2 : actOk a = true) : amount a n = (if upto n 2147483647 + (a.fld 1).toI > 2147483647 then 2147483647 else upto n 2147483647 + (a.fld 1).toI) := by
  have h3 := actOk_more h h2
  have h4 := upto_range n
  simp [amount, h, plus]
  generalize upto n 2147483647 = u at *
  have hw : IntKind.i64.wrap (u + (a.fld 1).toI) = u + (a.fld 1).toI := by simp only [IntKind.wrap_i64]; omega
  rw [bound_id (u := u) (by omega) (by omega), bound_id (u := (a.fld 1).toI) (by omega) (by omega), hw, bound_up (by omega)]
theorem amount_twice {a : D} {n : Int} (h : (a.fld 0).toI = 4) : amount a n = (if 2 * upto n 2147483647 > 2147483647 then 2147483647 else 2 * upto n 2147483647) := by
  have h4 := upto_range n
  simp [amount, h, twice]
  generalize upto n 2147483647 = u at *
  have hw : IntKind.i64.wrap (2 * u) = 2 * u := by simp only [IntKind.wrap_i64]; omega
  rw [bound_id (u := u) (by omega) (by omega), hw, bound_up (by omega)]
theorem amount_half {a : D} {n : Int} (h : (a.fld 0).toI = 5) : amount a n = upto n 2147483647 / 2 := by
  have h4 := upto_range n
  simp [amount, h, half]
  generalize upto n 2147483647 = u at *
  rw [bound_id (u := u) (by omega) (by omega), Int.tdiv_eq_ediv_of_nonneg (by omega)]
  simp only [IntKind.wrap_i64]; omega
theorem amount_range {a : D} (n : Int) (h : actOk a = true) : 0 ≤ amount a n ∧ amount a n ≤ 2147483647 := by
  have h4 := upto_range n
  by_cases h1 : (a.fld 0).toI = 3
  · have h3 := actOk_more h1 h
    rw [amount_plus h1 h]; split <;> omega
  by_cases h1 : (a.fld 0).toI = 4
  · rw [amount_twice h1]; split <;> omega
  by_cases h1 : (a.fld 0).toI = 5
  · rw [amount_half h1]; omega
  simp only [amount]
  grind
theorem amount_up {a : D} (n : Int) : ((¬(a.fld 0).toI = 3 ∨ actOk a = false) ∨ upto n 2147483647 < amount a n) ∨ upto n 2147483647 = 2147483647 ∧ amount a n = upto n 2147483647 := by
  by_cases h1 : (a.fld 0).toI = 3
  · by_cases h2 : actOk a = true
    · have h3 := actOk_more h1 h2
      have h4 := upto_range n
      rw [amount_plus h1 h2]; split <;> omega
    · simp at h2; simp [h2]
  · simp [h1]
theorem amount_th {a b : D} (n : Int) (ha : (a.fld 0).toI = 4) (hb : (b.fld 0).toI = 5) : amount a n = 2147483647 ∨ amount b (amount a n) = upto n 2147483647 := by
  have h4 := upto_range n
  rw [amount_half hb, amount_twice ha]
  generalize upto n 2147483647 = u at *
  split
  · simp
  · right; simp only [upto]; rw [if_neg (by omega), if_neg (by omega)] <;> (try split) <;> omega
theorem bits2_and6 {a b : Int} (h0 : 0 ≤ a) (h1 : a ≤ 63) (h2 : 0 ≤ b) (h3 : b ≤ 63) : bits2 .i64 (· &&& ·) a b = ((a.toNat &&& b.toNat : Nat) : Int) := by
  obtain ⟨x, rfl⟩ := Int.eq_ofNat_of_zero_le h0
  obtain ⟨y, rfl⟩ := Int.eq_ofNat_of_zero_le h2
  have hx : x < 64 := by omega
  have hy : y < 64 := by omega
  have h : ∀ x : Fin 64, ∀ y : Fin 64, bits2 .i64 (· &&& ·) (x.val : Int) (y.val : Int) = (((x.val : Int).toNat &&& (y.val : Int).toNat : Nat) : Int) := by decide +kernel
  exact h ⟨x, hx⟩ ⟨y, hy⟩
theorem patOk_traits {p : D} (h : patOk p = true) : 0 ≤ (p.fld 3).toI ∧ (p.fld 3).toI ≤ 63 := by
  simp [patOk, inR] at h; omega
theorem bits2_zero {a : Int} (h0 : 0 ≤ a) (h1 : a ≤ 63) : bits2 .i64 (· &&& ·) a 0 = 0 := by
  rw [bits2_and6 h0 h1 (by omega) (by omega)]; simp
theorem narrower_self (p : D) : narrower p p = patOk p := by
  simp only [narrower, demands]
  cases h : patOk p
  · rfl
  · have ht := patOk_traits h
    rw [bits2_and6 ht.1 ht.2 ht.1 ht.2]
    simp
    omega
theorem narrower_ok {p q : D} (h : narrower p q = true) : patOk p = true ∧ patOk q = true := by
  simp [narrower] at h; simp [h]
def wide (q : D) : D := .lst [q.fld 0, .int 0, q.fld 2, .int 0, q.fld 4, .int 0, q.fld 6]
theorem wide_ok {q : D} (h : patOk q = true) : patOk (wide q) = true := by
  simp [patOk, inR, wide] at *
  omega
theorem narrower_wide {p q : D} (h : narrower p q = true) : narrower p (wide q) = true ∧ narrower q (wide q) = true := by
  obtain ⟨hp, hq⟩ := narrower_ok h
  have hw := wide_ok hq
  have tp := patOk_traits hp
  have tq := patOk_traits hq
  have b1 := bits2_zero tp.1 tp.2
  have b2 := bits2_zero tq.1 tq.2
  have l1 : 0 ≤ (p.fld 5).toI := by simp [patOk, inR] at hp; omega
  have l2 : 0 ≤ (q.fld 5).toI := by simp [patOk, inR] at hq; omega
  simp only [narrower, hp, hq, hw] at *
  simp [wide, demands] at *
  simp_all
theorem narrower_anti {p q : D} (h : narrower p q = true) (h2 : narrower q p = true) : (p.fld 0).toI = (q.fld 0).toI ∧ (p.fld 1).toI = (q.fld 1).toI ∧ (p.fld 2).toI = (q.fld 2).toI ∧ (p.fld 3).toI = (q.fld 3).toI ∧ (p.fld 4).toI = (q.fld 4).toI ∧ (p.fld 5).toI = (q.fld 5).toI ∧ (p.fld 6).toI = (q.fld 6).toI := by
  obtain ⟨hp, hq⟩ := narrower_ok h
  have tp := patOk_traits hp
  have tq := patOk_traits hq
  simp only [narrower, demands, hp, hq, bits2_and6 tp.1 tp.2 tq.1 tq.2, bits2_and6 tq.1 tq.2 tp.1 tp.2] at h h2
  rw [Nat.and_comm] at h2
  simp at h h2
  omega
theorem narrower_wide' (p q : D) : narrower p q = false ∨ narrower p (wide q) = true ∧ narrower q (wide q) = true := by
  cases h : narrower p q
  · simp
  · right; exact narrower_wide h
theorem narrower_anti' (p q : D) : (narrower p q = false ∨ narrower q p = false) ∨ (p.fld 0).toI = (q.fld 0).toI ∧ (p.fld 1).toI = (q.fld 1).toI ∧ (p.fld 2).toI = (q.fld 2).toI ∧ (p.fld 3).toI = (q.fld 3).toI ∧ (p.fld 4).toI = (q.fld 4).toI ∧ (p.fld 5).toI = (q.fld 5).toI ∧ (p.fld 6).toI = (q.fld 6).toI := by
  cases h : narrower p q <;> cases h2 : narrower q p <;> simp
  exact narrower_anti h h2
theorem spent_fld2 (e : D) (n : Int) (i : Nat) (h : i < 21) : (spent e n).fld i = e.fld i := by
  have h' : i = 0 ∨ i = 1 ∨ i = 2 ∨ i = 3 ∨ i = 4 ∨ i = 5 ∨ i = 6 ∨ i = 7 ∨ i = 8 ∨ i = 9 ∨ i = 10 ∨ i = 11 ∨ i = 12 ∨ i = 13 ∨ i = 14 ∨ i = 15 ∨ i = 16 ∨ i = 17 ∨ i = 18 ∨ i = 19 ∨ i = 20 := by omega
  rcases h' with rfl | rfl | rfl | rfl | rfl | rfl | rfl | rfl | rfl | rfl | rfl | rfl | rfl | rfl | rfl | rfl | rfl | rfl | rfl | rfl | rfl <;> (simp only [spent]; repeat' split) <;> rfl
theorem sameEv_refl (a : D) : sameEv a a = true := by simp [sameEv]
theorem sameEvs_refl (a : D) : sameEvs a a = true := by
  simp only [sameEvs, decide_true, Bool.true_and]
  exact allR_true fun j _ => sameEv_refl _
theorem sameEffect_refl (a : D) : sameEffect a a = true := by
  simp [sameEffect, sameEvs_refl]
def left' (e : D) (n : Int) : Int := if (e.fld 13).toI = 2 then upto (less (e.fld 21).toI n) 2147483647 else if (e.fld 21).toI > 0 then IntKind.i64.wrap ((e.fld 21).toI - 1) else (e.fld 21).toI
theorem spent_left (e : D) (n : Int) : ((spent e n).fld 21).toI = left' e n := by
  simp only [spent, left']
  repeat' split
  all_goals rfl
theorem effectOk_left {e : D} (h : effectOk e = true) : -1 ≤ (e.fld 21).toI ∧ (e.fld 21).toI ≤ 2147483647 ∧ ((e.fld 13).toI = 2 → 0 ≤ (e.fld 21).toI) := by
  simp [effectOk, inR] at h
  omega
theorem less_in {a n : Int} (h0 : 0 ≤ a) (h1 : a ≤ 2147483647) (h2 : 0 ≤ n) (h3 : n ≤ 2147483647) : less a n = a - n := by
  simp only [less]
  rw [bound_id (u := a) (by omega) (by omega), bound_id (u := n) (by omega) (by omega)]
  have hw : IntKind.i64.wrap (a - n) = a - n := by simp only [IntKind.wrap_i64]; omega
  rw [hw, bound_id (by omega) (by omega)]
theorem left_ok {e : D} {n : Int} (h : effectOk e = true) (h2 : 0 ≤ n) (h3 : n ≤ 2147483647) : -1 ≤ left' e n ∧ left' e n ≤ 2147483647 ∧ ((e.fld 13).toI = 2 → 0 ≤ left' e n) ∧ left' e n ≤ (e.fld 21).toI := by
  obtain ⟨g1, g2, g3⟩ := effectOk_left h
  simp only [left']
  split
  · next hk =>
    have g3 := g3 hk
    rw [less_in g3 g2 h2 h3]
    have := upto_range ((e.fld 21).toI - n)
    refine ⟨by omega, by omega, fun _ => by omega, ?_⟩
    simp only [upto]; grind
  · next hk =>
    split
    · have hw : IntKind.i64.wrap ((e.fld 21).toI - 1) = (e.fld 21).toI - 1 := by simp only [IntKind.wrap_i64]; omega
      rw [hw]; exact ⟨by omega, by omega, fun h => absurd h hk, by omega⟩
    · exact ⟨g1, g2, g3, by omega⟩
theorem effectOk_spent {e : D} {n : Int} (h : effectOk e = true) (h2 : 0 ≤ n) (h3 : n ≤ 2147483647) : effectOk (.lst [e.fld 0, e.fld 1, e.fld 2, e.fld 3, e.fld 4, e.fld 5, e.fld 6, e.fld 7, e.fld 8, e.fld 9, e.fld 10, e.fld 11, e.fld 12, e.fld 13, e.fld 14, e.fld 15, e.fld 16, e.fld 17, e.fld 18, e.fld 19, e.fld 20, (spent e n).fld 21]) = true := by
  obtain ⟨g1, g2, g3, g4⟩ := left_ok h h2 h3
  rw [← spent_left e n] at g1 g2 g3
  have k : ∀ x : D, effectOk (.lst [e.fld 0, e.fld 1, e.fld 2, e.fld 3, e.fld 4, e.fld 5, e.fld 6, e.fld 7, e.fld 8, e.fld 9, e.fld 10, e.fld 11, e.fld 12, e.fld 13, e.fld 14, e.fld 15, e.fld 16, e.fld 17, e.fld 18, e.fld 19, e.fld 20, x]) =
    (inR (e.fld 0).toI 1 99 && inR (e.fld 1).toI 0 2 && inR (e.fld 2).toI 0 99 && inR (e.fld 3).toI 0 4 && inR (e.fld 20).toI (-1) 9999 && inR x.toI (-1) 2147483647 &&
  !((e.fld 3).toI == 0 && (e.fld 2).toI == 0 || (e.fld 13).toI == 2 && decide (x.toI < 0)) && patOk (patOf e) && guardOk (grdOf e) && actOk (actOf e) && actFits (actOf e) (e.fld 4).toI) := fun _ => rfl
  rw [k]
  have h' := h
  simp only [effectOk, Bool.and_eq_true] at h' ⊢
  obtain ⟨⟨⟨⟨⟨⟨⟨⟨⟨⟨a1, a2⟩, a3⟩, a4⟩, a5⟩, a6⟩, a7⟩, a8⟩, a9⟩, a10⟩, a11⟩ := h'
  refine ⟨⟨⟨⟨⟨⟨⟨⟨⟨⟨a1, a2⟩, a3⟩, a4⟩, a5⟩, ?_⟩, ?_⟩, a8⟩, a9⟩, a10⟩, a11⟩
  · simp [inR]; omega
  · simp at a7 ⊢; omega
theorem spent_step (e : D) (n : Int) : ((e.fld 13).toI = 2 ∨ ((spent e n).fld 21).toI = (e.fld 21).toI) ∨ ((spent e n).fld 21).toI = IntKind.i64.wrap ((e.fld 21).toI - 1) := by
  rw [spent_left]; simp only [left']
  split
  · simp_all
  · split <;> simp
theorem spent_shield {e : D} {n : Int} (h : effectOk e = true) (h2 : 0 ≤ n) (h3 : n ≤ 2147483647) : ¬(e.fld 13).toI = 2 ∨ ((spent e n).fld 21).toI = upto (IntKind.i64.wrap ((e.fld 21).toI - n)) (e.fld 21).toI := by
  by_cases hk : (e.fld 13).toI = 2
  · right
    obtain ⟨g1, g2, g3⟩ := effectOk_left h
    have g3 := g3 hk
    have hw : IntKind.i64.wrap ((e.fld 21).toI - n) = (e.fld 21).toI - n := by simp only [IntKind.wrap_i64]; omega
    rw [spent_left, hw]; simp only [left', if_pos hk]
    rw [less_in g3 g2 h2 h3]
    simp only [upto]; grind
  · exact .inl hk
theorem spent_same (e : D) : sameEffect (.lst [e.fld 0, e.fld 1, e.fld 2, e.fld 3, e.fld 4, e.fld 5, e.fld 6, e.fld 7, e.fld 8, e.fld 9, e.fld 10, e.fld 11, e.fld 12, e.fld 13, e.fld 14, e.fld 15, e.fld 16, e.fld 17, e.fld 18, e.fld 19, e.fld 20, e.fld 21]) e = true := sameEffect_refl e

end Go.Proofs.Ytammagpahfmenaa
