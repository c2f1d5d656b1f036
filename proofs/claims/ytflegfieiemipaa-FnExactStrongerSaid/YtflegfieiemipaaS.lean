/- What the functions compute, as functions on data. -/
import Derived.Test.YtflegfieiemipaaE6
namespace Go.Proofs.Ytflegfieiemipaa
open Go.Proofs.Ytflegfieiemipaa.Eng
abbrev evK : List CK := [.int .i64, .int .i64, .int .i64, .int .i64, .int .i64, .int .i64, .bool]
def gone (d : D) : Bool := (d.fld 4).toI == 0 && (d.fld 0).toI != 2
def inR (a b c : Int) : Bool := decide (b ≤ a) && decide (a ≤ c)
def bound (a : Int) : Int := if a > 2147483647 then 2147483647 else if a < -2147483647 then -2147483647 else a
def upto (a b : Int) : Int := if (if b < a then b else a) < 0 then 0 else if b < a then b else a
def guardOk (d : D) : Bool :=
  if (d.fld 0).toI = 0 ∨ (d.fld 0).toI = 3 then (d.fld 1).toI == 0 else if (d.fld 0).toI = 1 then inR (d.fld 1).toI (-2147483647) 2147483647
  else if (d.fld 0).toI = 2 ∨ (d.fld 0).toI = 4 then inR (d.fld 1).toI 0 8 else false
def stronger (a b : D) : Bool :=
  guardOk a && guardOk b && ((b.fld 0).toI == 0 || (a.fld 0).toI == (b.fld 0).toI && (if (a.fld 0).toI = 1 then decide ((a.fld 1).toI ≤ (b.fld 1).toI) else decide ((b.fld 1).toI ≤ (a.fld 1).toI)))
def patOk (d : D) : Bool :=
  inR (d.fld 0).toI 1 6 && inR (d.fld 1).toI 0 2 && inR (d.fld 2).toI 0 99 && inR (d.fld 3).toI 0 63 && inR (d.fld 4).toI 0 99 && inR (d.fld 5).toI 0 2147483647 && inR (d.fld 6).toI 0 4 &&
  !((d.fld 0).toI != 1 && ((d.fld 2).toI != 0 || (d.fld 3).toI != 0) || (d.fld 0).toI != 2 && (d.fld 6).toI != 0) && ((d.fld 4).toI == 0 || (d.fld 0).toI != 3 && (d.fld 0).toI != 4)
def demands (a b : Int) : Bool := b == 0 || a == b
def narrower (a b : D) : Bool :=
  patOk a && patOk b && (a.fld 0).toI == (b.fld 0).toI && demands (a.fld 1).toI (b.fld 1).toI && demands (a.fld 2).toI (b.fld 2).toI && demands (a.fld 4).toI (b.fld 4).toI && demands (a.fld 6).toI (b.fld 6).toI &&
  bits2 .i64 (· &&& ·) (a.fld 3).toI (b.fld 3).toI == (b.fld 3).toI && decide ((b.fld 5).toI ≤ (a.fld 5).toI)
def marked (n : Int) (l : List D) : List D := (List.range l.length).map fun (i : Nat) => .lst [.int (n + i)]

end Go.Proofs.Ytflegfieiemipaa
