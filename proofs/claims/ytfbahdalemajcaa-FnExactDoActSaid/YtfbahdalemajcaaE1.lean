/- The engine of this claim: a symbolic executor over the model and the proof that what it says of a function is so. Part E1. -/
import Derived.Orders
import Derived.Below
/-
  The engine, first part: plain data, symbolic expressions and values, the trees of what is left to show, and the executor that turns a function's code into such a tree. Definitions alone.
-/
namespace Go.Proofs.Ytfbahdalemajcaa.Eng

/-! ### plain data -/
inductive D where
  | int (n : Int)
  | bool (b : Bool)
  | str (s : ByteArray)
  | lst (l : List D)
instance : Inhabited D := ⟨.int 0⟩
def D.toI : D → Int
  | .int n => n
  | _ => 0
def D.toB : D → Bool
  | .bool b => b
  | _ => false
def D.toS : D → ByteArray
  | .str s => s
  | _ => ByteArray.empty
def D.toL : D → List D
  | .lst l => l
  | _ => []
def D.fld (d : D) (c : Nat) : D := d.toL.getD c default
def D.elem (d : D) (i : Nat) : D := d.toL.getD i default

/-! ### expressions -/
inductive O1 where
  | not | neg (k : IntKind) | conv (k : IntKind) | len | slen | fld (c : Nat) | chr | b2s
  deriving DecidableEq
inductive O2 where
  | add (k : IntKind) | sub (k : IntKind) | mul (k : IntKind) | quo (k : IntKind) | rem
  | and (k : IntKind) | or (k : IntKind) | xor (k : IntKind) | shl (k : IntKind) | shr (k : IntKind)
  | eq | ne | lt | le | gt | ge | max | min
  | beq | bne | band | bor
  | seq | sne | scat | sfits | sidx
  | idx | app | take | drop | cons | rep | fits (bytes : Nat)
  deriving DecidableEq
inductive O3 where
  | ite | setE | setC (c : Nat) | sub
  deriving DecidableEq
inductive X where
  | var (i : Nat)
  | int (n : Int)
  | bool (b : Bool)
  | str (s : List UInt8)
  | nil
  | o1 (o : O1) (x : X)
  | o2 (o : O2) (x y : X)
  | o3 (o : O3) (x y z : X)
  deriving DecidableEq

def O1.den : O1 → D → D
  | .not, d => .bool (!d.toB)
  | .neg k, d => .int (k.wrap (0 - d.toI))
  | .conv k, d => .int (k.wrap d.toI)
  | .len, d => .int d.toL.length
  | .slen, d => .int d.toS.size
  | .fld c, d => d.fld c
  | .chr, d => .str (Utf8.encode d.toI)
  | .b2s, d => .str ⟨⟨d.toL.map fun e => UInt8.ofNat (e.fld 0).toI.toNat⟩⟩
def bits2 (k : IntKind) (f : BitVec k.bits → BitVec k.bits → BitVec k.bits) (x y : Int) : Int := k.wrap (f (BitVec.ofInt k.bits x) (BitVec.ofInt k.bits y)).toNat
def O2.den : O2 → D → D → D
  | .add k, x, y => .int (k.wrap (x.toI + y.toI))
  | .sub k, x, y => .int (k.wrap (x.toI - y.toI))
  | .mul k, x, y => .int (k.wrap (x.toI * y.toI))
  | .quo k, x, y => .int (k.wrap (x.toI.tdiv y.toI))
  | .rem, x, y => .int (x.toI.tmod y.toI)
  | .and k, x, y => .int (bits2 k (· &&& ·) x.toI y.toI)
  | .or k, x, y => .int (bits2 k (· ||| ·) x.toI y.toI)
  | .xor k, x, y => .int (bits2 k (· ^^^ ·) x.toI y.toI)
  | .shl k, x, y => .int (k.wrap (x.toI * 2 ^ (Nat.min y.toI.toNat k.bits)))
  | .shr k, x, y => .int (x.toI.fdiv (2 ^ (Nat.min y.toI.toNat k.bits)))
  | .eq, x, y => .bool (x.toI == y.toI)
  | .ne, x, y => .bool (x.toI != y.toI)
  | .lt, x, y => .bool (decide (x.toI < y.toI))
  | .le, x, y => .bool (decide (x.toI ≤ y.toI))
  | .gt, x, y => .bool (decide (x.toI > y.toI))
  | .ge, x, y => .bool (decide (x.toI ≥ y.toI))
  | .max, x, y => .int (if y.toI > x.toI then y.toI else x.toI)
  | .min, x, y => .int (if y.toI < x.toI then y.toI else x.toI)
  | .beq, x, y => .bool (x.toB == y.toB)
  | .bne, x, y => .bool (x.toB != y.toB)
  | .band, x, y => .bool (x.toB && y.toB)
  | .bor, x, y => .bool (x.toB || y.toB)
  | .seq, x, y => .bool (x.toS.toList == y.toS.toList)
  | .sne, x, y => .bool (!(x.toS.toList == y.toS.toList))
  | .scat, x, y => .str (x.toS ++ y.toS)
  | .sfits, x, y => .bool (decide (x.toS.size + y.toS.size ≤ 9223372036854775807))
  | .sidx, x, y => .int (x.toS.data.toList.getD y.toI.toNat 0).toNat
  | .idx, x, y => x.elem y.toI.toNat
  | .app, x, y => .lst (x.toL ++ y.toL)
  | .take, x, y => .lst (x.toL.take y.toI.toNat)
  | .drop, x, y => .lst (x.toL.drop y.toI.toNat)
  | .cons, x, y => .lst (x :: y.toL)
  | .rep, x, y => .lst (List.replicate x.toI.toNat y)
  | .fits b, x, y => .bool (decide ((x.toI + y.toI) * b ≤ 140737488355328))
def O3.den : O3 → D → D → D → D
  | .ite, c, x, y => if c.toB then x else y
  | .setE, l, i, e => .lst (l.toL.set i.toI.toNat e)
  | .setC c, l, i, v => .lst (l.toL.set i.toI.toNat (.lst ((l.elem i.toI.toNat).toL.set c v)))
  | .sub, s, i, j => .str (s.toS.extract i.toI.toNat j.toI.toNat)
def X.den (ρ : List D) : X → D
  | .var i => ρ.getD i default
  | .int n => .int n
  | .bool b => .bool b
  | .str l => .str ⟨⟨l⟩⟩
  | .nil => .lst []
  | .o1 o x => o.den (x.den ρ)
  | .o2 o x y => o.den (x.den ρ) (y.den ρ)
  | .o3 o x y z => o.den (x.den ρ) (y.den ρ) (z.den ρ)
/-- The least number above every variable's. -/
def X.top : X → Nat
  | .var i => i + 1
  | .int _ | .bool _ | .str _ | .nil => 0
  | .o1 _ x => x.top
  | .o2 _ x y => Nat.max x.top y.top
  | .o3 _ x y z => Nat.max x.top (Nat.max y.top z.top)
def X.fld (c : Nat) (x : X) : X := .o1 (.fld c) x
def X.len (x : X) : X := .o1 .len x
/-- A list of expressions as one expression. -/
def X.many : List X → X
  | [] => .nil
  | x :: l => .o2 .cons x (X.many l)
def X.mkIte (c x y : X) : X :=
  match y with
  | .bool false => .o2 .band c x
  | _ => match x with
    | .bool true => .o2 .bor c y
    | _ => .o3 .ite c x y
abbrev Conds := List (X × Bool)
def Conds.den (ρ : List D) : Conds → Prop
  | [] => True
  | (x, p) :: g => (x.den ρ).toB = p ∧ Conds.den ρ g
def Conds.top : Conds → Nat
  | [] => 0
  | (x, _) :: g => Nat.max x.top (Conds.top g)

/-- Is the number one of its kind? -/
def inK (k : IntKind) (n : Int) : Bool := decide (k.min ≤ n) && decide (n ≤ k.max)

/-! ### kinds of cells -/
inductive CK where
  | int (k : IntKind)
  | bool
  | str
  | sl (ks : List CK)
instance : Inhabited CK := ⟨.bool⟩
mutual
def CK.beq : CK → CK → Bool
  | .int a, .int b => a == b
  | .bool, .bool => true
  | .str, .str => true
  | .sl a, .sl b => CK.beqs a b
  | _, _ => false
def CK.beqs : List CK → List CK → Bool
  | [], [] => true
  | a :: l, b :: m => CK.beq a b && CK.beqs l m
  | _, _ => false
end
def CK.flat : CK → Bool
  | .sl _ => false
  | _ => true
/-- Slices of bytes come from the call's own argument: they lie in the memory that never changes. -/
def CK.glob (ks : List CK) : Bool := CK.beqs ks [.int .u8]

/-! ### symbolic values -/
/-- Where a read-only slice lies: in memory that does not change (the never changing part?), or inside an owned row, as it is now. -/
inductive Src where
  | st (gl : Bool)
  | row (id : Nat)
  deriving DecidableEq
inductive SV where
  | num (k : IntKind) (x : X)
  | boo (x : X)
  | txt (x : X)
  | sl (src : Src) (ks : List CK) (x : X)
  | agg (cs : List SV)
  | tup (cs : List SV)
  | bp (id off : Nat)
  | ep (src : Src) (ks : List CK) (e : X) (off : Nat)
  | ov (id : Nat) (pre : Option X)
  | ow (id : Nat) (lo hi : X)
  | nv (id : Nat) (i : X) (c : Nat)
  | oep (id : Nat) (i : X) (off : Nat)
  | clo (f : Nat) (caps : List SV)
  | clop (j : Nat)
  | nilsl
  | ai (k : IntKind)
  | an
  | top
instance : Inhabited SV := ⟨.top⟩
mutual
def SV.beq : SV → SV → Bool
  | .num k x, .num k' x' => k == k' && x == x'
  | .boo x, .boo x' => x == x'
  | .txt x, .txt x' => x == x'
  | .sl s ks x, .sl s' ks' x' => s == s' && CK.beqs ks ks' && x == x'
  | .agg cs, .agg cs' => SV.beqs cs cs'
  | .tup cs, .tup cs' => SV.beqs cs cs'
  | .bp id off, .bp id' off' => id == id' && off == off'
  | .ep s ks x o, .ep s' ks' x' o' => s == s' && CK.beqs ks ks' && x == x' && o == o'
  | .ov id p, .ov id' p' => id == id' && p == p'
  | .ow id x y, .ow id' x' y' => id == id' && x == x' && y == y'
  | .nv id x c, .nv id' x' c' => id == id' && x == x' && c == c'
  | .oep id x o, .oep id' x' o' => id == id' && x == x' && o == o'
  | .clo f cs, .clo f' cs' => f == f' && SV.beqs cs cs'
  | .clop j, .clop j' => j == j'
  | .nilsl, .nilsl => true
  | .ai k, .ai k' => k == k'
  | .an, .an => true
  | .top, .top => true
  | _, _ => false
def SV.beqs : List SV → List SV → Bool
  | [], [] => true
  | a :: l, b :: m => SV.beq a b && SV.beqs l m
  | _, _ => false
end
mutual
/-- The least number above every variable's. -/
def SV.vtop : SV → Nat
  | .num _ x | .boo x | .txt x | .sl _ _ x | .ep _ _ x _ | .oep _ x _ | .nv _ x _ => x.top
  | .ow _ x y => Nat.max x.top y.top
  | .ov _ (some x) => x.top
  | .agg cs | .tup cs | .clo _ cs => SV.vtops cs
  | _ => 0
def SV.vtops : List SV → Nat
  | [] => 0
  | a :: l => Nat.max a.vtop (SV.vtops l)
end
mutual
/-- The value, but for what speaks of row 'j' (only of its content as it was: 'all' is false). -/
def SV.kill (j : Nat) (all : Bool) : SV → SV
  | .sl (.row id) ks x => bif Nat.beq id j then .top else .sl (.row id) ks x
  | .ep (.row id) ks e o => bif Nat.beq id j then .top else .ep (.row id) ks e o
  | .ov id p => bif Nat.beq id j && all then .top else .ov id p
  | .oep id i o => bif Nat.beq id j && all then .top else .oep id i o
  | .ow id l h => bif Nat.beq id j && all then .top else .ow id l h
  | .nv id i c => bif Nat.beq id j then .top else .nv id i c
  | .agg cs => .agg (SV.kills j all cs)
  | .tup cs => .tup (SV.kills j all cs)
  | .clo f cs => .clo f (SV.kills j all cs)
  | v => v
def SV.kills (j : Nat) (all : Bool) : List SV → List SV
  | [] => []
  | a :: l => SV.kill j all a :: SV.kills j all l
end
def SV.cells : SV → List SV
  | .agg cs => cs
  | .top | .tup _ | .clop _ => []
  | v => [v]
/-- The value of one cell. -/
def SV.one : SV → Bool
  | .agg _ | .tup _ | .top | .clop _ => false
  | _ => true
structure Row where
  ks : List CK
  c : X
def Row.beq (a b : Row) : Bool := CK.beqs a.ks b.ks && a.c == b.c
structure St where
  slots : List (Nat × Conds × SV)
  boxes : List (Nat × Conds × List SV)
  rows : List (Nat × Conds × Row)
  nv : Nat
  /-- how many slots the frame has; how many of the first keep what they hold -/
  nt : Nat × Nat
def look {α : Type} : List (Nat × α) → Nat → Option α
  | [], _ => none
  | (j, a) :: l, i => match Nat.beq i j with
    | true => some a
    | false => look l i
def upd {α : Type} : List (Nat × α) → Nat → α → List (Nat × α)
  | [], i, a => [(i, a)]
  | (j, b) :: l, i, a => match Nat.beq i j with
    | true => (i, a) :: l
    | false => (j, b) :: upd l i a
def del {α : Type} : List (Nat × α) → Nat → List (Nat × α)
  | [], _ => []
  | (j, b) :: l, i => match Nat.beq i j with
    | true => del l i
    | false => (j, b) :: del l i

def memN (i : Nat) (l : List Nat) : Bool := l.any (Nat.beq i)
/-- All variables are below 'n'. -/
def X.lt (n : Nat) : X → Bool
  | .var i => Nat.blt i n
  | .int _ | .bool _ | .str _ | .nil => true
  | .o1 _ x => X.lt n x
  | .o2 _ x y => X.lt n x && X.lt n y
  | .o3 _ x y z => X.lt n x && X.lt n y && X.lt n z
mutual
def SV.lt (n : Nat) : SV → Bool
  | .num _ x | .boo x | .txt x | .sl _ _ x | .ep _ _ x _ | .oep _ x _ | .nv _ x _ => x.lt n
  | .ow _ x y => x.lt n && y.lt n
  | .ov _ (some x) => x.lt n
  | .agg cs | .tup cs | .clo _ cs => SV.lts n cs
  | _ => true
def SV.lts (n : Nat) : List SV → Bool
  | [] => true
  | a :: l => SV.lt n a && SV.lts n l
end
def Conds.lt (n : Nat) : Conds → Bool
  | [] => true
  | (x, _) :: g => x.lt n && Conds.lt n g
/-- Every variable is below 'nv'. -/
def St.lt (st : St) (n : Nat) : Bool :=
  st.slots.all (fun p => Conds.lt n p.2.1 && p.2.2.lt n) && st.boxes.all (fun p => Conds.lt n p.2.1 && SV.lts n p.2.2) && st.rows.all (fun p => Conds.lt n p.2.1 && p.2.2.c.lt n)
mutual
/-- Speaks of none of the rows and boxes. -/
def SV.free (js : List Nat) : SV → Bool
  | .sl (.row id) _ _ | .ep (.row id) _ _ _ | .ov id _ | .ow id _ _ | .nv id _ _ | .oep id _ _ | .bp id _ => !memN id js
  | .agg cs | .tup cs | .clo _ cs => SV.frees js cs
  | _ => true
def SV.frees (js : List Nat) : List SV → Bool
  | [] => true
  | a :: l => SV.free js a && SV.frees js l
end
def St.free (st : St) (js : List Nat) : Bool := st.slots.all (fun p => p.2.2.free js) && st.boxes.all (fun p => SV.frees js p.2.2)
mutual
/-- Speaks of the content of none of the rows. -/
def SV.clean (js : List Nat) : SV → Bool
  | .sl (.row id) _ _ | .ep (.row id) _ _ _ | .nv id _ _ => !memN id js
  | .agg cs | .tup cs | .clo _ cs => SV.cleans js cs
  | _ => true
def SV.cleans (js : List Nat) : List SV → Bool
  | [] => true
  | a :: l => SV.clean js a && SV.cleans js l
end
/-- Nothing in the state speaks of the rows 'ids', nor of the content of the rows 'js'. -/
def St.turned (st : St) (js ids : List Nat) : Bool :=
  st.slots.all (fun p => p.2.2.clean js && p.2.2.free ids) && st.boxes.all (fun p => SV.cleans js p.2.2 && SV.frees ids p.2.2)

/-! ### what is left to show -/
/-- An argument: a cell's kind and its value; a struct; a pointer to a struct that is only read; a function value with what it captured; a slice that the callee may write; one that it takes over; the cursor. -/
inductive XArg where
  | sc (ck : CK) (x : X)
  | st (cks : List CK) (x : X)
  | bx (cks : List CK) (x : X)
  | clo (f : Nat) (caps : List (List CK × X))
  | clop (j : Nat)
  | row (ks : List CK) (x : X)
  | stw (cks : List CK) (x : X)
  | take (ks : List CK) (x : X)
  | cur (x : X)
inductive RS where
  | sc (ck : CK)
  | st (cks : List CK)
  | cur
inductive Callee' where
  | fn (f : Nat)
  | par (j : Nat)
inductive T where
  | ret (outs : List X)
  | br (c : X) (t e : T)
  | need (g : Conds) (c : X) (k : T)
  | know (x : X) (k : T)
  | nilq (x : X) (k : T)
  | call (g : Conds) (f : Callee') (args : List XArg) (rs : List RS) (k : T)
  | loop (lv : Nat) (init : List X) (body : T)
  | cont (lv : Nat) (xs : List X)
  | fail (n : Nat)
  | probe (st : St)
def T.probes : T → List St
  | .br _ t e => t.probes ++ e.probes
  | .need _ _ k => k.probes
  | .know _ k => k.probes
  | .nilq _ k => k.probes
  | .call _ _ _ _ k => k.probes
  | .loop _ _ b => b.probes
  | .probe st => [st]
  | _ => []

/-! ### types -/
def sizeT (P : Program) (t : TypeId) : Option Nat := (P.info? t).map (·.size)
def bytesT (P : Program) (t : TypeId) : Nat := ((P.info? t).map (·.bytes)).getD 0
def aggD : TypeDesc → Bool
  | .struct _ | .array _ _ => true
  | _ => false
def aggT (P : Program) (t : TypeId) : Option Bool := (P.underlying t).map aggD
mutual
def tyCells (P : Program) : Nat → TypeId → Option (List CK)
  | 0, _ => none
  | n + 1, t => match P.underlying t with
    | some .bool => some [.bool]
    | some (.int k) => some [.int k]
    | some .string => some [.str]
    | some (.slice e) => match tyCells P n e with
      | some ks => some [.sl ks]
      | none => none
    | some (.struct fs) => tyFields P n fs.toList
    | _ => none
def tyFields (P : Program) : Nat → List Field → Option (List CK)
  | _, [] => some []
  | 0, _ => none
  | n + 1, f :: l => match tyCells P n f.type, tyFields P n l with
    | some a, some b => some (a ++ b)
    | _, _ => none
end
def ckCells (P : Program) (t : TypeId) : Option (List CK) := tyCells P 40 t
/-- A slice's element kinds, its size right. -/
def elemKs (P : Program) (e : TypeId) : Option (List CK) :=
  match ckCells P e, sizeT P e with
  | some ks, some n => if Nat.beq ks.length n && Nat.ble 1 n then some ks else none
  | _, _ => none
def ckSV (src : Src) (x : X) : CK → SV
  | .int k => .num k x
  | .bool => .boo x
  | .str => .txt x
  | .sl ks => .sl src ks x
def constCell : Value → SV
  | .int k n => if inK k n then .num k (.int n) else .top
  | .bool b => .boo (.bool b)
  | .string s => if Nat.ble s.size 9223372036854775807 then .txt (.str s.data.toList) else .top
  | .slice none 0 0 => .nilsl
  | _ => .top
def constSV : Value → Option SV
  | .agg cs => some (.agg (cs.toList.map constCell))
  | .tuple _ => none
  | v => some (constCell v)
def zeroCells' (P : Program) (t : TypeId) : Option (List SV) :=
  match P.info? t with
  | some i => match i.zero with
    | some v => match constSV v with
      | some sv => if Nat.beq sv.cells.length i.size && Nat.ble 1 i.size then some sv.cells else none
      | none => none
    | none => none
  | none => none
end Go.Proofs.Ytfbahdalemajcaa.Eng

/-
  The engine, second part: the executor. A function's code becomes the tree of what is left to show. Definitions alone.
-/
namespace Go.Proofs.Ytfbahdalemajcaa.Eng

/-- Which arguments a callee writes (a slice of the caller's own), which it takes over; which functions look into the cursor. -/
structure Modes where
  row : List (Nat × Nat)
  take : List (Nat × Nat)
  opened : List Nat
def Modes.none : Modes := ⟨[], [], []⟩

def subC (c g : Conds) : Bool := c.all fun p => g.any fun q => p.1 == q.1 && p.2 == q.2
def St.eval (st : St) : Operand → Option (Conds × SV)
  | .tmp t => look st.slots t
  | .const v => match constSV v with
    | some sv => some ([], sv)
    | none => none
  | .func f => some ([], .clo f [])
  | .global _ => none
def St.get (st : St) (g : Conds) (o : Operand) : Option SV :=
  match st.eval o with
  | some (c, sv) => if subC c g then some sv else none
  | none => none
def St.gets (st : St) (g : Conds) : List Operand → Option (List SV)
  | [] => some []
  | o :: l => match st.get g o, st.gets g l with
    | some a, some b => some (a :: b)
    | _, _ => none
def guardOf (st : St) (ops : Array Oper) (o : Oper) : Option Conds :=
  match o.guard with
  | none => some []
  | some (j, want) => match (ops[j]?).bind (·.dst) with
    | some t => match look st.slots t with
      | some (c, .boo x) => some (c ++ [(x, want)])
      | _ => none
    | none => none
def St.row (st : St) (g : Conds) (id : Nat) : Option Row :=
  match look st.rows id with
  | some (c, r) => if subC c g then some r else none
  | none => none
def St.box (st : St) (g : Conds) (id : Nat) : Option (List SV) :=
  match look st.boxes id with
  | some (c, b) => if subC c g then some b else none
  | none => none
def St.srcOk (st : St) (g : Conds) : Src → Bool
  | .st _ => true
  | .row id => match look st.rows id with
    | some (c, _) => subC c g
    | none => false
def preC (r : Row) : Option X → X
  | none => r.c
  | some n => .o2 .take r.c n
def preLen (r : Row) : Option X → X
  | none => .len r.c
  | some n => n

/-- The kinds and content of a nested slice of row 'id'. -/
def St.nest (st : St) (g : Conds) (id : Nat) (i : X) (c : Nat) : Option (List CK × X) :=
  match st.row g id with
  | some r => match r.ks[c]? with
    | some (.sl ks) => some (ks, X.fld c (.o2 .idx r.c i))
    | _ => none
  | none => none
def winX (r : Row) (lo hi : X) : X := .o2 .drop (.o2 .take r.c hi) lo

/-! ### one cell's value as an expression: to lie in a row of the call's own (what it owns goes with it), and to be read by a callee -/
def cellX (st : St) (g : Conds) : CK → SV → Option (X × List Nat)
  | .int k, .num k' x => if k == k' then some (x, []) else none
  | .bool, .boo x => some (x, [])
  | .str, .txt x => some (x, [])
  | .sl ks, .ov id pre => match st.row g id with
    | some r => if CK.beqs ks r.ks then some (preC r pre, [id]) else none
    | none => none
  | .sl _, .nilsl => some (.nil, [])
  | _, _ => none
def cellsX (st : St) (g : Conds) : List CK → List SV → Option (List X × List Nat)
  | [], [] => some ([], [])
  | k :: ks, v :: vs => match cellX st g k v, cellsX st g ks vs with
    | some (x, a), some (xs, b) => some (x :: xs, a ++ b)
    | _, _ => none
  | _, _ => none
def argX (st : St) (g : Conds) : CK → SV → Option X
  | .int k, .num k' x => if k == k' then some x else none
  | .bool, .boo x => some x
  | .str, .txt x => some x
  | .sl ks, .sl src ks' x => if CK.beqs ks ks' && st.srcOk g src && (!CK.glob ks || src == .st true) then some x else none
  | .sl ks, .ov id pre => match st.row g id with
    | some r => if CK.beqs ks r.ks && !CK.glob ks then some (preC r pre) else none
    | none => none
  | .sl ks, .ow id lo hi => match st.row g id with
    | some r => if CK.beqs ks r.ks && !CK.glob ks then some (winX r lo hi) else none
    | none => none
  | .sl ks, .nv id i c => match st.nest g id i c with
    | some (ks', x) => if CK.beqs ks ks' && !CK.glob ks then some x else none
    | none => none
  | .sl ks, .nilsl => if CK.glob ks then none else some .nil
  | _, _ => none
def argsX (st : St) (g : Conds) : List CK → List SV → Option (List X)
  | [], [] => some []
  | k :: ks, v :: vs => match argX st g k v, argsX st g ks vs with
    | some x, some xs => some (x :: xs)
    | _, _ => none
  | _, _ => none

/-! ### loads -/
def cksSV (src : Src) (e : X) : Nat → List CK → List SV
  | _, [] => []
  | off, k :: ks => ckSV src (X.fld off e) k :: cksSV src e (off + 1) ks
def ownSV (id : Nat) (i : X) (off : Nat) (e : X) : CK → SV
  | .sl _ => .nv id i off
  | ck => ckSV (.st false) (X.fld off e) ck
def ownsSV (id : Nat) (i : X) (e : X) : Nat → List CK → List SV
  | _, [] => []
  | off, k :: ks => ownSV id i off e k :: ownsSV id i e (off + 1) ks
def loadOwn (ag : Bool) (n : Nat) (id : Nat) (ks : List CK) (c i : X) (off : Nat) : Option SV :=
  match ag with
  | true => if Nat.ble (off + n) ks.length then some (.agg (ownsSV id i (.o2 .idx c i) off ((ks.drop off).take n))) else none
  | false => match ks[off]? with
    | some k => some (ownSV id i off (.o2 .idx c i) k)
    | none => none
def loadRow (ag : Bool) (n : Nat) (src : Src) (ks : List CK) (e : X) (off : Nat) : Option SV :=
  match ag with
  | true => if Nat.ble (off + n) ks.length then some (.agg (cksSV src e off ((ks.drop off).take n))) else none
  | false => match ks[off]? with
    | some k => some (ckSV src (X.fld off e) k)
    | none => none
def loadSV (P : Program) (st : St) (g : Conds) (t : TypeId) (a : SV) : Option SV :=
  match sizeT P t with
  | none => none
  | some n => match a with
    | .bp id off => match st.box g id with
      | some cells => match aggT P t with
        | some true => if Nat.ble (off + n) cells.length then some (.agg ((cells.drop off).take n)) else none
        | some false => cells[off]?
        | none => none
      | none => none
    | .ep src ks e off => match aggT P t with
      | some ag => if st.srcOk g src then loadRow ag n src ks e off else none
      | none => none
    | .oep id i off => match st.row g id, aggT P t with
      | some r, some ag => loadOwn ag n id r.ks r.c i off
      | _, _ => none
    | _ => none

/-! ### operations that change nothing that was there -/
structure PR where
  sv : SV
  needs : List X := []
  knows : List X := []
  box : Option (List SV) := none
  row : Option Row := none
def fieldOf (P : Program) (s : TypeId) (f : Nat) : Option (Field × Nat) :=
  match P.underlying s with
  | some (.struct fs) => match fs[f]? with
    | some fd => match sizeT P fd.type with
      | some n => if Nat.ble 1 n then some (fd, n) else none
      | none => none
    | none => none
  | _ => none
def sliceElem (P : Program) (t : TypeId) : Option (TypeId × List CK) :=
  match P.underlying t with
  | some (.slice e) => match elemKs P e with
    | some ks => some (e, ks)
    | none => none
  | _ => none
/-- Equality of two structs of plain cells. -/
def eqCells : List SV → List SV → Option X
  | [], [] => some (.bool true)
  | a :: l, b :: m => match a, b, eqCells l m with
    | .num k x, .num k' y, some r => if k == k' then some (.o2 .band (.o2 .eq x y) r) else none
    | .boo x, .boo y, some r => some (.o2 .band (.o2 .beq x y) r)
    | .txt x, .txt y, some r => some (.o2 .band (.o2 .seq x y) r)
    | _, _, _ => none
  | _, _ => none
/-- Fields one cell each, in order, plain. -/
def plainFields (P : Program) : Nat → List Field → List CK → Bool
  | _, [], [] => true
  | off, f :: fs, k :: ks => !(f.name == "_") && Nat.beq f.offset off && (match sizeT P f.type with | some n => Nat.beq n 1 | none => false) &&
      (match P.underlying f.type, k with
        | some .bool, .bool => true
        | some (.int k), .int k' => k == k'
        | some .string, .str => true
        | _, _ => false) && plainFields P (off + 1) fs ks
  | _, _, _ => false
def eqType (P : Program) (t : TypeId) : Option (List CK) :=
  match P.underlying t, ckCells P t with
  | some (.struct fs), some ks => if plainFields P 0 fs.toList ks && !P.stoodInHeld t && !P.eqGuardType P.depth t then some ks else none
  | _, _ => none
def svFits : List CK → List SV → Bool
  | [], [] => true
  | .int k :: ks, .num k' _ :: vs => k == k' && svFits ks vs
  | .bool :: ks, .boo _ :: vs => svFits ks vs
  | .str :: ks, .txt _ :: vs => svFits ks vs
  | _, _ => false
def intOp (op : BinOp) (k : IntKind) (x y : X) : Option PR :=
  match op with
  | .add => some { sv := .num k (.o2 (.add k) x y) }
  | .sub => some { sv := .num k (.o2 (.sub k) x y) }
  | .mul => some { sv := .num k (.o2 (.mul k) x y) }
  | .quo => some { sv := .num k (.o2 (.quo k) x y), needs := [.o2 .ne y (.int 0)] }
  | .rem => some { sv := .num k (.o2 .rem x y), needs := [.o2 .ne y (.int 0)] }
  | .and => some { sv := .num k (.o2 (.and k) x y) }
  | .or => some { sv := .num k (.o2 (.or k) x y) }
  | .xor => some { sv := .num k (.o2 (.xor k) x y) }
  | .eql => some { sv := .boo (.o2 .eq x y) }
  | .neq => some { sv := .boo (.o2 .ne x y) }
  | .lss => some { sv := .boo (.o2 .lt x y) }
  | .leq => some { sv := .boo (.o2 .le x y) }
  | .gtr => some { sv := .boo (.o2 .gt x y) }
  | .geq => some { sv := .boo (.o2 .ge x y) }
  | _ => none
def binSV (P : Program) (op : BinOp) (xt : TypeId) (a b : SV) : Option PR :=
  match a, b with
  | .num k x, .num k' y => match op with
    | .shl => some { sv := .num k (.o2 (.shl k) x y), needs := [.o2 .ge y (.int 0)] }
    | .shr => some { sv := .num k (.o2 (.shr k) x y), needs := [.o2 .ge y (.int 0)] }
    | _ => if k == k' then intOp op k x y else none
  | .boo x, .boo y => match op, P.underlying xt with
    | .eql, some .bool => some { sv := .boo (.o2 .beq x y) }
    | .neq, some .bool => some { sv := .boo (.o2 .bne x y) }
    | _, _ => none
  | .txt x, .txt y => match op with
    | .add => some { sv := .txt (.o2 .scat x y), needs := [.o2 .sfits x y] }
    | .eql => some { sv := .boo (.o2 .seq x y) }
    | .neq => some { sv := .boo (.o2 .sne x y) }
    | _ => none
  | .agg as, .agg bs => match eqType P xt with
    | some ks => if svFits ks as && svFits ks bs then
        match op, eqCells as bs with
        | .eql, some e => some { sv := .boo e }
        | .neq, some e => some { sv := .boo (.o1 .not e) }
        | _, _ => none
      else none
    | none => none
  | _, _ => none
def mergeSV (c : X) : SV → SV → Option SV
  | .boo x, .boo y => some (.boo (X.mkIte c x y))
  | .num k x, .num k' y => if k == k' then some (.num k (.o3 .ite c x y)) else none
  | .txt x, .txt y => some (.txt (.o3 .ite c x y))
  | _, _ => none
def lenSV (st : St) (g : Conds) : SV → Option PR
  | .txt x => some { sv := .num .i64 (.o1 .slen x) }
  | .sl src _ x => if st.srcOk g src then some { sv := .num .i64 (.len x), knows := [x] } else none
  | .ov id pre => match st.row g id with
    | some r => match pre with
      | none => some { sv := .num .i64 (.len r.c), knows := [r.c] }
      | some n => some { sv := .num .i64 n }
    | none => none
  | .ow id lo hi => match st.row g id with
    | some _ => some { sv := .num .i64 (.o2 (.sub .i64) hi lo) }
    | none => none
  | .nv id i c => match st.nest g id i c with
    | some (_, x) => some { sv := .num .i64 (.len x), knows := [x] }
    | none => none
  | .nilsl => some { sv := .num .i64 (.int 0) }
  | _ => none
def optX : Option SV → Option (Option X)
  | none => some none
  | some (.num _ x) => some (some x)
  | _ => none
def sliceSV (P : Program) (st : St) (g : Conds) (t : TypeId) (x : SV) (lo hi : Option X) : Option PR :=
  match P.underlying t, x with
  | some .string, .txt s =>
    let l := lo.getD (.int 0)
    let h := hi.getD (.o1 .slen s)
    some { sv := .txt (.o3 .sub s l h), needs := [.o2 .le (.int 0) l, .o2 .le l h, .o2 .le h (.o1 .slen s)] }
  | some (.slice e), .sl src ks c => match sizeT P e with
    | some n => if Nat.beq n ks.length && st.srcOk g src then
        let l := lo.getD (.int 0)
        let h := hi.getD (.len c)
        some { sv := .sl src ks (.o2 .drop (.o2 .take c h) l), needs := [.o2 .le (.int 0) l, .o2 .le l h, .o2 .le h (.len c)] }
      else none
    | none => none
  | some (.slice e), .ov id pre => match st.row g id, sizeT P e with
    | some r, some n => if Nat.beq n r.ks.length then
        match lo with
        | none => match hi with
          | some h => some { sv := .ov id (some h), needs := [.o2 .le (.int 0) h, .o2 .le h (preLen r pre)] }
          | none => some { sv := .ov id pre }
        | some l =>
          let h := hi.getD (preLen r pre)
          some { sv := .ow id l h, needs := [.o2 .le (.int 0) l, .o2 .le l h, .o2 .le h (preLen r pre)] }
      else none
    | _, _ => none
  | _, _ => none
def convSV (P : Program) (st : St) (g : Conds) (s d : TypeId) (x : SV) : Option PR :=
  match P.underlying s, P.underlying d, x with
  | some _, some (.int k), .num _ a => some { sv := .num k (.o1 (.conv k) a) }
  | some _, some .string, .num _ a => some { sv := .txt (.o1 .chr a) }
  | some _, some .string, .txt a => some { sv := .txt a }
  | some (.slice e), some .string, .sl src ks a => match P.underlying e with
    | some (.int .u8) => if CK.beqs ks [.int .u8] && st.srcOk g src then some { sv := .txt (.o1 .b2s a) } else none
    | _ => none
  | some (.slice e), some .string, .ov id pre => match P.underlying e, st.row g id with
    | some (.int .u8), some r => if CK.beqs r.ks [.int .u8] then some { sv := .txt (.o1 .b2s (preC r pre)) } else none
    | _, _ => none
  | _, _, _ => none
def sizesOk (P : Program) (fs : List Field) : Bool := fs.all fun f => match sizeT P f.type with | some _ => true | none => false
/-- A struct literal: the parts into the zero value's cells. -/
def fillSV (fs : Array Field) (P : Program) (st : St) (g : Conds) : List SV → List (Nat × Operand) → Option (List SV)
  | cells, [] => some cells
  | cells, (i, x) :: rest => match fs[i]?, st.get g x with
    | some f, some v => match sizeT P f.type with
      | some n => if Nat.beq v.cells.length n && Nat.ble (f.offset + n) cells.length && Nat.ble 1 n then
          fillSV fs P st g (cells.take f.offset ++ v.cells ++ cells.drop (f.offset + n)) rest
        else none
      | none => none
    | _, _ => none
/-- The parts of a slice literal, in order, each one given; plain cells alone, or all (with what they own). -/
def partsX (st : St) (g : Conds) (ks : List CK) : Nat → List (Nat × Operand) → Option (List X × List Nat)
  | _, [] => some ([], [])
  | i, (j, x) :: rest => match Nat.beq i j, st.get g x, partsX st g ks (i + 1) rest with
    | true, some v, some (xs, b) => match cellsX st g ks v.cells with
      | some (cs, a) => some (X.many cs :: xs, a ++ b)
      | none => none
    | _, _, _ => none
def evalPure (P : Program) (st : St) (g : Conds) (op : Op) : Option PR :=
  match op with
  | .move x => match st.get g x with
    | some sv => some { sv }
    | none => none
  | .assign x => match st.get g x with
    | some (.ov _ (some _)) => none
    | some sv => some { sv }
    | none => none
  | .pick c a b => match st.get g c with
    | some (.boo x) => match st.get (g ++ [(x, true)]) a, st.get (g ++ [(x, false)]) b with
      | some a, some b => match mergeSV x a b with
        | some sv => some { sv }
        | none => none
      | _, _ => none
    | _ => none
  | .alloc t => match zeroCells' P t with
    | some cs => some { sv := .top, box := some cs }
    | none => none
  | .box _ x => match st.get g x with
    | some v => match v.cells with
      | [] => none
      | cs => some { sv := .top, box := some cs }
    | none => none
  | .load t a => match st.get g a with
    | some a => match loadSV P st g t a with
      | some sv => some { sv }
      | none => none
    | none => none
  | .fieldAddr s x f => match fieldOf P s f, st.get g x with
    | some (fd, _), some (.bp id off) => some { sv := .bp id (off + fd.offset) }
    | some (fd, _), some (.ep src ks e off) => some { sv := .ep src ks e (off + fd.offset) }
    | some (fd, _), some (.oep id i off) => some { sv := .oep id i (off + fd.offset) }
    | _, _ => none
  | .field s x f => match fieldOf P s f, st.get g x with
    | some (fd, n), some (.agg cs) => match aggT P fd.type with
      | some true => if Nat.ble (fd.offset + n) cs.length then some { sv := .agg ((cs.drop fd.offset).take n) } else none
      | some false => match cs[fd.offset]? with
        | some sv => some { sv }
        | none => none
      | none => none
    | _, _ => none
  | .indexAddr t x i => match sliceElem P t, st.get g x, st.get g i with
    | some (_, ks), some (.sl src ks' l), some (.num _ i) => if CK.beqs ks ks' && st.srcOk g src then
        some { sv := .ep src ks (.o2 .idx l i) 0, needs := [.o2 .le (.int 0) i, .o2 .lt i (.len l)] } else none
    | some (_, ks), some (.ov id pre), some (.num _ i) => match st.row g id with
      | some r => if CK.beqs ks r.ks then some { sv := .oep id i 0, needs := [.o2 .le (.int 0) i, .o2 .lt i (preLen r pre)] } else none
      | none => none
    | some (_, ks), some (.nv id j c), some (.num _ i) => match st.nest g id j c with
      | some (ks', x) => if CK.beqs ks ks' then some { sv := .ep (.row id) ks (.o2 .idx x i) 0, needs := [.o2 .le (.int 0) i, .o2 .lt i (.len x)] } else none
      | none => none
    | _, _, _ => none
  | .index t x i => match P.underlying t, st.get g x, st.get g i with
    | some .string, some (.txt s), some (.num _ i) => some { sv := .num .u8 (.o2 .sidx s i), needs := [.o2 .le (.int 0) i, .o2 .lt i (.o1 .slen s)] }
    | _, _, _ => none
  | .binOp op xt x y _ => match st.get g x, st.get g y with
    | some a, some b => binSV P op xt a b
    | _, _ => none
  | .unOp op _ x => match op, st.get g x with
    | .not, some (.boo x) => some { sv := .boo (.o1 .not x) }
    | .neg, some (.num k x) => some { sv := .num k (.o1 (.neg k) x) }
    | _, _ => none
  | .convert s d x => match st.get g x with
    | some x => convSV P st g s d x
    | none => none
  | .makeSlice t l c => match sliceElem P t, st.get g l, st.get g c with
    | some (e, ks), some (.num .i64 n), some (.num .i64 m) => if n == m then
        match zeroCells' P e with
        | some zs => match cellsX st g ks zs with
          | some (xs, []) => some { sv := .top, needs := [.o2 .le (.int 0) n, .o2 (.fits (Nat.max (bytesT P e) 1)) n (.int 0)], row := some ⟨ks, .o2 .rep n (X.many xs)⟩ }
          | _ => none
        | none => none
      else none
    | _, _, _ => none
  | .buildSlice t n parts => match sliceElem P t with
    | some (e, ks) => match partsX st g ks 0 parts.toList, zeroCells' P e with
      | some (xs, []), some _ => if Nat.beq xs.length n && Nat.ble (n * ks.length) 65536 then some { sv := .top, row := some ⟨ks, X.many xs⟩ } else none
      | _, _ => none
    | none => none
  | .build t parts => match P.underlying t, zeroCells' P t with
    | some (.struct fs), some zs => match sizesOk P fs.toList, fillSV fs P st g zs parts.toList with
      | true, some cs => some { sv := .agg cs }
      | _, _ => none
    | _, _ => none
  | .slice t x lo hi none => match st.get g x, optX (lo.bind (st.get g)), optX (hi.bind (st.get g)) with
    | some x, some l, some h => if (lo.isSome == l.isSome) && (hi.isSome == h.isSome) then sliceSV P st g t x l h else none
    | _, _, _ => none
  | .extract t i => match st.get g t with
    | some (.tup cs) => match cs[i]? with
      | some sv => some { sv }
      | none => none
    | _ => none
  | .makeFunc (.func f) first cs => match first.toList, st.gets g cs.toList with
    | [], some cs => some { sv := .clo f cs }
    | _, _ => none
  | .nilCheck x => match st.get g x with
    | some (.bp id off) => some { sv := .bp id off }
    | _ => none
  | .call { callee := .builtin b, args, argTypes } => match b, args.toList, argTypes.toList with
    | .len, [x], [t] => match st.get g x, P.underlying t with
      | some (.txt s), some .string => lenSV st g (.txt s)
      | some (.sl src ks l), some (.slice _) => lenSV st g (.sl src ks l)
      | some (.ov id pre), some (.slice _) => lenSV st g (.ov id pre)
      | some (.ow id lo hi), some (.slice _) => lenSV st g (.ow id lo hi)
      | some (.nv id i c), some (.slice _) => lenSV st g (.nv id i c)
      | some .nilsl, some (.slice _) => lenSV st g .nilsl
      | _, _ => none
    | .max, [x, y], _ => match st.get g x, st.get g y with
      | some (.num k a), some (.num k' b) => if k == k' then some { sv := .num k (.o2 .max a b) } else none
      | _, _ => none
    | .min, [x, y], _ => match st.get g x, st.get g y with
      | some (.num k a), some (.num k' b) => if k == k' then some { sv := .num k (.o2 .min a b) } else none
      | _, _ => none
    | _, _, _ => none
  | _ => none

/-! ### calls -/
/-- A slice that a callee writes: a whole row; a nested slice of a row; the rows that are cells of a struct (each with the cell's place). -/
inductive Wr where
  | row (id : Nat)
  | nest (id : Nat) (i : X) (c : Nat)
  | cells (l : List (Nat × Nat))
def Wr.ids : Wr → List Nat
  | .row id | .nest id _ _ => [id]
  | .cells l => l.map (·.1)
def wrIds (l : List Wr) : List Nat := l.flatMap Wr.ids
structure CR where
  f : Callee'
  args : List XArg
  rs : List RS
  /-- what the callee writes: each gets a new content -/
  wr : List Wr := []
  /-- rows that it takes over -/
  tk : List Nat := []
  /-- the cursor's box -/
  cu : List Nat := []
def curBox : List SV → Option X
  | [.sl (.st true) [.int .u8] x, .an, .ai .i64] => some x
  | [.sl (.st true) [.int .u8] x, .num .i64 (.int (.ofNat _)), .num .i64 _] => some x
  | _ => none
def ckOf (st : St) (g : Conds) : SV → Option CK
  | .num k _ => some (.int k)
  | .boo _ => some .bool
  | .txt _ => some .str
  | .sl _ ks _ => some (.sl ks)
  | .ov id _ | .ow id _ _ => match st.row g id with
    | some r => some (.sl r.ks)
    | none => none
  | .nv id i c => match st.nest g id i c with
    | some (ks, _) => some (.sl ks)
    | none => none
  | _ => none
def cksOf (st : St) (g : Conds) : List SV → Option (List CK)
  | [] => some []
  | v :: l => match ckOf st g v, cksOf st g l with
    | some a, some b => some (a :: b)
    | _, _ => none
def capX (st : St) (g : Conds) : List SV → Option (List (List CK × X))
  | [] => some []
  | .bp id 0 :: l => match st.box g id, capX st g l with
    | some cells, some r => match cksOf st g cells with
      | some ks => match argsX st g ks cells with
        | some xs => some ((ks, X.many xs) :: r)
        | none => none
      | none => none
    | _, _ => none
  | _ => none
/-- One argument: what is handed over, and (rows written, rows taken, cursors). -/
def ovFlat (k : CK) : Option X → Option (List X × List (Nat × Nat)) → Option (List X × List (Nat × Nat))
  | some x, some (xs, ids) => if CK.flat k then some (x :: xs, ids) else none
  | _, _ => none
def ovCells (st : St) (g : Conds) : Nat → List CK → List SV → Option (List X × List (Nat × Nat))
  | _, [], [] => some ([], [])
  | c, .sl ks :: l, .ov id none :: m => match st.row g id, ovCells st g (c + 1) l m with
    | some r, some (xs, ids) => if CK.beqs ks r.ks then some (r.c :: xs, (id, c) :: ids) else none
    | _, _ => none
  | c, .sl _ :: l, .nilsl :: m => match ovCells st g (c + 1) l m with
    | some (xs, ids) => some (.nil :: xs, ids)
    | none => none
  | c, k :: l, v :: m => ovFlat k (argX st g k v) (ovCells st g (c + 1) l m)
  | _, _, _ => none
def Modes.isRow (md : Modes) (f : Callee') (j : Nat) : Bool := match f with | .fn f => md.row.any fun p => Nat.beq p.1 f && Nat.beq p.2 j | .par _ => false
def Modes.isTake (md : Modes) (f : Callee') (j : Nat) : Bool := match f with | .fn f => md.take.any fun p => Nat.beq p.1 f && Nat.beq p.2 j | .par _ => false
def argOf (P : Program) (md : Modes) (f : Callee') (j : Nat) (st : St) (g : Conds) (t : TypeId) (v : SV) : Option (XArg × List Wr × List Nat × List Nat) :=
  match P.underlying t with
  | some (.struct _) => match ckCells P t with
    | some ks => match v with
      | .agg cs => match md.isRow f j with
        | true => match ovCells st g 0 ks cs with
          | some (xs, ids) => some (.stw ks (X.many xs), [.cells ids], [], [])
          | none => none
        | false => match argsX st g ks cs with
          | some xs => some (.st ks (X.many xs), [], [], [])
          | none => none
      | _ => none
    | none => none
  | some (.slice e) => match elemKs P e with
    | some ks => match md.isRow f j || md.isTake f j with
      | true => match v with
        | .ov id none => match st.row g id with
          | some r => if CK.beqs ks r.ks then
              if md.isRow f j then some (.row ks r.c, [.row id], [], []) else some (.take ks r.c, [], [id], [])
            else none
          | none => none
        | .nv id i c => match st.nest g id i c with
          | some (ks', x) => if CK.beqs ks ks' && md.isRow f j && ks.all CK.flat then some (.row ks x, [.nest id i c], [], []) else none
          | none => none
        | _ => none
      | false => match argX st g (.sl ks) v with
        | some x => some (.sc (.sl ks) x, [], [], [])
        | none => none
    | none => none
  | some (.pointer _) => match v with
    | .bp id 0 => match st.box g id with
      | some cells => match curBox cells with
        | some x => some (.cur x, [], [], [id])
        | none => none
      | none => none
    | _ => none
  | some (.func _ _ _) => match v with
    | .clo f cs => match capX st g cs with
      | some cs => some (.clo f cs, [], [], [])
      | none => none
    | .clop j => some (.clop j, [], [], [])
    | _ => none
  | some _ => match ckCells P t with
    | some [ck] => match argX st g ck v with
      | some x => some (.sc ck x, [], [], [])
      | none => none
    | _ => none
  | none => none
def argsOf (P : Program) (md : Modes) (f : Callee') (st : St) (g : Conds) : Nat → List TypeId → List SV → Option (List XArg × List Wr × List Nat × List Nat)
  | _, [], [] => some ([], [], [], [])
  | j, t :: ts, v :: vs => match argOf P md f j st g t v, argsOf P md f st g (j + 1) ts vs with
    | some (a, r, k, c), some (as, rs, ks, cs) => some (a :: as, r ++ rs, k ++ ks, c ++ cs)
    | _, _ => none
  | _, _, _ => none
def rsOf1 (P : Program) (t : TypeId) : Option RS :=
  match P.underlying t with
  | some (.struct _) => match ckCells P t with
    | some ks => some (.st ks)
    | none => none
  | some (.pointer _) => some .cur
  | some _ => match ckCells P t with
    | some [ck] => some (.sc ck)
    | _ => none
  | none => none
def rsOfs (P : Program) : List TypeId → Option (List RS)
  | [] => some []
  | t :: l => match rsOf1 P t, rsOfs P l with
    | some a, some b => some (a :: b)
    | _, _ => none
/-- The results' kinds, of a call operation's type. -/
def rsOf (P : Program) (t : TypeId) : Option (List RS) :=
  match P.underlying t with
  | some (.tuple ts) => rsOfs P ts.toList
  | _ => rsOfs P [t]
/-- An argument that is read speaks of no row that the callee writes or takes over, and of no cursor. -/
def argFree (st : St) (g : Conds) (js cu : List Nat) : SV → Bool
  | .clo _ cs => cs.all fun v => match v with
    | .bp id _ => !memN id cu && (match st.box g id with | some cells => SV.frees js cells | none => false)
    | _ => false
  | v => v.free js
/-- The callee may write it, or takes it over. -/
def XArg.lends : XArg → Bool
  | .row _ _ | .stw _ _ | .take _ _ | .cur _ => true
  | _ => false
def argsFree (st : St) (g : Conds) (js cu : List Nat) : List SV → List XArg → Bool
  | v :: vs, a :: as => (a.lends || argFree st g js cu v) && argsFree st g js cu vs as
  | _, _ => true
def evalCall (P : Program) (md : Modes) (st : St) (g : Conds) (o : Oper) : Option CR :=
  match o.op with
  | .call { callee := .value f, args, argTypes } => match st.get g f, st.gets g args.toList, rsOf P o.type with
    | some (.clo f cs), some vs, some rs => match P.funcs[f]? with
      | some fn => if fn.body.isSome && !(fn.name == "runtime.NumGoroutine") then
          match argsOf P md (.fn f) st g 0 argTypes.toList vs, capX st g cs with
          | some (as, wr, tk, cu), some caps =>
            if argsFree st g (wrIds wr ++ tk) cu vs as && argFree st g (wrIds wr ++ tk) cu (.clo f cs) then some { f := .fn f, args := as ++ caps.map (fun c => .bx c.1 c.2), rs, wr, tk, cu } else none
          | _, _ => none
        else none
      | none => none
    | some (.clop j), some vs, some rs => match argsOf P md (.par j) st g 0 argTypes.toList vs with
      | some (as, [], [], []) => some { f := .par j, args := as, rs }
      | _ => none
    | _, _, _ => none
  | _ => none
/-- The results as values: slices are new rows. 'n': rows counted so far; 'v': the variable. -/
def resCells (id0 : Nat) (g : Conds) (x : X) : Nat → Nat → List CK → List SV × List (Nat × Conds × Row) × Nat
  | _, n, [] => ([], [], n)
  | off, n, .sl ks :: l =>
    let (svs, rows, n') := resCells id0 g x (off + 1) (n + 1) l
    (.ov (id0 + n) none :: svs, (id0 + n, g, ⟨ks, X.fld off x⟩) :: rows, n')
  | off, n, ck :: l =>
    let (svs, rows, n') := resCells id0 g x (off + 1) n l
    (ckSV (.st false) (X.fld off x) ck :: svs, rows, n')
def resSV (id0 : Nat) (g : Conds) : Nat → Nat → List RS → List SV × List (Nat × Conds × Row) × List (Nat × Conds × List SV)
  | _, _, [] => ([], [], [])
  | v, n, .sc (.sl ks) :: l =>
    let (svs, rows, boxes) := resSV id0 g (v + 1) (n + 1) l
    (.ov (id0 + n) none :: svs, (id0 + n, g, ⟨ks, .var v⟩) :: rows, boxes)
  | v, n, .sc ck :: l =>
    let (svs, rows, boxes) := resSV id0 g (v + 1) n l
    (ckSV (.st false) (.var v) ck :: svs, rows, boxes)
  | v, n, .st cks :: l =>
    let (cs, rows1, n') := resCells id0 g (.var v) 0 n cks
    let (svs, rows, boxes) := resSV id0 g (v + 1) n' l
    (.agg cs :: svs, rows1 ++ rows, boxes)
  | v, n, .cur :: l =>
    let (svs, rows, boxes) := resSV id0 g (v + 1) (n + 1) l
    (.bp (id0 + n) 0 :: svs, rows, (id0 + n, g, [.sl (.st true) [.int .u8] (.var v), .an, .ai .i64]) :: boxes)
def resId (t : Nat) : Nat := 1000 + t * 64
/-- The rows that the callee wrote get new contents. -/
def wrCells (x : X) : List (Nat × Nat) → List (Nat × Conds × Row) → Option (List (Nat × Conds × Row))
  | [], rows => some rows
  | (id, c) :: l, rows => match look rows id with
    | some (cd, r) => wrCells x l (upd rows id (cd, { r with c := X.fld c x }))
    | none => none
def wrRows : Nat → List Wr → List (Nat × Conds × Row) → Option (List (Nat × Conds × Row))
  | _, [], rows => some rows
  | v, .row id :: l, rows => match look rows id with
    | some (c, r) => wrRows (v + 1) l (upd rows id (c, { r with c := .var v }))
    | none => none
  | v, .nest id i c :: l, rows => match look rows id with
    | some (cd, r) => wrRows (v + 1) l (upd rows id (cd, { r with c := .o3 (.setC c) r.c i (.var v) }))
    | none => none
  | v, .cells ids :: l, rows => match wrCells (.var v) ids rows with
    | some rows => wrRows (v + 1) l rows
    | none => none
def delAll {α : Type} (m : List (Nat × α)) : List Nat → List (Nat × α)
  | [] => m
  | i :: l => delAll (del m i) l
def noDup : List Nat → Bool
  | [] => true
  | i :: l => !(l.any (Nat.beq i)) && noDup l
def cuBox : List SV → List SV
  | [a, _, _] => [a, .an, .ai .i64]
  | l => l
def cuBoxes : List Nat → List (Nat × Conds × List SV) → List (Nat × Conds × List SV)
  | [], m => m
  | id :: l, m => match look m id with
    | some (c, b) => cuBoxes l (upd m id (c, cuBox b))
    | none => cuBoxes l m

/-! ### steps -/
def killS (j : Nat) (all : Bool) : List (Nat × Conds × SV) → List (Nat × Conds × SV)
  | [] => []
  | (t, g, v) :: l => (t, g, v.kill j all) :: killS j all l
def killB (j : Nat) (all : Bool) : List (Nat × Conds × List SV) → List (Nat × Conds × List SV)
  | [] => []
  | (t, g, v) :: l => (t, g, SV.kills j all v) :: killB j all l
/-- Nothing speaks of row 'j' any more ('all'), or of its content as it was. -/
def St.kill (st : St) (j : Nat) (all : Bool) : St := { st with slots := killS j all st.slots, boxes := killB j all st.boxes }
/-- Rows that have gone into something else. -/
def St.gone (st : St) : List Nat → St
  | [] => st
  | j :: l => St.gone { st.kill j true with rows := del st.rows j } l
def St.stale (st : St) : List Nat → St
  | [] => st
  | j :: l => St.stale (st.kill j false) l
inductive Item where
  | need (g : Conds) (x : X)
  | know (x : X)
  | nilq (x : X)
  | call (g : Conds) (f : Callee') (args : List XArg) (rs : List RS) (n : Nat)
def fresh (st : St) (id : Nat) : Bool :=
  (match look st.boxes id with | none => true | some _ => false) && (match look st.rows id with | none => true | some _ => false) && st.free [id]
def St.put (st : St) (dst : Option Nat) (g : Conds) (sv : SV) : St :=
  match dst with
  | some t => { st with slots := upd st.slots t (g, sv) }
  | none => st
def newIds (st : St) : List Nat → Bool
  | [] => true
  | i :: l => (match look st.boxes i with | none => true | some _ => false) && (match look st.rows i with | none => true | some _ => false) && newIds st l
/-- An operation that changes nothing that was there: what is new goes under the slot's own number. -/
def pureIt (g : Conds) (r : PR) : List Item := r.needs.map (.need g) ++ (match g with | [] => r.knows.map .know | _ => [])
def stepPure (st : St) (g : Conds) (o : Oper) (r : PR) : Option (List Item × St) :=
  match r.box, r.row with
  | none, none => some (pureIt g r, st.put o.dst g r.sv)
  | some cs, none => match o.dst with
    | some t => if fresh st t && SV.frees [t] cs then some (pureIt g r, { st.put (some t) g (.bp t 0) with boxes := (t, g, cs) :: st.boxes }) else none
    | none => none
  | none, some row => match o.dst with
    | some t => if fresh st t then some (pureIt g r, { st.put (some t) g (.ov t none) with rows := (t, g, row) :: st.rows }) else none
    | none => none
  | _, _ => none
def tupOf : List SV → SV
  | [a] => a
  | l => .tup l
def callRes (st : St) (g : Conds) (o : Oper) (r : CR) : List SV × List (Nat × Conds × Row) × List (Nat × Conds × List SV) := resSV (resId (o.dst.getD 0)) g st.nv 0 r.rs
def callIds (st : St) (g : Conds) (o : Oper) (r : CR) : List Nat := (callRes st g o r).2.1.map (·.1) ++ (callRes st g o r).2.2.map (·.1)
def callSt1 (st : St) (r : CR) : St := (st.gone r.tk).stale (wrIds r.wr)
/-- Nothing is written and nothing taken over. -/
def CR.still (r : CR) : Bool := match r.wr, r.tk with | [], [] => true | _, _ => false
def callOk (st : St) (g : Conds) (o : Oper) (r : CR) : Bool :=
  (callSt1 st r).turned (wrIds r.wr) r.tk && st.lt st.nv && Conds.lt st.nv g && newIds st (callIds st g o r) && (callSt1 st r).free (callIds st g o r) && noDup (wrIds r.wr ++ r.tk) && noDup r.cu
    && (r.cu.isEmpty || r.still) && (g.isEmpty || r.still)
def callSt (st : St) (g : Conds) (o : Oper) (r : CR) (rows0 : List (Nat × Conds × Row)) : St :=
  { slots := ((callSt1 st r).put o.dst g (tupOf (callRes st g o r).1)).slots, boxes := (callRes st g o r).2.2 ++ cuBoxes r.cu (callSt1 st r).boxes, rows := (callRes st g o r).2.1 ++ rows0, nv := st.nv + (r.rs.length + r.wr.length), nt := st.nt }
def stepCall (st : St) (g : Conds) (o : Oper) (r : CR) : Option (List Item × St) :=
  if callOk st g o r then match wrRows (st.nv + r.rs.length) r.wr (callSt1 st r).rows with
    | some rows0 => some ([.call g r.f r.args r.rs (r.rs.length + r.wr.length)], callSt st g o r rows0)
    | none => none
  else none
/-- The content of a slice that is appended: the rows that go with it. -/
def srcX (st : St) (ks : List CK) : SV → Option (X × List Nat)
  | .sl src ks' x => if CK.beqs ks ks' && st.srcOk [] src && ks.all CK.flat then some (x, []) else none
  | .ov id pre => match st.row [] id with
    | some r => if CK.beqs ks r.ks then some (preC r pre, if ks.all CK.flat then [] else [id]) else none
    | none => none
  | .ow id lo hi => match st.row [] id with
    | some r => if CK.beqs ks r.ks && ks.all CK.flat then some (winX r lo hi, []) else none
    | none => none
  | .nv id i c => match st.nest [] id i c with
    | some (ks', x) => if CK.beqs ks ks' && ks.all CK.flat then some (x, []) else none
    | none => none
  | .nilsl => some (.nil, [])
  | _ => none
def SV.rowOf : SV → Option Nat
  | .sl (.row j) _ _ | .ov j _ | .ow j _ _ | .nv j _ _ => some j
  | _ => none
def setCs (c i : X) : Nat → List X → X
  | _, [] => c
  | off, x :: l => setCs (.o3 (.setC off) c i x) i (off + 1) l
def storeC (r : Row) (i : X) (off n : Nat) (xs : List X) : X := if (Nat.beq off 0 && Nat.beq n r.ks.length) = true then X.o3 .setE r.c i (X.many xs) else setCs r.c i off xs
def storedSt (st : St) (id : Nat) (ids : List Nat) (r : Row) : St := { (st.gone ids).kill id false with rows := upd ((st.gone ids).kill id false).rows id ([], r) }
def newSt (st : St) (ids : List Nat) (d : Nat) (r : Row) : St := { st.gone ids with slots := upd (st.gone ids).slots d ([], .ov d none), rows := (d, [], r) :: (st.gone ids).rows }
def newOk (st : St) (ids : List Nat) (d : Nat) : Bool := fresh (st.gone ids) d && (st.gone ids).turned [] ids
def SV.notRow (id : Nat) (b : SV) : Bool := match b.rowOf with | some j => !(Nat.beq j id) | none => true
/-- Operations that change what is there: a store, an append. Unguarded alone. -/
def stepEff (P : Program) (st : St) (o : Oper) : Option (List Item × St) :=
  match o.op with
  | .store t a v => match st.get [] a, st.get [] v, sizeT P t, o.dst with
    | some (.bp id off), some v, some n, none => match st.box [] id with
      | some cells => if Nat.beq v.cells.length n && Nat.ble (off + n) cells.length && v.cells.all SV.one && Nat.ble 1 n then
          some ([], { st with boxes := upd st.boxes id ([], cells.take off ++ v.cells ++ cells.drop (off + n)) })
        else none
      | none => none
    | some (.oep id i off), some v, some n, none => match st.row [] id with
      | some r => match cellsX st [] ((r.ks.drop off).take n) v.cells with
        | some (xs, ids) => if Nat.beq v.cells.length n && Nat.ble (off + n) r.ks.length && noDup (id :: ids) && Nat.ble 1 n then
            if ((st.gone ids).kill id false).turned [id] ids then some ([], storedSt st id ids { r with c := storeC r i off n xs }) else none
          else none
        | none => none
      | none => none
    | _, _, _, _ => none
  | .call { callee := .builtin .append, args, argTypes } => match args.toList, argTypes.toList, o.dst with
    | [a, b], [t, t'], some d => match sliceElem P t, st.get [] a, st.get [] b with
      | some (e, ks), some a, some b => if Nat.beq t t' && (zeroCells' P e).isSome then
          match srcX st ks b with
          | some (x, ids) => match a with
            | .ov id pre => match st.row [] id with
              | some r => if CK.beqs ks r.ks && noDup (id :: ids) && SV.notRow id b && newOk st (id :: ids) d then
                  some ([.need [] (.o2 (.fits (Nat.max (bytesT P e) 1)) (preLen r pre) (.len x))], newSt st (id :: ids) d ⟨ks, .o2 .app (preC r pre) x⟩)
                else none
              | none => none
            | .nilsl => if noDup ids && newOk st ids d then some ([.need [] (.o2 (.fits (Nat.max (bytesT P e) 1)) (.int 0) (.len x))], newSt st ids d ⟨ks, x⟩) else none
            | _ => none
          | none => none
        else none
      | _, _, _ => none
    | _, _, _ => none
  | .buildSlice t n parts => match sliceElem P t, o.dst with
    | some (e, ks), some d => match partsX st [] ks 0 parts.toList, zeroCells' P e with
      | some (xs, ids), some _ => if Nat.beq xs.length n && Nat.ble (n * ks.length) 65536 && noDup ids && newOk st ids d then some ([], newSt st ids d ⟨ks, X.many xs⟩) else none
      | _, _ => none
    | _, _ => none
  | .assign x => match st.get [] x, o.dst with
    | some (.ov id (some n)), some d => match st.row [] id with
      | some r => if newOk st [id] d then some ([], newSt st [id] d ⟨r.ks, .o2 .take r.c n⟩) else none
      | none => none
    | _, _ => none
  | .panic _ => some ([.need [] (.bool false)], st)
  | .makeInterface _ _ => some ([.need [] (.bool false)], st)
  | _ => none
/-- A slice against nil: which it is is not known; a nil slice has no elements. -/
def stepNil (P : Program) (st : St) (o : Oper) : Option (List Item × St) :=
  match o.op with
  | .binOp op xt x y _ => match P.underlying xt, st.get [] x, st.get [] y, op with
    | some (.slice _), some (.sl src _ l), some .nilsl, .eql => if st.lt st.nv && st.srcOk [] src then some ([.nilq l], { st.put o.dst [] (.boo (.var st.nv)) with nv := st.nv + 1 }) else none
    | some (.slice _), some (.sl src _ l), some .nilsl, .neq => if st.lt st.nv && st.srcOk [] src then some ([.nilq l], { st.put o.dst [] (.boo (.o1 .not (.var st.nv))) with nv := st.nv + 1 }) else none
    | _, _, _, _ => none
  | _ => none
def dstOk (st : St) (o : Oper) : Bool :=
  match o.dst with
  | some t => Nat.blt t st.nt.1 && Nat.ble st.nt.2 t
  | none => true
def stepOp (P : Program) (md : Modes) (ops : Array Oper) (st : St) (o : Oper) : Option (List Item × St) :=
  match (if dstOk st o then guardOf st ops o else none) with
  | none => none
  | some g => match evalPure P st g o.op with
    | some r => stepPure st g o r
    | none => match evalCall P md st g o with
      | some r => stepCall st g o r
      | none => match g with
        | [] => match stepEff P st o with
          | some r => some r
          | none => stepNil P st o
        | _ => none
def Item.wrap : List Item → T → T
  | [], k => k
  | .need g x :: l, k => .need g x (Item.wrap l k)
  | .know x :: l, k => .know x (Item.wrap l k)
  | .nilq x :: l, k => .nilq x (Item.wrap l k)
  | .call g f as rs _ :: l, k => .call g f as rs (Item.wrap l k)
end Go.Proofs.Ytfbahdalemajcaa.Eng

/-
  The engine, third part: regions, code, loops, whole functions. Definitions alone.
-/
namespace Go.Proofs.Ytfbahdalemajcaa.Eng

/-! ### a region that draws its order -/
def addN : List Nat → List Nat → List Nat
  | [], s => s
  | i :: l, s => match memN i s with
    | true => addN l s
    | false => addN l (i :: s)
/-- What each operation comes behind, directly or not. -/
def closure : List Oper → List (List Nat) → List (List Nat)
  | [], acc => acc
  | o :: l, acc => closure l (acc ++ [o.after.toList.foldl (fun s e => if Region.binds .any e then addN (e.on :: acc.getD e.on []) s else s) []])
def slotsOf (o : Oper) : List Nat := o.op.operands.toList.filterMap fun | .tmp t => some t | _ => none
/-- The operation's place by its slot. -/
def dstAt (ops : List Oper) (t : Nat) : Option Nat := ops.findIdx? fun o => o.dst == some t
def dirDeps (o : Oper) : List Nat := o.after.toList.filterMap fun e => if Region.binds .any e then some e.on else none
/-- A cursor whose counters are not known. -/
def aiBox : List SV → Bool
  | [_, .an, .ai .i64] => true
  | _ => false
def lookAi (m : List (Nat × Conds × List SV)) (id : Nat) : Bool := match look m id with | some (_, cs) => aiBox cs | none => false
/-- Run the operations in the text's order as far as they may come in any order. -/
def runA (P : Program) (md : Modes) (ops : Array Oper) : List (Nat × Oper) → St → St × List (Nat × Oper)
  | [], st => (st, [])
  | (i, o) :: rest, st => match (if dstOk st o then guardOf st ops o else none) with
      | none => (st, (i, o) :: rest)
      | some g => match evalPure P st g o.op with
        | some r => match stepPure st g o r with
          | some (_, st') => runA P md ops rest st'
          | none => (st, (i, o) :: rest)
        | none => match evalCall P md st g o with
          | some r => match r.wr, r.tk, r.cu.all (lookAi st.boxes), stepCall st g o r with
            | [], [], true, some (_, st') => runA P md ops rest st'
            | _, _, _, _ => (st, (i, o) :: rest)
          | none => (st, (i, o) :: rest)
def X.le (n : Nat) (x : X) : Bool := Nat.ble x.top n
def Item.top : Item → Nat
  | .need g x => Nat.max (Conds.top g) x.top
  | .know x | .nilq x => x.top
  | .call .. => 0
/-- Needs as early as their variables are bound. -/
def hoist : Nat → List Item → List Item → List Item
  | _, [], ns => ns
  | nv, .call g f a r n :: cs, ns => ns.filter (fun i => Nat.ble i.top nv) ++ .call g f a r n :: hoist (nv + n) cs (ns.filter fun i => !Nat.ble i.top nv)
  | nv, _ :: cs, ns => hoist nv cs ns
def rowEntry (m : List (Nat × Conds × Row)) (e : Nat × Conds × Row) : Bool :=
  match look m e.1 with
  | some (c, r) => c == e.2.1 && r.beq e.2.2
  | none => false
def boxEntry (m : List (Nat × Conds × List SV)) (e : Nat × Conds × List SV) : Bool :=
  match look m e.1 with
  | some (c, r) => c == e.2.1 && SV.beqs r e.2.2
  | none => false
def slotEntry (m : List (Nat × Conds × SV)) (t : Nat) (g : Conds) (sv : SV) : Bool :=
  match look m t with
  | some (c, r) => c == g && SV.beq r sv
  | none => false
/-- One operation, read on the end state. -/
inductive RK where
  | pure (r : PR)
  | call (v : Nat) (r : CR)
structure Rec where
  i : Nat
  o : Oper
  t : Nat
  g : Conds
  k : RK
def PR.value (r : PR) (t : Nat) : SV :=
  match r.box, r.row with
  | some _, _ => .bp t 0
  | _, some _ => .ov t none
  | _, _ => r.sv
def Rec.res (e : Rec) : SV × List (Nat × Conds × Row) × List (Nat × Conds × List SV) :=
  match e.k with
  | .pure r => (r.value e.t, (match r.row with | some row => [(e.t, e.g, row)] | none => []), (match r.box with | some cs => [(e.t, e.g, cs)] | none => []))
  | .call v r => match resSV (resId e.t) e.g v 0 r.rs with | (svs, rows, boxes) => (tupOf svs, rows, boxes)
def Rec.bornR (e : Rec) : List Nat := e.res.2.1.map (·.1)
def Rec.bornB (e : Rec) : List Nat := e.res.2.2.map (·.1)
def Rec.born (e : Rec) : List Nat := e.bornR ++ e.bornB
def Rec.needs (e : Rec) : List Item := match e.k with | .pure r => r.needs.map (.need e.g) | .call .. => []
def Rec.knows (e : Rec) : List Item := match e.k, e.g with | .pure r, [] => r.knows.map .know | _, _ => []
def Rec.calls (e : Rec) : List Item := match e.k with | .pure _ => [] | .call _ r => [.call e.g r.f r.args r.rs (r.rs.length + r.wr.length)]
def dstA : List (Nat × Oper) → Nat → Option Nat
  | [], _ => none
  | (i, o) :: l, t => match o.dst with
    | some u => bif Nat.beq u t then some i else dstA l t
    | none => dstA l t
def recsOf (P : Program) (md : Modes) (ops : Array Oper) (st : St) : Nat → List (Nat × Oper) → Option (List Rec)
  | _, [] => some []
  | v, (i, o) :: l => match guardOf st ops o, o.dst with
    | some g, some t => match evalPure P st g o.op with
      | some r => match recsOf P md ops st v l with
        | some l => some (⟨i, o, t, g, .pure r⟩ :: l)
        | none => none
      | none => match evalCall P md st g o with
        | some r => match recsOf P md ops st (v + r.rs.length) l with
          | some l => some (⟨i, o, t, g, .call v r⟩ :: l)
          | none => none
        | none => none
    | _, _ => none
/-- What the operation looks at is there when it runs. -/
def depsOk (ops : Array Oper) (opsA : List (Nat × Oper)) (cl : List Nat) (o : Oper) : Bool :=
  (slotsOf o).all (fun u => match dstA opsA u with | some j => memN j cl | none => true)
    && (match o.guard with | some (j, _) => (match (ops[j]?).bind (·.dst) with | some u => (match dstA opsA u with | some j => memN j cl | none => true) | none => true) | none => true)
def Rec.lt (n : Nat) (e : Rec) : Bool :=
  Conds.lt n e.g && e.res.1.lt n && e.res.2.1.all (fun p => Conds.lt n p.2.1 && p.2.2.c.lt n) && e.res.2.2.all (fun p => Conds.lt n p.2.1 && SV.lts n p.2.2)
    && (match e.k with | .pure r => r.needs.all (X.lt n) && r.knows.all (X.lt n) | .call .. => true)
def Rec.free (js : List Nat) (e : Rec) : Bool := match js with | [] => true | _ => e.res.1.free js && e.res.2.2.all (fun p => SV.frees js p.2.2)
def Rec.ok (ops : Array Oper) (opsA : List (Nat × Oper)) (cl : List (List Nat)) (st : St) (recs : List Rec) (e : Rec) : Bool :=
  (match dstA opsA e.t with | some j => Nat.beq j e.i | none => false) && depsOk ops opsA (cl.getD e.i []) e.o && Nat.blt e.t st.nt.1 && Nat.ble st.nt.2 e.t
    && slotEntry st.slots e.t e.g e.res.1 && e.res.2.1.all (rowEntry st.rows) && e.res.2.2.all (boxEntry st.boxes)
    && (match e.k with
      | .pure r => (match r.box, r.row with | some _, some _ => false | _, _ => true)
      | .call v r => r.still && noDup r.cu && r.cu.all (fun id => lookAi st.boxes id && !memN id e.born) && Conds.lt v e.g && recs.all (fun q => Nat.beq q.i e.i || memN e.i (cl.getD q.i []) || q.lt v))
    && (match e.born with | [] => true | js => recs.all (fun q => Nat.beq q.i e.i || memN e.i (cl.getD q.i []) || q.free js))
/-- The calls come in one order only. -/
def callsOrd (cl : List (List Nat)) : List Nat → List Rec → Bool
  | _, [] => true
  | cs, e :: l => match e.k with
    | .pure _ => callsOrd cl cs l
    | .call .. => cs.all (fun c => memN c (cl.getD e.i [])) && callsOrd cl (e.i :: cs) l
/-- The rest comes behind all that stands before it. -/
def tailOk (cl : List (List Nat)) : List Nat → List (Nat × Oper) → Bool
  | _, [] => true
  | before, (i, _) :: l => before.all (fun j => memN j (cl.getD i [])) && tailOk cl (i :: before) l
def number : Nat → List Oper → List (Nat × Oper)
  | _, [] => []
  | i, o :: l => (i, o) :: number (i + 1) l
def updAll {α : Type} : List (Nat × α) → List (Nat × α) → List (Nat × α)
  | m, [] => m
  | m, (i, a) :: l => updAll (upd m i a) l
def newSlots (m : List (Nat × Conds × SV)) : List (Nat × Oper) → List (Nat × Conds × SV)
  | [] => []
  | (_, o) :: l => match o.dst with
    | some t => match look m t with
      | some e => (t, e) :: newSlots m l
      | none => newSlots m l
    | none => newSlots m l
def newKeys {α : Type} (old : List (Nat × α)) (m : List (Nat × α)) : List (Nat × α) := m.filter fun p => match look old p.1 with | some _ => false | none => true
def drawSt (st stR : St) (opsA : List (Nat × Oper)) : St := { slots := updAll st.slots (newSlots stR.slots opsA), boxes := newKeys st.boxes stR.boxes ++ st.boxes, rows := newKeys st.rows stR.rows ++ st.rows, nv := stR.nv, nt := st.nt }
def callVars : List Rec → Nat
  | [] => 0
  | e :: l => (match e.k with | .pure _ => 0 | .call _ r => r.rs.length) + callVars l
def drawOk (P : Program) (md : Modes) (ops : Array Oper) (st : St) : Option (St × List Item × List (Nat × Oper)) :=
  let nl := number 0 ops.toList
  let (stR, tail) := runA P md ops nl st
  let opsA := nl.filter fun p => !(tail.any fun q => Nat.beq q.1 p.1)
  let cl := closure ops.toList []
  let stF := drawSt st stR opsA
  match recsOf P md ops stF st.nv opsA with
  | none => none
  | some recs =>
    let js := recs.flatMap Rec.born
    if st.lt st.nv && Region.noSelect ops && nl.all (fun p => (dirDeps p.2).all fun j => Nat.blt j p.1)
        && recs.all (Rec.ok ops opsA cl stF recs) && callsOrd cl [] recs && tailOk cl (opsA.map (·.1)) tail
        && noDup js && (newKeys st.boxes stR.boxes).all (fun p => memN p.1 (recs.flatMap Rec.bornB)) && (newKeys st.rows stR.rows).all (fun p => memN p.1 (recs.flatMap Rec.bornR))
        && (match js with | [] => true | _ => st.free js) && Nat.beq stF.nv (st.nv + callVars recs)
    then some (stF, hoist st.nv (recs.flatMap Rec.calls) (recs.flatMap Rec.needs) ++ recs.flatMap Rec.knows, tail) else none

def execOps (P : Program) (md : Modes) (ops : Array Oper) : List Oper → St → (St → T) → T
  | [], st, K => K st
  | o :: rest, st, K => match stepOp P md ops st o with
    | some (items, st') => Item.wrap items (execOps P md ops rest st' K)
    | none => .fail (1000 + o.dst.getD 0)

/-! ### a region of which every order is run -/
def capsBeq : List (List CK × X) → List (List CK × X) → Bool
  | [], [] => true
  | (k, x) :: l, (k', x') :: m => CK.beqs k k' && x == x' && capsBeq l m
  | _, _ => false
def XArg.beq : XArg → XArg → Bool
  | .sc k x, .sc k' x' => CK.beq k k' && x == x'
  | .st k x, .st k' x' | .bx k x, .bx k' x' | .row k x, .row k' x' | .stw k x, .stw k' x' | .take k x, .take k' x' => CK.beqs k k' && x == x'
  | .clo f c, .clo f' c' => Nat.beq f f' && capsBeq c c'
  | .clop j, .clop j' => Nat.beq j j'
  | .cur x, .cur x' => x == x'
  | _, _ => false
def XArg.beqs : List XArg → List XArg → Bool
  | [], [] => true
  | a :: l, b :: m => a.beq b && XArg.beqs l m
  | _, _ => false
def RS.beqs : List RS → List RS → Bool
  | [], [] => true
  | .sc k :: l, .sc k' :: m => CK.beq k k' && RS.beqs l m
  | .st k :: l, .st k' :: m => CK.beqs k k' && RS.beqs l m
  | .cur :: l, .cur :: m => RS.beqs l m
  | _, _ => false
def Callee'.beq : Callee' → Callee' → Bool
  | .fn f, .fn f' | .par f, .par f' => Nat.beq f f'
  | _, _ => false
def Item.beq : Item → Item → Bool
  | .need g x, .need g' x' => g == g' && x == x'
  | .know x, .know x' | .nilq x, .nilq x' => x == x'
  | .call g f as rs n, .call g' f' as' rs' n' => g == g' && f.beq f' && XArg.beqs as as' && RS.beqs rs rs' && Nat.beq n n'
  | _, _ => false
def stripItems : List Item → List Item → Option (List Item)
  | [], rem => some rem
  | i :: l, r :: rem => match i.beq r with
    | true => stripItems l rem
    | false => none
  | _ :: _, [] => none
/-- All that 'fin' says 'st' says. -/
def sameSt (st fin : St) : Bool :=
  fin.slots.all (fun p => slotEntry st.slots p.1 p.2.1 p.2.2) && fin.boxes.all (boxEntry st.boxes) && fin.rows.all (rowEntry st.rows) && Nat.beq fin.nv st.nv && Nat.beq fin.nt.1 st.nt.1 && Nat.beq fin.nt.2 st.nt.2
def isMove (o : Oper) : Bool := match o.op, o.guard with | .move _, none => true | _, _ => false
/-- A copy that may come up and may be taken first. -/
def moveFirst (ops : Array Oper) (listed : Array Bool) : List Nat → Option Nat
  | [] => none
  | i :: l => match ops[i]? with
    | some o => match isMove o && Region.free .any ops listed i with
      | true => some i
      | false => moveFirst ops listed l
    | none => moveFirst ops listed l
def tryOne (P : Program) (md : Modes) (ops : Array Oper) (st : St) (rem : List Item) (i : Nat) (k : St → List Item → Bool) : Bool :=
  match ops[i]? with
  | some o => match stepOp P md ops st o with
    | some (items, st') => match stripItems items rem with
      | some rem' => k st' rem'
      | none => false
    | none => false
  | none => false
def explore (P : Program) (md : Modes) (ops : Array Oper) (fin : St) : Nat → Array Bool → St → List Item → Bool
  | 0, listed, st, rem => (Region.ready .any ops listed).isEmpty && rem.isEmpty && sameSt st fin
  | fuel + 1, listed, st, rem => match Region.ready .any ops listed with
    | [] => rem.isEmpty && sameSt st fin
    | i :: l => (match moveFirst ops listed (i :: l) with | some j => [j] | none => i :: l).all fun i => tryOne P md ops st rem i fun st' rem' => explore P md ops fin fuel (listed.setIfInBounds i true) st' rem'
def runOps (P : Program) (md : Modes) (ops : Array Oper) : List Oper → St → Option (List Item × St)
  | [], st => some ([], st)
  | o :: l, st => match stepOp P md ops st o with
    | some (is, st') => match runOps P md ops l st' with
      | some (js, st'') => some (is ++ js, st'')
      | none => none
    | none => none
def exploreOk (P : Program) (md : Modes) (ops : Array Oper) (st : St) : Option (List Item × St) :=
  match runOps P md ops ops.toList st with
  | some (items, fin) => match Region.noSelect ops && explore P md ops fin ops.size (Array.replicate ops.size false) st items with
    | true => some (items, fin)
    | false => none
  | none => none

/-! ### nil slices in boxes that become rows -/
def nilAt (leaf : St) (id : Nat) : Nat → List SV → List SV → List (Nat × Nat × List CK)
  | i, .nilsl :: l, .ov rid none :: m => match look leaf.rows rid with
    | some (_, r) => (id, i, r.ks) :: nilAt leaf id (i + 1) l m
    | none => nilAt leaf id (i + 1) l m
  | i, _ :: l, _ :: m => nilAt leaf id (i + 1) l m
  | _, _, _ => []
def nilsOf (leaf : St) : List (Nat × Conds × List SV) → List (Nat × Nat × List CK)
  | [] => []
  | (id, _, cells) :: l => match look leaf.boxes id with
    | some (_, cells') => nilAt leaf id 0 cells cells' ++ nilsOf leaf l
    | none => nilsOf leaf l
def nilId (id i : Nat) : Nat := 300000 + id % 2000 * 64 + i
def nilRow (st : St) (id i : Nat) (ks : List CK) : St :=
  match look st.boxes id with
  | some ([], cells) => match cells[i]? with
    | some .nilsl => match fresh st (nilId id i) with
      | true => { st with boxes := upd st.boxes id ([], cells.set i (.ov (nilId id i) none)), rows := (nilId id i, [], ⟨ks, .nil⟩) :: st.rows }
      | false => st
    | _ => st
  | _ => st
def nilRows : St → List (Nat × Nat × List CK) → St
  | st, [] => st
  | st, (id, i, ks) :: l => nilRows (nilRow st id i ks) l

/-! ### loops -/
structure Marks where
  slots : List Nat
  cells : List (Nat × Nat)
  rows : List Nat
def Marks.join (a b : Marks) : Marks := ⟨a.slots ++ b.slots, a.cells ++ b.cells, a.rows ++ b.rows⟩
mutual
/-- What speaks of one of the rows otherwise than as the whole row is forgotten. -/
def SV.keepWhole (js : List Nat) : SV → SV
  | .sl (.row id) ks x => bif memN id js then .top else .sl (.row id) ks x
  | .ep (.row id) ks e o => bif memN id js then .top else .ep (.row id) ks e o
  | .ow id l h => bif memN id js then .top else .ow id l h
  | .nv id i c => bif memN id js then .top else .nv id i c
  | .ov id (some p) => bif memN id js then .top else .ov id (some p)
  | .oep id i o => bif memN id js then .top else .oep id i o
  | .agg cs => .agg (SV.keepWholes js cs)
  | .tup cs => .tup (SV.keepWholes js cs)
  | .clo f cs => .clo f (SV.keepWholes js cs)
  | v => v
def SV.keepWholes (js : List Nat) : List SV → List SV
  | [] => []
  | a :: l => SV.keepWhole js a :: SV.keepWholes js l
end
/-- A value that changes from round to round: a variable, where it can be one. -/
def varSV (v : Nat) : SV → SV × Nat
  | .num k _ => (.num k (.var v), v + 1)
  | .boo _ => (.boo (.var v), v + 1)
  | .txt _ => (.txt (.var v), v + 1)

  | .ai k => (.ai k, v)
  | .an => (.an, v)
  | _ => (.top, v)
def headSlots (m : Marks) : Nat → List (Nat × Conds × SV) → List (Nat × Conds × SV) × Nat
  | v, [] => ([], v)
  | v, (t, c, sv) :: l => match memN t m.slots, c with
    | true, [] =>
      let (sv', v') := varSV v sv
      let (l', w) := headSlots m v' l
      ((t, c, sv'.keepWhole m.rows) :: l', w)
    | true, _ => headSlots m v l
    | false, _ =>
      let (l', w) := headSlots m v l
      ((t, c, sv.keepWhole m.rows) :: l', w)
def headCells (m : Marks) (id : Nat) : Nat → Nat → List SV → List SV × Nat
  | _, v, [] => ([], v)
  | i, v, sv :: l =>
    let (sv', v') := match m.cells.any fun p => Nat.beq p.1 id && Nat.beq p.2 i with
      | true => varSV v sv
      | false => (sv, v)
    let (l', w) := headCells m id (i + 1) v' l
    (sv'.keepWhole m.rows :: l', w)
def headBoxes (m : Marks) : Nat → List (Nat × Conds × List SV) → List (Nat × Conds × List SV) × Nat
  | v, [] => ([], v)
  | v, (id, c, cells) :: l =>
    let (cells', v') := headCells m id 0 v cells
    let (l', w) := headBoxes m v' l
    ((id, c, cells') :: l', w)
def headRows (m : Marks) : Nat → List (Nat × Conds × Row) → List (Nat × Conds × Row) × Nat
  | v, [] => ([], v)
  | v, (id, c, r) :: l =>
    let (r', v') := match memN id m.rows with
      | true => ({ r with c := .var v }, v + 1)
      | false => (r, v)
    let (l', w) := headRows m v' l
    ((id, c, r') :: l', w)
def mkHead (st : St) (m : Marks) : St :=
  let (slots, v1) := headSlots m st.nv st.slots
  let (boxes, v2) := headBoxes m v1 st.boxes
  let (rows, v3) := headRows m v2 st.rows
  { slots, boxes, rows, nv := v3, nt := st.nt }
/-- Which row of the leaf's is the head's. -/
def renSV (ren : List (Nat × Nat)) : SV → SV → List (Nat × Nat)
  | .ov id none, .ov id' none => match look ren id with
    | none => ren ++ [(id, id')]
    | some _ => ren
  | _, _ => ren
def renSlots (leaf : St) : List (Nat × Nat) → List (Nat × Conds × SV) → List (Nat × Nat)
  | ren, [] => ren
  | ren, (t, _, sv) :: l => match look leaf.slots t with
    | some (_, sv') => renSlots leaf (renSV ren sv sv') l
    | none => renSlots leaf ren l
def renCells : List (Nat × Nat) → List SV → List SV → List (Nat × Nat)
  | ren, a :: l, b :: m => renCells (renSV ren a b) l m
  | ren, _, _ => ren
def renBoxes (leaf : St) : List (Nat × Nat) → List (Nat × Conds × List SV) → List (Nat × Nat)
  | ren, [] => ren
  | ren, (id, _, cells) :: l => match look leaf.boxes id with
    | some (_, cells') => renBoxes leaf (renCells ren cells cells') l
    | none => renBoxes leaf ren l
def renOf (head leaf : St) : List (Nat × Nat) := renBoxes leaf (renSlots leaf [] head.slots) head.boxes
def renId (ren : List (Nat × Nat)) (id : Nat) : Nat := (look ren id).getD id
def vnum : Option Nat → Nat → Bool
  | none, _ => true
  | some n, v => Nat.beq v n
def addO : Option Nat → Nat → Option Nat
  | none, _ => none
  | some n, k => some (n + k)
/-- A variable of the loop's own takes the new value; another one stays. -/
def matchX (nv0 : Nat) (n : Option Nat) (v : Nat) (x : X) : Option (List X) :=
  if Nat.ble nv0 v then (if vnum n v then some [x] else none) else if x == .var v then some [] else none
/-- Does the leaf's value come to the head's? The variables' new values. 'nv0': the variables from there on are the loop's; 'n': the next. -/
def matchSV (nv0 : Nat) (n : Option Nat) (ren : List (Nat × Nat)) : SV → SV → Option (List X)
  | .top, _ => some []
  | .ai k, .ai k' => if k == k' then some [] else none
  | .an, .an => some []
  | .ai k, .num k' _ => if k == k' then some [] else none
  | .ov id none, .ov id' none => if Nat.beq (renId ren id) id' then some [] else none
  | .num k (.var v), .num k' x => if k == k' then matchX nv0 n v x else none
  | .boo (.var v), .boo x => matchX nv0 n v x
  | .txt (.var v), .txt x => matchX nv0 n v x
  | a, b => if SV.beq a b && Nat.ble a.vtop nv0 then some [] else none
mutual
/-- Names no row but such as are themselves in the leaf. -/
def SV.plainRows (ren : List (Nat × Nat)) (keys : List Nat) : SV → Bool
  | .sl (.row id) _ _ | .ep (.row id) _ _ _ | .ov id _ | .ow id _ _ | .nv id _ _ | .oep id _ _ => Nat.beq (renId ren id) id && memN id keys
  | .agg cs | .tup cs | .clo _ cs => SV.plainRowss ren keys cs
  | _ => true
def SV.plainRowss (ren : List (Nat × Nat)) (keys : List Nat) : List SV → Bool
  | [] => true
  | a :: l => SV.plainRows ren keys a && SV.plainRowss ren keys l
end
def matchOne (nv0 : Nat) (n : Option Nat) (ren : List (Nat × Nat)) (keys : List Nat) (a b : SV) : Option (List X) :=
  match a, b with
  | .ov id none, .ov _ none => if memN id keys then matchSV nv0 n ren a b else none
  | _, _ => if a.plainRows ren keys then matchSV nv0 n ren a b else none
def matchSlot (nv0 : Nat) (n : Option Nat) (ren : List (Nat × Nat)) (keys : List Nat) (leaf : St) (t : Nat) (c : Conds) (sv : SV) : Option (List X) :=
  match sv, c with
  | .top, [] => if Nat.blt t leaf.nt.1 then some [] else none
  | _, _ => match look leaf.slots t with
    | some (c', sv') => if c == c' && Nat.ble (Conds.top c) nv0 then matchOne nv0 n ren keys sv sv' else none
    | none => none
def matchSlots (nv0 : Nat) (ren : List (Nat × Nat)) (keys : List Nat) (leaf : St) : Option Nat → List (Nat × Conds × SV) → Option (List X)
  | _, [] => some []
  | n, (t, c, sv) :: l => match matchSlot nv0 n ren keys leaf t c sv with
    | some a => match matchSlots nv0 ren keys leaf (addO n a.length) l with
      | some b => some (a ++ b)
      | none => none
    | none => none
def matchCells (nv0 : Nat) (ren : List (Nat × Nat)) (keys : List Nat) : Option Nat → List SV → List SV → Option (List X)
  | _, [], [] => some []
  | n, a :: l, b :: m => match matchOne nv0 n ren keys a b with
    | some x => match matchCells nv0 ren keys (addO n x.length) l m with
      | some y => some (x ++ y)
      | none => none
    | none => none
  | _, _, _ => none
def matchBoxes (nv0 : Nat) (ren : List (Nat × Nat)) (keys : List Nat) (leaf : St) : Option Nat → List (Nat × Conds × List SV) → Option (List X)
  | _, [] => some []
  | n, (id, c, cells) :: l => match look leaf.boxes id with
    | some (c', cells') => match (if c == c' && Nat.ble (Conds.top c) nv0 then matchCells nv0 ren keys n cells cells' else none) with
      | some a => match matchBoxes nv0 ren keys leaf (addO n a.length) l with
        | some b => some (a ++ b)
        | none => none
      | none => none
    | none => none
def parRow : Nat := 500000
def matchRow (nv0 : Nat) (n : Option Nat) (id rid : Nat) (c c' : Conds) (r r' : Row) : Option (List X) :=
  if c == c' && Nat.ble (Conds.top c) nv0 && CK.beqs r.ks r'.ks && (Nat.blt id parRow || Nat.beq rid id) then
    (match r.c with
      | .var v => (match c, Nat.ble nv0 v with | _ :: _, true => none | _, _ => matchX nv0 n v r'.c)
      | x => if r'.c == x && Nat.ble x.top nv0 then some [] else none) else none
def matchRows (nv0 : Nat) (ren : List (Nat × Nat)) (leaf : St) : Option Nat → List (Nat × Conds × Row) → Option (List X)
  | _, [] => some []
  | n, (id, c, r) :: l => match look leaf.rows (renId ren id) with
    | some (c', r') => match matchRow nv0 n id (renId ren id) c c' r r' with
      | some a => match matchRows nv0 ren leaf (addO n a.length) l with
        | some b => some (a ++ b)
        | none => none
      | none => none
    | none => none
def matchHead (nv0 : Nat) (head leaf : St) : Option (List X) :=
  let ren := renOf head leaf
  let keys := head.rows.map fun p => p.1
  if noDup (keys.map (renId ren)) && Nat.beq head.nt.1 leaf.nt.1 && Nat.beq head.nt.2 leaf.nt.2 then
    match matchSlots nv0 ren keys leaf (some nv0) head.slots with
    | some a => match matchBoxes nv0 ren keys leaf (some (nv0 + a.length)) head.boxes with
      | some b => match matchRows nv0 ren leaf (some (nv0 + a.length + b.length)) head.rows with
        | some c => if Nat.beq (nv0 + a.length + b.length + c.length) head.nv then some (a ++ b ++ c) else none
        | none => none
      | none => none
    | none => none
  else none
/-- What of the head does not fit the leaf. -/
def diffSlots (nv0 : Nat) (ren : List (Nat × Nat)) (keys : List Nat) (leaf : St) : List (Nat × Conds × SV) → List Nat
  | [] => []
  | (t, c, sv) :: l => match matchSlot nv0 none ren keys leaf t c sv with
    | some _ => diffSlots nv0 ren keys leaf l
    | none => t :: diffSlots nv0 ren keys leaf l
def diffCells (nv0 : Nat) (ren : List (Nat × Nat)) (keys : List Nat) (id : Nat) : Nat → List SV → List SV → List (Nat × Nat)
  | i, a :: l, b :: m => match matchOne nv0 none ren keys a b with
    | some _ => diffCells nv0 ren keys id (i + 1) l m
    | none => (id, i) :: diffCells nv0 ren keys id (i + 1) l m
  | _, _, _ => []
def diffBoxes (nv0 : Nat) (ren : List (Nat × Nat)) (keys : List Nat) (leaf : St) : List (Nat × Conds × List SV) → List (Nat × Nat)
  | [] => []
  | (id, _, cells) :: l => match look leaf.boxes id with
    | some (_, cells') => diffCells nv0 ren keys id 0 cells cells' ++ diffBoxes nv0 ren keys leaf l
    | none => diffBoxes nv0 ren keys leaf l
def diffRows (nv0 : Nat) (ren : List (Nat × Nat)) (leaf : St) : List (Nat × Conds × Row) → List Nat
  | [] => []
  | (id, c, r) :: l => match matchRows nv0 ren leaf none [(id, c, r)], Nat.beq (renId ren id) id with
    | some _, true => diffRows nv0 ren leaf l
    | some _, false => (match r.c with | .var v => if Nat.ble nv0 v then diffRows nv0 ren leaf l else id :: diffRows nv0 ren leaf l | _ => id :: diffRows nv0 ren leaf l)
    | none, _ => id :: diffRows nv0 ren leaf l
def diffOf (nv0 : Nat) (head : St) : List St → Marks
  | [] => ⟨[], [], []⟩
  | leaf :: l =>
    let ren := renOf head leaf
    let keys := head.rows.map fun p => p.1
    Marks.join ⟨diffSlots nv0 ren keys leaf head.slots, diffBoxes nv0 ren keys leaf head.boxes, diffRows nv0 ren leaf head.rows⟩ (diffOf nv0 head l)

/-! ### code -/
def writesOf : Code → List Nat
  | .seq a b | .cond _ a b => writesOf a ++ writesOf b
  | .block _ c | .loop c => writesOf c
  | .region _ ops _ => ops.toList.filterMap (·.dst)
  | _ => []
/-- Slots that a loop does not write and that hold a row which a slot that it writes holds too. -/
def twice (body : Code) (slots : List (Nat × Conds × SV)) : List Nat :=
  let w := writesOf body
  slots.filterMap fun p => match p.2.2 with
    | .ov id none => if !memN p.1 w && slots.any (fun q => memN q.1 w && (match q.2.2 with | .ov id' none => Nat.beq id id' | _ => false)) then some p.1 else none
    | _ => none
inductive XE where
  | nm | ex (id : Nat) | rt
def probeK (e : XE) (s : St) : T :=
  match e with
  | .nm => .probe s
  | _ => .ret []
def exec (P : Program) (md : Modes) : Code → Nat → St → (XE → St → T) → T
  | .skip, _, st, K => K .nm st
  | .seq a b, lv, st, K => exec P md a lv st fun e s => match e with
    | .nm => exec P md b lv s K
    | e => K e s
  | .cond c a b, lv, st, K => match st.get [] c with
    | some (.boo (.bool true)) => exec P md a lv st K
    | some (.boo (.bool false)) => exec P md b lv st K
    | some (.boo x) => .br x (exec P md a lv st K) (exec P md b lv st K)
    | _ => .fail 2
  | .block id c, lv, st, K => exec P md c lv st fun e s => match e with
    | .ex j => bif Nat.beq j id then K .nm s else K (.ex j) s
    | e => K e s
  | .exit id, _, st, K => K (.ex id) st
  | .ret, _, st, K => K .rt st
  | .region _ ops false, _, st, K => execOps P md ops ops.toList st (K .nm)
  | .region _ ops true, _, st, K => match drawOk P md ops st with
    | some (stA, items, tail) => Item.wrap items (execOps P md ops (tail.map (·.2)) stA (K .nm))
    | none => match exploreOk P md ops st with
      | some (items, fin) => Item.wrap items (K .nm fin)
      | none => .fail 3
  | .loop body, lv, st0, K =>
    let mm : Marks := ⟨twice body st0.slots, [], []⟩
    let hh := mkHead st0 mm
    let pp := (exec P md body (lv + 1) hh probeK).probes
    let ns := pp.flatMap fun leaf => nilsOf leaf st0.boxes
    let st := nilRows st0 ns
    let m0 : Marks := ⟨twice body st.slots, [], []⟩
    let h0 := mkHead st m0
    let p0 := match ns with
      | [] => pp
      | _ :: _ => (exec P md body (lv + 1) h0 probeK).probes
    let m1 := Marks.join m0 (diffOf st.nv h0 p0)
    let h1 := mkHead st m1
    let m2 := Marks.join m1 (diffOf st.nv h1 (exec P md body (lv + 1) h1 probeK).probes)
    let h2 := mkHead st m2
    let m3 := Marks.join m2 (diffOf st.nv h2 (exec P md body (lv + 1) h2 probeK).probes)
    let h3 := mkHead st m3
    match matchHead st.nv h3 st with
    | some init => .loop lv init (exec P md body (lv + 1) h3 fun e s => match e with
      | .nm => (match matchHead st.nv h3 s with
        | some xs => .cont lv xs
        | none => .fail 4)
      | e => K e s)
    | none => .fail 5
  | _, _, _, _ => .fail 6

/-! ### whole functions -/
def parId (j c : Nat) : Nat := parRow + 64 * j + c
def wrPar (j : Nat) (x : X) : Nat → List CK → List SV
  | _, [] => []
  | c, .sl _ :: l => .ov (parId j c) none :: wrPar j x (c + 1) l
  | c, k :: l => ckSV (.st false) (X.fld c x) k :: wrPar j x (c + 1) l
def wrParRows (j : Nat) (x : X) : Nat → List CK → List (Nat × Conds × Row)
  | _, [] => []
  | c, .sl ks :: l => (parId j c, [], ⟨ks, X.fld c x⟩) :: wrParRows j x (c + 1) l
  | c, _ :: l => wrParRows j x (c + 1) l
/-- What a parameter is. -/
inductive PK where
  | sc (ck : CK)
  | st (ks : List CK)
  | stw (ks : List CK)
  | row (ks : List CK)
  | take (ks : List CK)
  | cur
  | clo
def parK (P : Program) (md : Modes) (f j : Nat) (t : TypeId) : Option PK :=
  match P.underlying t with
  | some (.struct _) => match ckCells P t with
    | some ks => if md.isRow (.fn f) j then (if Nat.ble ks.length 64 then some (.stw ks) else none) else some (.st ks)
    | none => none
  | some (.slice e) => match elemKs P e with
    | some ks => if md.isRow (.fn f) j then some (.row ks) else if md.isTake (.fn f) j then some (.take ks) else some (.sc (.sl ks))
    | none => none
  | some (.pointer _) => some .cur
  | some (.func _ _ _) => some .clo
  | some _ => match ckCells P t with
    | some [ck] => some (.sc ck)
    | _ => none
  | none => none
def parKs (P : Program) (md : Modes) (f : Nat) : Nat → List TypeId → Option (List PK)
  | _, [] => some []
  | j, t :: l => match parK P md f j t, parKs P md f (j + 1) l with
    | some a, some b => some (a :: b)
    | _, _ => none
def CK.gl : CK → Bool
  | .sl ks => CK.glob ks
  | _ => false
def parSV (op : Bool) (j : Nat) : PK → SV × List (Nat × Conds × List SV) × List (Nat × Conds × Row)
  | .sc ck => (ckSV (.st ck.gl) (.var j) ck, [], [])
  | .st ks => (.agg (cksSV (.st false) (.var j) 0 ks), [], [])
  | .stw ks => (.agg (wrPar j (.var j) 0 ks), [], wrParRows j (.var j) 0 ks)
  | .row ks | .take ks => (.ov (parId j 0) none, [], [(parId j 0, [], ⟨ks, .var j⟩)])
  | .cur => (.bp (parId j 0) 0, [(parId j 0, [], match op with
      | true => [.sl (.st true) [.int .u8] (X.fld 0 (.var j)), .num .i64 (X.fld 1 (.var j)), .num .i64 (X.fld 2 (.var j))]
      | false => [.sl (.st true) [.int .u8] (X.fld 0 (.var j)), .an, .ai .i64])], [])
  | .clo => (.clop j, [], [])
def parsSt (op : Bool) : Nat → List PK → St
  | j, [] => ⟨[], [], [], j, (0, 0)⟩
  | j, t :: l => ⟨(j, [], (parSV op j t).1) :: (parsSt op (j + 1) l).slots, (parSV op j t).2.1 ++ (parsSt op (j + 1) l).boxes, (parSV op j t).2.2 ++ (parsSt op (j + 1) l).rows, (parsSt op (j + 1) l).nv, (0, 0)⟩
/-- Parameters whose slot must keep what it holds. -/
def npOf : Nat → List PK → Nat
  | _, [] => 0
  | j, t :: l => match t with
    | .stw _ | .row _ | .cur => Nat.max (j + 1) (npOf (j + 1) l)
    | _ => npOf (j + 1) l
/-- What a closure captured comes behind the parameters, each by its address. -/
def freesSt : Nat → List (List CK) → List (Nat × Conds × SV)
  | _, [] => []
  | j, ks :: l => (j, [], .ep (.st false) ks (.var j) 0) :: freesSt (j + 1) l
def retVar (P : Program) (st : St) : ResultVar → Option SV
  | .tmp t => st.get [] (.tmp t)
  | .cell t ty => match st.get [] (.tmp t) with
    | some a => loadSV P st [] ty a
    | none => none
def retX (st : St) : RS → SV → Option (X × List Nat)
  | .sc ck, v => cellX st [] ck v
  | .st cks, .agg cs => match cellsX st [] cks cs with
    | some (xs, ids) => some (X.many xs, ids)
    | none => none
  | .cur, .bp id 0 => match st.box [] id with
    | some [.sl (.st true) ks x, .num .i64 (.int (.ofNat _)), .num .i64 _] => if CK.beqs ks [.int .u8] then some (x, [id]) else none
    | some [.sl (.st true) ks x, .an, .ai .i64] => if CK.beqs ks [.int .u8] then some (x, [id]) else none
    | _ => none
  | _, _ => none
def retXs (P : Program) (st : St) : List RS → List ResultVar → Option (List X × List Nat)
  | [], [] => some ([], [])
  | r :: rs, v :: vs => match retVar P st v, retXs P st rs vs with
    | some sv, some (xs, ids) => match retX st r sv with
      | some (x, a) => some (x :: xs, a ++ ids)
      | none => none
    | _, _ => none
  | _, _ => none
def backCells (st : St) (j : Nat) : Nat → List CK → Option (List X × List Nat)
  | _, [] => some ([], [])
  | c, .sl ks :: l => match st.row [] (parId j c), backCells st j (c + 1) l with
    | some r, some (xs, ids) => if CK.beqs ks r.ks then some (r.c :: xs, parId j c :: ids) else none
    | _, _ => none
  | c, _ :: l => match backCells st j (c + 1) l with
    | some (xs, ids) => some (X.fld c (.var j) :: xs, ids)
    | none => none
/-- A cursor's box at the end: its content, and the counter that must not be negative. -/
def curBoxR : List SV → Option (X × Option X)
  | [.sl (.st true) [.int .u8] x, .an, .ai .i64] => some (x, none)
  | [.sl (.st true) [.int .u8] x, .num .i64 i, .num .i64 _] => some (x, some i)
  | _ => none
def curNeeds (st : St) : Nat → List PK → List X
  | _, [] => []
  | j, .cur :: l => match st.box [] (parId j 0) with
    | some cells => match curBoxR cells with
      | some (_, some i) => .o2 .le (.int 0) i :: curNeeds st (j + 1) l
      | _ => curNeeds st (j + 1) l
    | none => curNeeds st (j + 1) l
  | j, _ :: l => curNeeds st (j + 1) l
/-- The contents of the slices that the caller gets back. -/
def backX (st : St) : Nat → List PK → Option (List X × List Nat)
  | _, [] => some ([], [])
  | j, t :: l => match backX st (j + 1) l with
    | none => none
    | some (xs, ids) => match t with
      | .stw ks => if slotEntry st.slots j [] (.agg (wrPar j (.var j) 0 ks)) && Nat.blt j st.nt.2 then
          match backCells st j 0 ks with
          | some (ys, js) => some (X.many ys :: xs, js ++ ids)
          | none => none else none
      | .row ks => match st.row [] (parId j 0) with
        | some r => if slotEntry st.slots j [] (.ov (parId j 0) none) && Nat.blt j st.nt.2 && CK.beqs ks r.ks then some (r.c :: xs, parId j 0 :: ids) else none
        | none => none
      | .cur => match st.box [] (parId j 0) with
        | some cells => match curBoxR cells with
          | some (x, _) => if x == X.fld 0 (.var j) && slotEntry st.slots j [] (.bp (parId j 0) 0) && Nat.blt j st.nt.2 then some (xs, parId j 0 :: ids) else none
          | none => none
        | none => none
      | _ => some (xs, ids)
def retT (P : Program) (rs : List RS) (pks : List PK) (fn : Func) (st : St) : T :=
  match retXs P st rs fn.results.toList, backX st 0 pks with
  | some (xs, ids), some (ys, js) => if noDup (ids ++ js) then Item.wrap ((curNeeds st 0 pks).map (.need [])) (.ret (xs ++ ys)) else .fail 7
  | _, _ => .fail 8
def startSt (op : Bool) (pks : List PK) (frees : List (List CK)) (nt : Nat) : St :=
  { slots := (parsSt op 0 pks).slots ++ freesSt pks.length frees, boxes := (parsSt op 0 pks).boxes, rows := (parsSt op 0 pks).rows, nv := pks.length + frees.length, nt := (nt, npOf 0 pks) }
def symF (P : Program) (md : Modes) (f : Nat) (frees : List (List CK)) : T :=
  match P.funcs[f]? with
  | some fn => match parKs P md f 0 fn.params.toList, fn.body, rsOfs P fn.resultTypes.toList with
    | some pks, some c, some rs =>
      if Nat.beq frees.length fn.nfree && Nat.ble (fn.params.size + fn.nfree) fn.ntmps then
        exec P md c 0 (startSt (memN f md.opened) pks frees fn.ntmps) fun e s => match e with
          | .ex _ => .fail 10
          | _ => retT P rs pks fn s
      else .fail 11
    | _, _, _ => .fail 12
  | none => .fail 13
end Go.Proofs.Ytfbahdalemajcaa.Eng
