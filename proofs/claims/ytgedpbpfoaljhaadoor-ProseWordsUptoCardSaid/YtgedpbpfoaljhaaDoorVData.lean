/- A machine of values: what code computes, told without memory. Definitions alone. -/
import Derived.Test.YtgedpbpfoaljhaaDoorVTy
set_option linter.unusedVariables false
set_option linter.unusedSimpArgs false
namespace Go.Proofs.YtgedpbpfoaljhaaDoor.Vm
/-- Deep data: a cell's value that nothing changes any more. A slice: how many cells an element has, and the elements. -/
inductive D where
  | sc (v : Value)
  | sl (sz : Nat) (rows : List (List D))
/-- What a function is handed and hands back: one cell, or a struct's cells. -/
inductive R where
  | one (x : D)
  | ag (xs : List D)
/-- A slot's value. mp k: the map k; own k: the slice over the row k; ptr: an address within the box k; cl: a function's value, and the boxes that it has taken; el: an address within an element of the row k, of so many cells an element; ro: an address of cells that nothing changes; em: the nil slice; jk: whatever. -/
inductive V where
  | d (x : D)
  | ag (cs : List V)
  | tu (vs : List V)
  | em
  | own (k : Nat)
  | ptr (k off : Nat)
  | cl (f : Nat) (ks : List Nat)
  | el (k : Nat) (i : Int) (sz off : Nat)
  | ro (cs : List D) (off : Nat)
  | mp (k : Nat)
  | jk
/-- An object of the call's own: a variable's cells; a row that is appended to (true: its elements are never turned again); a map's entries (kt: the keys' type); which rows have been moved since a call began. -/
inductive O where
  | box (cs : List V)
  | row (z : Bool) (e : Nat) (rows : List (List D))
  | mp (kt : Nat) (es : List (R × R))
  | kl (ks : List Nat)
  | dead
structure S where
  t : List V
  o : List O
inductive X where
  | normal
  | exit (id : Nat)
  | ret
/-- What a round of a loop comes to. -/
def roundX (N : S → Prop) (K : X → S → Prop) : X → S → Prop
  | .normal, s => N s
  | .exit i, s => K (.exit i) s
  | .ret, s => K .ret s
/-- What is not reckoned while code is walked. -/
structure Ar where
  wrap : IntKind → Int → Int
  add : Int → Int → Int
  sub : Int → Int → Int
  mul : Int → Int → Int
  quo : Int → Int → Int
  rem : Int → Int → Int
  lt : Int → Int → Bool
  le : Int → Int → Bool
  eq : Int → Int → Bool
  nz : Int → Prop → Prop
  seq : List UInt8 → List UInt8 → Bool
  slt : List UInt8 → List UInt8 → Bool
  bytes : ByteArray → List UInt8
  cat : ByteArray → ByteArray → ByteArray
  fits : ByteArray → ByteArray → Prop → Prop
  slen : ByteArray → Int
  sget : ByteArray → Int → Option Int
  ssub : ByteArray → Int → Int → Option ByteArray
  nat : Int → Nat → Option Nat
  len : List (List D) → Int
  get : List (List D) → Int → Option (List D)
  sub2 : List (List D) → Int → Int → Option (List (List D))
  app : List (List D) → List (List D) → List (List D)
  set : List (List D) → Int → List D → List (List D)
  room : List (List D) → List (List D) → Prop → Prop
  mlook : List (R × R) → R → Option R
  mput : List (R × R) → R → R → List (R × R)
  rep : Int → List D → (List (List D) → Prop) → Prop
  call : Nat → List R → (List R → Prop) → Prop
  calld : Nat → List V → List O → (List R → Prop) → Prop
  callo : Nat → List V → S → (V → S → Prop) → Prop
  new : Nat → (Bool → Prop) → Prop
  lit : Nat → (Bool → Prop) → Prop
  keep : Nat → (List V → List O → Prop) → List V → S → Prop
  next : (S → Prop) → S → Prop
  loop : Code → (S → (X → S → Prop) → Prop) → S → (X → S → Prop) → Prop
def getN : List V → Nat → V
  | [], _ => .jk
  | x :: _, 0 => x
  | _ :: l, n + 1 => getN l n
def setN : List V → Nat → V → List V
  | [], _, _ => []
  | _ :: l, 0, v => v :: l
  | x :: l, n + 1, v => x :: setN l n v
def getO : List O → Nat → O
  | [], _ => .dead
  | x :: _, 0 => x
  | _ :: l, n + 1 => getO l n
def setO : List O → Nat → O → List O
  | [], _, _ => []
  | _ :: l, 0, v => v :: l
  | x :: l, n + 1, v => x :: setO l n v
def snocO : List O → O → List O
  | [], v => [v]
  | x :: l, v => x :: snocO l v
def lenO : List O → Nat
  | [] => 0
  | _ :: l => lenO l + 1
def dropN {α : Type} : Nat → List α → List α
  | 0, l => l
  | _ + 1, [] => []
  | n + 1, _ :: l => dropN n l
/-- Just n of them. -/
def takeN {α : Type} : Nat → List α → Option (List α)
  | 0, _ => some []
  | _ + 1, [] => none
  | n + 1, x :: l => match takeN n l with | some t => some (x :: t) | none => none
def lenL {α : Type} : List α → Nat
  | [] => 0
  | _ :: l => lenL l + 1
def eqN : Nat → Nat → Bool
  | 0, 0 => true
  | n + 1, m + 1 => eqN n m
  | _, _ => false
/-- Put cells over others. -/
def splice {α : Type} : List α → Nat → List α → Option (List α)
  | l, 0, [] => some l
  | _ :: l, 0, y :: ys => match splice l 0 ys with | some t => some (y :: t) | none => none
  | x :: l, n + 1, ys => match splice l n ys with | some t => some (x :: t) | none => none
  | [], _ + 1, _ => none
  | [], 0, _ :: _ => none
/-- Fills one cell. -/
def one1 : V → Bool
  | .d _ => true
  | .em => true
  | .own _ => true
  | .ptr _ _ => true
  | .cl _ _ => true
  | .el _ _ _ _ => true
  | .ro _ _ => true
  | .mp _ => true
  | _ => false
def ones : List V → Bool
  | [] => true
  | x :: l => match one1 x with | true => ones l | false => false
/-- A value's cells. -/
def cellsV : V → Option (List V)
  | .ag l => match ones l with | true => some l | false => none
  | .jk => none
  | .tu _ => none
  | x => some [x]
def ofD : List D → List V
  | [] => []
  | x :: l => .d x :: ofD l
def resR : R → V
  | .one x => .d x
  | .ag xs => .ag (ofD xs)
def resRs : List R → List V
  | [] => []
  | x :: l => resR x :: resRs l
/-- What a call hands back. -/
def resV : List R → V
  | [r] => resR r
  | rs => .tu (resRs rs)
/-- As deep data. -/
def toD (os : List O) : V → Option D
  | .d x => some x
  | .cl f [] => some (.sc (.func (.func f) #[] #[]))
  | .em => some (.sl 0 [])
  | .own k => match getO os k with | .row true e rows => some (.sl (ty e).sz rows) | _ => none
  | _ => none
def toDs (os : List O) : List V → Option (List D)
  | [] => some []
  | x :: l => match toD os x with
    | some y => match toDs os l with | some ys => some (y :: ys) | none => none
    | none => none
def toR (os : List O) : V → Option R
  | .ag l => match toDs os l with | some ys => some (.ag ys) | none => none
  | x => match toD os x with | some y => some (.one y) | none => none
def toRs (os : List O) : List V → Option (List R)
  | [] => some []
  | x :: l => match toR os x with
    | some y => match toRs os l with | some ys => some (y :: ys) | none => none
    | none => none
/-- The row k is another one now: what spoke of it is forgotten. -/
def kill1 (k : Nat) : V → V
  | .own j => match eqN j k with | true => .jk | false => .own j
  | .el j i sz off => match eqN j k with | true => .jk | false => .el j i sz off
  | .ag _ => .jk
  | .tu _ => .jk
  | x => x
def killL (k : Nat) : List V → List V
  | [] => []
  | x :: l => kill1 k x :: killL k l
def kill2 (k : Nat) : V → V
  | .ag cs => .ag (killL k cs)
  | .tu [] => .tu []
  | .tu _ => .jk
  | x => kill1 k x
def killT (k : Nat) : List V → List V
  | [] => []
  | x :: l => kill2 k x :: killT k l
def killO (k : Nat) : List O → List O
  | [] => []
  | .box cs :: l => .box (killL k cs) :: killO k l
  | .kl ks :: l => .kl (k :: ks) :: killO k l
  | x :: l => x :: killO k l
def constV : Value → V
  | .slice none 0 0 => .em
  | .agg _ => .jk
  | .tuple _ => .jk
  | v => .d (.sc v)
def constL : List Value → List V
  | [] => []
  | x :: l => constV x :: constL l
def S.get (s : S) : Operand → V
  | .tmp i => getN s.t i
  | .const v => constV v
  | .func f => .cl f []
  | .global _ => .jk
def S.put (s : S) (d : Option Nat) (v : V) : S := match d with
  | some i => ⟨setN s.t i v, s.o⟩
  | none => s
def S.obj (s : S) (o : O) : S := ⟨s.t, snocO s.o o⟩
def vb (b : Bool) : V := .d (.sc (.bool b))
def vi (k : IntKind) (n : Int) : V := .d (.sc (.int k n))
def vs (s : ByteArray) : V := .d (.sc (.string s))
def keq : IntKind → IntKind → Bool
  | .i8, .i8 => true
  | .i16, .i16 => true
  | .i32, .i32 => true
  | .i64, .i64 => true
  | .u8, .u8 => true
  | .u16, .u16 => true
  | .u32, .u32 => true
  | .u64, .u64 => true
  | _, _ => false
def notB : Bool → Bool
  | true => false
  | false => true
def bEq : Bool → Bool → Bool
  | true, true => true
  | false, false => true
  | _, _ => false
def orB : Bool → Bool → Bool
  | true, _ => true
  | false, b => b
def binInt (a : Ar) (k : IntKind) (x y : Int) (K : V → Prop) : BinOp → Prop
  | .add => K (vi k (a.wrap k (a.add x y)))
  | .sub => K (vi k (a.wrap k (a.sub x y)))
  | .mul => K (vi k (a.wrap k (a.mul x y)))
  | .quo => a.nz y (K (vi k (a.wrap k (a.quo x y))))
  | .rem => a.nz y (K (vi k (a.rem x y)))
  | .eql => K (vb (a.eq x y))
  | .neq => K (vb (notB (a.eq x y)))
  | .lss => K (vb (a.lt x y))
  | .leq => K (vb (a.le x y))
  | .gtr => K (vb (a.lt y x))
  | .geq => K (vb (a.le y x))
  | _ => False
def binStr (a : Ar) (x y : ByteArray) (K : V → Prop) : BinOp → Prop
  | .add => a.fits x y (K (vs (a.cat x y)))
  | .eql => K (vb (a.seq (a.bytes x) (a.bytes y)))
  | .neq => K (vb (notB (a.seq (a.bytes x) (a.bytes y))))
  | .lss => K (vb (a.slt (a.bytes x) (a.bytes y)))
  | .gtr => K (vb (notB (orB (a.slt (a.bytes x) (a.bytes y)) (a.seq (a.bytes x) (a.bytes y)))))
  | .leq => K (vb (orB (a.slt (a.bytes x) (a.bytes y)) (a.seq (a.bytes x) (a.bytes y))))
  | .geq => K (vb (notB (a.slt (a.bytes x) (a.bytes y))))
  | _ => False
def binVal (a : Ar) (op : BinOp) : Value → Value → (V → Prop) → Prop
  | .int k x, .int k' y, K => match keq k k' with | true => binInt a k x y K op | false => False
  | .string x, .string y, K => binStr a x y K op
  | _, _, _ => False
def nilEq (b : Bool) (K : V → Prop) : BinOp → Prop
  | .eql => K (vb b)
  | .neq => K (vb (notB b))
  | _ => False
def isNilP : V → Bool
  | .d (.sc (.pointer none)) => true
  | _ => false
def binV (a : Ar) (op : BinOp) (t : Nat) : V → V → (V → Prop) → Prop
  | .d (.sc x), .d (.sc y), K => match (ty t).kind with
    | .ptr => match x, y with
      | .pointer none, .pointer none => nilEq true K op
      | _, _ => False
    | .bool => match x, y with
      | .bool b, .bool c => nilEq (bEq b c) K op
      | _, _ => False
    | _ => binVal a op x y K
  | .ptr _ _, y, K => match (ty t).kind with
    | .ptr => match isNilP y with | true => nilEq false K op | false => False
    | _ => False
  | x, .ptr _ _, K => match (ty t).kind with
    | .ptr => match isNilP x with | true => nilEq false K op | false => False
    | _ => False
  | _, _, _ => False
def unV (a : Ar) : UnOp → V → (V → Prop) → Prop
  | .not, .d (.sc (.bool b)), K => K (vb (notB b))
  | .neg, .d (.sc (.int k n)), K => K (vi k (a.wrap k (a.sub 0 n)))
  | _, _, _ => False
def convV (a : Ar) (K : V → Prop) : TK → V → Prop
  | .int k, .d (.sc (.int _ n)) => K (vi k (a.wrap k n))
  | .str, .d (.sc (.string s)) => K (vs s)
  | _, _ => False
/-- A value of one cell, or a struct's cells, out of a variable. -/
def pack : Bool → List V → Option V
  | true, l => some (.ag l)
  | false, [x] => some x
  | false, _ => none
/-- The parts of a composite literal: where each goes. -/
def fillV (g : Operand → V) (place : List (Nat × Nat)) : List (Nat × Operand) → List V → Option (List V)
  | [], l => some l
  | (i, x) :: ps, l => match takeN 1 (dropN i place) with
    | some [(off, sz)] => match cellsV (g x) with
      | some cs => match eqN (lenL cs) sz with
        | true => match splice l off cs with
          | some l' => fillV g place ps l'
          | none => none
        | false => none
      | none => none
    | _ => none
def places (sz : Nat) : Nat → Nat → List (Nat × Nat)
  | 0, _ => []
  | n + 1, off => (off, sz) :: places sz n (off + sz)
def zeros (z : List V) : Nat → List V → List V
  | 0, acc => acc
  | n + 1, acc => zeros z n (z ++ acc)
/-- Cells, so many an element. -/
def chunks (sz : Nat) : Nat → List D → Option (List (List D))
  | 0, [] => some []
  | 0, _ :: _ => none
  | n + 1, l => match takeN sz l with
    | some r => match chunks sz n (dropN sz l) with
      | some rs => some (r :: rs)
      | none => none
    | none => none
def getA : List Operand → Nat → Option Operand
  | [], _ => none
  | x :: _, 0 => some x
  | _ :: l, n + 1 => getA l n
def lenS (a : Ar) (os : List O) (K : V → Prop) : V → Prop
  | .d (.sl _ rows) => K (vi .i64 (a.len rows))
  | .em => K (vi .i64 0)
  | .own k => match getO os k with | .row _ _ rows => K (vi .i64 (a.len rows)) | _ => False
  | _ => False
def lenT (a : Ar) (K : V → Prop) : V → Prop
  | .d (.sc (.string x)) => K (vi .i64 (a.slen x))
  | _ => False
def lenV (a : Ar) (os : List O) (K : V → Prop) (k : TK) (x : V) : Prop := match k with
  | .slice => lenS a os K x
  | .str => lenT a K x
  | _ => False
/-- A slice's elements. -/
def rowsV (os : List O) : V → Option (Option Nat × List (List D))
  | .d (.sl sz rows) => some (some sz, rows)
  | .em => some (none, [])
  | .own k => match getO os k with | .row true e rows => some (some (ty e).sz, rows) | _ => none
  | _ => none
def szOk (sz : Nat) : Option Nat → Bool
  | none => true
  | some n => eqN n sz
/-- A row whose elements are turned. -/
def rawV (os : List O) : V → Option (Nat × Nat × List (List D))
  | .own k => match getO os k with | .row false e rows => some (k, e, rows) | _ => none
  | _ => none
/-- The address of an array's element. -/
def arrAddrV (K : V → Prop) (o : Nat) : V → Prop
  | .ptr k off => K (.ptr k (off + o))
  | .el k i sz off => K (.el k i sz (off + o))
  | .ro cs off => K (.ro cs (off + o))
  | _ => False
def indexAddrV (a : Ar) (os : List O) (K : V → Prop) (t : Nat) (x i : V) : Prop := match i with
  | .d (.sc (.int _ n)) => match (ty t).kind with
   | .array => match (ty t).val with
    | some e => match a.nat n (ty t).alen with
      | some j => arrAddrV K (j * (ty e).sz) x
      | none => False
    | none => False
   | _ => match (ty t).elem with
    | some e => match rawV os x with
     | some (k, e', rows) => match eqN e' e with
      | true => match a.get rows n with | some _ => K (.el k n (ty e).sz 0) | none => False
      | false => False
     | none => match rowsV os x with
      | some (some sz, rows) => match eqN sz (ty e).sz with
        | true => match a.get rows n with | some row => K (.ro row 0) | none => False
        | false => False
      | _ => False
    | none => False
  | _ => False
def loadV (a : Ar) (os : List O) (K : V → Prop) (t : Nat) : V → Prop
  | .ptr k off => match getO os k with
    | .box cs => match takeN (ty t).sz (dropN off cs) with
      | some l => match pack (ty t).agg l with | some x => K x | none => False
      | none => False
    | _ => False
  | .ro cs off => match takeN (ty t).sz (dropN off cs) with
    | some l => match pack (ty t).agg (ofD l) with | some x => K x | none => False
    | none => False
  | .el k i sz off => match getO os k with
    | .row _ e rows => match eqN (ty e).sz sz with
      | true => match a.get rows i with
        | some row => match takeN (ty t).sz (dropN off row) with
          | some l => match pack (ty t).agg (ofD l) with | some x => K x | none => False
          | none => False
        | none => False
      | false => False
    | _ => False
  | _ => False
def fieldV (K : V → Prop) (t i : Nat) (x : V) : Prop := match takeN 1 (dropN i (ty t).flds) with
  | some [(off, _ + 1)] => match x with
    | .ptr k o => K (.ptr k (o + off))
    | .ro cs o => K (.ro cs (o + off))
    | .el k i sz o => K (.el k i sz (o + off))
    | _ => False
  | _ => False
def partV (K : V → Prop) (t i : Nat) (x : V) : Prop := match takeN 1 (dropN i (ty t).fty), takeN 1 (dropN i (ty t).flds), x with
  | some [u], some [(off, _)], .ag cs => match takeN (ty u).sz (dropN off cs) with
    | some l => match pack (ty u).agg l with | some x => K x | none => False
    | none => False
  | _, _, _ => False
def getVs (g : Operand → V) : List Operand → List V
  | [] => []
  | x :: l => g x :: getVs g l
def callV (a : Ar) (os : List O) (K : V → Prop) (f : Nat) (vs : List V) : Prop := match toRs os vs with
  | some rs => a.call f rs (fun q => K (resV q))
  | none => a.calld f vs os (fun q => K (resV q))
def getOpt (g : Operand → V) : Option Operand → Option V
  | none => none
  | some x => some (g x)
def bound (n : Int) : Option V → Option Int
  | none => some n
  | some (.d (.sc (.int _ n))) => some n
  | _ => none
def sliceV (a : Ar) (os : List O) (K : V → Prop) (t : Nat) (x : V) (lo hi : Option V) : Prop := match bound 0 lo with
  | some l => match (ty t).kind with
    | .str => match x with
      | .d (.sc (.string b)) => match bound (a.slen b) hi with
        | some h => match a.ssub b l h with | some c => K (vs c) | none => False
        | none => False
      | _ => False
    | .slice => match (ty t).elem with
      | some e => match rowsV os x with
        | some (sz, rows) => match szOk (ty e).sz sz with
          | true => match bound (a.len rows) hi with
            | some h => match a.sub2 rows l h with | some rs => K (.d (.sl (ty e).sz rs)) | none => False
            | none => False
          | false => False
        | none => False
      | none => False
    | _ => False
  | none => False
def indexV (a : Ar) (K : V → Prop) (t : Nat) : V → V → Prop
  | .ag cs, .d (.sc (.int _ n)) => match (ty t).kind with
    | .array => match (ty t).val with
      | some e => match a.nat n (ty t).alen with
        | some j => match takeN (ty e).sz (dropN (j * (ty e).sz) cs) with
          | some l => match pack (ty e).agg l with | some x => K x | none => False
          | none => False
        | none => False
      | none => False
    | _ => False
  | .d (.sc (.string b)), .d (.sc (.int _ n)) => match (ty t).kind with
    | .str => match a.sget b n with | some c => K (vi .u8 c) | none => False
    | _ => False
  | _, _ => False
def buildV (g : Operand → V) (K : V → Prop) (t : Nat) (ps : List (Nat × Operand)) : Prop := match (ty t).kind with
  | .struct => match fillV g (ty t).flds ps (constL (ty t).zero) with
    | some l => K (.ag l)
    | none => False
  | .array => match (ty t).val with
    | some e => match fillV g (places (ty e).sz (ty t).alen 0) ps (constL (ty t).zero) with
      | some l => K (.ag l)
      | none => False
    | none => False
  | _ => False
def buildSliceV (g : Operand → V) (os : List O) (K : V → Prop) (t n : Nat) (ps : List (Nat × Operand)) : Prop := match (ty t).elem with
  | some e => match n with
    | 0 => False
    | n + 1 => match fillV g (places (ty e).sz (n + 1) 0) ps (zeros (constL (ty e).zero) (n + 1) []) with
      | some l => match toDs os l with
        | some ds => match chunks (ty e).sz (n + 1) ds with
          | some rows => K (.d (.sl (ty e).sz rows))
          | none => False
        | none => False
      | none => False
  | none => False
def extractV (K : V → Prop) (i : Nat) : V → Prop
  | .tu vs => match takeN 1 (dropN i vs) with | some [v] => K v | _ => False
  | _ => False
def pickV (K : V → Prop) (x y : V) : V → Prop
  | .d (.sc (.bool b)) => K (match b with | true => x | false => y)
  | _ => False
def ptrsV : List V → Option (List Nat)
  | [] => some []
  | .ptr k 0 :: l => match ptrsV l with | some ks => some (k :: ks) | none => none
  | _ => none
def scalarB : TK → D → Bool
  | .int k, .sc (.int k' _) => keq k k'
  | .str, .sc (.string _) => true
  | .bool, .sc (.bool _) => true
  | _, _ => false
def scalarsB : List Nat → List (Nat × Nat) → Nat → List D → Bool
  | [], [], _, [] => true
  | u :: us, (off, 1) :: fs, n, d :: ds => match eqN off n with
    | true => match scalarB (ty u).kind d with | true => scalarsB us fs (n + 1) ds | false => false
    | false => false
  | _, _, _, _ => false
def natEq : Nat → Nat → Bool := Nat.beq
def intEq : Int → Int → Bool
  | .ofNat m, .ofNat n => natEq m n
  | .negSucc m, .negSucc n => natEq m n
  | _, _ => false
def bytesEq : List UInt8 → List UInt8 → Bool
  | [], [] => true
  | x :: l, y :: m => match natEq x.toNat y.toNat with | true => bytesEq l m | false => false
  | _, _ => false
def dEq : D → D → Bool
  | .sc (.int _ m), .sc (.int _ n) => intEq m n
  | .sc (.string x), .sc (.string y) => bytesEq x.data.toList y.data.toList
  | .sc (.bool x), .sc (.bool y) => bEq x y
  | _, _ => false
def dsEq : List D → List D → Bool
  | [], [] => true
  | x :: l, y :: m => match dEq x y with | true => dsEq l m | false => false
  | _, _ => false
/-- Is it the same key? -/
def rEq : R → R → Bool
  | .one x, .one y => dEq x y
  | .ag xs, .ag ys => dsEq xs ys
  | _, _ => false
def mget : List (R × R) → R → Option R
  | [], _ => none
  | (k, v) :: l, r => match rEq k r with | true => some v | false => mget l r
def mset : List (R × R) → R → R → List (R × R)
  | [], r, q => [(r, q)]
  | (k, v) :: l, r, q => match rEq k r with | true => (k, q) :: l | false => (k, v) :: mset l r q
def skeyB (t : Nat) : List Nat → Bool
  | [] => false
  | u :: l => match eqN u t with | true => true | false => skeyB t l
/-- May it be a key of this type? -/
def keyB (t : Nat) : R → Bool
  | .one d => scalarB (ty t).kind d
  | .ag ds => match (ty t).kind with | .struct => (match skeyB t skeys with | true => scalarsB (ty t).fty (ty t).flds 0 ds | false => false) | _ => false
def keyV (os : List O) (t : Nat) (x : V) : Option R := match toR os x with
  | some r => match keyB t r with | true => some r | false => none
  | none => none
def commaV (K : V → Prop) (ok b : Bool) (x : V) : Prop := match ok with | true => K (.tu [x, vb b]) | false => K x
def zeroK (K : V → Prop) (ok : Bool) (e : Nat) : Prop := match pack (ty e).agg (constL (ty e).zero) with
  | some z => commaV K ok false z
  | none => False
/-- What a map holds at a key. -/
def lookV (a : Ar) (os : List O) (K : V → Prop) (t : Nat) (ok : Bool) (x i : V) : Prop := match (ty t).kind with
  | .map => match (ty t).key, (ty t).val with
    | some kt, some e => match keyV os kt i with
      | some r => match x with
        | .mp k => match getO os k with
          | .mp kt' es => match eqN kt' kt with
            | true => match a.mlook es r with
              | some q => commaV K ok true (resR q)
              | none => zeroK K ok e
            | false => False
          | _ => False
        | .d (.sc (.map none)) => zeroK K ok e
        | _ => False
      | none => False
    | _, _ => False
  | _ => False
def minV (a : Ar) (K : V → Prop) (mx : Bool) : List V → Prop
  | [.d (.sc (.int k x)), .d (.sc (.int k' y))] => match keq k k' with
    | true => match mx with
      | true => K (vi k (match a.lt x y with | true => y | false => x))
      | false => K (vi k (match a.lt y x with | true => y | false => x))
    | false => False
  | _ => False
/-- What is surely not nil. -/
def nnV (K : V → Prop) : V → Prop
  | .ptr k off => K (.ptr k off)
  | .cl f ks => K (.cl f ks)
  | .el k i sz off => K (.el k i sz off)
  | .ro cs off => K (.ro cs off)
  | _ => False
/-- An operation that hands a value on, and turns no object. -/
def stepC (a : Ar) (g : Operand → V) (os : List O) (K : V → Prop) : Op → Prop
  | .move x => K (g x)
  | .assign x => K (g x)
  | .pick c x y => pickV K (g x) (g y) (g c)
  | .load t x => loadV a os K t (g x)
  | .fieldAddr t x i => fieldV K t i (g x)
  | .field t x i => partV K t i (g x)
  | .indexAddr t x i => indexAddrV a os K t (g x) (g i)
  | .index t x i => indexV a K t (g x) (g i)
  | .binOp op t x y _ => binV a op t (g x) (g y) K
  | .unOp op _ x => unV a op (g x) K
  | .convert _ t x => convV a K (ty t).kind (g x)
  | .build t ps => buildV g K t ps.toList
  | .buildSlice t n ps => buildSliceV g os K t n ps.toList
  | .extract x i => extractV K i (g x)
  | .slice t x lo hi none => sliceV a os K t (g x) (getOpt g lo) (getOpt g hi)
  | .call ⟨.builtin .len, ⟨[x]⟩, ⟨[t]⟩⟩ => lenV a os K (ty t).kind (g x)
  | .call ⟨.value (.func f), args, _⟩ => callV a os K f (getVs g args.toList)
  | .lookup t x i ok => lookV a os K t ok (g x) (g i)
  | .call ⟨.builtin .min, args, _⟩ => minV a K false (getVs g args.toList)
  | .call ⟨.builtin .max, args, _⟩ => minV a K true (getVs g args.toList)
  | .nilCheck x => nnV K (g x)
  | .makeFunc (.func f) ⟨[]⟩ cs => match ptrsV (getVs g cs.toList) with | some ks => K (.cl f ks) | none => False
  | _ => False
/-- A function's value: which, and what it has taken. -/
def fnV : V → Option (Nat × List Nat)
  | .cl f ks => some (f, ks)
  | .d (.sc (.func (.func f) ⟨[]⟩ ⟨[]⟩)) => some (f, [])
  | _ => none
def caps : List Nat → List V
  | [] => []
  | k :: l => .ptr k 0 :: caps l
def appV : List V → List V → List V
  | [], m => m
  | x :: l, m => x :: appV l m
def storeV (a : Ar) (s : S) (K : S → Prop) (t : Nat) (y : V) : V → Prop
  | .ptr k off => match getO s.o k with
    | .box cs => match cellsV y with
      | some l => match eqN (lenL l) (ty t).sz with
        | true => match splice cs off l with
          | some cs' => K ⟨s.t, setO s.o k (.box cs')⟩
          | none => False
        | false => False
      | none => False
    | _ => False
  | .el k i sz off => match getO s.o k with
    | .row false e rows => match eqN (ty e).sz sz with
      | true => match a.get rows i with
        | some row => match cellsV y with
          | some l => match toDs s.o l with
            | some ds => match eqN (lenL ds) (ty t).sz with
              | true => match splice row off ds with
                | some row' => K ⟨s.t, setO s.o k (.row false e (a.set rows i row'))⟩
                | none => False
              | false => False
            | none => False
          | none => False
        | none => False
      | false => False
    | _ => False
  | _ => False
def appendV (a : Ar) (s : S) (dst : Option Nat) (K : S → Prop) (t : Nat) (x y : V) : Prop := match (ty t).elem with
  | some e => match rowsV s.o y with
    | some (sz, ys) => match szOk (ty e).sz sz with
      | true => match x with
        | .em => a.room [] ys (a.new e fun z => K ((s.obj (.row z e ys)).put dst (.own (lenO s.o))))
        | .own k => match getO s.o k with
          | .row z e' xs => match eqN e' e with
            | true => a.room xs ys (K (S.put ⟨killT k s.t, setO (killO k s.o) k (.row z e (a.app xs ys))⟩ dst (.own k)))
            | false => False
          | _ => False
        | _ => False
      | false => False
    | none => False
  | none => False
/-- A literal that is a row of the call's own. -/
def litV (a : Ar) (s : S) (dst : Option Nat) (K : S → Prop) (t n : Nat) (ps : List (Nat × Operand)) : Prop := match (ty t).elem with
  | some e => buildSliceV s.get s.o (fun v => match v with
    | .d (.sl _ rows) => a.new e fun z => K ((s.obj (.row z e rows)).put dst (.own (lenO s.o)))
    | _ => False) t n ps
  | none => False
/-- A map's entry is laid. -/
def putV (a : Ar) (s : S) (K : S → Prop) (t : Nat) (x i v : V) : Prop := match (ty t).kind with
  | .map => match (ty t).key, x with
    | some kt, .mp k => match keyV s.o kt i, toR s.o v, getO s.o k with
      | some r, some q, .mp kt' es => match eqN kt' kt with
        | true => K ⟨s.t, setO s.o k (.mp kt (a.mput es r q))⟩
        | false => False
      | _, _, _ => False
    | _, _ => False
  | _ => False
/-- A new row of zero values. -/
def mkSliceV (a : Ar) (s : S) (dst : Option Nat) (K : S → Prop) (t : Nat) : V → V → Prop
  | .d (.sc (.int _ n)), .d (.sc (.int _ m)) => match a.eq n m with
    | true => match (ty t).elem with
      | some e => match toDs [] (constL (ty e).zero) with
        | some z => a.rep n z fun rows => a.new e fun b => K ((s.obj (.row b e rows)).put dst (.own (lenO s.o)))
        | none => False
      | none => False
    | false => False
  | _, _ => False
/-- An operation that makes or turns an object; any other is calm. m: calls may turn objects. -/
def step (a : Ar) (m : Bool) (s : S) (dst : Option Nat) (K : S → Prop) : Op → Prop
  | .alloc e => match ones (constL (ty e).zero) with
    | true => K ((s.obj (.box (constL (ty e).zero))).put dst (.ptr (lenO s.o) 0))
    | false => False
  | .box _ x => match cellsV (s.get x) with
    | some cs => K ((s.obj (.box cs)).put dst (.ptr (lenO s.o) 0))
    | none => False
  | .store t x y => match dst with
    | none => storeV a s K t (s.get y) (s.get x)
    | some _ => False
  | .makeSlice t x y => mkSliceV a s dst K t (s.get x) (s.get y)
  | .makeMap t none => match (ty t).kind with
    | .map => match (ty t).key with
      | some kt => K ((s.obj (.mp kt [])).put dst (.mp (lenO s.o)))
      | none => False
    | _ => False
  | .mapUpdate t x i v => match dst with
    | none => putV a s K t (s.get x) (s.get i) (s.get v)
    | some _ => False
  | .buildSlice t 0 ⟨[]⟩ => match (ty t).elem with
    | some e => a.new e fun z => K ((s.obj (.row z e [])).put dst (.own (lenO s.o)))
    | none => False
  | .call ⟨.builtin .append, ⟨[x, y]⟩, ⟨[t, _]⟩⟩ => appendV a s dst K t (s.get x) (s.get y)
  | .buildSlice t (n + 1) ps => match m with
    | true => a.lit t fun c => match c with
      | true => stepC a s.get s.o (fun v => K (s.put dst v)) (.buildSlice t (n + 1) ps)
      | false => litV a s dst K t (n + 1) ps.toList
    | false => stepC a s.get s.o (fun v => K (s.put dst v)) (.buildSlice t (n + 1) ps)
  | .call ⟨.value (.func f), args, ts⟩ => match m with
    | true => a.callo f (getVs s.get args.toList) s (fun v s' => K (s'.put dst v))
    | false => stepC a s.get s.o (fun v => K (s.put dst v)) (.call ⟨.value (.func f), args, ts⟩)
  | .call ⟨.value (.tmp i), args, _⟩ => match m with
    | true => match fnV (getN s.t i) with
      | some (f, ks) => a.callo f (appV (getVs s.get args.toList) (caps ks)) s (fun v s' => K (s'.put dst v))
      | none => False
    | false => False
  | op => stepC a s.get s.o (fun v => K (s.put dst v)) op
def getD : List (Option Nat) → Nat → Option Nat
  | [], _ => none
  | x :: _, 0 => x
  | _ :: l, n + 1 => getD l n
def vun : V := .tu []
/-- A guarded operation: is it wanted? -/
def guard (s : S) (dsts : List (Option Nat)) (j : Nat) (K : Option Bool → Prop) : Prop := match getD dsts j with
  | some d => match getN s.t d with
    | .d (.sc (.bool c)) => K (some c)
    | .tu [] => K none
    | _ => False
  | none => False
def dstsOf : List Oper → List (Option Nat)
  | [] => []
  | o :: l => o.dst :: dstsOf l
def run (a : Ar) (m : Bool) (dsts : List (Option Nat)) : List Oper → S → (S → Prop) → Prop
  | [], s, K => K s
  | ⟨dst, op, _, _, _, none⟩ :: l, s, K => step a m s dst (fun s => run a m dsts l s K) op
  | ⟨dst, op, _, _, _, some (j, b)⟩ :: l, s, K => guard s dsts j fun
    | some c => match bEq c b with
      | true => step a m s dst (fun s => run a m dsts l s K) op
      | false => run a m dsts l (s.put dst vun) K
    | none => run a m dsts l (s.put dst vun) K
def thenX (N : S → Prop) (K : X → S → Prop) : X → S → Prop
  | .normal, s => N s
  | .exit i, s => K (.exit i) s
  | .ret, s => K .ret s
def blockX (id : Nat) (K : X → S → Prop) : X → S → Prop
  | .normal, s => K .normal s
  | .exit i, s => match eqN i id with | true => K .normal s | false => K (.exit i) s
  | .ret, s => K .ret s
/-- Objects that a call is handed: its object j is the caller's ks j; beyond them the caller's n-th and so on. -/
def upN : List Nat → Nat → Nat → Nat
  | k :: _, _, 0 => k
  | _ :: l, n, j + 1 => upN l n j
  | [], n, j => n + j
def upK (ks : List Nat) (n : Nat) : List Nat → List Nat
  | [] => []
  | j :: l => upN ks n j :: upK ks n l
def up1 (ks : List Nat) (n : Nat) : V → V
  | .own j => .own (upN ks n j)
  | .ptr j off => .ptr (upN ks n j) off
  | .cl f l => .cl f (upK ks n l)
  | .el j i sz off => .el (upN ks n j) i sz off
  | .mp j => .mp (upN ks n j)
  | .ag _ => .jk
  | .tu _ => .jk
  | x => x
def upL (ks : List Nat) (n : Nat) : List V → List V
  | [] => []
  | x :: l => up1 ks n x :: upL ks n l
def up2 (ks : List Nat) (n : Nat) : V → V
  | .ag cs => .ag (upL ks n cs)
  | .tu [] => .tu []
  | x => up1 ks n x
def upT (ks : List Nat) (n : Nat) : List V → List V
  | [] => []
  | x :: l => up2 ks n x :: upT ks n l
def upO (ks : List Nat) (n : Nat) : O → O
  | .box cs => .box (upL ks n cs)
  | .kl _ => .dead
  | x => x
def upOs (ks : List Nat) (n : Nat) : List O → List O
  | [] => []
  | x :: l => upO ks n x :: upOs ks n l
def appO : List O → List O → List O
  | [], m => m
  | x :: l, m => x :: appO l m
/-- What the objects are behind the call. -/
def backO : List Nat → List O → List O → List O
  | k :: ks, x :: os, l => backO ks os (setO l k x)
  | _, os, l => appO l os
def killTs : List Nat → List V → List V
  | [], t => t
  | k :: ks, t => killTs ks (killT k t)
def killOs : List Nat → List O → List O
  | [], l => l
  | k :: ks, l => killOs ks (killO k l)
def back (ks : List Nat) (os : List O) (s : S) : S := ⟨killTs ks s.t, backO ks (upOs ks (lenO s.o) os) (killOs ks s.o)⟩
def memN (k : Nat) : List Nat → Bool
  | [] => false
  | j :: l => match eqN j k with | true => true | false => memN k l
def nodupN : List Nat → Bool
  | [] => true
  | k :: l => match memN k l with | true => false | false => nodupN l
def pick : List Nat → List O → List O
  | [], _ => []
  | k :: ks, l => getO l k :: pick ks l
def alive : List O → Bool
  | [] => true
  | .dead :: _ => false
  | .kl _ :: _ => false
  | _ :: l => alive l
/-- Rows whose elements are never turned again. -/
def frz1 (o : List O) (k : Nat) : List O := match getO o k with
  | .row _ e rows => setO o k (.row true e rows)
  | _ => o
def frz : List Nat → List O → List O
  | [], o => o
  | k :: ks, o => frz ks (frz1 o k)
/-- The first n objects stay where they are. -/
def headN : Nat → Nat → List Nat → Bool
  | _, 0, _ => true
  | j, n + 1, k :: l => match eqN j k with | true => headN (j + 1) n l | false => false
  | _, _ + 1, [] => false
/-- What is handed back, as one value. -/
def pkgV : List V → V
  | [v] => v
  | vs => .tu vs
end Go.Proofs.YtgedpbpfoaljhaaDoor.Vm
