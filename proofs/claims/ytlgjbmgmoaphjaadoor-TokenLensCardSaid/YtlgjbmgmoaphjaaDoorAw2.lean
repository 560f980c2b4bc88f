/- The abstract walk: what each operation, region and piece of code does to values without memory. -/
import Derived.Test.YtlgjbmgmoaphjaaDoorAw1
namespace Go.Proofs.YtlgjbmgmoaphjaaDoor
set_option linter.unusedSimpArgs false
set_option linter.unusedVariables false
open Go

/-! ### Types, in short -/
inductive Kd where
  | none | bool | int (k : IntKind) | str | slice (e : Nat) | struct (fs : List (Nat × Nat)) | iface | other

structure Ty where
  kd : Kd
  agg : Bool
  size : Nat
  bytes : Nat
  zero : Option (List PV)
  /-- a struct whose '==' is that of its leaves -/
  flat : Bool

def ofCell : Value → PV
  | .bool b => .bool b
  | .int k n => .int k n
  | .string s => .str s.data.toList
  | .slice none 0 0 => .nilS
  | .pointer none => .nilP
  | .nilIface => .nilI
  | .nilFunc => .nilF
  | _ => .undef

def ofConst : Value → PV
  | .agg cs => .agg (cs.toList.map ofCell)
  | v => ofCell v

def kdOf : TypeDesc → Kd
  | .bool => .bool
  | .int k => .int k
  | .string => .str
  | .slice e => .slice e
  | .struct fs => .struct (fs.toList.map fun f => (f.type, f.offset))
  | .interface _ => .iface
  | _ => .other

def aggOf : TypeDesc → Bool
  | .struct _ | .array _ _ => true
  | _ => false

def flatOf (P : Program) (t : Nat) : TypeDesc → Bool
  | .struct fs => !P.stoodInHeld t && !P.eqGuardType P.depth t && (fs.toList.map (·.offset) == List.range fs.size) && fs.all fun f => f.name != "_"
  | _ => false

def tyOf (P : Program) (t : Nat) : Ty :=
  match P.info? t, P.underlying t with
  | some i, some d => ⟨kdOf d, aggOf d, i.size, i.bytes, i.zero.map fun z => z.cells.toList.map ofCell, flatOf P t d⟩
  | _, _ => ⟨.none, false, 0, 0, none, false⟩

/-! ### States -/
def St.put (s : St) : Option Nat → PV → St
  | some d, v => { s with env := (d, v) :: s.env }
  | none, _ => s

def St.set (s : St) (k g : Nat) (e : Ent) : St := { s with sto := s.sto.upd k g e }

def St.ev (s : St) : Operand → PV
  | .tmp t => s.env.get t
  | .const v => ofConst v
  | .func f => .fn f []
  | .global _ => .undef

/-! ### Operations -/
inductive Res where
  | val (v : PV)
  | eff (v : PV) (k g : Nat) (e : Ent)
  | call (f : Nat) (args : List PV)
  | need (p : Prop) (r : Res)
  /-- a bool that may be 'b' only where 'p' holds -/
  | ndet (p : Prop) (b : Bool)
  | bad

def loadv (ty : Ty) (cs : List PV) (off : Nat) : Res :=
  match ty.agg with
  | true => .need (off + ty.size ≤ cs.length) (.val (.agg ((cs.drop off).take ty.size)))
  | false => .need (off < cs.length) (.val (cs.getD off .undef))

def setCells (cs : List PV) (off : Nat) (vs : List PV) : List PV := cs.take off ++ vs ++ cs.drop (off + vs.length)

def intOp (op : BinOp) (k : IntKind) (x y : Int) : Res :=
  match op with
  | .add => .val (.int k (k.wrap (x + y)))
  | .sub => .val (.int k (k.wrap (x - y)))
  | .mul => .val (.int k (k.wrap (x * y)))
  | .quo => .need (y ≠ 0) (.val (.int k (k.wrap (x.tdiv y))))
  | .rem => .need (y ≠ 0) (.val (.int k (x.tmod y)))
  | .and => .val (.int k (k.wrap (BitVec.ofInt k.bits x &&& BitVec.ofInt k.bits y).toNat))
  | .eql => .val (.bool (x == y))
  | .neq => .val (.bool (x != y))
  | .lss => .val (.bool (decide (x < y)))
  | .leq => .val (.bool (decide (x ≤ y)))
  | .gtr => .val (.bool (decide (x > y)))
  | .geq => .val (.bool (decide (x ≥ y)))
  | _ => .bad

def maxText : Nat := 9223372036854775807
def maxRoom : Nat := 140737488355328

def strOp (op : BinOp) (x y : List UInt8) : Res :=
  match op with
  | .add => .need (x.length + y.length ≤ maxText) (.val (.str (x ++ y)))
  | .eql => .val (.bool (x == y))
  | .neq => .val (.bool (!(x == y)))
  | .lss => .val (.bool (Op.bytesLess x y))
  | .leq => .val (.bool (Op.bytesLess x y || x == y))
  | .gtr => .val (.bool (!(Op.bytesLess x y || x == y)))
  | .geq => .val (.bool (!Op.bytesLess x y))
  | _ => .bad

def leafEq (kd : Kd) (x y : PV) : Option Bool :=
  match kd, x, y with
  | .bool, .bool a, .bool b => some (a == b)
  | .int _, .int k a, .int k' b => if k = k' then some (a == b) else none
  | .str, .str a, .str b => some (a == b)
  | _, _, _ => none

def cellsEq (P : Program) : List (Nat × Nat) → List PV → List PV → Option Bool
  | [], [], [] => some true
  | f :: fs, x :: xs, y :: ys => match leafEq (tyOf P f.1).kd x y with
    | some b => match cellsEq P fs xs ys with
      | some c => some (b && c)
      | none => none
    | none => none
  | _, _, _ => none

def eqOp (P : Program) (ty : Ty) (neg : Bool) (x y : PV) : Res :=
  match ty.kd, x, y with
  | .bool, .bool a, .bool b => .val (.bool ((a == b) != neg))
  | .slice _, .nilS, .nilS => .val (.bool (!neg))
  | .slice _, .list _ xs, .nilS => .ndet (xs = []) (!neg)
  | .struct fs, .agg a, .agg b => match ty.flat with
    | true => match cellsEq P fs a b with
      | some c => .val (.bool (c != neg))
      | none => .bad
    | false => .bad
  | _, _, _ => .bad

/-- '==' and '!=' of an interface value and the literal nil. -/
def nilOp (neg : Bool) (x : PV) : Operand → Res
  | .const .nilIface => match x with
    | .nilI => .val (.bool (!neg))
    | .iface _ _ => .val (.bool neg)
    | _ => .bad
  | _ => .bad

def binRes (P : Program) (ty : Ty) (op : BinOp) (x y : PV) (yo : Operand) : Res :=
  match x, y with
  | .int k a, .int k' b => if k = k' then intOp op k a b else .bad
  | .str a, .str b => strOp op a b
  | x, y => match ty.kd, op with
    | .iface, .eql => nilOp false x yo
    | .iface, .neq => nilOp true x yo
    | _, .eql => eqOp P ty false x y
    | _, .neq => eqOp P ty true x y
    | _, _ => .bad

def unRes (op : UnOp) (x : PV) : Res :=
  match op, x with
  | .neg, .int k n => .val (.int k (k.wrap (0 - n)))
  | .not, .bool b => .val (.bool (!b))
  | _, _ => .bad

/-- The elements that an appended (or read) value stands for. -/
def elems (fnd : Nat → Option (Nat × Ent)) (byt : Bool) (size : Nat) (x : PV) : Option (List PV) :=
  match x with
  | .nilS => some []
  | .list sz xs => if sz = size then some xs else none
  | .row k g n => match fnd k with
    | some (g', .row _ sz xs) => if g = g' ∧ sz = size ∧ n ≤ xs.length then some (xs.take n) else none
    | _ => none
  | .str s => if byt ∧ size = 1 then some (s.map fun b => .int .u8 b.toNat) else none
  | _ => none

/-- An element type of which rows grow. -/
def growTy (ty : Ty) : Bool := ty.size != 0 && ty.bytes != 0 && (match ty.zero with | some z => z.length == ty.size | none => false)

def appendRes (P : Program) (fnd : Nat → Option (Nat × Ent)) (k g : Nat) (t : Nat) (s x : PV) : Res :=
  match (tyOf P t).kd with
  | .slice e =>
    let ty := tyOf P e
    let byt := match ty.kd with | .int .u8 => true | _ => false
    match elems fnd byt ty.size x with
    | none => .bad
    | some ys => .need (growTy ty = true) (match s with
      | .nilS => .need (ys.length * ty.bytes ≤ maxRoom) (.eff (.row k g ys.length) k g (.row false ty.size ys))
      | .row k' g' n => match fnd k' with
        | some (g'', .row false sz xs) => .need (g' = g'' ∧ sz = ty.size)
          (if n = xs.length then .need ((n + ys.length) * ty.bytes ≤ maxRoom) (.eff (.row k' g (n + ys.length)) k' g (.row false sz (xs ++ ys)))
          else .need (n + ys.length ≤ xs.length) (.eff (.row k' g' (n + ys.length)) k' g' (.row false sz (xs.take n ++ ys ++ xs.drop (n + ys.length)))))
        | some (g'', .bytes bt bs) => match x with
          | .str str => .need (g' = g'' ∧ n = bs.length ∧ bt = e ∧ ty.size = 1 ∧ (n + str.length) * ty.bytes ≤ maxRoom) (.eff (.row k' g (n + str.length)) k' g (.bytes bt (bs ++ str)))
          | _ => .bad
        | _ => .bad
      | .list sz xs => .need (ys = []) (.val (.list sz xs))
      | _ => .bad)
  | _ => .bad

def lenRes (P : Program) (t : Nat) (x : PV) : Res :=
  match (tyOf P t).kd with
  | .str => match x with
    | .str s => .val (.int .i64 s.length)
    | _ => .bad
  | .slice _ => match x with
    | .nilS => .val (.int .i64 0)
    | .list _ xs => .val (.int .i64 xs.length)
    | .row _ _ n => .val (.int .i64 n)
    | _ => .bad
  | _ => .bad

def minRes (x y : PV) : Res :=
  match x, y with
  | .int k a, .int _ b => .val (.int k (if b < a then b else a))
  | _, _ => .bad

def maxRes (x y : PV) : Res :=
  match x, y with
  | .int k a, .int _ b => .val (.int k (if b > a then b else a))
  | _, _ => .bad

def foldRes (f : PV → PV → Res) : List PV → Res
  | [x, y] => f x y
  | [x, y, z] => match f x y with
    | .val v => f v z
    | _ => .bad
  | _ => .bad

def intOf? : Option PV → Option Int
  | some (.int _ n) => some n
  | _ => none

/-- The bounds of a slice expression over 'len'. -/
def boundsOf (len : Nat) (lo hi : Option PV) : Option (Int × Int) :=
  match lo, hi with
  | none, none => some (0, len)
  | some (.int _ l), none => some (l, len)
  | none, some (.int _ h) => some (0, h)
  | some (.int _ l), some (.int _ h) => some (l, h)
  | _, _ => none

def sliceRes (P : Program) (q : Bool) (fnd : Nat → Option (Nat × Ent)) (t : Nat) (x : PV) (lo hi mx : Option PV) : Res :=
  match mx with
  | some _ => .bad
  | none =>
    match (tyOf P t).kd, x with
    | .str, .str s => match boundsOf s.length lo hi with
      | some (l, h) => .need (0 ≤ l ∧ l ≤ h ∧ h ≤ s.length) (.val (.str ((s.take h.toNat).drop l.toNat)))
      | none => .bad
    | .slice e, .nilS => match boundsOf 0 lo hi with
      | some (l, h) => .need (l = 0 ∧ h = 0 ∧ (tyOf P e).size ≠ 0) (.val .nilS)
      | none => .bad
    | .slice e, .list sz xs => match boundsOf xs.length lo hi with
      | some (l, h) => .need (0 ≤ l ∧ l ≤ h ∧ h ≤ xs.length ∧ sz = (tyOf P e).size ∧ sz ≠ 0) (.val (.list sz ((xs.take h.toNat).drop l.toNat)))
      | none => .bad
    | .slice e, .row k g n => match fnd k with
      | some (g', .row _ sz xs) =>
        if g = g' ∧ sz = (tyOf P e).size ∧ sz ≠ 0 then
          match lo with
          | none => match boundsOf n none hi with
            | some (_, h) => .need (0 ≤ h ∧ h ≤ n ∧ n ≤ xs.length) (.val (.row k g h.toNat))
            | none => .bad
          | some _ => match boundsOf n lo hi with
            | some (l, h) => .need (q = false ∧ 0 ≤ l ∧ l ≤ h ∧ h ≤ n ∧ n ≤ xs.length ∧ k < 1000) (.eff (.list sz ((xs.take h.toNat).drop l.toNat)) k g (.row true sz xs))
            | none => .bad
        else .bad
      | _ => .bad
    | _, _ => .bad

def indexRes (P : Program) (fnd : Nat → Option (Nat × Ent)) (t : Nat) (x i : PV) : Res :=
  match (tyOf P t).kd, x, i with
  | .slice e, .list sz xs, .int _ n => .need (0 ≤ n ∧ n < xs.length ∧ sz = (tyOf P e).size ∧ sz ≠ 0) (.val (.ref (xs.getD n.toNat .undef).cells))
  | .slice e, .row k g m, .int _ n => match fnd k with
    | some (g', .row _ sz xs) => .need (g = g' ∧ sz = (tyOf P e).size ∧ sz ≠ 0 ∧ 0 ≤ n ∧ n < m ∧ m ≤ xs.length) (.val (.elt k g n.toNat 0))
    | _ => .bad
  | _, _, _ => .bad

def fieldAddrRes (P : Program) (fnd : Nat → Option (Nat × Ent)) (t : Nat) (x : PV) (f : Nat) : Res :=
  match (tyOf P t).kd with
  | .struct fs => match fs[f]? with
    | some (ft, fo) =>
      .need ((tyOf P ft).size ≠ 0) (match x with
        | .box k g off => match fnd k with
          | some (g', .var _ _) => .need (g = g') (.val (.box k g (off + fo)))
          | _ => .bad
        | .elt k g i off => match fnd k with
          | some (g', .row _ _ xs) => .need (g = g' ∧ xs ≠ []) (.val (.elt k g i (off + fo)))
          | _ => .bad
        | .ref cs => .need (fo ≤ cs.length) (.val (.ref (cs.drop fo)))
        | _ => .bad)
    | none => .bad
  | _ => .bad

/-- An address that is asked for: it is none of nothing. -/
def nilCheckRes (fnd : Nat → Option (Nat × Ent)) (x : PV) : Res :=
  match x with
  | .box k g off => match fnd k with
    | some (g', .var _ _) => .need (g = g') (.val (.box k g off))
    | _ => .bad
  | .elt k g i off => match fnd k with
    | some (g', .row _ _ xs) => .need (g = g' ∧ xs ≠ []) (.val (.elt k g i off))
    | _ => .bad
  | .ref cs => .val (.ref cs)
  | _ => .bad

def fieldRes (P : Program) (t : Nat) (x : PV) (f : Nat) : Res :=
  match (tyOf P t).kd, x with
  | .struct fs, .agg cs => match fs[f]? with
    | some (ft, fo) => .need ((tyOf P ft).size ≠ 0) (loadv (tyOf P ft) cs fo)
    | none => .bad
  | _, _ => .bad

def loadRes (P : Program) (fnd : Nat → Option (Nat × Ent)) (t : Nat) (x : PV) : Res :=
  match (tyOf P t).kd with
  | .none => .bad
  | _ => match x with
    | .box k g off => match fnd k with
      | some (g', .var tv cs) => .need (g = g') (loadv (tyOf P t) cs off)
      | _ => .bad
    | .elt k g i off => match fnd k with
      | some (g', .row _ _ xs) => .need (g = g' ∧ i < xs.length) (loadv (tyOf P t) (xs.getD i .undef).cells off)
      | _ => .bad
    | .ref cs => loadv (tyOf P t) cs 0
    | _ => .bad

/-- A value that may lie in a cell, or in cells. -/
def PV.leaf : PV → Bool
  | .undef | .tup _ | .own _ _ | .agg _ => false
  | _ => true

def PV.lies : PV → Bool
  | .agg cs => cs.all PV.leaf
  | p => p.leaf

def storeRes (P : Program) (fnd : Nat → Option (Nat × Ent)) (t : Nat) (x v : PV) : Res :=
  match (tyOf P t).kd with
  | .none => .bad
  | _ => .need (v.lies = true ∧ v.cells.length = (tyOf P t).size) (match x with
    | .box k g off => match fnd k with
      | some (g', .var tv cs) => .need (g = g' ∧ off + v.cells.length ≤ cs.length) (.eff .undef k g (.var tv (setCells cs off v.cells)))
      | _ => .bad
    | .elt k g i off => match fnd k with
      | some (g', .row false sz xs) => .need (g = g' ∧ i < xs.length ∧ v.pure = true) (match xs.getD i .undef with
        | .agg cs => .need (off + v.cells.length ≤ sz) (.eff .undef k g (.row false sz (xs.set i (.agg (setCells cs off v.cells)))))
        | _ => .need (off = 0 ∧ v.cells.length = sz) (.eff .undef k g (.row false sz (xs.set i v))))
      | _ => .bad
    | _ => .bad)

def fillP (place : Nat → Option (Nat × Nat)) (cs : List PV) : List (Nat × PV) → Option (List PV)
  | [] => some cs
  | (i, v) :: r => match place i with
    | some (off, size) => if v.lies = true ∧ v.cells.length = size ∧ off + size ≤ cs.length then fillP place (setCells cs off v.cells) r else none
    | none => none

def listC (z : List PV) (off sz : Nat) : List PV :=
  match z[off]? with
  | some .nilS => z.set off (.list sz [])
  | _ => z

/-- The nil slices in a zero struct, told as rows of nothing. -/
def listZ (P : Program) : List (Nat × Nat) → List PV → List PV
  | [], z => z
  | (ft, off) :: fs, z => listZ P fs (match (tyOf P ft).kd with
    | .slice el => listC z off (tyOf P el).size
    | _ => z)

def zeroZ (P : Program) (b : Bool) (fs : List (Nat × Nat)) (z : List PV) : List PV := if b = true then listZ P fs z else z

def buildRes (P : Program) (b : Bool) (t : Nat) (parts : List (Nat × PV)) : Res :=
  let ty := tyOf P t
  match ty.kd, ty.zero with
  | .struct fs, some z => .need (fs.all (fun f => (tyOf P f.1).size != 0) = true) (match fillP (fun i => (fs[i]?).map fun f => (f.2, (tyOf P f.1).size)) (zeroZ P b fs z) parts with
    | some cs => .val (.agg cs)
    | none => .bad)
  | _, _ => .bad

def fillE (size : Nat) (xs : List PV) : List (Nat × PV) → Option (List PV)
  | [] => some xs
  | (i, v) :: r => if v.lies = true ∧ v.pure = true ∧ v.cells.length = size ∧ i < xs.length then fillE size (xs.set i v) r else none

def zeroEl (ty : Ty) (z : List PV) : PV :=
  match ty.agg with
  | true => .agg z
  | false => z.headD .undef

def zOk (ty : Ty) (z : List PV) : Bool := z.length == ty.size && ty.size != 0 && z.all PV.leaf && (ty.agg || z.length == 1)

def buildSliceRes (P : Program) (k g : Nat) (t len : Nat) (parts : List (Nat × PV)) : Res :=
  match (tyOf P t).kd with
  | .slice e => match (tyOf P e).zero with
    | some z => .need (len * (tyOf P e).size ≤ 2 ^ 24 ∧ zOk (tyOf P e) z = true) (match fillE (tyOf P e).size (List.replicate len (zeroEl (tyOf P e) z)) parts with
      | some xs => .eff (.row k g len) k g (.row false (tyOf P e).size xs)
      | none => .bad)
    | none => .bad
  | _ => .bad

/-- The code points of a text, as the model decodes them. -/
def runesOf (s : List UInt8) : List PV := (Conv.runesFrom ⟨s.toArray⟩ s.length 0 #[]).toList.map ofCell

def runeBytes : List PV → Option (List UInt8)
  | [] => some []
  | .int .i32 n :: r => match runeBytes r with
    | some s => some ((Utf8.encode n).data.toList ++ s)
    | none => none
  | _ => none

def byteBytes : List PV → Option (List UInt8)
  | [] => some []
  | .int .u8 n :: r => match byteBytes r with
    | some s => some (UInt8.ofNat n.toNat :: s)
    | none => none
  | _ => none

def strOf : Option (List UInt8) → Res
  | some s => .val (.str s)
  | none => .bad

def convertRes (P : Program) (fnd : Nat → Option (Nat × Ent)) (src dst : Nat) (x : PV) : Res :=
  match (tyOf P src).kd, (tyOf P dst).kd, x with
  | .int _, .int k, .int _ n => .val (.int k (k.wrap n))
  | .int _, .str, .int _ n => .val (.str (Utf8.encode n).data.toList)
  | .str, .str, .str s => .val (.str s)
  | .str, .slice e, .str s => match (tyOf P e).kd with
    | .int .i32 => .val (.list 1 (runesOf s))
    | _ => .bad
  | .slice e, .str, x => match (tyOf P e).kd with
    | .int .i32 => match elems fnd false 1 x with
      | some xs => strOf (runeBytes xs)
      | none => .bad
    | .int .u8 => match elems fnd false 1 x with
      | some xs => strOf (byteBytes xs)
      | none => .bad
    | _ => .bad
  | _, _, _ => .bad

def strIndexRes (P : Program) (t : Nat) (x i : PV) : Res :=
  match (tyOf P t).kd, x, i with
  | .str, .str s, .int _ n => .need (0 ≤ n ∧ n < s.length) (.val (.int .u8 (s.getD n.toNat 0).toNat))
  | _, _, _ => .bad

def extractRes (x : PV) (i : Nat) : Res :=
  match x with
  | .tup vs => .need (i < vs.length) (.val (vs.getD i .undef))
  | _ => .bad

def nextRes (fnd : Nat → Option (Nat × Ent)) (x : PV) : Res :=
  match x with
  | .box k g 0 => match fnd k with
    | some (g', .iter s pos) => .need (g = g')
        (if pos < s.length then
          .eff (.tup [.bool true, .int .i64 pos, .int .i32 (Utf8.decode ⟨s.toArray⟩ pos).1]) k g (.iter s (pos + (Utf8.decode ⟨s.toArray⟩ pos).2))
        else .val (.tup [.bool false]))
    | _ => .bad
  | _ => .bad

def builtinRes (P : Program) (fnd : Nat → Option (Nat × Ent)) (k g : Nat) (b : Builtin) (ts : List Nat) (args : List PV) : Res :=
  match b with
  | .len => match ts with
    | t :: _ => match args with
      | [x] => lenRes P t x
      | _ => .bad
    | _ => .bad
  | .append => match ts with
    | [t, t'] => match args with
      | [s, x] => match (tyOf P t').kd with
        | .slice _ | .str => appendRes P fnd k g t s x
        | _ => .bad
      | _ => .bad
    | _ => .bad
  | .min => foldRes minRes args
  | .max => foldRes maxRes args
  | _ => .bad

/-- Operations that lay rows, or let them grow. -/
def growsOp : Op → Bool
  | .buildSlice _ _ _ => true
  | .call c => match c.callee with
    | .builtin .append => true
    | _ => false
  | _ => false

/-- A row that is laid, and written no more from there on. -/
def shutR (v : PV) (k g : Nat) (e : Ent) : Res :=
  match v, e with
  | .row k' g' n, .row false sz xs => .need (k' = k ∧ g' = g ∧ n ≤ xs.length ∧ k < 1000) (.eff (.list sz (xs.take n)) k g (.row true sz xs))
  | _, _ => .bad

def Res.shut : Res → Res
  | .eff v k g e => shutR v k g e
  | .need p r => .need p r.shut
  | .val v => .val v
  | _ => .bad

/-- In a region that draws its order, where it is asked for: a row is told as one that is written no more. -/
def shutq (q : Bool) (l : List (Option Nat)) (op : Op) (r : Res) : Res :=
  match q, l, growsOp op with
  | true, _ :: _, true => r.shut
  | _, _, _ => r

/-- What an operation does: 'k', 'g': the key and the stamp for what it lays anew; 'q': in a region that draws its order. -/
def opRes (P : Program) (q : Bool) (s : St) (k g : Nat) (op : Op) : Res :=
  match op with
  | .move x | .assign x => .val (s.ev x)
  | .pick c a b => match s.ev c with
    | .bool t => .val (if t = true then s.ev a else s.ev b)
    | _ => .bad
  | .alloc t => match (tyOf P t).zero with
    | some z => .eff (.box k g 0) k g (.var t z)
    | none => .bad
  | .box t x => .need ((s.ev x).lies = true) (.eff (.box k g 0) k g (.var t (s.ev x).cells))
  | .build t parts => buildRes P (q && k == 0) t (parts.toList.map fun p => (p.1, s.ev p.2))
  | .buildSlice t len parts => buildSliceRes P k g t len (parts.toList.map fun p => (p.1, s.ev p.2))
  | .load t a => loadRes P s.sto.find t (s.ev a)
  | .store t a v => storeRes P s.sto.find t (s.ev a) (s.ev v)
  | .binOp op t x y _ => binRes P (tyOf P t) op (s.ev x) (s.ev y) y
  | .unOp op _ x => unRes op (s.ev x)
  | .convert src dst x => convertRes P s.sto.find src dst (s.ev x)
  | .slice t x lo hi mx => sliceRes P q s.sto.find t (s.ev x) (lo.map s.ev) (hi.map s.ev) (mx.map s.ev)
  | .fieldAddr t x f => fieldAddrRes P s.sto.find t (s.ev x) f
  | .field t x f => fieldRes P t (s.ev x) f
  | .nilCheck x => nilCheckRes s.sto.find (s.ev x)
  | .indexAddr t x i => indexRes P s.sto.find t (s.ev x) (s.ev i)
  | .index t x i => strIndexRes P t (s.ev x) (s.ev i)
  | .extract x i => extractRes (s.ev x) i
  | .range t x => match (tyOf P t).kd, s.ev x with
    | .str, .str b => .eff (.box k g 0) k g (.iter b 0)
    | _, _ => .bad
  | .next it isStr => match isStr with
    | true => nextRes s.sto.find (s.ev it)
    | false => .bad
  | .makeFunc fn first captured => match fn with
    | .func f => match first.toList with
      | [] => .val (.fn f (captured.toList.map s.ev))
      | _ => .bad
    | _ => .bad
  | .call c => match c.callee with
    | .value f => match s.ev f with
      | .fn g caps => .call g (c.args.toList.map s.ev ++ caps)
      | _ => .bad
    | .builtin b => builtinRes P s.sto.find k g b c.argTypes.toList (c.args.toList.map s.ev)
    | _ => .bad
  | _ => .bad

end Go.Proofs.YtlgjbmgmoaphjaaDoor
