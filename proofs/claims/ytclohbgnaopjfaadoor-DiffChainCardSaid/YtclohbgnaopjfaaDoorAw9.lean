/- Texts of the proof of diffChainCard -/
import Derived.Calls
import Derived.Orders
import Derived.Tactics
import Derived.Defers
import Derived.Lib.DecodeN
import Derived.Laws.Append
import Derived.Laws.AppendOwn
import Derived.Laws.CopyRow
import Derived.Laws.Cells
import Derived.Laws.Strings
import Derived.Laws.Concat
import Derived.Laws.StructEq
import Derived.Laws.Tables
import Derived.Laws.Runes
namespace Go.Proofs.YtclohbgnaopjfaaDoor
set_option linter.unusedSimpArgs false
set_option linter.unusedVariables false
open Go
inductive PV where
 | undef
 | bool (b : Bool)
 | int (k : IntKind) (n : Int)
 | str (s : List UInt8)
 | kS
 | list (sz : Nat) (xs : List PV)
 | own (sz : Nat) (xs : List PV)
 | adx (ty : Nat) (pre : List PV) (sz : Nat) (xs post : List PV)
 | row (k g n : Nat)
 | agg (cs : List PV)
 | tup (vs : List PV)
 | ref (cs : List PV)
 | box (k g off : Nat)
 | elt (k g i off : Nat)
 | fn (f : Nat) (cap : List PV)
 | aaQ
 | aaE
 | YQ
 | iface (t : Nat) (v : PV)
 | jP (k g : Nat)
instance : Inhabited PV := ⟨.undef⟩
def PV.cells : PV → List PV
 | .agg cs => cs
 | v => [v]
inductive Ent where
 | var (ty : Nat) (cs : List PV)
 | row (fro : Bool) (sz : Nat) (xs : List PV)
 | iter (s : List UInt8) (pos : Nat)
 | gone
 | moved (sz : Nat) (xs : List PV)
 | bytes (bt : Nat) (bs : List UInt8)
 | XX (bt : Nat) (bs : List UInt8)
abbrev Env := List (Nat × PV)
abbrev Sto := List (Nat × Nat × Ent)
def Env.get : Env → Nat → PV
 | [], _ => .undef
 | (j, v) :: r, i => if i = j then v else Env.get r i
def Sto.find : Sto → Nat → Option (Nat × Ent)
 | [], _ => none
 | (j, x) :: r, k => if k = j then some x else Sto.find r k
def Sto.upd : Sto → Nat → Nat → Ent → Sto
 | [], k, g, e => [(k, g, e)]
 | (j, x) :: r, k, g, e => if k = j then (k, g, e) :: r else (j, x) :: Sto.upd r k g e
structure St where
 env : Env
 sto : Sto
 nx : Nat
abbrev Imm := Nat → Option (Array Value)
structure Slot where
 gen : Nat
 block : Option Nat
 cap : Nat
 sz : Nat
structure Lay where
 used : Nat → Prop
 at_ : Nat → Option Slot
def Lay.none : Lay := ⟨fun _ => False, fun _ => Option.none⟩
mutual
inductive Rep (H : Imm) : Lay → Value → PV → Prop where
 | undef (L : Lay) (v : Value) : Rep H L v .undef
 | bool (L : Lay) (b : Bool) : Rep H L (.bool b) (.bool b)
 | int (L : Lay) (k : IntKind) (n : Int) : Rep H L (.int k n) (.int k n)
 | str (L : Lay) (s : List UInt8) : Rep H L (.string ⟨s.toArray⟩) (.str s)
 | kS (L : Lay) : Rep H L (.slice none 0 0) .kS
 | wN (L : Lay) (a : Option Addr) (c sz : Nat) : Rep H L (.slice a 0 c) (.list sz [])
 | list (L : Lay) (b off len cap sz : Nat) (c : Array Value) (vs : List Value) (xs : List PV) (hH : H b = some c) (hlen : xs.length = len) (hcap : len ≤ cap) (hsz : ∀ x ∈ xs, x.cells.length = sz) (h1 : ∀ v ∈ vs, v.oneCell' = true)
   (hv : ∀ i, i < vs.length → c[off + i]? = vs[i]?) (hr : zI H Lay.none vs (xs.flatMap PV.cells)) : Rep H L (.slice (some ⟨b, off, Option.none⟩) len cap) (.list sz xs)
 | row (L : Lay) (v : Value) (k g n : Nat) (hu : L.used g) (hs : ∃ a c, v = .slice a n c) (h : ∀ s, L.at_ k = some s → s.gen = g → v = .slice (s.block.map fun b => ⟨b, 0, Option.none⟩) n s.cap) : Rep H L v (.row k g n)
 | agg (L : Lay) (vs : List Value) (ps : List PV) (h : zI H L vs ps) : Rep H L (.agg vs.toArray) (.agg ps)
 | tup (L : Lay) (vs : List Value) (ps : List PV) (h : zI H L vs ps) : Rep H L (.tuple vs.toArray) (.tup ps)
 | ref (L : Lay) (b off : Nat) (c : Array Value) (vs : List Value) (ps : List PV) (hH : H b = some c) (hv : ∀ i, i < vs.length → c[off + i]? = vs[i]?) (h : zI H Lay.none vs ps) : Rep H L (.pointer (some ⟨b, off, Option.none⟩)) (.ref ps)
 | box (L : Lay) (v : Value) (k g off : Nat) (hu : L.used g) (hs : ∃ a, v = .pointer a) (h : ∀ s b, L.at_ k = some s → s.gen = g → s.block = some b → v = .pointer (some ⟨b, off, Option.none⟩)) : Rep H L v (.box k g off)
 | elt (L : Lay) (v : Value) (k g i off : Nat) (hu : L.used g) (hs : ∃ a, v = .pointer a) (h : ∀ s b, L.at_ k = some s → s.gen = g → s.block = some b → v = .pointer (some ⟨b, i * s.sz + off, Option.none⟩)) : Rep H L v (.elt k g i off)
 | fn (L : Lay) (f : Nat) (vs : List Value) (ps : List PV) (h : zI H L vs ps) : Rep H L (.func (.func f) #[] vs.toArray) (.fn f ps)
 | aaQ (L : Lay) : Rep H L .nilFunc .aaQ
 | aaE (L : Lay) : Rep H L (.pointer none) .aaE
 | YQ (L : Lay) : Rep H L .nilIface .YQ
 | iface (L : Lay) (t : Nat) (v : Value) (p : PV) (h : Rep H L v p) : Rep H L (.iface t v) (.iface t p)
 | jP (L : Lay) (v : Value) (k g : Nat) (hu : L.used g) (hs : ∃ a, v = .pointer a) (h : v = .pointer none ∨ ∀ s b, L.at_ k = some s → s.gen = g → s.block = some b → v = .pointer (some ⟨b, 0, Option.none⟩)) : Rep H L v (.jP k g)
inductive zI (H : Imm) : Lay → List Value → List PV → Prop where
 | nil (L : Lay) : zI H L [] []
 | cons (L : Lay) (v : Value) (p : PV) (vs : List Value) (ps : List PV) (h : Rep H L v p) (t : zI H L vs ps) : zI H L (v :: vs) (p :: ps)
end
mutual
def PV.pure : PV → Bool
 | .row _ _ _ | .box _ _ _ | .elt _ _ _ _ | .own _ _ | .adx _ _ _ _ _ | .jP _ _ => false
 | .agg cs => yj cs
 | .tup vs => yj vs
 | .fn _ cs => yj cs
 | .iface _ v => v.pure
 | _ => true
def yj : List PV → Bool
 | [] => true
 | p :: ps => p.pure && yj ps
end
mutual
def PV.inst (m : Nat → Nat × Nat) : PV → PV
 | .row k _ n => .row (m k).1 (m k).2 n
 | .box k _ off => .box (m k).1 (m k).2 off
 | .elt k _ i off => .elt (m k).1 (m k).2 i off
 | .jP k _ => .jP (m k).1 (m k).2
 | .agg cs => .agg (Z7 m cs)
 | .tup vs => .tup (Z7 m vs)
 | .fn f cs => .fn f (Z7 m cs)
 | .iface t v => .iface t (v.inst m)
 | v => v
def Z7 (m : Nat → Nat × Nat) : List PV → List PV
 | [] => []
 | p :: ps => p.inst m :: Z7 m ps
end
mutual
def PV.wY (n : Nat) : PV → Bool
 | .row k g _ => decide (1000 ≤ k) && decide (k < 1000 + n) && decide (g = 0)
 | .box k g _ => decide (1000 ≤ k) && decide (k < 1000 + n) && decide (g = 0)
 | .elt k g _ _ => decide (1000 ≤ k) && decide (k < 1000 + n) && decide (g = 0)
 | .jP k g => decide (1000 ≤ k) && decide (k < 1000 + n) && decide (g = 0)
 | .own _ _ => false
 | .adx _ _ _ _ _ => false
 | .agg cs => xK n cs
 | .tup vs => xK n vs
 | .fn _ cs => xK n cs
 | .iface _ v => v.wY n
 | _ => true
def xK (n : Nat) : List PV → Bool
 | [] => true
 | p :: ps => p.wY n && xK n ps
end
def Ent.inst (m : Nat → Nat × Nat) : Ent → Ent
 | .var ty cs => .var ty (Z7 m cs)
 | .moved sz xs => .row false sz xs
 | .XX bt bs => .bytes bt bs
 | e => e
def Ent.wY (n : Nat) : Ent → Bool
 | .var _ cs => xK n cs
 | .row fro _ _ => !fro
 | _ => true
def Ent.moves : Ent → Bool
 | .moved _ _ => true
 | .XX _ _ => true
 | .gone => true
 | _ => false
end Go.Proofs.YtclohbgnaopjfaaDoor
namespace Go.Proofs.YtclohbgnaopjfaaDoor
set_option linter.unusedSimpArgs false
set_option linter.unusedVariables false
open Go
inductive Kd where
 | none | bool | int (k : IntKind) | str | slice (e : Nat) | struct (fs : List (Nat × Nat)) | iface | other
structure Ty where
 kd : Kd
 agg : Bool
 size : Nat
 bytes : Nat
 zero : Option (List PV)
 flat : Bool
def Wh : Value → PV
 | .bool b => .bool b
 | .int k n => .int k n
 | .string s => .str s.data.toList
 | .slice none 0 0 => .kS
 | .pointer none => .aaE
 | .nilIface => .YQ
 | .nilFunc => .aaQ
 | _ => .undef
def ofConst : Value → PV
 | .agg cs => .agg (cs.toList.map Wh)
 | v => Wh v
def YF : TypeDesc → Kd
 | .bool => .bool
 | .int k => .int k
 | .string => .str
 | .slice e => .slice e
 | .struct fs => .struct (fs.toList.map fun f => (f.type, f.offset))
 | .interface _ => .iface
 | _ => .other
def aqZ : TypeDesc → Bool
 | .struct _ | .array _ _ => true
 | _ => false
def amO (P : Program) (t : Nat) : TypeDesc → Bool
 | .struct fs => !P.stoodInHeld t && !P.eqGuardType P.depth t && (fs.toList.map (·.offset) == List.range fs.size) && fs.all fun f => f.name != "_"
 | _ => false
def zH (P : Program) (t : Nat) : Ty :=
 match P.info? t, P.underlying t with
 | some i, some d => ⟨YF d, aqZ d, i.size, i.bytes, i.zero.map fun z => z.cells.toList.map Wh, amO P t d⟩
 | _, _ => ⟨.none, false, 0, 0, none, false⟩
def St.put (s : St) : Option Nat → PV → St
 | some d, v => { s with env := (d, v) :: s.env }
 | none, _ => s
def St.set (s : St) (k g : Nat) (e : Ent) : St := { s with sto := s.sto.upd k g e }
def St.ev (s : St) : Operand → PV
 | .tmp t => s.env.get t
 | .const v => ofConst v
 | .func f => .fn f []
 | .global _ => .undef
inductive Res where
 | val (v : PV)
 | eff (v : PV) (k g : Nat) (e : Ent)
 | call (f : Nat) (args : List PV)
 | need (p : Prop) (r : Res)
 | acF (p : Prop) (b : Bool)
 | bad
def Yy (ty : Ty) (cs : List PV) (off : Nat) : Res :=
 match ty.agg with
 | true => .need (off + ty.size ≤ cs.length) (.val (.agg ((cs.drop off).take ty.size)))
 | false => .need (off < cs.length) (.val (cs.getD off .undef))
def setCells (cs : List PV) (off : Nat) (vs : List PV) : List PV := cs.take off ++ vs ++ cs.drop (off + vs.length)
def aop (op : BinOp) (k : IntKind) (x y : Int) : Res :=
 match op with
 | .add => .val (.int k (k.wrap (x + y)))
 | .sub => .val (.int k (k.wrap (x - y)))
 | .mul => .val (.int k (k.wrap (x * y)))
 | .quo => .need (y ≠ 0) (.val (.int k (k.wrap (x.tdiv y))))
 | .rem => .need (y ≠ 0) (.val (.int k (x.tmod y)))
 | .and => .val (.int k (k.wrap (BitVec.ofInt k.bits x &&& BitVec.ofInt k.bits y).toNat))
 | .eql => .val (.bool (x == y))
 | .neq => .val (.bool (x != y))
 | .lss => .val (.bool (decide (x < y)))
 | .leq => .val (.bool (decide (x ≤ y)))
 | .gtr => .val (.bool (decide (x > y)))
 | .geq => .val (.bool (decide (x ≥ y)))
 | _ => .bad
def amD : Nat := 9223372036854775807
def adR : Nat := 140737488355328
def anQ (op : BinOp) (x y : List UInt8) : Res :=
 match op with
 | .add => .need (x.length + y.length ≤ amD) (.val (.str (x ++ y)))
 | .eql => .val (.bool (x == y))
 | .neq => .val (.bool (!(x == y)))
 | .lss => .val (.bool (Op.bytesLess x y))
 | .leq => .val (.bool (Op.bytesLess x y || x == y))
 | .gtr => .val (.bool (!(Op.bytesLess x y || x == y)))
 | .geq => .val (.bool (!Op.bytesLess x y))
 | _ => .bad
def alR (kd : Kd) (x y : PV) : Option Bool :=
 match kd, x, y with
 | .bool, .bool a, .bool b => some (a == b)
 | .int _, .int k a, .int k' b => if k = k' then some (a == b) else none
 | .str, .str a, .str b => some (a == b)
 | _, _, _ => none
def Vu (P : Program) : List (Nat × Nat) → List PV → List PV → Option Bool
 | [], [], [] => some true
 | f :: fs, x :: xs, y :: ys => match alR (zH P f.1).kd x y with
  | some b => match Vu P fs xs ys with
   | some c => some (b && c)
   | none => none
  | none => none
 | _, _, _ => none
def aoN (P : Program) (ty : Ty) (neg : Bool) (x y : PV) : Res :=
 match ty.kd, x, y with
 | .bool, .bool a, .bool b => .val (.bool ((a == b) != neg))
 | .slice _, .kS, .kS => .val (.bool (!neg))
 | .slice _, .list _ xs, .kS => .acF (xs = []) (!neg)
 | .struct fs, .agg a, .agg b => match ty.flat with
  | true => match Vu P fs a b with
   | some c => .val (.bool (c != neg))
   | none => .bad
  | false => .bad
 | _, _, _ => .bad
def ai2 (neg : Bool) (x : PV) : Operand → Res
 | .const .nilIface => match x with
  | .YQ => .val (.bool (!neg))
  | .iface _ _ => .val (.bool neg)
  | _ => .bad
 | _ => .bad
def afK (P : Program) (ty : Ty) (op : BinOp) (x y : PV) (yo : Operand) : Res :=
 match x, y with
 | .int k a, .int k' b => if k = k' then aop op k a b else .bad
 | .str a, .str b => anQ op a b
 | x, y => match ty.kd, op with
  | .iface, .eql => ai2 false x yo
  | .iface, .neq => ai2 true x yo
  | _, .eql => aoN P ty false x y
  | _, .neq => aoN P ty true x y
  | _, _ => .bad
def akY (op : UnOp) (x : PV) : Res :=
 match op, x with
 | .neg, .int k n => .val (.int k (k.wrap (0 - n)))
 | .not, .bool b => .val (.bool (!b))
 | _, _ => .bad
def elems (fnd : Nat → Option (Nat × Ent)) (byt : Bool) (size : Nat) (x : PV) : Option (List PV) :=
 match x with
 | .kS => some []
 | .list sz xs => if sz = size then some xs else none
 | .row k g n => match fnd k with
  | some (g', .row _ sz xs) => if g = g' ∧ sz = size ∧ n ≤ xs.length then some (xs.take n) else none
  | _ => none
 | .str s => if byt ∧ size = 1 then some (s.map fun b => .int .u8 b.toNat) else none
 | _ => none
def apM (ty : Ty) : Bool := ty.size != 0 && ty.bytes != 0 && (match ty.zero with | some z => z.length == ty.size | none => false)
def Zi (P : Program) (fnd : Nat → Option (Nat × Ent)) (k g : Nat) (t : Nat) (s x : PV) : Res :=
 match (zH P t).kd with
 | .slice e =>
  let ty := zH P e
  let byt := match ty.kd with | .int .u8 => true | _ => false
  match elems fnd byt ty.size x with
  | none => .bad
  | some ys => .need (apM ty = true) (match s with
   | .kS => .need (ys.length * ty.bytes ≤ adR) (.eff (.row k g ys.length) k g (.row false ty.size ys))
   | .row k' g' n => match fnd k' with
    | some (g'', .row false sz xs) => .need (g' = g'' ∧ sz = ty.size)
     (if n = xs.length then .need ((n + ys.length) * ty.bytes ≤ adR) (.eff (.row k' g (n + ys.length)) k' g (.row false sz (xs ++ ys)))
     else .need (n + ys.length ≤ xs.length) (.eff (.row k' g' (n + ys.length)) k' g' (.row false sz (xs.take n ++ ys ++ xs.drop (n + ys.length)))))
    | some (g'', .bytes bt bs) => match x with
     | .str str => .need (g' = g'' ∧ n = bs.length ∧ bt = e ∧ ty.size = 1 ∧ (n + str.length) * ty.bytes ≤ adR) (.eff (.row k' g (n + str.length)) k' g (.bytes bt (bs ++ str)))
     | _ => .bad
    | _ => .bad
   | .list sz xs => .need (ys = []) (.val (.list sz xs))
   | _ => .bad)
 | _ => .bad
def ae9 (P : Program) (t : Nat) (x : PV) : Res :=
 match (zH P t).kd with
 | .str => match x with
  | .str s => .val (.int .i64 s.length)
  | _ => .bad
 | .slice _ => match x with
  | .kS => .val (.int .i64 0)
  | .list _ xs => .val (.int .i64 xs.length)
  | .row _ _ n => .val (.int .i64 n)
  | _ => .bad
 | _ => .bad
def J5 (x y : PV) : Res :=
 match x, y with
 | .int k a, .int _ b => .val (.int k (if b < a then b else a))
 | _, _ => .bad
def JZ (x y : PV) : Res :=
 match x, y with
 | .int k a, .int _ b => .val (.int k (if b > a then b else a))
 | _, _ => .bad
def QT (f : PV → PV → Res) : List PV → Res
 | [x, y] => f x y
 | [x, y, z] => match f x y with
  | .val v => f v z
  | _ => .bad
 | _ => .bad
def KG (len : Nat) (lo hi : Option PV) : Option (Int × Int) :=
 match lo, hi with
 | none, none => some (0, len)
 | some (.int _ l), none => some (l, len)
 | none, some (.int _ h) => some (0, h)
 | some (.int _ l), some (.int _ h) => some (l, h)
 | _, _ => none
def jY (P : Program) (q : Bool) (fnd : Nat → Option (Nat × Ent)) (t : Nat) (x : PV) (lo hi mx : Option PV) : Res :=
 match mx with
 | some _ => .bad
 | none =>
  match (zH P t).kd, x with
  | .str, .str s => match KG s.length lo hi with
   | some (l, h) => .need (0 ≤ l ∧ l ≤ h ∧ h ≤ s.length) (.val (.str ((s.take h.toNat).drop l.toNat)))
   | none => .bad
  | .slice e, .kS => match KG 0 lo hi with
   | some (l, h) => .need (l = 0 ∧ h = 0 ∧ (zH P e).size ≠ 0) (.val .kS)
   | none => .bad
  | .slice e, .list sz xs => match KG xs.length lo hi with
   | some (l, h) => .need (0 ≤ l ∧ l ≤ h ∧ h ≤ xs.length ∧ sz = (zH P e).size ∧ sz ≠ 0) (.val (.list sz ((xs.take h.toNat).drop l.toNat)))
   | none => .bad
  | .slice e, .row k g n => match fnd k with
   | some (g', .row _ sz xs) =>
    if g = g' ∧ sz = (zH P e).size ∧ sz ≠ 0 then
     match lo with
     | none => match KG n none hi with
      | some (_, h) => .need (0 ≤ h ∧ h ≤ n ∧ n ≤ xs.length) (.val (.row k g h.toNat))
      | none => .bad
     | some _ => match KG n lo hi with
      | some (l, h) => .need (q = false ∧ 0 ≤ l ∧ l ≤ h ∧ h ≤ n ∧ n ≤ xs.length ∧ k < 1000) (.eff (.list sz ((xs.take h.toNat).drop l.toNat)) k g (.row true sz xs))
      | none => .bad
    else .bad
   | _ => .bad
  | _, _ => .bad
def xu (P : Program) (fnd : Nat → Option (Nat × Ent)) (t : Nat) (x i : PV) : Res :=
 match (zH P t).kd, x, i with
 | .slice e, .list sz xs, .int _ n => .need (0 ≤ n ∧ n < xs.length ∧ sz = (zH P e).size ∧ sz ≠ 0) (.val (.ref (xs.getD n.toNat .undef).cells))
 | .slice e, .row k g m, .int _ n => match fnd k with
  | some (g', .row _ sz xs) => .need (g = g' ∧ sz = (zH P e).size ∧ sz ≠ 0 ∧ 0 ≤ n ∧ n < m ∧ m ≤ xs.length) (.val (.elt k g n.toNat 0))
  | _ => .bad
 | _, _, _ => .bad
def kv (P : Program) (fnd : Nat → Option (Nat × Ent)) (t : Nat) (x : PV) (f : Nat) : Res :=
 match (zH P t).kd with
 | .struct fs => match fs[f]? with
  | some (ft, fo) =>
   .need ((zH P ft).size ≠ 0) (match x with
    | .box k g off => match fnd k with
     | some (g', .var _ _) => .need (g = g') (.val (.box k g (off + fo)))
     | _ => .bad
    | .elt k g i off => match fnd k with
     | some (g', .row _ _ xs) => .need (g = g' ∧ xs ≠ []) (.val (.elt k g i (off + fo)))
     | _ => .bad
    | .ref cs => .need (fo ≤ cs.length) (.val (.ref (cs.drop fo)))
    | _ => .bad)
  | none => .bad
 | _ => .bad
def kP (fnd : Nat → Option (Nat × Ent)) (x : PV) : Res :=
 match x with
 | .box k g off => match fnd k with
  | some (g', .var _ _) => .need (g = g') (.val (.box k g off))
  | _ => .bad
 | .elt k g i off => match fnd k with
  | some (g', .row _ _ xs) => .need (g = g' ∧ xs ≠ []) (.val (.elt k g i off))
  | _ => .bad
 | .ref cs => .val (.ref cs)
 | _ => .bad
def Xd (P : Program) (t : Nat) (x : PV) (f : Nat) : Res :=
 match (zH P t).kd, x with
 | .struct fs, .agg cs => match fs[f]? with
  | some (ft, fo) => .need ((zH P ft).size ≠ 0) (Yy (zH P ft) cs fo)
  | none => .bad
 | _, _ => .bad
def yQ (P : Program) (fnd : Nat → Option (Nat × Ent)) (t : Nat) (x : PV) : Res :=
 match (zH P t).kd with
 | .none => .bad
 | _ => match x with
  | .box k g off => match fnd k with
   | some (g', .var tv cs) => .need (g = g') (Yy (zH P t) cs off)
   | _ => .bad
  | .elt k g i off => match fnd k with
   | some (g', .row _ _ xs) => .need (g = g' ∧ i < xs.length) (Yy (zH P t) (xs.getD i .undef).cells off)
   | _ => .bad
  | .ref cs => Yy (zH P t) cs 0
  | _ => .bad
def PV.leaf : PV → Bool
 | .undef | .tup _ | .own _ _ | .adx _ _ _ _ _ | .agg _ => false
 | _ => true
def PV.lies : PV → Bool
 | .agg cs => cs.all PV.leaf
 | p => p.leaf
def Zc (P : Program) (fnd : Nat → Option (Nat × Ent)) (t : Nat) (x v : PV) : Res :=
 match (zH P t).kd with
 | .none => .bad
 | _ => .need (v.lies = true ∧ v.cells.length = (zH P t).size) (match x with
  | .box k g off => match fnd k with
   | some (g', .var tv cs) => .need (g = g' ∧ off + v.cells.length ≤ cs.length) (.eff .undef k g (.var tv (setCells cs off v.cells)))
   | _ => .bad
  | .elt k g i off => match fnd k with
   | some (g', .row false sz xs) => .need (g = g' ∧ i < xs.length ∧ v.pure = true) (match xs.getD i .undef with
    | .agg cs => .need (off + v.cells.length ≤ sz) (.eff .undef k g (.row false sz (xs.set i (.agg (setCells cs off v.cells)))))
    | _ => .need (off = 0 ∧ v.cells.length = sz) (.eff .undef k g (.row false sz (xs.set i v))))
   | _ => .bad
  | _ => .bad)
def ajX (place : Nat → Option (Nat × Nat)) (cs : List PV) : List (Nat × PV) → Option (List PV)
 | [] => some cs
 | (i, v) :: r => match place i with
  | some (off, size) => if v.lies = true ∧ v.cells.length = size ∧ off + size ≤ cs.length then ajX place (setCells cs off v.cells) r else none
  | none => none
def anb (z : List PV) (off sz : Nat) : List PV :=
 match z[off]? with
 | some .kS => z.set off (.list sz [])
 | _ => z
def ahz (P : Program) (b : Nat) : List (Nat × Nat) → List PV → List PV
 | [], z => z
 | (ft, off) :: fs, z => ahz P b fs (match (zH P ft).kd with
  | .slice el => anb z (b + off) (zH P el).size
  | _ => z)
def anJ (P : Program) : List (Nat × Nat) → List PV → List PV
 | [], z => z
 | (ft, off) :: fs, z => anJ P fs (match (zH P ft).kd with
  | .slice el => anb z off (zH P el).size
  | .struct fs2 => ahz P off fs2 z
  | _ => z)
def amT (P : Program) (b : Bool) (fs : List (Nat × Nat)) (z : List PV) : List PV := if b = true then anJ P fs z else z
def Xv (P : Program) (b : Bool) (t : Nat) (parts : List (Nat × PV)) : Res :=
 let ty := zH P t
 match ty.kd, ty.zero with
 | .struct fs, some z => .need (fs.all (fun f => (zH P f.1).size != 0) = true) (match ajX (fun i => (fs[i]?).map fun f => (f.2, (zH P f.1).size)) (amT P b fs z) parts with
  | some cs => .val (.agg cs)
  | none => .bad)
 | _, _ => .bad
def aj3 (size : Nat) (xs : List PV) : List (Nat × PV) → Option (List PV)
 | [] => some xs
 | (i, v) :: r => if v.lies = true ∧ v.pure = true ∧ v.cells.length = size ∧ i < xs.length then aj3 size (xs.set i v) r else none
def ai4 (ty : Ty) (z : List PV) : PV :=
 match ty.agg with
 | true => .agg z
 | false => z.headD .undef
def zOk (ty : Ty) (z : List PV) : Bool := z.length == ty.size && ty.size != 0 && z.all PV.leaf && (ty.agg || z.length == 1)
def Z5 (P : Program) (k g : Nat) (t len : Nat) (parts : List (Nat × PV)) : Res :=
 match (zH P t).kd with
 | .slice e => match (zH P e).zero with
  | some z => .need (len * (zH P e).size ≤ 2 ^ 24 ∧ zOk (zH P e) z = true) (match aj3 (zH P e).size (List.replicate len (ai4 (zH P e) z)) parts with
   | some xs => .eff (.row k g len) k g (.row false (zH P e).size xs)
   | none => .bad)
  | none => .bad
 | _ => .bad
def adO (s : List UInt8) : List PV := (Conv.runesFrom ⟨s.toArray⟩ s.length 0 #[]).toList.map Wh
def Qh : List PV → Option (List UInt8)
 | [] => some []
 | .int .i32 n :: r => match Qh r with
  | some s => some ((Utf8.encode n).data.toList ++ s)
  | none => none
 | _ => none
def Qy : List PV → Option (List UInt8)
 | [] => some []
 | .int .u8 n :: r => match Qy r with
  | some s => some (UInt8.ofNat n.toNat :: s)
  | none => none
 | _ => none
def strOf : Option (List UInt8) → Res
 | some s => .val (.str s)
 | none => .bad
def jq (P : Program) (fnd : Nat → Option (Nat × Ent)) (src dst : Nat) (x : PV) : Res :=
 match (zH P src).kd, (zH P dst).kd, x with
 | .int _, .int k, .int _ n => .val (.int k (k.wrap n))
 | .int _, .str, .int _ n => .val (.str (Utf8.encode n).data.toList)
 | .str, .str, .str s => .val (.str s)
 | .str, .slice e, .str s => match (zH P e).kd with
  | .int .i32 => .val (.list 1 (adO s))
  | _ => .bad
 | .slice e, .str, x => match (zH P e).kd with
  | .int .i32 => match elems fnd false 1 x with
   | some xs => strOf (Qh xs)
   | none => .bad
  | .int .u8 => match elems fnd false 1 x with
   | some xs => strOf (Qy xs)
   | none => .bad
  | _ => .bad
 | _, _, _ => .bad
def QB (P : Program) (t : Nat) (x i : PV) : Res :=
 match (zH P t).kd, x, i with
 | .str, .str s, .int _ n => .need (0 ≤ n ∧ n < s.length) (.val (.int .u8 (s.getD n.toNat 0).toNat))
 | _, _, _ => .bad
def Ka (x : PV) (i : Nat) : Res :=
 match x with
 | .tup vs => .need (i < vs.length) (.val (vs.getD i .undef))
 | _ => .bad
def Vk (fnd : Nat → Option (Nat × Ent)) (x : PV) : Res :=
 match x with
 | .box k g 0 => match fnd k with
  | some (g', .iter s pos) => .need (g = g')
    (if pos < s.length then
     .eff (.tup [.bool true, .int .i64 pos, .int .i32 (Utf8.decode ⟨s.toArray⟩ pos).1]) k g (.iter s (pos + (Utf8.decode ⟨s.toArray⟩ pos).2))
    else .val (.tup [.bool false]))
  | _ => .bad
 | _ => .bad
def yz (P : Program) (fnd : Nat → Option (Nat × Ent)) (k g : Nat) (b : Builtin) (ts : List Nat) (args : List PV) : Res :=
 match b with
 | .len => match ts with
  | t :: _ => match args with
   | [x] => ae9 P t x
   | _ => .bad
  | _ => .bad
 | .append => match ts with
  | [t, t'] => match args with
   | [s, x] => match (zH P t').kd with
    | .slice _ | .str => Zi P fnd k g t s x
    | _ => .bad
   | _ => .bad
  | _ => .bad
 | .min => QT J5 args
 | .max => QT JZ args
 | _ => .bad
def XN : Op → Bool
 | .buildSlice _ _ _ => true
 | .call c => match c.callee with
  | .builtin .append => true
  | _ => false
 | _ => false
def am9 (v : PV) (k g : Nat) (e : Ent) : Res :=
 match v, e with
 | .row k' g' n, .row false sz xs => .need (k' = k ∧ g' = g ∧ n ≤ xs.length ∧ k < 1000) (.eff (.list sz (xs.take n)) k g (.row true sz xs))
 | _, _ => .bad
def Res.shut : Res → Res
 | .eff v k g e => am9 v k g e
 | .need p r => .need p r.shut
 | .val v => .val v
 | _ => .bad
def QD (q : Bool) (l : List (Option Nat)) (op : Op) (r : Res) : Res :=
 match q, l, XN op with
 | true, _ :: _, true => r.shut
 | _, _, _ => r
def vK (P : Program) (q : Bool) (s : St) (k g : Nat) (op : Op) : Res :=
 match op with
 | .move x | .assign x => .val (s.ev x)
 | .pick c a b => match s.ev c with
  | .bool t => .val (if t = true then s.ev a else s.ev b)
  | _ => .bad
 | .alloc t => match (zH P t).zero with
  | some z => .eff (.box k g 0) k g (.var t z)
  | none => .bad
 | .box t x => .need ((s.ev x).lies = true) (.eff (.box k g 0) k g (.var t (s.ev x).cells))
 | .build t parts => Xv P (q && k == 0) t (parts.toList.map fun p => (p.1, s.ev p.2))
 | .buildSlice t len parts => Z5 P k g t len (parts.toList.map fun p => (p.1, s.ev p.2))
 | .load t a => yQ P s.sto.find t (s.ev a)
 | .store t a v => Zc P s.sto.find t (s.ev a) (s.ev v)
 | .binOp op t x y _ => afK P (zH P t) op (s.ev x) (s.ev y) y
 | .unOp op _ x => akY op (s.ev x)
 | .convert src dst x => jq P s.sto.find src dst (s.ev x)
 | .slice t x lo hi mx => jY P q s.sto.find t (s.ev x) (lo.map s.ev) (hi.map s.ev) (mx.map s.ev)
 | .fieldAddr t x f => kv P s.sto.find t (s.ev x) f
 | .field t x f => Xd P t (s.ev x) f
 | .nilCheck x => kP s.sto.find (s.ev x)
 | .indexAddr t x i => xu P s.sto.find t (s.ev x) (s.ev i)
 | .index t x i => QB P t (s.ev x) (s.ev i)
 | .extract x i => Ka (s.ev x) i
 | .range t x => match (zH P t).kd, s.ev x with
  | .str, .str b => .eff (.box k g 0) k g (.iter b 0)
  | _, _ => .bad
 | .next it isStr => match isStr with
  | true => Vk s.sto.find (s.ev it)
  | false => .bad
 | .makeFunc fn first captured => match fn with
  | .func f => match first.toList with
   | [] => .val (.fn f (captured.toList.map s.ev))
   | _ => .bad
  | _ => .bad
 | .call c => match c.callee with
  | .value f => match s.ev f with
   | .fn g caps => .call g (c.args.toList.map s.ev ++ caps)
   | _ => .bad
  | .builtin b => yz P s.sto.find k g b c.argTypes.toList (c.args.toList.map s.ev)
  | _ => .bad
 | _ => .bad
end Go.Proofs.YtclohbgnaopjfaaDoor
namespace Go.Proofs.YtclohbgnaopjfaaDoor
set_option linter.unusedSimpArgs false
set_option linter.unusedVariables false
open Go
def GW (w : World) : Prop :=
  ((∀ c, c < 256 → w.cell? ⟨0, c, none⟩ = some (.int .u8 (Lib.firstT c))) ∧
   (∀ i, i < 16 → w.cell? ⟨1, 2 * i, none⟩ = some (.int .u8 (Lib.accLo i)) ∧ w.cell? ⟨1, 2 * i + 1, none⟩ = some (.int .u8 (Lib.accHi i)))) ∧
  ∃ m, w.cell? ⟨3, 0, none⟩ = some (.int .i64 m)
theorem axO {w : World} (h : GW w) : (∀ c, c < 256 → w.cell? ⟨0, c, none⟩ = some (.int .u8 (Lib.firstT c))) ∧ (∀ i, i < 16 → w.cell? ⟨1, 2 * i, none⟩ = some (.int .u8 (Lib.accLo i)) ∧ w.cell? ⟨1, 2 * i + 1, none⟩ = some (.int .u8 (Lib.accHi i))) := h.1
end Go.Proofs.YtclohbgnaopjfaaDoor
namespace Go.Proofs.YtclohbgnaopjfaaDoor
set_option linter.unusedSimpArgs false
set_option linter.unusedVariables false
open Go
structure Ext (may : Nat → Prop) (w w' : World) : Prop where
 size : w.heap.size ≤ w'.heap.size
 old : ∀ b, b < w.heap.size → ¬ may b → w'.heap[b]? = w.heap[b]?
 out : w'.output = w.output
 os : w'.os = w.os
 tape : w'.tape = w.tape
def Grow (H H' : Imm) : Prop := ∀ b c, H b = some c → H' b = some c
def Agree (H : Imm) (w : World) : Prop := ∀ b c, H b = some c → ∃ t fr, w.heap[b]? = some (.cells c t fr)
def au8 (H : Imm) : Prop := ∀ w, Agree H w → GW w
theorem akX {H H' : Imm} (hg : Grow H H') (h : au8 H) : au8 H' := fun w hA => h w fun b c hc => hA b c (hg b c hc)
def atp (H : Imm) (w : World) (n0 : Nat) (v : Value) (sz : Nat) (xs : List PV) : Prop :=
 (∀ x ∈ xs, x.cells.length = sz) ∧ ((xs = [] ∧ v = .slice none 0 0) ∨
  ∃ b cap vs rest t, n0 ≤ b ∧ H b = none ∧ v = .slice (some ⟨b, 0, none⟩) xs.length cap ∧ w.heap[b]? = some (.cells (vs ++ rest).toArray t (0, 0)) ∧
   (∀ v ∈ vs, v.oneCell' = true) ∧ zI H Lay.none vs (xs.flatMap PV.cells) ∧ rest.length = (cap - xs.length) * sz ∧ xs.length ≤ cap)
def avO (H : Imm) (w : World) (n0 : Nat) (v : Value) (ty : Nat) (pre : List PV) (sz : Nat) (xs post : List PV) : Prop :=
 ∃ b vs us u, n0 ≤ b ∧ H b = none ∧ v = .pointer (some ⟨b, 0, none⟩) ∧ w.heap[b]? = some (.cells (vs ++ u :: us).toArray ty (0, 0)) ∧ zI H Lay.none vs pre ∧ zI H Lay.none us post ∧
  atp H w n0 u sz xs ∧ ∀ c l m, u = .slice (some c) l m → c.block ≠ b
def acV (H : Imm) (w : World) (n0 : Nat) (v : Value) : PV → Prop
 | .own sz xs => atp H w n0 v sz xs
 | .adx ty pre sz xs post => avO H w n0 v ty pre sz xs post
 | r => Rep H Lay.none v r
def wL (H : Imm) (L : Lay) (w : World) (s : Slot) : Ent → Prop
 | .var ty cs => ∃ (b : Nat) (vs : List Value) (_ : Nat), s.block = some b ∧ H b = none ∧ w.heap[b]? = some (.cells vs.toArray ty (0, 0)) ∧ zI H L vs cs
 | .row false sz xs => s.sz = sz ∧ (∀ x ∈ xs, x.cells.length = sz) ∧ xs.length ≤ s.cap ∧ ((s.block = none ∧ s.cap = 0) ∨
   ∃ b vs rest t, s.block = some b ∧ H b = none ∧ w.heap[b]? = some (.cells (vs ++ rest).toArray t (0, 0)) ∧ (∀ v ∈ vs, v.oneCell' = true) ∧ zI H Lay.none vs (xs.flatMap PV.cells) ∧ rest.length = (s.cap - xs.length) * sz)
 | .row true sz xs => s.sz = sz ∧ (∀ x ∈ xs, x.cells.length = sz) ∧ xs.length ≤ s.cap ∧ ((s.block = none ∧ xs = []) ∨
   ∃ b c vs, s.block = some b ∧ H b = some c ∧ (∀ v ∈ vs, v.oneCell' = true) ∧ (∀ i, i < vs.length → c[i]? = vs[i]?) ∧ zI H Lay.none vs (xs.flatMap PV.cells))
 | .iter s' pos => ∃ b, s.block = some b ∧ H b = none ∧ w.heap[b]? = some (.stringIter ⟨s'.toArray⟩ pos)
 | .gone => True
 | .bytes bt bs | .XX bt bs => s.sz = 1 ∧ bs.length ≤ s.cap ∧ ((s.block = none ∧ s.cap = 0) ∨
   ∃ b rest, s.block = some b ∧ H b = none ∧ w.heap[b]? = some (.cells (bs.map (fun c => Value.int .u8 c.toNat) ++ rest).toArray bt (0, 0)) ∧ rest.length = s.cap - bs.length)
 | .moved sz xs => s.sz = sz ∧ (∀ x ∈ xs, x.cells.length = sz) ∧ xs.length ≤ s.cap ∧ ((s.block = none ∧ s.cap = 0) ∨
   ∃ b vs rest t, s.block = some b ∧ H b = none ∧ w.heap[b]? = some (.cells (vs ++ rest).toArray t (0, 0)) ∧ (∀ v ∈ vs, v.oneCell' = true) ∧ zI H Lay.none vs (xs.flatMap PV.cells) ∧ rest.length = (s.cap - xs.length) * sz)
def jG (i : Nat) : Nat := 1000 + i
def acE : Nat → List Ent → Sto
 | _, [] => []
 | i, e :: es => (jG i, 0, e) :: acE (i + 1) es
def jV (ss : List Slot) : Lay := ⟨fun g => g = 0, fun k => if 1000 ≤ k then ss[k - 1000]? else none⟩
def Wn (P : Program) (f : Nat) : Prop := ∃ fn, P.funcs[f]? = some fn ∧ fn.body.isNone = false ∧ (fn.name == "runtime.NumGoroutine") = false
def aw6 (ss : List Slot) : Prop := ∀ (i j : Nat) (si sj : Slot) (b : Nat), ss[i]? = some si → ss[j]? = some sj → si.block = some b → sj.block = some b → i = j
structure ajK (n0 : Nat) (w' : World) (es' : List Ent) (ss ss' : List Slot) : Prop where
 len : ss'.length = ss.length
 gen : ∀ s ∈ ss', s.gen = 0
 low : ∀ s ∈ ss', ∀ b, s.block = some b → b < w'.heap.size
 sep : aw6 ss'
 at_ : ∀ (i : Nat) (s s' : Slot) (e : Ent), ss[i]? = some s → ss'[i]? = some s' → es'[i]? = some e → s' = s ∨ (e.moves = true ∧ ∀ b, s'.block = some b → s.block = some b ∨ n0 ≤ b)
abbrev BCG (C : Array Value → World → (Ending → World → Prop) → Prop) (args : List PV) (es : List Ent) (r : PV) (es' : List Ent) : Prop :=
 ∀ (H : Imm) (w : World) (ss : List Slot) (vs : List Value), Agree H w → au8 H → ss.length = es.length → (∀ s ∈ ss, s.gen = 0 ∧ ∀ b, s.block = some b → b < w.heap.size) →
  aw6 ss →
  (∀ (i : Nat) (s : Slot) (e : Ent), ss[i]? = some s → es[i]? = some e → wL H (jV ss) w s e) → zI H (jV ss) vs args →
  C vs.toArray w fun e w' => ∃ v H' ss', e = .returned v ∧ Grow H H' ∧ Agree H' w' ∧ (∀ b c, H' b = some c → H b = some c ∨ w.heap.size ≤ b) ∧
   Ext (fun b => ∃ s ∈ ss, s.block = some b) w w' ∧ ajK w.heap.size w' es' ss ss' ∧ (∀ (i : Nat) (s : Slot) (e : Ent), ss'[i]? = some s → es'[i]? = some e → wL H' (jV ss') w' s e) ∧
   acV H' w' w.heap.size v r
def BC (P : Program) (f : Nat) (args : List PV) (es : List Ent) (r : PV) (es' : List Ent) : Prop :=
 Wn P f ∧ (es'.length = es.length ∧ ∀ e ∈ es', e.wY es.length = true) ∧ BCG (Calls P f) args es r es'
def BD (P : Program) (f : Nat) (args : List PV) (es : List Ent) (r : PV) (es' : List Ent) : Prop :=
 (es'.length = es.length ∧ ∀ e ∈ es', e.wY es.length = true) ∧ BCG (fun vs w R => CallsD P f vs .returning w fun e u' w' => u' = .returning ∧ R e w') args es r es'
def PC (P : Program) (f : Nat) (args : List PV) (r : PV) : Prop := BC P f args [] r []
mutual
inductive Wk : PV → PV → Prop where
 | refl (p : PV) : Wk p p
 | nil (sz : Nat) : Wk .kS (.list sz [])
 | list (sz : Nat) (xs ys : List PV) (h : WkC xs ys) : Wk (.list sz xs) (.list sz ys)
 | agg (xs ys : List PV) (h : WkL xs ys) : Wk (.agg xs) (.agg ys)
 | tup (xs ys : List PV) (h : WkL xs ys) : Wk (.tup xs) (.tup ys)
inductive WkL : List PV → List PV → Prop where
 | nil : WkL [] []
 | cons (x y : PV) (xs ys : List PV) (h : Wk x y) (t : WkL xs ys) : WkL (x :: xs) (y :: ys)
inductive WkC : List PV → List PV → Prop where
 | nil : WkC [] []
 | cons (x y : PV) (xs ys : List PV) (h : WkL x.cells y.cells) (t : WkC xs ys) : WkC (x :: xs) (y :: ys)
end
def abm (fnd : Nat → Option (Nat × Ent)) : PV → PV
 | .row k g n => match fnd k with
  | some (g', .row _ sz xs) => if g = g' ∧ n ≤ xs.length ∧ k < 1000 then .list sz (xs.take n) else .row k g n
  | _ => .row k g n
 | p => p
def YI (fnd : Nat → Option (Nat × Ent)) : PV → PV
 | .agg cs => .agg (cs.map (abm fnd))
 | p => abm fnd p
def Qb (fnd : Nat → Option (Nat × Ent)) : PV → PV
 | .tup vs => .tup (vs.map (YI fnd))
 | p => YI fnd p
def amy : PV → List Nat
 | .row k _ _ => [k]
 | _ => []
def aas : PV → List Nat
 | .agg cs => cs.flatMap amy
 | p => amy p
def Sto.amb (sto : Sto) (k : Nat) : Sto :=
 match sto.find k with
 | some (g, .row _ sz xs) => if k < 1000 then sto.upd k g (.row true sz xs) else sto
 | _ => sto
def Sto.frz : List Nat → Sto → Sto
 | [], sto => sto
 | k :: ks, sto => Sto.frz ks (sto.amb k)
def ck (k : Nat) : Nat := if k < 500 then k + 500 else k - 500
def St.back (s : St) (dst : Option Nat) (k g : Nat) : PV → St
 | .own sz xs => (s.put dst (.row k g xs.length)).set k g (.row false sz xs)
 | .adx ty pre sz xs post => ((s.put dst (.box k g 0)).set (ck k) g (.row false sz xs)).set k g (.var ty (pre ++ .row (ck k) g xs.length :: post))
 | r => s.put dst r
def kN : Sto → List (Nat × Nat) → List Ent → Sto
 | sto, (k, g) :: ks, e :: es => kN (sto.upd k g e) ks es
 | sto, _, _ => sto
def findAll (m : Nat → Nat × Nat) (n : Nat) (sto : Sto) : List (Nat × Nat) → List Ent → Prop
 | (k, g) :: ks, e :: es => sto.find k = some (g, e.inst m) ∧ e.wY n = true ∧ findAll m n sto ks es
 | [], [] => True
 | _, _ => False
def qV (ks : List (Nat × Nat)) (k : Nat) : Nat × Nat := ks.getD (k - 1000) (0, 0)
def zZ (g : Nat) : List (Nat × Nat) → List Ent → List (Nat × Nat)
 | (k, g0) :: ks, e :: es => (k, if e.moves = true then g else g0) :: zZ g ks es
 | ks, _ => ks
def qQ : List Ent → Bool
 | [] => false
 | e :: es => e.moves || qQ es
def xk : PV → Bool
 | .own _ _ => false
 | .adx _ _ _ _ _ => false
 | _ => true
def anz : PV → Bool
 | .adx _ _ _ _ _ => false
 | _ => true
def axe (P : Program) (q : Bool) (s : St) (dst : Option Nat) (k g f : Nat) (args : List PV) (K : St → Prop) : Prop :=
 (∃ args' r, (q = true → args.flatMap aas = [] ∧ xk r = true) ∧ yj (args.map (YI s.sto.find)) = true ∧ WkL (args.map (YI s.sto.find)) args' ∧ PC P f args' r ∧ K (({ s with sto := Sto.frz (args.flatMap aas) s.sto } : St).back dst k g r)) ∨
 (q = false ∧ ∃ ks es args' r es', findAll (qV ks) ks.length s.sto ks es ∧ (ks.map (·.1)).Nodup ∧ xK ks.length args' = true ∧ WkL args (Z7 (qV ks) args') ∧ BC P f args' es r es' ∧ (xk r || !qQ es') = true ∧
  K (({ s with sto := kN s.sto (zZ g ks es') (es'.map (Ent.inst (qV (zZ g ks es')))) } : St).back dst k g r))
def Res.wp (P : Program) (q : Bool) (s : St) (dst : Option Nat) (k g : Nat) : Res → (St → Prop) → Prop
 | .val v, K => K (s.put dst v)
 | .eff v k' g' e, K => K ((s.put dst v).set k' g' e)
 | .call f args, K => axe P q s dst k g f args K
 | .need p r, K => p ∧ Res.wp P q s dst k g r K
 | .acF p b, K => q = false ∧ (p → K (s.put dst (.bool b))) ∧ K (s.put dst (.bool !b))
 | .bad, _ => False
abbrev Nf := List (Option Nat)
structure Names where
 key : Nat → Nat
 nf : List (Nat × Nf)
 fp : List (Nat × List Nat)
instance : CoeFun Names fun _ => Nat → Nat := ⟨Names.key⟩
def atK (fnd : Nat → Option (Nat × Ent)) : Option Nat → PV → PV
 | some sz, .kS => .list sz []
 | some _, .row k g n => abm fnd (.row k g n)
 | _, v => v
def auQ (fnd : Nat → Option (Nat × Ent)) : Nf → List PV → List PV
 | x :: xs, v :: vs => atK fnd x v :: auQ fnd xs vs
 | _, vs => vs
def asu (fnd : Nat → Option (Nat × Ent)) (l : Nf) : PV → PV
 | .agg cs => .agg (auQ fnd l cs)
 | v => atK fnd (l.headD none) v
def arv : Option Nat → PV → List Nat
 | some _, .row k _ _ => [k]
 | _, _ => []
def amQ : Nf → List PV → List Nat
 | x :: xs, v :: vs => arv x v ++ amQ xs vs
 | _, _ => []
def apG (l : Nf) : PV → List Nat
 | .agg cs => amQ l cs
 | v => arv (l.headD none) v
def St.aeu (s : St) (d : Nat) (l : Nf) : St :=
 match s.env.get d with
 | .box k _ _ => match s.sto.find k with
  | some (g', .var tv cs) => { s with sto := (Sto.frz (amQ l cs) s.sto).upd k g' (.var tv (auQ s.sto.find l cs)) }
  | _ => s
 | v => { s with env := (d, asu s.sto.find l v) :: s.env, sto := Sto.frz (apG l v) s.sto }
def ajp : List (Nat × Nf) → Nat → Nf
 | [], _ => []
 | (j, l) :: r, d => if d = j then l else ajp r d
def St.avX (s : St) (d : Nat) : Nf → St
 | [] => s
 | l => s.aeu d l
def St.act (s : St) (nf : List (Nat × Nf)) : Option Nat → St
 | some d => s.avX d (ajp nf d)
 | none => s
def St.Ws (q : Bool) (nf : List (Nat × Nf)) (dst : Option Nat) (s : St) : St :=
 match q with
 | true => s
 | false => s.act nf dst
def keyOf (nm : Names) : Option Nat → Nat
 | some d => nm d
 | none => 0
def Qq (ops : List Oper) (j : Nat) : Option Nat := (ops[j]?).bind (·.dst)
def aaC : Op → Bool
 | .alloc _ | .box _ _ | .buildSlice _ _ _ | .range _ _ => true
 | _ => false
def PV.top : PV → Option Nat
 | .row k _ _ | .box k _ _ | .elt k _ _ _ => some k
 | _ => none
def arC : List (Nat × List Nat) → Nat → Option (List Nat)
 | [], _ => none
 | (j, l) :: r, d => if d = j then some l else arC r d
def afC (fp : List (Nat × List Nat)) : Option Nat → Option (List Nat)
 | some d => arC fp d
 | none => none
def at7 (F : List Nat) : Option Nat → Bool
 | some k => F.contains k
 | none => true
def JH (F : List Nat) (s : St) : List Operand → Bool
 | [] => true
 | x :: r => at7 F (s.ev x).top && JH F s r
def awL : Operand → Option Nat
 | .tmp a => some (500000 + a)
 | _ => none
def ahh (op : Op) (dst : Option Nat) : Option Nat :=
 match op with
 | .store _ a _ => awL a
 | _ => dst
theorem aku {op : Op} {c : Call} {dst : Option Nat} (h : op = .call c) : ahh op dst = dst := by subst h; rfl
def agt (o : Oper) (s : St) : Option (List Nat) → Prop
 | some F => JH F s o.op.operands.toList = true
 | none => True
def avS (q : Bool) (nm : Names) (o : Oper) (s : St) : Prop :=
 match q with
 | true => agt o s (afC nm.fp (ahh o.op o.dst))
 | false => True
def nfD (nm : Names) : Option Nat → Nf
 | some d => ajp nm.nf d
 | none => []
def XC (nm : Names) (op : Op) (dst : Option Nat) : Option (List Nat) :=
 match op with
 | .call c => match c.callee with
  | .value _ => afC nm.fp dst
  | _ => none
 | _ => none
def fOf (q : Bool) (nm : Names) (op : Op) (dst : Option Nat) : Option (List Nat) :=
 match q with
 | true => XC nm op dst
 | false => none
def KR (fp : List Nat) : Bool := fp.contains 999999
def St.quiet (s : St) (fp : List Nat) (sto : Sto) : St := if KR fp = true then s else { s with sto := sto }
def aqp (P : Program) (fp : List Nat) (s : St) (dst : Option Nat) (k g f : Nat) (args : List PV) (K : St → Prop) : Prop :=
 ∃ ks es args' r es', (∀ x ∈ ks, x.1 ∈ fp) ∧ findAll (qV ks) ks.length s.sto ks es ∧ (ks.map (·.1)).Nodup ∧ xK ks.length args' = true ∧ WkL args (Z7 (qV ks) args') ∧ BC P f args' es r es' ∧ ((xk r || !qQ es') && anz r) = true ∧
  (KR fp = true → es' = es ∧ qQ es' = false) ∧ K ((s.quiet fp (kN s.sto (zZ g ks es') (es'.map (Ent.inst (qV (zZ g ks es')))))).back dst k g r)
def wpQ (P : Program) (q : Bool) (fp : Option (List Nat)) (s : St) (dst : Option Nat) (k g : Nat) (r : Res) (K : St → Prop) : Prop :=
 match fp, r with
 | some fp, .call f args => aqp P fp s dst k g f args K
 | _, r => r.wp P q s dst k g K
def aip (P : Program) (q : Bool) (nm : Names) (i : Nat) (o : Oper) (s : St) (K : St → Prop) : Prop :=
 (q = true → aaC o.op = true → s.sto.find (keyOf nm o.dst) = none) ∧ avS q nm o s ∧ wpQ P q (fOf q nm o.op o.dst) s o.dst (keyOf nm o.dst) (s.nx + i) (QD q (nfD nm o.dst) o.op (vK P q s (keyOf nm o.dst) (s.nx + i) o.op)) fun s' => K (s'.Ws q nm.nf o.dst)
def gate (want : Bool) : PV → Option Bool
 | .bool b => some (b == want)
 | .tup [] => some false
 | _ => none
def ajc (P : Program) (q : Bool) (nm : Names) (ops : List Oper) (i : Nat) (o : Oper) (s : St) (K : St → Prop) : Prop :=
 match o.guard with
 | none => aip P q nm i o s K
 | some (j, want) => match Qq ops j with
  | some d => match gate want (s.env.get d) with
   | some true => aip P q nm i o s K
   | some false => K (s.put o.dst (.tup []))
   | none => False
  | none => False
def jf (P : Program) (q : Bool) (nm : Names) (ops : List Oper) : List Oper → Nat → St → (St → Prop) → Prop
 | [], _, s, K => K s
 | o :: r, i, s, K => ajc P q nm ops i o s fun s' => jf P q nm ops r (i + 1) s' K
inductive alA where
 | thaw (d k sz : Nat)
 | K9 (k c k' sz : Nat)
 | abE (k c k' bt : Nat)
 | nrm (d : Nat) (l : Nf)
 | ren (k k' : Nat)
 | self (k c : Nat)
structure Ann where
 keep : List Nat
 keys : List Nat
 acts : List alA
 last : List alA
 order : List Nat
mutual
def PV.speaks (k : Nat) : PV → Bool
 | .row j _ _ | .box j _ _ | .elt j _ _ _ | .jP j _ => j == k
 | .agg cs => Zm k cs
 | .tup vs => Zm k vs
 | .fn _ cs => Zm k cs
 | .iface _ v => v.speaks k
 | _ => false
def Zm (k : Nat) : List PV → Bool
 | [] => false
 | p :: ps => p.speaks k || Zm k ps
end
mutual
def PV.ren (k k' : Nat) : PV → PV
 | .row j g n => .row (if j = k then k' else j) g n
 | .box j g off => .box (if j = k then k' else j) g off
 | .elt j g i off => .elt (if j = k then k' else j) g i off
 | .jP j g => .jP (if j = k then k' else j) g
 | .agg cs => .agg (aoY k k' cs)
 | .tup vs => .tup (aoY k k' vs)
 | .fn f cs => .fn f (aoY k k' cs)
 | .iface t v => .iface t (v.ren k k')
 | v => v
def aoY (k k' : Nat) : List PV → List PV
 | [] => []
 | p :: ps => p.ren k k' :: aoY k k' ps
end
def Ent.speaks (k : Nat) : Ent → Bool
 | .var _ cs => Zm k cs
 | _ => false
def Ent.ren (k k' : Nat) : Ent → Ent
 | .var tv cs => .var tv (aoY k k' cs)
 | e => e
def J9 (k : Nat) : Env → Bool
 | [] => false
 | (_, v) :: r => v.speaks k || J9 k r
def Xp (k : Nat) : Sto → Bool
 | [] => false
 | (j, _, e) :: r => j == k || e.speaks k || Xp k r
def aeL (k k' : Nat) : Env → Env
 | [] => []
 | (i, v) :: r => (i, v.ren k k') :: aeL k k' r
def afD (k k' : Nat) : Sto → Sto
 | [] => []
 | (j, g, e) :: r => (if j = k then k' else j, g, e.ren k k') :: afD k k' r
def St.ren (s : St) (k k' : Nat) : St :=
 if (decide (k < 1000) && decide (k' < 1000) && !J9 k' s.env && !Xp k' s.sto) = true then { env := aeL k k' s.env, sto := afD k k' s.sto, nx := s.nx } else s
def St.aiq (s : St) (d k sz : Nat) : St :=
 match s.env.get d with
 | .kS => if k < 1000 then { env := (d, .row k s.nx 0) :: s.env, sto := s.sto.upd k s.nx (.row false sz []), nx := s.nx + 1 } else s
 | _ => s
def St.K9 (s : St) (k c k' sz : Nat) : St :=
 match s.sto.find k with
 | some (g, .var tv cs) => match cs[c]? with
  | some .kS => if k' < 1000 ∧ k ≠ k' then { env := s.env, sto := (s.sto.upd k' s.nx (.row false sz [])).upd k g (.var tv (cs.set c (.row k' s.nx 0))), nx := s.nx + 1 } else s
  | _ => s
 | _ => s
def St.abE (s : St) (k c k' bt : Nat) : St :=
 match s.sto.find k with
 | some (g, .var tv cs) => match cs[c]? with
  | some .kS => if k' < 1000 ∧ k ≠ k' then { env := s.env, sto := (s.sto.upd k' s.nx (.bytes bt [])).upd k g (.var tv (cs.set c (.row k' s.nx 0))), nx := s.nx + 1 } else s
  | _ => s
 | _ => s
def St.agz (s : St) (k c : Nat) : St :=
 match s.sto.find k with
 | some (g, .var tv cs) => match cs[c]? with
  | some .aaE => { s with sto := s.sto.upd k g (.var tv (cs.set c (.jP k g))) }
  | some (.box k' g' 0) => if k' = k ∧ g' = g then { s with sto := s.sto.upd k g (.var tv (cs.set c (.jP k g))) } else s
  | _ => s
 | _ => s
def St.fact (s : St) : alA → St
 | .thaw d k sz => s.aiq d k sz
 | .K9 k c k' sz => s.K9 k c k' sz
 | .abE k c k' bt => s.abE k c k' bt
 | .nrm d l => s.aeu d l
 | .ren k k' => s.ren k k'
 | .self k c => s.agz k c
def St.facts : St → List alA → St
 | s, [] => s
 | s, x :: r => (s.fact x).facts r
def Q6 (env : Env) : List Nat → Env
 | [] => []
 | i :: r => (i, env.get i) :: Q6 env r
def yO (sto : Sto) : List Nat → Sto
 | [] => []
 | k :: r => match sto.find k with
  | some x => (k, x) :: yO sto r
  | none => yO sto r
def St.keep (s : St) (a : Ann) : St := { env := Q6 s.env a.keep, sto := yO s.sto a.keys, nx := s.nx }
def St.sort (s : St) (l : List Nat) : St := { env := s.env, sto := yO s.sto l, nx := s.nx }
def St.fin (s : St) (n : Nat) (a : Ann) : St := (((({ s with nx := s.nx + n } : St).facts a.acts).keep a).facts a.last).sort a.order
inductive qF where
 | normal
 | exit (id : Nat)
 | goto (l : Nat)
 | ret
def qF.then (K : St → Prop) (Q : qF → St → Prop) : qF → St → Prop
 | .normal, s => K s
 | e, s => Q e s
def qF.inBlock (id : Nat) (Q : qF → St → Prop) : qF → St → Prop
 | .exit id', s => if id' = id then Q .normal s else Q (.exit id') s
 | e, s => Q e s
def qF.noGoto (Q : qF → St → Prop) : qF → St → Prop
 | .goto _, _ => False
 | e, s => Q e s
structure Cx where
 P : Program
 nm : Names
 an : Nat → Ann
structure Less (s t : St) : Prop where
 env : ∀ i, t.env.get i = s.env.get i ∨ t.env.get i = .undef
 sto : ∀ k v, t.sto.find k = some v → s.sto.find k = some v
 nx : t.nx = s.nx
inductive Told : St → St → Prop where
 | less {s t : St} (h : Less s t) : Told s t
 | fact (s : St) (x : alA) : Told s (s.fact x)
 | trans {s t u : St} (h : Told s t) (h' : Told t u) : Told s u
def kC (K : St → Prop) (s : St) : Prop := ∃ t, Told s t ∧ K t
def St.cut (s : St) (l ks : List Nat) : St := { env := Q6 s.env l, sto := yO s.sto ks, nx := s.nx }
def ayc (F : (qF → St → Prop) → St → Prop) (Q : qF → St → Prop) (s : St) : Prop :=
 ∀ I : St → Prop, (∀ s, F (qF.then (kC I) Q) s → I s) → I s
def aiP (v : PV) (t e : Prop) : Prop :=
 match v with
 | .bool b => if b = true then t else e
 | _ => False
def awp (X : Cx) : Code → (qF → St → Prop) → St → Prop
 | .skip, Q, s => Q .normal s
 | .label _, Q, s => Q .normal s
 | .region id ops draw, Q, s => kC (fun s => jf X.P draw X.nm ops.toList ops.toList 0 s fun s' => Q .normal (s'.fin ops.size (X.an id))) s
 | .seq a b, Q, s => awp X a (qF.then (kC (awp X b Q)) Q) s
 | .cond c x y, Q, s => aiP (s.ev c) (awp X x Q s) (awp X y Q s)
 | .block id c, Q, s => awp X c (qF.inBlock id Q) s
 | .loop c, Q, s => kC (ayc (awp X c) Q) s
 | .exit id, Q, s => Q (.exit id) s
 | .goto l, Q, s => Q (.goto l) s
 | .ret, Q, s => Q .ret s
 | .scope c, Q, s => awp X c (qF.noGoto Q) s
 | _, _, _ => False
def Jq : Nat → List PV → Env
 | _, [] => []
 | i, p :: ps => (i, p) :: Jq (i + 1) ps
def zR (args : List PV) (es : List Ent) : St := ⟨Jq 0 args, acE 0 es, 1⟩
inductive RV where
 | tmp (t : Nat)
 | cell (t ty : Nat)
def RV.var : RV → ResultVar
 | .tmp t => .tmp t
 | .cell t ty => .cell t ty
def vg (ty : Ty) (fnd : Nat → Option (Nat × Ent)) : PV → Option PV
 | .box k g 0 => match fnd k with
  | some (g', .var tv cs) => if g = g' ∧ cs.length = ty.size ∧ ty.size ≠ 0 then (match ty.agg with
   | true => some (.agg cs)
   | false => cs.head?) else none
  | _ => none
 | _ => none
def xE (P : Program) (s : St) : RV → Option PV
 | .tmp t => some (s.env.get t)
 | .cell t ty => match (zH P ty).kd with
  | .none => none
  | _ => vg (zH P ty) s.sto.find (s.env.get t)
def wR (P : Program) (s : St) : List RV → Option (List PV)
 | [] => some []
 | r :: rs => match xE P s r with
  | some v => match wR P s rs with
   | some vs => some (v :: vs)
   | none => none
  | none => none
def je : List PV → PV
 | [v] => v
 | vs => .tup vs
def atU (s : St) (v r : PV) : Prop :=
 (Wk (Qb s.sto.find v) r ∧ r.pure = true) ∨
 (∃ k g sz xs, v = .row k g xs.length ∧ k < 1000 ∧ s.sto.find k = some (g, .row false sz xs) ∧ r = .own sz xs) ∨
 (∃ sz, v = .kS ∧ r = .own sz []) ∨
 (∃ k g ty cs, v = .box k g 0 ∧ k < 1000 ∧ s.sto.find k = some (g, .var ty cs) ∧ yj cs = true ∧ r = .ref cs) ∨
 (∃ k g ty pre post k' g' sz xs, v = .box k g 0 ∧ k < 1000 ∧ k' < 1000 ∧ k ≠ k' ∧ s.sto.find k = some (g, .var ty (pre ++ .row k' g' xs.length :: post)) ∧ s.sto.find k' = some (g', .row false sz xs) ∧ yj pre = true ∧ yj post = true ∧ r = .adx ty pre sz xs post)
def afm (m : Nat → Nat × Nat) (n : Nat) (sto : Sto) : Nat → List (Nat × Nat) → List Ent → Prop
 | i, (k, g) :: ks, e :: es => k = jG i ∧ sto.find k = some (g, e.inst m) ∧ e.wY n = true ∧ (e.moves || g == 0) = true ∧ afm m n sto (i + 1) ks es
 | _, [], [] => True
 | _, _, _ => False
def ad9 (P : Program) (rs : List RV) (r : PV) (es' : List Ent) (s : St) : Prop :=
 match wR P s rs with
 | some vs => atU s (je vs) r ∧ ∃ ks, afm (qV ks) es'.length s.sto 0 ks es'
 | none => False
def zS (P : Program) (rs : List RV) (r : PV) (es' : List Ent) : qF → St → Prop
 | .ret, s => ad9 P rs r es' s
 | .normal, s => kC (ad9 P rs r es') s
 | _, _ => False
end Go.Proofs.YtclohbgnaopjfaaDoor
namespace Go.Proofs.YtclohbgnaopjfaaDoor
set_option linter.unusedSimpArgs false
set_option linter.unusedVariables false
open Go
structure Vg (L L' : Lay) : Prop where
 used : ∀ g, L.used g → L'.used g
 at_ : ∀ k s, L'.at_ k = some s → L.used s.gen → L.at_ k = some s
theorem Vg.refl (L : Lay) : Vg L L := ⟨fun _ h => h, fun _ _ h _ => h⟩
theorem Vg.none (L : Lay) : Vg Lay.none L := ⟨fun _ h => h.elim, fun _ _ _ h => h.elim⟩
theorem Vg.trans {L L' L'' : Lay} (h : Vg L L') (h' : Vg L' L'') : Vg L L'' :=
 ⟨fun g hg => h'.used g (h.used g hg), fun k s hs hu => h.at_ k s (h'.at_ k s hs (h.used _ hu)) hu⟩
theorem Grow.refl (H : Imm) : Grow H H := fun _ _ h => h
theorem Grow.trans {H H' H'' : Imm} (h : Grow H H') (h' : Grow H' H'') : Grow H H'' := fun b c hb => h' b c (h b c hb)
mutual
theorem Rep.mono {H H' : Imm} {L L' : Lay} {v : Value} {p : PV} (hH : Grow H H') (hL : Vg L L') : Rep H L v p → Rep H' L' v p
 | .undef _ v => .undef _ v
 | .bool _ b => .bool _ b
 | .int _ k n => .int _ k n
 | .str _ s => .str _ s
 | .kS _ => .kS _
 | .wN _ a c sz => .wN _ a c sz
 | .list _ b off len cap sz c vs xs h hlen hcap hsz h1 hv hr => .list _ b off len cap sz c vs xs (hH _ _ h) hlen hcap hsz h1 hv (zI.mono hH (.refl _) hr)
 | .row _ v k g n hu hs h => .row _ v k g n (hL.used _ hu) hs (fun s hs' hg => h s (hL.at_ k s hs' (hg ▸ hu)) hg)
 | .agg _ vs ps h => .agg _ vs ps (zI.mono hH hL h)
 | .tup _ vs ps h => .tup _ vs ps (zI.mono hH hL h)
 | .ref _ b off c vs ps h hv hr => .ref _ b off c vs ps (hH _ _ h) hv (zI.mono hH (.refl _) hr)
 | .box _ v k g off hu hs h => .box _ v k g off (hL.used _ hu) hs (fun s b hs' hg => h s b (hL.at_ k s hs' (hg ▸ hu)) hg)
 | .elt _ v k g i off hu hs h => .elt _ v k g i off (hL.used _ hu) hs (fun s b hs' hg => h s b (hL.at_ k s hs' (hg ▸ hu)) hg)
 | .fn _ f vs ps h => .fn _ f vs ps (zI.mono hH hL h)
 | .aaQ _ => .aaQ _
 | .aaE _ => .aaE _
 | .YQ _ => .YQ _
 | .iface _ t v p h => .iface _ t v p (Rep.mono hH hL h)
 | .jP _ v k g hu hs h => .jP _ v k g (hL.used _ hu) hs (h.imp id fun h s b hs' hg => h s b (hL.at_ k s hs' (hg ▸ hu)) hg)
theorem zI.mono {H H' : Imm} {L L' : Lay} {vs : List Value} {ps : List PV} (hH : Grow H H') (hL : Vg L L') : zI H L vs ps → zI H' L' vs ps
 | .nil _ => .nil _
 | .cons _ v p vs ps h t => .cons _ v p vs ps (Rep.mono hH hL h) (zI.mono hH hL t)
end
mutual
theorem Rep.pure {H : Imm} {L L' : Lay} {v : Value} {p : PV} (hp : p.pure = true) : Rep H L v p → Rep H L' v p
 | .undef _ v => .undef _ v
 | .bool _ b => .bool _ b
 | .int _ k n => .int _ k n
 | .str _ s => .str _ s
 | .kS _ => .kS _
 | .wN _ a c sz => .wN _ a c sz
 | .list _ b off len cap sz c vs xs h hlen hcap hsz h1 hv hr => .list _ b off len cap sz c vs xs h hlen hcap hsz h1 hv hr
 | .row _ v k g n hu hs h => by simp [PV.pure] at hp
 | .agg _ vs ps h => .agg _ vs ps (zI.pure (by simpa [PV.pure] using hp) h)
 | .tup _ vs ps h => .tup _ vs ps (zI.pure (by simpa [PV.pure] using hp) h)
 | .ref _ b off c vs ps h hv hr => .ref _ b off c vs ps h hv hr
 | .box _ v k g off hu hs h => by simp [PV.pure] at hp
 | .elt _ v k g i off hu hs h => by simp [PV.pure] at hp
 | .fn _ f vs ps h => .fn _ f vs ps (zI.pure (by simpa [PV.pure] using hp) h)
 | .aaQ _ => .aaQ _
 | .aaE _ => .aaE _
 | .YQ _ => .YQ _
 | .iface _ t v p h => .iface _ t v p (Rep.pure (by simpa [PV.pure] using hp) h)
 | .jP _ v k g hu hs h => by simp [PV.pure] at hp
theorem zI.pure {H : Imm} {L L' : Lay} {vs : List Value} {ps : List PV} (hp : yj ps = true) : zI H L vs ps → zI H L' vs ps
 | .nil _ => .nil _
 | .cons _ v p vs ps h t => by
  simp only [yj, Bool.and_eq_true] at hp
  exact .cons _ v p vs ps (Rep.pure hp.1 h) (zI.pure hp.2 t)
end
theorem zI.length {H : Imm} {L : Lay} {vs : List Value} {ps : List PV} (h : zI H L vs ps) : vs.length = ps.length := by
 induction ps generalizing vs with
 | nil => cases h; rfl
 | cons p ps ih => cases h with | cons _ v _ vs _ h t => simp [ih t]
theorem zI.get {H : Imm} {L : Lay} {vs : List Value} {ps : List PV} (h : zI H L vs ps) (i : Nat) (hi : i < ps.length) : ∃ v, vs[i]? = some v ∧ Rep H L v (ps.getD i .undef) := by
 induction ps generalizing vs i with
 | nil => simp at hi
 | cons p ps ih =>
  cases h with
  | cons _ v _ vs _ h t =>
   cases i with
   | zero => exact ⟨v, rfl, by simpa using h⟩
   | succ i => simpa using ih t i (by simpa using hi)
theorem zI.append {H : Imm} {L : Lay} {vs vs' : List Value} {ps ps' : List PV} (h : zI H L vs ps) (h' : zI H L vs' ps') : zI H L (vs ++ vs') (ps ++ ps') := by
 induction ps generalizing vs with
 | nil => cases h; exact h'
 | cons p ps ih => cases h with | cons _ v _ vs _ h t => exact .cons _ _ _ _ _ h (ih t)
theorem zI.take {H : Imm} {L : Lay} {vs : List Value} {ps : List PV} (h : zI H L vs ps) (n : Nat) : zI H L (vs.take n) (ps.take n) := by
 induction ps generalizing vs n with
 | nil => cases h; simpa using zI.nil _
 | cons p ps ih =>
  cases h with
  | cons _ v _ vs _ h t =>
   cases n with
   | zero => exact .nil _
   | succ n => simpa using zI.cons _ _ _ _ _ h (ih t n)
theorem zI.drop {H : Imm} {L : Lay} {vs : List Value} {ps : List PV} (h : zI H L vs ps) (n : Nat) : zI H L (vs.drop n) (ps.drop n) := by
 induction ps generalizing vs n with
 | nil => cases h; simpa using zI.nil _
 | cons p ps ih =>
  cases h with
  | cons _ v _ vs _ h t =>
   cases n with
   | zero => exact .cons _ _ _ _ _ h t
   | succ n => simpa using ih t n
theorem zI.WY {H : Imm} {L : Lay} (vs : List Value) : zI H L vs (vs.map Wh) := by
 induction vs with
 | nil => exact .nil _
 | cons v vs ih =>
  refine .cons _ _ _ _ _ ?_ ih
  unfold Wh
  split <;> first
   | exact .bool _ _
   | exact .int _ _ _
   | exact .kS _
   | exact .aaE _
   | exact .YQ _
   | exact .aaQ _
   | exact .undef _ _
   | (rename_i s; have := Rep.str (H := H) L s.data.toList; simpa using this)
theorem Rep.ofConst {H : Imm} {L : Lay} (v : Value) : Rep H L v (ofConst v) := by
 unfold Go.Proofs.YtclohbgnaopjfaaDoor.ofConst
 split
 ·rename_i cs
  simpa using Rep.agg (H := H) L cs.toList _ (zI.WY cs.toList)
 ·have := zI.WY (H := H) (L := L) [v]
  cases this with
  | cons _ _ _ _ _ h _ => exact h
theorem Rep.cells {H : Imm} {L : Lay} {v : Value} {p : PV} (h : Rep H L v p) (hp : p.lies = true) : zI H L v.cells.toList p.cells := by
 cases h
 case undef => simp [PV.lies, PV.leaf] at hp
 case tup => simp [PV.lies, PV.leaf] at hp
 case agg vs ps h => simpa [Value.cells, PV.cells] using h
 case row k g n hu hs h =>
  obtain ⟨a, c, rfl⟩ := hs
  exact .cons _ _ _ _ _ (.row _ _ _ _ _ hu ⟨_, _, rfl⟩ h) (.nil _)
 case box k g off hu hs h =>
  obtain ⟨a, rfl⟩ := hs
  exact .cons _ _ _ _ _ (.box _ _ _ _ _ hu ⟨_, rfl⟩ h) (.nil _)
 case elt k g i off hu hs h =>
  obtain ⟨a, rfl⟩ := hs
  exact .cons _ _ _ _ _ (.elt _ _ _ _ _ _ hu ⟨_, rfl⟩ h) (.nil _)
 case bool => exact .cons _ _ _ _ _ (.bool _ _) (.nil _)
 case int => exact .cons _ _ _ _ _ (.int _ _ _) (.nil _)
 case str => exact .cons _ _ _ _ _ (.str _ _) (.nil _)
 case kS => exact .cons _ _ _ _ _ (.kS _) (.nil _)
 case wN => exact .cons _ _ _ _ _ (.wN _ _ _ _) (.nil _)
 case list b off len cap sz c vs xs h hlen hcap hsz h1 hv hr => exact .cons _ _ _ _ _ (.list _ _ _ _ _ _ _ _ _ h hlen hcap hsz h1 hv hr) (.nil _)
 case ref b off c vs ps h hv hr => exact .cons _ _ _ _ _ (.ref _ _ _ _ _ _ h hv hr) (.nil _)
 case fn f vs ps h => exact .cons _ _ _ _ _ (.fn _ _ _ _ h) (.nil _)
 case aaQ => exact .cons _ _ _ _ _ (.aaQ _) (.nil _)
 case aaE => exact .cons _ _ _ _ _ (.aaE _) (.nil _)
 case YQ => exact .cons _ _ _ _ _ (.YQ _) (.nil _)
 case iface t v p h => exact .cons _ _ _ _ _ (.iface _ _ _ _ h) (.nil _)
 case jP k g hu hs h =>
  obtain ⟨a, rfl⟩ := hs
  exact .cons _ _ _ _ _ (.jP _ _ _ _ hu ⟨_, rfl⟩ h) (.nil _)
theorem Rep.one {H : Imm} {L : Lay} {v : Value} {p : PV} (h : Rep H L v p) (hp : p.leaf = true) : v.oneCell' = true := by
 cases h
 case undef => simp [PV.leaf] at hp
 case tup => simp [PV.leaf] at hp
 case agg => simp [PV.leaf] at hp
 case row k g n hu hs h =>
  obtain ⟨a, c, rfl⟩ := hs
  rfl
 case box k g off hu hs h =>
  obtain ⟨a, rfl⟩ := hs
  rfl
 case elt k g i off hu hs h =>
  obtain ⟨a, rfl⟩ := hs
  rfl
 case jP k g hu hs h =>
  obtain ⟨a, rfl⟩ := hs
  rfl
 all_goals rfl
theorem zI.one {H : Imm} {L : Lay} {vs : List Value} {ps : List PV} (h : zI H L vs ps) (hp : ps.all PV.leaf = true) : ∀ v ∈ vs, v.oneCell' = true := by
 induction ps generalizing vs with
 | nil => cases h; simp
 | cons p ps ih =>
  cases h with
  | cons _ v _ vs _ h t =>
   simp only [List.all_cons, Bool.and_eq_true] at hp
   intro u hu
   rcases List.mem_cons.1 hu with rfl | hu
   ·exact h.one hp.1
   ·exact ih t hp.2 u hu
theorem PV.aoV {p : PV} (hp : p.lies = true) : p.cells.all PV.leaf = true := by
 cases p <;> first
  | exact hp
  | (simp only [PV.lies] at hp; simp [PV.cells, hp])
theorem Rep.ones {H : Imm} {L : Lay} {v : Value} {p : PV} (h : Rep H L v p) (hp : p.lies = true) : ∀ u ∈ v.cells.toList, u.oneCell' = true :=
 (h.cells hp).one (PV.aoV hp)
theorem WkL.length {xs ys : List PV} (h : WkL xs ys) : xs.length = ys.length := by
 induction xs generalizing ys with
 | nil => cases h; rfl
 | cons x xs ih => cases h with | cons _ y _ ys _ t => simp [ih t]
theorem WkC.length {xs ys : List PV} (h : WkC xs ys) : xs.length = ys.length := by
 induction xs generalizing ys with
 | nil => cases h; rfl
 | cons x xs ih => cases h with | cons _ y _ ys _ t => simp [ih t]
theorem WkC.sizes {sz : Nat} {xs ys : List PV} (h : WkC xs ys) (hs : ∀ x ∈ xs, x.cells.length = sz) : ∀ y ∈ ys, y.cells.length = sz := by
 induction xs generalizing ys with
 | nil => cases h; simp
 | cons x xs ih =>
  cases h with
  | cons _ y _ ys hh t =>
   intro z hz
   rcases List.mem_cons.1 hz with rfl | hz
   ·rw [← hh.length]; exact hs x (by simp)
   ·exact ih t (fun x hx => hs x (by simp [hx])) z hz
theorem zI.split {H : Imm} {L : Lay} {vs : List Value} {ps qs : List PV} (h : zI H L vs (ps ++ qs)) : ∃ us ws, vs = us ++ ws ∧ zI H L us ps ∧ zI H L ws qs := by
 induction ps generalizing vs with
 | nil => exact ⟨[], vs, rfl, .nil _, h⟩
 | cons p ps ih =>
  cases h with
  | cons _ v _ vs _ h t =>
   obtain ⟨us, ws, rfl, h1, h2⟩ := ih t
   exact ⟨v :: us, ws, rfl, .cons _ _ _ _ _ h h1, h2⟩
mutual
theorem Rep.wk {H : Imm} {L : Lay} {v : Value} {p q : PV} (h : Rep H L v p) : Wk p q → Rep H L v q
 | .refl _ => h
 | .nil sz => by cases h; exact .wN _ _ _ _
 | .list sz xs ys hw => by
  cases h with
  | wN _ a c _ =>
   cases hw
   exact .wN _ _ _ _
  | list _ b off len cap _ c vs _ hH hlen hcap hsz h1 hv hr =>
   exact .list _ _ _ _ _ _ c vs ys hH (by rw [← hw.length]; exact hlen) hcap (hw.sizes hsz) h1 hv (zI.wkC hr hw)
 | .agg xs ys hw => by
  cases h with
  | agg _ vs _ h => exact .agg _ _ _ (zI.wk h hw)
 | .tup xs ys hw => by
  cases h with
  | tup _ vs _ h => exact .tup _ _ _ (zI.wk h hw)
theorem zI.wk {H : Imm} {L : Lay} {vs : List Value} {ps qs : List PV} (h : zI H L vs ps) : WkL ps qs → zI H L vs qs
 | .nil => h
 | .cons x y xs ys hw t => by
  cases h with
  | cons _ v _ vs _ h ht => exact .cons _ _ _ _ _ (Rep.wk h hw) (zI.wk ht t)
theorem zI.wkC {H : Imm} {L : Lay} {vs : List Value} {ps qs : List PV} (h : zI H L vs (ps.flatMap PV.cells)) : WkC ps qs → zI H L vs (qs.flatMap PV.cells)
 | .nil => h
 | .cons x y xs ys hw t => by
  simp only [List.flatMap_cons] at h ⊢
  obtain ⟨us, ws, rfl, h1, h2⟩ := h.split
  exact (zI.wk h1 hw).append (zI.wkC h2 t)
end
end Go.Proofs.YtclohbgnaopjfaaDoor
namespace Go.Proofs.YtclohbgnaopjfaaDoor
set_option linter.unusedSimpArgs false
set_option linter.unusedVariables false
open Go
theorem Sto.kI (s : Sto) (k g : Nat) (e : Ent) : (s.upd k g e).find k = some (g, e) := by
 induction s with
 | nil => simp [Sto.upd, Sto.find]
 | cons x r ih =>
  obtain ⟨j, y⟩ := x
  by_cases h : k = j
  ·simp [Sto.upd, Sto.find, h]
  ·simp [Sto.upd, Sto.find, h, ih]
theorem Sto.qC (s : Sto) (k k' g : Nat) (e : Ent) (h : k' ≠ k) : (s.upd k g e).find k' = s.find k' := by
 induction s with
 | nil => simp [Sto.upd, Sto.find, h]
 | cons x r ih =>
  obtain ⟨j, y⟩ := x
  by_cases hk : k = j
  ·subst hk; simp [Sto.upd, Sto.find, h]
  ·simp only [Sto.upd, hk, if_false, Sto.find, ih]
theorem Act.av0 (a : Act) (d i : Nat) (v : Value) (hd : d < a.tmps.size) : (a.put (some d) v).tmps.getD i undef = if i = d then v else a.tmps.getD i undef := by
 simp only [Act.put]
 by_cases h : i = d
 ·subst h; simp [Array.getD, hd]
 ·simp only [h, if_false]
  unfold Array.getD
  simp only [Array.size_setIfInBounds]
  split
  ·rename_i hi
   exact Array.getElem_setIfInBounds_ne (by simpa using hi) (Ne.symm h)
  ·rfl
theorem Act.Y4 (a : Act) (dst : Option Nat) (v : Value) : (a.put dst v).tmps.size = a.tmps.size := by
 cases dst <;> simp [Act.put]
theorem Act.put_defers (a : Act) (dst : Option Nat) (v : Value) : (a.put dst v).defers = a.defers := by
 cases dst <;> rfl
structure Base where
 w0 : World
 H0 : Imm
 ss : List Slot
 ayO : au8 H0
def Base.may (B : Base) (b : Nat) : Prop := ∃ x ∈ B.ss, x.block = some b
structure Rel (B : Base) (F : Nat → Prop) (H : Imm) (L : Lay) (s : St) (a : Act) (w : World) : Prop where
 env : ∀ i, Rep H L (a.tmps.getD i undef) (s.env.get i)
 agree : Agree H w
 sto : ∀ k g e, s.sto.find k = some (g, e) → ∃ sl, L.at_ k = some sl ∧ sl.gen = g ∧ wL H L w sl e
 sep : ∀ k k' sl sl' b, L.at_ k = some sl → L.at_ k' = some sl' → sl.block = some b → sl'.block = some b → k = k'
 low : ∀ k sl b, L.at_ k = some sl → sl.block = some b → b < w.heap.size
 used : ∀ k sl, L.at_ k = some sl → L.used sl.gen
 free : ∀ g, F g → ¬ L.used g
 mine : ∀ k sl b, L.at_ k = some sl → sl.block = some b → B.w0.heap.size ≤ b ∨ (1000 ≤ k ∧ ∃ o, B.ss[k - 1000]? = some o ∧ o.block = some b)
 zero : L.used 0
 Xk : ∀ k sl, 1000 ≤ k → L.at_ k = some sl → sl.gen = 0 → B.ss[k - 1000]? = some sl
 grow : Grow B.H0 H
 imm : ∀ b c, H b = some c → B.H0 b = some c ∨ B.w0.heap.size ≤ b
 ext : Ext B.may B.w0 w
def Quiet (w w' : World) : Prop := Ext (fun _ => False) w w'
theorem Quiet.refl (w : World) : Quiet w w := ⟨Nat.le_refl _, fun _ _ _ => rfl, rfl, rfl, rfl⟩
theorem Quiet.drew (w : World) : Quiet w w.drew := ⟨Nat.le_refl _, fun _ _ _ => rfl, rfl, rfl, rfl⟩
theorem Quiet.alloc (w : World) (o : Obj) : Quiet w (w.alloc o) :=
 ⟨by show _ ≤ (w.heap.push o).size; simp, fun b hb _ => by show (w.heap.push o)[b]? = _; simp [Array.getElem?_push, Nat.ne_of_lt hb], rfl, rfl, rfl⟩
theorem Ext.trans {m : Nat → Prop} {w w' w'' : World} (h : Ext m w w') (h' : Ext m w' w'') : Ext m w w'' :=
 ⟨Nat.le_trans h.size h'.size, fun b hb hm => (h'.old b (Nat.lt_of_lt_of_le hb h.size) hm).trans (h.old b hb hm), h'.out.trans h.out, h'.os.trans h.os, h'.tape.trans h.tape⟩
theorem Ext.weaken {m m' : Nat → Prop} {w w' : World} (h : Ext m w w') (hm : ∀ b, m b → m' b) : Ext m' w w' :=
 ⟨h.size, fun b hb hn => h.old b hb (fun x => hn (hm b x)), h.out, h.os, h.tape⟩
theorem Agree.quiet {H : Imm} {w w' : World} (h : Agree H w) (hq : Quiet w w') : Agree H w' := fun b c hb => by
 obtain ⟨t, fr, he⟩ := h b c hb
 have hlt : b < w.heap.size := (Array.getElem?_eq_some_iff.1 he).1
 exact ⟨t, fr, (hq.old b hlt (by simp)).trans he⟩
theorem wL.keep {H H' : Imm} {L L' : Lay} {w w' : World} {sl : Slot} {e : Ent} (h : wL H L w sl e) (hH : Grow H H') (hL : Vg L L')
  (hb : ∀ b, sl.block = some b → w'.heap[b]? = w.heap[b]? ∧ (H b = none → H' b = none)) : wL H' L' w' sl e := by
 match e with
 | .var _ cs =>
  obtain ⟨b, vs, t, h1, h2, h3, h4⟩ := h
  exact ⟨b, vs, t, h1, (hb b h1).2 h2, (hb b h1).1.trans h3, h4.mono hH hL⟩
 | .row false sz xs =>
  obtain ⟨h1, h2, h3, h4⟩ := h
  refine ⟨h1, h2, h3, ?_⟩
  rcases h4 with h4 | ⟨b, vs, rest, t, g1, g2, g3, g4, g5, g6⟩
  ·exact .inl h4
  ·exact .inr ⟨b, vs, rest, t, g1, (hb b g1).2 g2, (hb b g1).1.trans g3, g4, g5.mono hH (.refl _), g6⟩
 | .row true sz xs =>
  obtain ⟨h1, h2, h2', h3⟩ := h
  refine ⟨h1, h2, h2', ?_⟩
  rcases h3 with h3 | ⟨b, c, vs, g1, g2, g3, g4, g5⟩
  ·exact .inl h3
  ·exact .inr ⟨b, c, vs, g1, hH _ _ g2, g3, g4, g5.mono hH (.refl _)⟩
 | .iter s pos =>
  obtain ⟨b, h1, h2, h3⟩ := h
  exact ⟨b, h1, (hb b h1).2 h2, (hb b h1).1.trans h3⟩
 | .bytes bt bs | .XX bt bs =>
  obtain ⟨h1, h3, h4⟩ := h
  refine ⟨h1, h3, ?_⟩
  rcases h4 with h4 | ⟨b, rest, g1, g2, g3, g6⟩
  ·exact .inl h4
  ·exact .inr ⟨b, rest, g1, (hb b g1).2 g2, (hb b g1).1.trans g3, g6⟩
 | .gone => trivial
 | .moved sz xs =>
  obtain ⟨h1, h2, h3, h4⟩ := h
  refine ⟨h1, h2, h3, ?_⟩
  rcases h4 with h4 | ⟨b, vs, rest, t, g1, g2, g3, g4, g5, g6⟩
  ·exact .inl h4
  ·exact .inr ⟨b, vs, rest, t, g1, (hb b g1).2 g2, (hb b g1).1.trans g3, g4, g5.mono hH (.refl _), g6⟩
section
variable {B : Base} {F : Nat → Prop} {H : Imm} {L : Lay} {s : St} {a : Act} {w : World}
theorem Rel.quiet (h : Rel B F H L s a w) {H' : Imm} {w' : World} (hH : Grow H H') (hA : Agree H' w') (hn : ∀ b c, H' b = some c → H b = some c ∨ w.heap.size ≤ b) (hq : Quiet w w') : Rel B F H' L s a w' where
 env i := (h.env i).mono hH (.refl _)
 agree := hA
 sto k g e he := by
  obtain ⟨sl, h1, h2, h3⟩ := h.sto k g e he
  refine ⟨sl, h1, h2, h3.keep hH (.refl _) fun b hb => ⟨hq.old b (h.low k sl b h1 hb) (by simp), fun hnone => ?_⟩⟩
  cases hc : H' b with
  | none => rfl
  | some c =>
   rcases hn b c hc with h4 | h4
   ·rw [hnone] at h4; cases h4
   ·have := h.low k sl b h1 hb; omega
 sep := h.sep
 low k sl b h1 h2 := Nat.lt_of_lt_of_le (h.low k sl b h1 h2) hq.size
 used := h.used
 free := h.free
 mine := h.mine
 zero := h.zero
 Xk := h.Xk
 grow := h.grow.trans hH
 imm b c hc := by
  rcases hn b c hc with h4 | h4
  ·exact h.imm b c h4
  ·exact .inr (Nat.le_trans h.ext.size h4)
 ext := h.ext.trans (hq.weaken (by simp))
theorem Rel.put (h : Rel B F H L s a w) {dst : Option Nat} {v : Value} {p : PV} (hd : ∀ d, dst = some d → d < a.tmps.size) (hv : Rep H L v p) : Rel B F H L (s.put dst p) (a.put dst v) w := by
 refine { h with env := fun i => ?_, sto := ?_ }
 ·cases dst with
  | none => exact h.env i
  | some d =>
   rw [Act.av0 a d i v (hd d rfl)]
   show Rep H L _ (if i = d then p else s.env.get i)
   split
   ·exact hv
   ·exact h.env i
 ·intro k g e he
  refine h.sto k g e ?_
  cases dst <;> exact he
theorem Rel.VX (h : Rel B F H L s a w) {k : Nat} {sl : Slot} {e : Ent} {H' : Imm} {w' : World} (hg : F sl.gen)
    (hH : Grow H H') (hA : Agree H' w') (hn : ∀ b c, H' b = some c → H b = some c ∨ w.heap.size ≤ b)
    (hs : w.heap.size ≤ w'.heap.size) (hold : ∀ b, b < w.heap.size → sl.block ≠ some b → w'.heap[b]? = w.heap[b]?)
    (ho : w'.output = w.output) (hos : w'.os = w.os) (ht : w'.tape = w.tape)
    (hb : ∀ b, sl.block = some b → b < w'.heap.size ∧ ((B.w0.heap.size ≤ b ∧ ∀ j x, L.at_ j = some x → x.block ≠ some b) ∨ ∃ o, L.at_ k = some o ∧ o.block = some b))
    (he : wL H' ⟨fun g => L.used g ∨ g = sl.gen, fun j => if j = k then some sl else L.at_ j⟩ w' sl e) :
    Rel B (fun g => F g ∧ g ≠ sl.gen) H' ⟨fun g => L.used g ∨ g = sl.gen, fun j => if j = k then some sl else L.at_ j⟩ (s.set k sl.gen e) a w' := by
  have hL : Vg L ⟨fun g => L.used g ∨ g = sl.gen, fun j => if j = k then some sl else L.at_ j⟩ := by
    refine ⟨fun g hg => .inl hg, fun j x hx hu => ?_⟩
    by_cases hj : j = k
    · simp only [hj, if_true, Option.some.injEq] at hx
      subst hx
      exact (h.free _ hg hu).elim
    · simpa [hj] using hx
  have other : ∀ j x b, j ≠ k → L.at_ j = some x → x.block = some b → sl.block ≠ some b := by
    intro j x b hj hx hxb hslb
    rcases (hb b hslb).2 with h1 | ⟨o, h1, h2⟩
    · exact h1.2 j x hx hxb
    · exact hj (h.sep j k x o b hx h1 hxb h2)
  have mayno : ∀ b, sl.block = some b → B.w0.heap.size ≤ b ∨ (1000 ≤ k ∧ ∃ o, B.ss[k - 1000]? = some o ∧ o.block = some b) := by
    intro b hslb
    rcases (hb b hslb).2 with h1 | ⟨o, h1, h2⟩
    · exact .inl h1.1
    · exact h.mine k o b h1 h2
  refine
    { env := fun i => (h.env i).mono hH hL
      agree := hA
      sto := ?_, sep := ?_, low := ?_, used := ?_, free := ?_, mine := ?_, zero := .inl h.zero, Xk := ?_
      grow := h.grow.trans hH
      imm := ?_, ext := ?_ }
  · intro j g x hx
    by_cases hj : j = k
    · subst hj
      have : some (sl.gen, e) = some (g, x) := by rw [← hx]; exact (Sto.kI _ _ _ _).symm
      simp only [Option.some.injEq, Prod.mk.injEq] at this
      obtain ⟨rfl, rfl⟩ := this
      exact ⟨sl, by simp, rfl, he⟩
    · have hx' : s.sto.find j = some (g, x) := by rw [← hx]; exact (Sto.qC _ _ _ _ _ hj).symm
      obtain ⟨o, h1, h2, h3⟩ := h.sto j g x hx'
      refine ⟨o, by simpa [hj] using h1, h2, h3.keep hH hL fun b hob => ⟨hold b (h.low j o b h1 hob) (other j o b hj h1 hob), fun hnone => ?_⟩⟩
      cases hc : H' b with
      | none => rfl
      | some c =>
        rcases hn b c hc with h4 | h4
        · rw [hnone] at h4; cases h4
        · have := h.low j o b h1 hob; omega
  · intro j j' x x' b hx hx' hxb hxb'
    dsimp only at hx hx'
    split at hx <;> split at hx'
    · simp_all
    · rename_i h1 h2
      simp only [Option.some.injEq] at hx
      subst hx
      exact (other j' x' b h2 hx' hxb' hxb).elim
    · rename_i h1 h2
      simp only [Option.some.injEq] at hx'
      subst hx'
      exact (other j x b h1 hx hxb hxb').elim
    · exact h.sep j j' x x' b hx hx' hxb hxb'
  · intro j x b hx hxb
    dsimp only at hx
    split at hx
    · simp only [Option.some.injEq] at hx
      subst hx
      exact (hb b hxb).1
    · exact Nat.lt_of_lt_of_le (h.low j x b hx hxb) hs
  · intro j x hx
    dsimp only at hx ⊢
    split at hx
    · simp only [Option.some.injEq] at hx
      subst hx
      exact .inr rfl
    · exact .inl (h.used j x hx)
  · rintro g ⟨hg1, hg2⟩ hu
    rcases hu with hu | hu
    · exact h.free g hg1 hu
    · exact hg2 hu
  · intro j x b hx hxb
    dsimp only at hx
    split at hx
    · rename_i hjk
      simp only [Option.some.injEq] at hx
      subst hx
      subst hjk
      exact mayno b hxb
    · exact h.mine j x b hx hxb
  · intro j x hj hx hx0
    dsimp only at hx
    split at hx
    · simp only [Option.some.injEq] at hx
      subst hx
      exact (h.free _ hg (by rw [hx0]; exact h.zero)).elim
    · exact h.Xk j x hj hx hx0
  · intro b c hc
    rcases hn b c hc with h4 | h4
    · exact h.imm b c h4
    · exact .inr (Nat.le_trans h.ext.size h4)
  · refine ⟨Nat.le_trans h.ext.size hs, fun b hb1 hb2 => ?_, ho.trans h.ext.out, hos.trans h.ext.os, ht.trans h.ext.tape⟩
    have hlt : b < w.heap.size := Nat.lt_of_lt_of_le hb1 h.ext.size
    refine (hold b hlt fun hslb => ?_).trans (h.ext.old b hb1 hb2)
    rcases mayno b hslb with h6 | ⟨_, o, h6, h7⟩
    · omega
    · exact hb2 ⟨o, List.mem_of_getElem? h6, h7⟩
theorem Rel.awq (h : Rel B F H L s a w) {k k' : Nat} {sl sl' : Slot} {e e' : Ent} (hkk : k ≠ k') (hk : k < 1000) (hk' : k' < 1000) (hg : F sl.gen) (hg' : sl'.gen = sl.gen)
    (hb : ∀ b, sl.block = some b → b < w.heap.size ∧ B.w0.heap.size ≤ b ∧ ∀ j x, L.at_ j = some x → x.block ≠ some b)
    (hb' : ∀ b, sl'.block = some b → b < w.heap.size ∧ B.w0.heap.size ≤ b ∧ ∀ j x, L.at_ j = some x → x.block ≠ some b)
    (hbb : ∀ b, sl.block = some b → sl'.block ≠ some b)
    (he : wL H ⟨fun g => L.used g ∨ g = sl.gen, fun j => if j = k then some sl else if j = k' then some sl' else L.at_ j⟩ w sl e)
    (he' : wL H ⟨fun g => L.used g ∨ g = sl.gen, fun j => if j = k then some sl else if j = k' then some sl' else L.at_ j⟩ w sl' e') :
    Rel B (fun g => F g ∧ g ≠ sl.gen) H ⟨fun g => L.used g ∨ g = sl.gen, fun j => if j = k then some sl else if j = k' then some sl' else L.at_ j⟩ ((s.set k' sl.gen e').set k sl.gen e) a w := by
  have hL : Vg L ⟨fun g => L.used g ∨ g = sl.gen, fun j => if j = k then some sl else if j = k' then some sl' else L.at_ j⟩ := by
    refine ⟨fun g hg => .inl hg, fun j x hx hu => ?_⟩
    by_cases hj : j = k
    · simp only [hj, if_true, Option.some.injEq] at hx
      subst hx
      exact (h.free _ hg hu).elim
    · by_cases hj' : j = k'
      · subst hj'
        simp only [hj, if_false, if_true, Option.some.injEq] at hx
        subst hx
        rw [hg'] at hu
        exact (h.free _ hg hu).elim
      · simpa [hj, hj'] using hx
  have at_ : ∀ j x, (if j = k then some sl else if j = k' then some sl' else L.at_ j) = some x → (j = k ∧ x = sl) ∨ (j = k' ∧ x = sl') ∨ (j ≠ k ∧ j ≠ k' ∧ L.at_ j = some x) := by
    intro j x hx
    by_cases hj : j = k
    · simp only [hj, if_true, Option.some.injEq] at hx
      exact .inl ⟨hj, hx.symm⟩
    · by_cases hj' : j = k'
      · simp only [hj, hj', if_false, if_true, Option.some.injEq] at hx
        rw [if_neg (fun e => hkk e.symm)] at hx
        cases hx
        exact .inr (.inl ⟨hj', rfl⟩)
      · simp only [hj, hj', if_false] at hx
        exact .inr (.inr ⟨hj, hj', hx⟩)
  refine
    { env := fun i => (h.env i).mono (.refl _) hL
      agree := h.agree
      sto := ?_, sep := ?_, low := ?_, used := ?_, free := ?_, mine := ?_, zero := .inl h.zero, Xk := ?_
      grow := h.grow
      imm := h.imm, ext := h.ext }
  · intro j g x hx
    by_cases hj : j = k
    · subst hj
      have : some (sl.gen, e) = some (g, x) := by rw [← hx]; exact (Sto.kI _ _ _ _).symm
      simp only [Option.some.injEq, Prod.mk.injEq] at this
      obtain ⟨rfl, rfl⟩ := this
      exact ⟨sl, by simp, rfl, he⟩
    · have hx1 : (s.set k' sl.gen e').sto.find j = some (g, x) := by rw [← hx]; exact (Sto.qC _ _ _ _ _ hj).symm
      by_cases hj' : j = k'
      · subst hj'
        have : some (sl.gen, e') = some (g, x) := by rw [← hx1]; exact (Sto.kI _ _ _ _).symm
        simp only [Option.some.injEq, Prod.mk.injEq] at this
        obtain ⟨rfl, rfl⟩ := this
        exact ⟨sl', by simp [hj], hg', he'⟩
      · have hx' : s.sto.find j = some (g, x) := by rw [← hx1]; exact (Sto.qC _ _ _ _ _ hj').symm
        obtain ⟨o, h1, h2, h3⟩ := h.sto j g x hx'
        exact ⟨o, by simpa [hj, hj'] using h1, h2, h3.keep (.refl _) hL fun b hob => ⟨rfl, fun hnone => hnone⟩⟩
  · intro j j' x x' b hx hx' hxb hxb'
    rcases at_ j x hx with ⟨rfl, rfl⟩ | ⟨rfl, rfl⟩ | ⟨h1, h2, h3⟩ <;> rcases at_ j' x' hx' with ⟨rfl, rfl⟩ | ⟨rfl, rfl⟩ | ⟨q1, q2, q3⟩
    · rfl
    · exact (hbb b hxb hxb').elim
    · exact ((hb b hxb).2.2 j' x' q3 hxb').elim
    · exact (hbb b hxb' hxb).elim
    · rfl
    · exact ((hb' b hxb).2.2 j' x' q3 hxb').elim
    · exact ((hb b hxb').2.2 j x h3 hxb).elim
    · exact ((hb' b hxb').2.2 j x h3 hxb).elim
    · exact h.sep j j' x x' b h3 q3 hxb hxb'
  · intro j x b hx hxb
    rcases at_ j x hx with ⟨rfl, rfl⟩ | ⟨rfl, rfl⟩ | ⟨h1, h2, h3⟩
    · exact (hb b hxb).1
    · exact (hb' b hxb).1
    · exact h.low j x b h3 hxb
  · intro j x hx
    rcases at_ j x hx with ⟨rfl, rfl⟩ | ⟨rfl, rfl⟩ | ⟨h1, h2, h3⟩
    · exact .inr rfl
    · exact .inr hg'
    · exact .inl (h.used j x h3)
  · rintro g ⟨hg1, hg2⟩ hu
    rcases hu with hu | hu
    · exact h.free g hg1 hu
    · exact hg2 hu
  · intro j x b hx hxb
    rcases at_ j x hx with ⟨rfl, rfl⟩ | ⟨rfl, rfl⟩ | ⟨h1, h2, h3⟩
    · exact .inl (hb b hxb).2.1
    · exact .inl (hb' b hxb).2.1
    · exact h.mine j x b h3 hxb
  · intro j x hj hx hx0
    rcases at_ j x hx with ⟨rfl, rfl⟩ | ⟨rfl, rfl⟩ | ⟨h1, h2, h3⟩
    · omega
    · omega
    · exact h.Xk j x hj h3 hx0
theorem Rel.VQ (h : Rel B F H L s a w) {k : Nat} {sl : Slot} {e : Ent} {H' : Imm} {w' : World} (hk : L.at_ k = some sl)
    (hH : Grow H H') (hA : Agree H' w') (hn : ∀ b c, H' b = some c → H b = some c ∨ w.heap.size ≤ b ∨ (sl.block = some b ∧ k < 1000))
    (hs : w.heap.size ≤ w'.heap.size) (hold : ∀ b, b < w.heap.size → sl.block ≠ some b → w'.heap[b]? = w.heap[b]?)
    (ho : w'.output = w.output) (hos : w'.os = w.os) (ht : w'.tape = w.tape)
    (he : wL H' L w' sl e) : Rel B F H' L (s.set k sl.gen e) a w' := by
  refine
    { env := fun i => (h.env i).mono hH (.refl _)
      agree := hA
      sto := ?_, sep := h.sep, low := fun j x b hx hxb => Nat.lt_of_lt_of_le (h.low j x b hx hxb) hs, used := h.used, free := h.free, mine := h.mine, zero := h.zero, Xk := h.Xk
      grow := h.grow.trans hH
      imm := ?_, ext := ?_ }
  · intro j g x hx
    by_cases hj : j = k
    · subst hj
      have : some (sl.gen, e) = some (g, x) := by rw [← hx]; exact (Sto.kI _ _ _ _).symm
      simp only [Option.some.injEq, Prod.mk.injEq] at this
      obtain ⟨rfl, rfl⟩ := this
      exact ⟨sl, hk, rfl, he⟩
    · have hx' : s.sto.find j = some (g, x) := by rw [← hx]; exact (Sto.qC _ _ _ _ _ hj).symm
      obtain ⟨o, h1, h2, h3⟩ := h.sto j g x hx'
      refine ⟨o, h1, h2, h3.keep hH (.refl _) fun b hob => ?_⟩
      have hne : sl.block ≠ some b := fun hslb => hj (h.sep j k o sl b h1 hk hob hslb)
      refine ⟨hold b (h.low j o b h1 hob) hne, fun hnone => ?_⟩
      cases hc : H' b with
      | none => rfl
      | some c =>
        rcases hn b c hc with h4 | h4 | h4
        · rw [hnone] at h4; cases h4
        · have := h.low j o b h1 hob; omega
        · exact (hne h4.1).elim
  · intro b c hc
    rcases hn b c hc with h4 | h4 | ⟨h4, h5⟩
    · exact h.imm b c h4
    · exact .inr (Nat.le_trans h.ext.size h4)
    · rcases h.mine k sl b hk h4 with h6 | h6
      · exact .inr h6
      · omega
  · refine ⟨Nat.le_trans h.ext.size hs, fun b hb1 hb2 => ?_, ho.trans h.ext.out, hos.trans h.ext.os, ht.trans h.ext.tape⟩
    have hlt : b < w.heap.size := Nat.lt_of_lt_of_le hb1 h.ext.size
    refine (hold b hlt fun hslb => ?_).trans (h.ext.old b hb1 hb2)
    rcases h.mine k sl b hk hslb with h6 | ⟨_, o, h6, h7⟩
    · omega
    · exact hb2 ⟨o, List.mem_of_getElem? h6, h7⟩
end
end Go.Proofs.YtclohbgnaopjfaaDoor
namespace Go.Proofs.YtclohbgnaopjfaaDoor
set_option linter.unusedSimpArgs false
set_option linter.unusedVariables false
open Go
section
variable {P : Program} {B : Base} {F : Nat → Prop} {H : Imm} {L : Lay} {s : St} {a : Act} {w : World} {q : Bool} {dst : Option Nat} {k g : Nat} {K : St → Prop}
theorem Rel.less (h : Rel B F H L s a w) {F' : Nat → Prop} (hF : ∀ g, F' g → F g) : Rel B F' H L s a w := { h with free := fun g hg => h.free g (hF g hg) }
theorem Rel.eval (h : Rel B F H L s a w) (x : Operand) : Rep H L (a.eval x) (s.ev x) := by
 cases x with
 | tmp t => exact h.env t
 | const v => exact Rep.ofConst v
 | global g => exact .undef _ _
 | func f => exact Rep.fn (H := H) L f [] [] (.nil _)
def Good (P : Program) (B : Base) (F : Nat → Prop) (a : Act) (dst : Option Nat) (g : Nat) (K : St → Prop) (sem : Sem Value) (w : World) : Prop :=
 ∃ v w' H' L' s', sem.run P w = .ok v w' ∧ Rel B (fun x => F x ∧ x ≠ g) H' L' s' (a.put dst v) w' ∧ K s'
theorem zP (hR : Rel B F H L s a w) (hd : ∀ d, dst = some d → d < a.tmps.size) {sem : Sem Value} {v : Value} {p : PV} (hr : sem.run P w = .ok v w) (hv : Rep H L v p) (hK : K (s.put dst p)) :
  Good P B F a dst g K sem w :=
 ⟨v, w, H, L, _, hr, (hR.put hd hv).less (fun _ h => h.1), hK⟩
theorem Qg {t : Nat} (h : (zH P t).kd ≠ .none) : ∃ i d, P.info? t = some i ∧ P.underlying t = some d ∧
  zH P t = ⟨YF d, aqZ d, i.size, i.bytes, i.zero.map fun z => z.cells.toList.map Wh, amO P t d⟩ := by
 unfold zH at h ⊢
 split at h
 ·rename_i i d h1 h2
  exact ⟨i, d, h1, h2, rfl⟩
 ·simp at h
theorem y7 {t : Nat} {kd : Kd} (h : (zH P t).kd = kd) (hn : kd ≠ .none) : ∃ i d, P.info? t = some i ∧ P.underlying t = some d ∧ YF d = kd ∧ (zH P t).size = i.size ∧ (zH P t).bytes = i.bytes ∧
  (zH P t).agg = aqZ d ∧ (zH P t).zero = i.zero.map (fun z => z.cells.toList.map Wh) ∧ (zH P t).flat = amO P t d := by
 obtain ⟨i, d, h1, h2, h3⟩ := Qg (P := P) (t := t) (by rw [h]; exact hn)
 rw [h3] at h ⊢
 exact ⟨i, d, h1, h2, h, rfl, rfl, rfl, rfl, rfl⟩
theorem aoL {d : TypeDesc} {e : Nat} (h : YF d = .slice e) : d = .slice e := by cases d <;> simp_all [YF]
theorem aoH {d : TypeDesc} (h : YF d = .str) : d = .string := by cases d <;> simp_all [YF]
theorem ak1 {d : TypeDesc} (h : YF d = .bool) : d = .bool := by cases d <;> simp_all [YF]
theorem anF {d : TypeDesc} {j : IntKind} (h : YF d = .int j) : d = .int j := by cases d <;> simp_all [YF]
theorem aaH {d : TypeDesc} {fs : List (Nat × Nat)} (h : YF d = .struct fs) : ∃ xs : Array Field, d = .struct xs ∧ fs = xs.toList.map fun f => (f.type, f.offset) := by cases d <;> simp_all [YF]
theorem ao5 {d : TypeDesc} (h : YF d = .iface) : ∃ ms, d = .interface ms := by cases d <;> simp_all [YF]
theorem jR {t e : Nat} (h : (zH P t).kd = .slice e) : P.underlying t = some (.slice e) := by
 obtain ⟨i, d, _, h2, h3, _⟩ := y7 h (by simp)
 rw [h2, aoL h3]
theorem QK {t : Nat} (h : (zH P t).kd = .str) : P.underlying t = some .string := by
 obtain ⟨i, d, _, h2, h3, _⟩ := y7 h (by simp)
 rw [h2, aoH h3]
theorem anN {t : Nat} (h : (zH P t).kd = .bool) : P.underlying t = some .bool := by
 obtain ⟨i, d, _, h2, h3, _⟩ := y7 h (by simp)
 rw [h2, ak1 h3]
theorem Ya {t : Nat} {j : IntKind} (h : (zH P t).kd = .int j) : P.underlying t = some (.int j) := by
 obtain ⟨i, d, _, h2, h3, _⟩ := y7 h (by simp)
 rw [h2, anF h3]
theorem ahx {t : Nat} {fs : List (Nat × Nat)} (h : (zH P t).kd = .struct fs) : ∃ xs : Array Field, P.underlying t = some (.struct xs) ∧ fs = xs.toList.map fun f => (f.type, f.offset) := by
 obtain ⟨i, d, _, h2, h3, _⟩ := y7 h (by simp)
 obtain ⟨xs, rfl, h4⟩ := aaH h3
 exact ⟨xs, h2, h4⟩
theorem ard {t : Nat} (h : (zH P t).kd = .iface) : ∃ ms, P.underlying t = some (.interface ms) := by
 obtain ⟨i, d, _, h2, h3, _⟩ := y7 h (by simp)
 obtain ⟨ms, rfl⟩ := ao5 h3
 exact ⟨ms, h2⟩
theorem Xh {t : Nat} (h : (zH P t).kd ≠ .none) (w : World) : (isAgg t).run P w = .ok (zH P t).agg w := by
 obtain ⟨i, d, h1, h2, h3⟩ := Qg h
 rw [h3]
 unfold isAgg
 rw [Sem.run_bind, run_underlying h2 w]
 cases d <;> simp [aqZ]
theorem jN {t : Nat} (h : (zH P t).kd ≠ .none) (w : World) : (sizeOf t).run P w = .ok (zH P t).size w := by
 obtain ⟨i, d, h1, h2, h3⟩ := Qg h
 rw [h3]
 simp [sizeOf, typeInfo, h1]
theorem JG {t : Nat} (h : (zH P t).size ≠ 0) (w : World) : (sizeOf t).run P w = .ok (zH P t).size w := by
 refine jN (fun hk => h ?_) w
 unfold zH at hk ⊢
 split
 ·rename_i i d h1 h2
  simp only [h1, h2] at hk
  cases d <;> simp [YF] at hk
 ·rfl
theorem yB {t : Nat} {p : Nat} (h : (zH P t).size = p) (hp : p ≠ 0) : (zH P t).kd ≠ .none := by
 intro hk
 subst h
 unfold zH at hk hp
 split at hk
 ·rename_i i d h1 h2
  cases d <;> simp [YF] at hk
 ·rename_i hn
  split at hp
  ·rename_i i d h1 h2
   exact (hn i d h1 h2).elim
  ·exact hp rfl
theorem addr_add (b o i : Nat) : (⟨b, o, none⟩ : Addr).add i = ⟨b, o + i, none⟩ := by
 unfold Addr.add
 split
 ·rename_i h; subst h; rfl
 ·rfl
theorem XQ (w : World) (b o : Nat) (c : Array Value) (t : TypeId) (fr : Nat × Nat) (hb : w.heap[b]? = some (.cells c t fr)) : w.cell? ⟨b, o, none⟩ = c[o]? := by
 simp [World.cell?, hb]
theorem VK {t : Nat} (hk : (zH P t).kd ≠ .none) (b o : Nat) (c : Array Value) (et : TypeId) (fr : Nat × Nat) (hb : w.heap[b]? = some (.cells c et fr)) :
  ((zH P t).agg = true → ∀ vs : List Value, vs.length = (zH P t).size → (∀ i, i < vs.length → c[o + i]? = vs[i]?) → (loadVar t ⟨b, o, none⟩).run P w = .ok (.agg vs.toArray) w) ∧
  ((zH P t).agg = false → ∀ v, c[o]? = some v → (loadVar t ⟨b, o, none⟩).run P w = .ok v w) := by
 refine ⟨fun ha vs hl hv => ?_, fun ha v hv => ?_⟩
 ·have hl' := run_loadCells_list (P := P) w ⟨b, o, none⟩ vs (fun j v hj => by
   have hjl : j < vs.length := by
    rcases Nat.lt_or_ge j vs.length with h | h
    ·exact h
    ·rw [List.getElem?_eq_none h] at hj; cases hj
   rw [addr_add, XQ w b _ c et fr hb, hv j hjl, hj])
  simp only [loadVar, Sem.run_bind, Xh hk, Result.andThen_ok, ha, if_true, jN hk, ← hl, hl']
  rfl
 ·simp only [loadVar, Sem.run_bind, Xh hk, Result.andThen_ok, ha, Bool.false_eq_true, if_false, run_load, XQ w b o c et fr hb, hv]
theorem aaN {t : Nat} (hk : (zH P t).kd ≠ .none) {b base off : Nat} {c : Array Value} {et : TypeId} {fr : Nat × Nat} (hb : w.heap[b]? = some (.cells c et fr)) {vs : List Value} {cs : List PV}
  (hv : ∀ i, i < vs.length → c[base + i]? = vs[i]?) (hr : zI H L vs cs) (h : (Yy (zH P t) cs off).wp P q s dst k g K) :
  ∃ v p, (loadVar t ⟨b, base + off, none⟩).run P w = .ok v w ∧ Rep H L v p ∧ K (s.put dst p) := by
 have hl := VK hk b (base + off) c et fr hb
 have hlen := hr.length
 cases ha : (zH P t).agg with
 | true =>
  simp only [Yy, ha, Res.wp] at h
  obtain ⟨h1, h2⟩ := h
  refine ⟨_, _, hl.1 ha ((vs.drop off).take (zH P t).size) (by simp; omega) (fun i hi => ?_), Rep.agg _ _ _ ((hr.drop off).take _), h2⟩
  simp only [List.length_take, List.length_drop] at hi
  rw [Nat.add_assoc, hv (off + i) (by omega), List.getElem?_take]
  simp [show i < (zH P t).size by omega]
 | false =>
  simp only [Yy, ha, Res.wp] at h
  obtain ⟨h1, h2⟩ := h
  obtain ⟨v, hv1, hv2⟩ := hr.get off h1
  exact ⟨v, _, hl.2 ha v (by rw [hv off (by omega), hv1]), hv2, h2⟩
theorem flat_get {sz : Nat} : ∀ (xs : List PV) (i : Nat), (∀ x ∈ xs, x.cells.length = sz) → i < xs.length → ((xs.flatMap PV.cells).drop (i * sz)).take sz = (xs.getD i .undef).cells
 | [], i, _, h => by simp at h
 | x :: xs, 0, hs, _ => by
  simp only [Nat.zero_mul, List.drop_zero, List.flatMap_cons, List.getD_cons_zero]
  rw [← hs x (by simp), List.take_left]
 | x :: xs, i + 1, hs, h => by
  have h0 := hs x (by simp)
  have ih := flat_get xs i (fun y hy => hs y (by simp [hy])) (by simpa using h)
  simp only [List.flatMap_cons, List.getD_cons_succ]
  have e : (x.cells ++ xs.flatMap PV.cells).drop ((i + 1) * sz) = (xs.flatMap PV.cells).drop (i * sz) := by
   rw [List.drop_append, List.drop_eq_nil_of_le (by rw [h0, Nat.succ_mul]; omega), h0, Nat.succ_mul, List.nil_append]
   congr 1
   omega
  rw [e, ih]
theorem vY {sz : Nat} : ∀ (xs : List PV), (∀ x ∈ xs, x.cells.length = sz) → (xs.flatMap PV.cells).length = xs.length * sz
 | [], _ => by simp
 | x :: xs, hs => by
  simp only [List.flatMap_cons, List.length_append, List.length_cons, hs x (by simp), vY xs (fun y hy => hs y (by simp [hy])), Nat.succ_mul]
  omega
theorem abd (hA : Agree H w) {sl : Slot} {f : Bool} {sz : Nat} {xs : List PV} (h : wL H L w sl (.row f sz xs)) (hx : xs ≠ []) :
  sl.sz = sz ∧ (∀ x ∈ xs, x.cells.length = sz) ∧ ∃ b c vs et fr, sl.block = some b ∧ w.heap[b]? = some (.cells c et fr) ∧ (∀ i, i < vs.length → c[i]? = vs[i]?) ∧ (∀ v ∈ vs, v.oneCell' = true) ∧ zI H Lay.none vs (xs.flatMap PV.cells) := by
 cases f with
 | false =>
  obtain ⟨h1, h2, h3, h4⟩ := h
  refine ⟨h1, h2, ?_⟩
  rcases h4 with ⟨_, h5⟩ | ⟨b, vs, rest, t, g1, g2, g3, g4, g5, g6⟩
  ·exact (hx (List.eq_nil_of_length_eq_zero (by omega))).elim
  ·exact ⟨b, _, vs, t, _, g1, g3, fun i hi => by simp [List.getElem?_append_left hi], g4, g5⟩
 | true =>
  obtain ⟨h1, h2, _, h3⟩ := h
  refine ⟨h1, h2, ?_⟩
  rcases h3 with ⟨_, h5⟩ | ⟨b, c, vs, g1, g2, g3, g4, g5⟩
  ·exact (hx h5).elim
  ·obtain ⟨t, fr, ht⟩ := hA b c g2
   exact ⟨b, c, vs, t, fr, g1, ht, g4, g3, g5⟩
theorem zI.none {vs : List Value} {ps : List PV} (h : zI H Lay.none vs ps) : zI H L vs ps := h.mono (.refl _) (.none _)
theorem Rep.none {v : Value} {p : PV} (h : Rep H Lay.none v p) : Rep H L v p := h.mono (.refl _) (.none _)
theorem apv (hR : Rel B F H L s a w) (hd : ∀ d, dst = some d → d < a.tmps.size) (t : Nat) (x : Operand) (h : (yQ P s.sto.find t (s.ev x)).wp P q s dst k g K) :
  Good P B F a dst g K (Instr.loadAt t (a.eval x)) w := by
 have hx := hR.eval x
 generalize s.ev x = p at h hx
 generalize a.eval x = v at hx
 unfold yQ at h
 split at h
 ·simp [Res.wp] at h
 ·rename_i hkd
  have hk : (zH P t).kd ≠ .none := hkd
  split at h
  ·rename_i k' g' off
   split at h
   ·rename_i g'' cs hf
    simp only [Res.wp] at h
    obtain ⟨rfl, h⟩ := h
    obtain ⟨sl, h1, h2, b, vs, et, h3, h4, h5, h6⟩ := hR.sto k' g' _ hf
    cases hx with
    | box _ _ _ _ _ hu hs hx =>
     have hv := hx sl b h1 h2 h3
     subst hv
     obtain ⟨v, p, hr, hp, hK⟩ := aaN hk h5 (base := 0) (vs := vs) (by intro i hi; simp) h6 h
     rw [Nat.zero_add] at hr
     exact zP hR hd (by simpa [Instr.loadAt, Instr.sureAddr] using hr) hp hK
   ·simp [Res.wp] at h
  ·rename_i k' g' i off
   split at h
   ·rename_i g'' f sz xs hf
    simp only [Res.wp] at h
    obtain ⟨⟨rfl, hi⟩, h⟩ := h
    obtain ⟨sl, h1, h2, h3⟩ := hR.sto k' g' _ hf
    obtain ⟨h4, h5, b, c, vs, et, fr, h6, h7, h8, h9, h10⟩ := abd hR.agree h3 (by intro e; subst e; simp at hi)
    cases hx with
    | elt _ _ _ _ _ _ hu hs hx =>
     have hv := hx sl b h1 h2 h6
     subst hv
     have hlen := h10.length
     have hfl := vY xs h5
     have hmul : (i + 1) * sz ≤ xs.length * sz := Nat.mul_le_mul_right _ hi
     have hsl : zI H L ((vs.drop (i * sz)).take sz) (xs.getD i .undef).cells := by
      rw [← flat_get xs i h5 hi]
      exact ((h10.drop _).take _).none
     obtain ⟨v, p, hr, hp, hK⟩ := aaN hk h7 (base := i * sz) (vs := (vs.drop (i * sz)).take sz) (fun j hj => by
      simp only [List.length_take, List.length_drop] at hj
      rw [h8 (i * sz + j) (by omega), List.getElem?_take]
      simp [show j < sz by omega]) hsl h
     rw [h4]
     exact zP hR hd (by simpa [Instr.loadAt, Instr.sureAddr] using hr) hp hK
   ·simp [Res.wp] at h
  ·rename_i cs
   cases hx with
   | ref _ b off c vs _ hH hv hr =>
    obtain ⟨et, fr, hb⟩ := hR.agree b c hH
    obtain ⟨v, p, hr', hp, hK⟩ := aaN hk hb (base := off) (vs := vs) hv (hr.none (L := L)) h
    rw [Nat.add_zero] at hr'
    exact zP hR hd (by simpa [Instr.loadAt, Instr.sureAddr] using hr') hp hK
  ·simp [Res.wp] at h
end
end Go.Proofs.YtclohbgnaopjfaaDoor
namespace Go.Proofs.YtclohbgnaopjfaaDoor
set_option linter.unusedSimpArgs false
set_option linter.unusedVariables false
open Go
section
variable {P : Program} {B : Base} {F : Nat → Prop} {H : Imm} {L : Lay} {s : St} {a : Act} {w : World} {q : Bool} {dst : Option Nat} {k g : Nat} {K : St → Prop}
theorem agH (hR : Rel B F H L s a w) (hd : ∀ d, dst = some d → d < a.tmps.size) (t : Nat) (x : Operand) (f : Nat) (h : (kv P s.sto.find t (s.ev x) f).wp P q s dst k g K) :
  Good P B F a dst g K (Instr.fieldAt t (a.eval x) f) w := by
 have hx := hR.eval x
 generalize s.ev x = p at h hx
 generalize a.eval x = v at hx
 unfold kv at h
 split at h
 ·rename_i fs hkd
  obtain ⟨xs, hu, hfs⟩ := ahx hkd
  split at h
  ·rename_i ft fo hf
   simp only [Res.wp] at h
   obtain ⟨hsz, h⟩ := h
   obtain ⟨fl, hfl, hft, hfo⟩ : ∃ fl : Field, xs[f]? = some fl ∧ fl.type = ft ∧ fl.offset = fo := by
    rw [hfs] at hf
    simp only [List.getElem?_map, Array.getElem?_toList] at hf
    cases hq : xs[f]? with
    | none => simp [hq] at hf
    | some fl =>
     simp only [hq, Option.map_some, Option.some.injEq, Prod.mk.injEq] at hf
     exact ⟨fl, rfl, hf.1, hf.2⟩
   subst hft; subst hfo
   have hrun : ∀ b o, (Instr.fieldAt t (.pointer (some ⟨b, o, none⟩)) f).run P w = .ok (.pointer (some ⟨b, o + fl.offset, none⟩)) w := by
    intro b o
    simp only [Instr.fieldAt, Sem.run_bind, run_underlying hu w, Result.andThen_ok, hfl, Instr.sureAddr, Sem.run_pure, fieldPlace, JG hsz, hsz, if_false, addr_add]
   split at h
   ·rename_i k' g' off
    split at h
    ·rename_i g'' cs hf
     simp only [Res.wp] at h
     obtain ⟨rfl, h⟩ := h
     obtain ⟨sl, h1, h2, b, vs, et, h3, h4, h5, h6⟩ := hR.sto k' g' _ hf
     cases hx with
     | box _ _ _ _ _ hu' hs hx =>
      have hv := hx sl b h1 h2 h3
      subst hv
      exact zP hR hd (hrun b off) (.box _ _ _ _ _ hu' ⟨_, rfl⟩ fun sl' b' h1' h2' h3' => by rw [h1] at h1'; cases h1'; rw [h3] at h3'; cases h3'; rfl) h
    ·simp [Res.wp] at h
   ·rename_i k' g' i off
    split at h
    ·rename_i g'' fr sz ys hf
     simp only [Res.wp] at h
     obtain ⟨⟨rfl, hne⟩, h⟩ := h
     obtain ⟨sl, h1, h2, h3⟩ := hR.sto k' g' _ hf
     obtain ⟨h4, h5, b, c, vs, et, fr, h6, h7, h8, h9, h10⟩ := abd hR.agree h3 hne
     cases hx with
     | elt _ _ _ _ _ _ hu' hs hx =>
      have hv := hx sl b h1 h2 h6
      subst hv
      exact zP hR hd (hrun b _) (.elt _ _ _ _ _ _ hu' ⟨_, rfl⟩ fun sl' b' h1' h2' h3' => by rw [h1] at h1'; cases h1'; rw [h6] at h3'; cases h3'; rw [Nat.add_assoc]) h
    ·simp [Res.wp] at h
   ·rename_i cs
    simp only [Res.wp] at h
    obtain ⟨hle, h⟩ := h
    cases hx with
    | ref _ b off c vs _ hH hv hr =>
     refine zP hR hd (hrun b off) (.ref _ _ _ c (vs.drop fl.offset) _ hH (fun i hi => ?_) (hr.drop _)) h
     simp only [List.length_drop] at hi
     rw [Nat.add_assoc, hv (fl.offset + i) (by omega)]
     simp
   ·simp [Res.wp] at h
  ·simp [Res.wp] at h
 ·simp [Res.wp] at h
theorem ah5 (hR : Rel B F H L s a w) (hd : ∀ d, dst = some d → d < a.tmps.size) (x : Operand) (h : (kP s.sto.find (s.ev x)).wp P q s dst k g K) :
  ∃ b, a.eval x = .pointer (some b) ∧ Good P B F a dst g K (pure (.pointer (some b))) w := by
 have hx := hR.eval x
 generalize s.ev x = p at h hx
 generalize a.eval x = u at hx
 unfold kP at h
 split at h
 ·rename_i k' g' off
  split at h
  ·rename_i g'' cs hf
   simp only [Res.wp] at h
   obtain ⟨rfl, h⟩ := h
   obtain ⟨sl, e1, e2, b, vs, t, e3, _⟩ := hR.sto _ _ _ hf
   have hx' := hx
   cases hx with
   | box _ _ _ _ _ hu hs hx =>
    have hv := hx sl b e1 e2 e3
    subst hv
    exact ⟨_, rfl, zP hR hd rfl hx' h⟩
  ·simp [Res.wp] at h
 ·rename_i k' g' i off
  split at h
  ·rename_i g'' fr sz xs hf
   simp only [Res.wp] at h
   obtain ⟨⟨rfl, hne⟩, h⟩ := h
   obtain ⟨sl, e1, e2, e3⟩ := hR.sto _ _ _ hf
   obtain ⟨b, e4⟩ : ∃ b, sl.block = some b := by
    cases fr with
    | true =>
     obtain ⟨_, _, _, e3⟩ := e3
     rcases e3 with ⟨_, e3⟩ | ⟨b, c, vs, e3, _⟩
     ·exact (hne e3).elim
     ·exact ⟨b, e3⟩
    | false =>
     obtain ⟨_, _, hcap, e3⟩ := e3
     rcases e3 with ⟨_, e3⟩ | ⟨b, vs, rest, t, e3, _⟩
     ·exact (hne (List.eq_nil_of_length_eq_zero (by omega))).elim
     ·exact ⟨b, e3⟩
   have hx' := hx
   cases hx with
   | elt _ _ _ _ _ _ hu hs hx =>
    have hv := hx sl b e1 e2 e4
    subst hv
    exact ⟨_, rfl, zP hR hd rfl hx' h⟩
  ·simp [Res.wp] at h
 ·rename_i cs
  simp only [Res.wp] at h
  have hx' := hx
  cases hx with
  | ref _ b off c vs ps hH hv hr => exact ⟨_, rfl, zP hR hd rfl hx' h⟩
 ·simp [Res.wp] at h
theorem anP (hR : Rel B F H L s a w) (hd : ∀ d, dst = some d → d < a.tmps.size) (t : Nat) (x : Operand) (f : Nat) (h : (Xd P t (s.ev x) f).wp P q s dst k g K) :
  Good P B F a dst g K (Instr.field t (a.eval x) f) w := by
 have hx := hR.eval x
 generalize s.ev x = p at h hx
 generalize a.eval x = v at hx
 unfold Xd at h
 split at h
 ·rename_i fs cs hkd
  obtain ⟨xs, hu, hfs⟩ := ahx hkd
  split at h
  ·rename_i ft fo hf
   obtain ⟨fl, hfl, hft, hfo⟩ : ∃ fl : Field, xs[f]? = some fl ∧ fl.type = ft ∧ fl.offset = fo := by
    rw [hfs] at hf
    simp only [List.getElem?_map, Array.getElem?_toList] at hf
    cases hq : xs[f]? with
    | none => simp [hq] at hf
    | some fl =>
     simp only [hq, Option.map_some, Option.some.injEq, Prod.mk.injEq] at hf
     exact ⟨fl, rfl, hf.1, hf.2⟩
   subst hft; subst hfo
   cases hx with
   | agg _ vs _ hr =>
    have hlen := hr.length
    have hfield : ∀ r, (part fl.type vs.toArray fl.offset).run P w = r → (Instr.field t (.agg vs.toArray) f).run P w = r := by
     intro r hr
     simp only [Instr.field, Sem.run_bind, run_underlying hu w, Result.andThen_ok, hfl, asAgg, Sem.run_pure, hr]
    simp only [Res.wp] at h
    obtain ⟨hz, h⟩ := h
    have hk : (zH P fl.type).kd ≠ .none := yB rfl hz
    cases ha : (zH P fl.type).agg with
    | true =>
     simp only [Yy, ha, Res.wp] at h
     obtain ⟨h1, h2⟩ := h
     refine zP hR hd (hfield _ ?_) (.agg _ _ _ ((hr.drop fl.offset).take (zH P fl.type).size)) h2
     simp only [part, Sem.run_bind, Xh hk, Result.andThen_ok, ha, if_true, jN hk, Sem.run_pure]
     congr 2
     apply Array.ext'
     simp
    | false =>
     simp only [Yy, ha, Res.wp] at h
     obtain ⟨h1, h2⟩ := h
     obtain ⟨v, hv1, hv2⟩ := hr.get _ h1
     refine zP hR hd (hfield _ ?_) hv2 h2
     simp only [part, Sem.run_bind, Xh hk, Result.andThen_ok, ha, Bool.false_eq_true, if_false]
     have : vs.toArray[fl.offset]? = some v := by simpa using hv1
     simp only [this, Sem.run_pure]
  ·simp [Res.wp] at h
 ·simp [Res.wp] at h
theorem agD (hR : Rel B F H L s a w) (hd : ∀ d, dst = some d → d < a.tmps.size) (t : Nat) (x i : Operand) (h : (xu P s.sto.find t (s.ev x) (s.ev i)).wp P q s dst k g K) :
  Good P B F a dst g K (Instr.indexAt t (a.eval x) (a.eval i)) w := by
 have hx := hR.eval x
 have hi := hR.eval i
 generalize s.ev x = p at h hx
 generalize s.ev i = pi at h hi
 generalize a.eval x = v at hx
 generalize a.eval i = vi at hi
 unfold xu at h
 split at h
 ·rename_i e sz xs ki n hkd
  have hu := jR hkd
  simp only [Res.wp] at h
  obtain ⟨⟨h0, hn, hsz, hz⟩, h⟩ := h
  cases hi
  cases hx with
  | wN => simp at hn; omega
  | list _ b off len cap _ c vs _ hH hlen hcap hs1 h1 hv hr =>
   have hnl : n.toNat < xs.length := by omega
   obtain ⟨x0, hx0⟩ : ∃ x0, x0 ∈ xs := ⟨xs[n.toNat], List.getElem_mem hnl⟩
   have hfl := vY xs hs1
   have hlv := hr.length
   have hmul : (n.toNat + 1) * sz ≤ xs.length * sz := Nat.mul_le_mul_right _ hnl
   have hsl : zI H Lay.none ((vs.drop (n.toNat * sz)).take sz) (xs.getD n.toNat .undef).cells := by
    rw [← flat_get xs n.toNat hs1 hnl]
    exact ((hr.drop _).take _)
   have hrun : (Instr.indexAt t (.slice (some ⟨b, off, none⟩) len cap) (.int ki n)).run P w = .ok (.pointer (some ⟨b, off + n.toNat * sz, none⟩)) w := by
    have hlt : n < (len : Int) := by omega
    rw [hsz] at hz
    simp only [Instr.indexAt, asIntOf, Sem.run_bind, Sem.run_pure, Result.andThen_ok, run_underlying hu w, h0, hlt, and_self, if_true, JG hz, addr_add, hsz]
   refine zP hR hd hrun (.ref _ _ _ c _ _ hH (fun j hj => ?_) hsl) h
   simp only [List.length_take, List.length_drop] at hj
   rw [Nat.add_assoc, hv (n.toNat * sz + j) (by omega), List.getElem?_take]
   simp [show j < sz by omega]
 ·rename_i e k' g' m ki n hkd
  have hu := jR hkd
  split at h
  ·rename_i g'' f sz xs hf
   simp only [Res.wp] at h
   obtain ⟨⟨rfl, hsz, hz, h0, hn, hm⟩, h⟩ := h
   obtain ⟨sl, h1, h2, h3⟩ := hR.sto k' g' _ hf
   obtain ⟨h4, h5, b, c, vs, et, fr, h6, h7, h8, h9, h10⟩ := abd hR.agree h3 (by intro e; subst e; simp at hm; omega)
   cases hi
   cases hx with
   | row _ _ _ _ _ hu' hs hx =>
    have hv := hx sl h1 h2
    rw [h6] at hv
    subst hv
    have hrun : (Instr.indexAt t (.slice (some ⟨b, 0, none⟩) m sl.cap) (.int ki n)).run P w = .ok (.pointer (some ⟨b, n.toNat * sz, none⟩)) w := by
     rw [hsz] at hz
     simp only [Instr.indexAt, asIntOf, Sem.run_bind, Sem.run_pure, Result.andThen_ok, run_underlying hu w, h0, hn, and_self, if_true, JG hz, addr_add, hsz, Nat.zero_add]
    exact zP hR hd (by simpa using hrun) (.elt _ _ _ _ _ _ hu' ⟨_, rfl⟩ fun sl' b' h1' h2' h3' => by rw [h1] at h1'; cases h1'; rw [h6] at h3'; cases h3'; rw [h4, Nat.add_zero]) h
  ·simp [Res.wp] at h
 ·simp [Res.wp] at h
theorem aim (hR : Rel B F H L s a w) (hd : ∀ d, dst = some d → d < a.tmps.size) (t : Nat) (x i : Operand) (h : (QB P t (s.ev x) (s.ev i)).wp P q s dst k g K) :
  Good P B F a dst g K (Instr.index t (a.eval x) (a.eval i)) w := by
 have hx := hR.eval x
 have hi := hR.eval i
 generalize s.ev x = p at h hx
 generalize s.ev i = pi at h hi
 generalize a.eval x = v at hx
 generalize a.eval i = vi at hi
 unfold QB at h
 split at h
 ·rename_i b ki n hkd
  have hu := QK hkd
  simp only [Res.wp] at h
  obtain ⟨⟨h0, hn⟩, h⟩ := h
  cases hi
  cases hx
  refine zP hR hd (v := .int .u8 (b.getD n.toNat 0).toNat) ?_ (.int _ _ _) h
  have hlt : n.toNat < b.length := by omega
  have hg : (ByteArray.mk b.toArray)[n.toNat]? = some (b.getD n.toNat 0) := by
   rw [ByteArray.getElem?_lt' _ _ (by show n.toNat < b.toArray.size; simpa using hlt)]
   congr 1
   show b.toArray[n.toNat] = _
   simp [List.getD, List.getElem?_eq_getElem hlt]
  simp only [Instr.index, asIntOf, Sem.run_bind, Sem.run_pure, Result.andThen_ok, run_underlying hu w, h0, if_true, hg]
 ·simp [Res.wp] at h
theorem ajj (hR : Rel B F H L s a w) (hd : ∀ d, dst = some d → d < a.tmps.size) (x : Operand) (i : Nat) (h : (Ka (s.ev x) i).wp P q s dst k g K) :
  Good P B F a dst g K (Instr.extract (a.eval x) i) w := by
 have hx := hR.eval x
 generalize s.ev x = p at h hx
 generalize a.eval x = v at hx
 unfold Ka at h
 split at h
 ·rename_i vs
  simp only [Res.wp] at h
  obtain ⟨hi, h⟩ := h
  cases hx with
  | tup _ us _ hr =>
   obtain ⟨v, hv1, hv2⟩ := hr.get i hi
   refine zP hR hd (v := v) ?_ hv2 h
   have : us.toArray[i]? = some v := by simpa using hv1
   simp only [Instr.extract, this, Sem.run_pure]
 ·simp [Res.wp] at h
theorem ar6 (hR : Rel B F H L s a w) (hd : ∀ d, dst = some d → d < a.tmps.size) (t ty : Nat) (ts : List Nat) (x : Operand) (more : List Value)
  (h : (ae9 P t (s.ev x)).wp P q s dst k g K) : Good P B F a dst g K (Builtin.len_ (t :: ts).toArray ty (a.eval x :: more).toArray) w := by
 have hx := hR.eval x
 generalize s.ev x = p at h hx
 generalize a.eval x = v at hx
 unfold ae9 at h
 split at h
 ·rename_i hk
  split at h
  ·rename_i b
   simp only [Res.wp] at h
   cases hx
   have hs : (ByteArray.mk b.toArray).size = b.length := by show b.toArray.size = _; simp
   refine zP hR hd (v := .int .i64 b.length) ?_ (.int _ _ _) h
   simp [Builtin.len_, run_underlying (QK hk) w, goInt, hs]
  ·simp [Res.wp] at h
 ·rename_i e he
  have hsl : ∀ (ad : Option Addr) (n c : Nat), v = .slice ad n c → (Builtin.len_ (t :: ts).toArray ty (v :: more).toArray).run P w = .ok (.int .i64 n) w := by
   rintro ad n c rfl
   simp [Builtin.len_, run_underlying (jR he) w, goInt]
  split at h
  ·simp only [Res.wp] at h
   cases hx
   exact zP hR hd (hsl _ _ _ rfl) (.int _ _ _) h
  ·rename_i sz xs
   simp only [Res.wp] at h
   cases hx with
   | wN => exact zP hR hd (hsl _ _ _ rfl) (.int _ _ _) h
   | list _ b off len cap _ c vs _ hH hlen hcap hs1 h1 hv hr =>
    subst hlen
    exact zP hR hd (hsl _ _ _ rfl) (.int _ _ _) h
  ·rename_i k' g' n
   simp only [Res.wp] at h
   cases hx with
   | row _ _ _ _ _ hu' hs hx =>
    obtain ⟨ad, c, rfl⟩ := hs
    exact zP hR hd (hsl _ _ _ rfl) (.int _ _ _) h
  ·simp [Res.wp] at h
 ·simp [Res.wp] at h
end
end Go.Proofs.YtclohbgnaopjfaaDoor
namespace Go.Proofs.YtclohbgnaopjfaaDoor
set_option linter.unusedSimpArgs false
set_option linter.unusedVariables false
open Go
section
variable {P : Program} {B : Base} {F : Nat → Prop} {H : Imm} {L : Lay} {s : St} {a : Act} {w : World} {q : Bool} {dst : Option Nat} {k g : Nat} {K : St → Prop}
theorem xq (hR : Rel B F H L s a w) (hd : ∀ d, dst = some d → d < a.tmps.size) {sem : Sem Value} (b : Bool) (hr : sem.run P w = .ok (.bool b) w) (hK : K (s.put dst (.bool b))) :
  Good P B F a dst g K sem w := zP hR hd hr (.bool _ _) hK
theorem V3 (hR : Rel B F H L s a w) (hd : ∀ d, dst = some d → d < a.tmps.size) {sem : Sem Value} (j : IntKind) (n : Int) (hr : sem.run P w = .ok (.int j n) w) (hK : K (s.put dst (.int j n))) :
  Good P B F a dst g K sem w := zP hR hd hr (.int _ _ _) hK
theorem anm (hR : Rel B F H L s a w) (hd : ∀ d, dst = some d → d < a.tmps.size) (op : BinOp) (j : IntKind) (x y : Int) (t : Nat) (sem : Sem Value)
  (hsem : sem.run P w = (binOp op t (.int j x) (.int j y)).run P w) (h : (aop op j x y).wp P q s dst k g K) : Good P B F a dst g K sem w := by
 cases op <;> simp only [aop, Res.wp] at h
 case add => exact V3 hR hd j _ (by rw [hsem]; simp [binOp, Op.intArith]) h
 case sub => exact V3 hR hd j _ (by rw [hsem]; simp [binOp, Op.intArith]) h
 case mul => exact V3 hR hd j _ (by rw [hsem]; simp [binOp, Op.intArith]) h
 case quo => exact V3 hR hd j _ (by rw [hsem]; simp [binOp, Op.intDiv, h.1]) h.2
 case rem => exact V3 hR hd j _ (by rw [hsem]; simp [binOp, Op.intDiv, h.1]) h.2
 case and => exact V3 hR hd j _ (by rw [hsem]; simp [binOp, Op.intBits]) h
 case eql => exact xq hR hd _ (by rw [hsem]; simp [binOp, Op.intCmp]) h
 case neq => exact xq hR hd _ (by rw [hsem]; simp [binOp, Op.intCmp]) h
 case lss => exact xq hR hd _ (by rw [hsem]; simp [binOp, Op.intCmp]) h
 case leq => exact xq hR hd _ (by rw [hsem]; simp [binOp, Op.intCmp]) h
 case gtr => exact xq hR hd _ (by rw [hsem]; simp [binOp, Op.intCmp]) h
 case geq => exact xq hR hd _ (by rw [hsem]; simp [binOp, Op.intCmp]) h
theorem an3 (hR : Rel B F H L s a w) (hd : ∀ d, dst = some d → d < a.tmps.size) (op : BinOp) (x y : List UInt8) (t : Nat) (sem : Sem Value)
    (hsem : sem.run P w = (binOp op t (.string ⟨x.toArray⟩) (.string ⟨y.toArray⟩)).run P w) (h : (anQ op x y).wp P q s dst k g K) : Good P B F a dst g K sem w := by
  cases op <;> simp only [anQ, Res.wp] at h
  case add =>
    refine zP hR hd (v := .string ⟨(x ++ y).toArray⟩) ?_ (.str _ _) h.2
    have h1 := h.1
    unfold amD at h1
    rw [hsem, show binOp .add t (.string ⟨x.toArray⟩) (.string ⟨y.toArray⟩) = Op.stringOp .add ⟨x.toArray⟩ ⟨y.toArray⟩ by simp [binOp],
      run_string_add_sum (P := P) w _ _ (by show x.toArray.size + y.toArray.size ≤ _; simpa using h1), ByteArray.mk_append_mk]
  case eql => exact xq hR hd _ (by rw [hsem]; simp [binOp, Op.stringOp]) h
  case neq => exact xq hR hd _ (by rw [hsem]; simp [binOp, Op.stringOp]) h
  case lss => exact xq hR hd _ (by rw [hsem]; simp [binOp, Op.stringOp]) h
  case leq => exact xq hR hd _ (by rw [hsem]; simp [binOp, Op.stringOp]) h
  case gtr => exact xq hR hd _ (by rw [hsem]; simp [binOp, Op.stringOp]) h
  case geq => exact xq hR hd _ (by rw [hsem]; simp [binOp, Op.stringOp]) h
def ZI : Bool → BinOp
 | true => .neq
 | false => .eql
theorem aaR (d : Nat) (xs ys : Array Value) : ∀ (fs : List Field) (i : Nat) (us vs : List Value) (as bs : List PV) (c : Bool),
  (∀ f ∈ fs, f.name ≠ "_") → fs.map (·.offset) = List.range' i fs.length → (∀ j, us[j]? = xs[i + j]?) → (∀ j, vs[j]? = ys[i + j]?) → zI H L us as → zI H L vs bs →
  Vu P (fs.map fun f => (f.type, f.offset)) as bs = some c → (Op.eqFields (d + 1) xs ys fs).run P w = .ok c w
 | [], i, us, vs, as, bs, c, _, _, _, _, _, _, hc => by
  cases as <;> cases bs <;> simp [Vu] at hc
  subst hc
  simp [Op.eqFields]
 | f :: fs, i, us, vs, as, bs, c, hn, ho, hu, hv, ha, hb, hc => by
  cases ha with
  | nil => simp [Vu] at hc
  | cons _ u x us as hx ha =>
   cases hb with
   | nil => simp [Vu] at hc
   | cons _ v y vs bs hy hb =>
    simp only [List.map_cons, Vu] at hc
    cases hl : alR (zH P f.type).kd x y with
    | none => simp [hl] at hc
    | some b =>
     cases hr : Vu P (fs.map fun f => (f.type, f.offset)) as bs with
     | none => simp [hl, hr] at hc
     | some c' =>
      simp only [hl, hr, Option.some.injEq] at hc
      subst hc
      simp only [List.map_cons, List.length_cons, List.range'_succ, List.cons.injEq] at ho
      obtain ⟨ho1, ho2⟩ := ho
      have ih := aaR d xs ys fs (i + 1) us vs as bs c' (fun f hf => hn f (by simp [hf])) ho2
       (fun j => by have := hu (j + 1); simpa [Nat.add_assoc, Nat.add_comm 1 j] using this) (fun j => by have := hv (j + 1); simpa [Nat.add_assoc, Nat.add_comm 1 j] using this) ha hb hr
      have hxi : xs[i]? = some u := by have := hu 0; simpa using this.symm
      have hyi : ys[i]? = some v := by have := hv 0; simpa using this.symm
      have hpart : ∀ (zs : Array Value) (z : Value), zs[i]? = some z → (zH P f.type).kd ≠ .none → (zH P f.type).agg = false → (part f.type zs f.offset).run P w = .ok z w := by
       intro zs z hz hk ha
       simp only [part, Sem.run_bind, Xh hk, Result.andThen_ok, ha, Bool.false_eq_true, if_false, ho1, hz, Sem.run_pure]
      have hmain : (Op.equalIn (d + 1) f.type u v).run P w = .ok b w ∧ (zH P f.type).kd ≠ .none ∧ (zH P f.type).agg = false := by
       unfold alR at hl
       split at hl
       ·rename_i p r hkd
        cases hx; cases hy
        simp only [Option.some.injEq] at hl
        obtain ⟨ii, dd, e1, e2, e3, e4, e5, e6, _⟩ := y7 hkd (by simp)
        have := ak1 e3
        subst this
        exact ⟨by rw [run_equalIn_bool' w d f.type p r (anN hkd), hl], by simp [hkd], by rw [e6]; rfl⟩
       ·rename_i jj k1 p k2 r hkd
        cases hx; cases hy
        split at hl
        ·rename_i hkk
         subst hkk
         simp only [Option.some.injEq] at hl
         obtain ⟨ii, dd, e1, e2, e3, e4, e5, e6, _⟩ := y7 hkd (by simp)
         have := anF e3
         subst this
         exact ⟨by rw [run_equalIn_int w d f.type _ _ p r (Ya hkd), hl], by simp [hkd], by rw [e6]; rfl⟩
        ·simp at hl
       ·rename_i p r hkd
        cases hx; cases hy
        simp only [Option.some.injEq] at hl
        obtain ⟨ii, dd, e1, e2, e3, e4, e5, e6, _⟩ := y7 hkd (by simp)
        have := aoH e3
        subst this
        exact ⟨by rw [run_equalIn_string w d f.type _ _ (QK hkd)]; simp [hl], by simp [hkd], by rw [e6]; rfl⟩
       ·simp at hl
      obtain ⟨h1, h2, h3⟩ := hmain
      simp only [Op.eqFields, hn f (by simp), ne_eq, not_false_eq_true, if_true, Sem.run_bind, hpart xs u hxi h2 h3, hpart ys v hyi h2 h3, Result.andThen_ok, h1]
      cases b
      ·simp
      ·simpa using ih
theorem ahP (d t e : Nat) (w : World) (h : P.underlying t = some (.slice e)) : (Op.equalIn (d + 1) t (.slice none 0 0) (.slice none 0 0)).run P w = .ok true w := by
 simp [Op.equalIn, run_underlying h]
theorem adG (d t e : Nat) (al : Option Addr) (ll cl : Nat) (w : World) (h : P.underlying t = some (.slice e)) : (Op.equalIn (d + 1) t (.slice al ll cl) (.slice none 0 0)).run P w = .ok al.isNone w := by
 cases al <;> simp [Op.equalIn, run_underlying h]
theorem amu (d t : Nat) (ms : Array (String × TypeId)) (w : World) (h : P.underlying t = some (.interface ms)) : (Op.equalIn (d + 1) t .nilIface .nilIface).run P w = .ok true w := by
 simp [Op.equalIn, run_underlying h]
theorem ah1 (d t tx : Nat) (vx : Value) (ms : Array (String × TypeId)) (w : World) (h : P.underlying t = some (.interface ms)) : (Op.equalIn (d + 1) t (.iface tx vx) .nilIface).run P w = .ok false w := by
 simp [Op.equalIn, run_underlying h]
theorem Xm (neg : Bool) (t : Nat) (u v : Value) (b : Bool) (w : World) (he : binOp .eql t u v = (do pure (.bool (← Op.equal t u v)))) (hn : binOp .neq t u v = (do pure (.bool (!(← Op.equal t u v)))))
  (h : (Op.equalIn 10000 t u v).run P w = .ok b w) : (binOp (ZI neg) t u v).run P w = .ok (.bool (b != neg)) w := by
 have h' : (Op.equal t u v).run P w = .ok b w := h
 cases neg
 ·simp only [ZI, he, Sem.run_bind, h', Result.andThen_ok, Sem.run_pure]
  simp
 ·simp only [ZI, hn, Sem.run_bind, h', Result.andThen_ok, Sem.run_pure]
  simp
theorem amV (hR : Rel B F H L s a w) (hd : ∀ d, dst = some d → d < a.tmps.size) (neg : Bool) (t : Nat) (x y : Operand)
  (h : (aoN P (zH P t) neg (s.ev x) (s.ev y)).wp P q s dst k g K) :
  Good P B F a dst g K (do eqGuard (ZI neg) t x y (a.eval x) (a.eval y); binOp (ZI neg) t (a.eval x) (a.eval y)) w := by
 have hx := hR.eval x
 have hy := hR.eval y
 generalize s.ev x = p at h hx
 generalize s.ev y = r at h hy
 generalize a.eval x = u at hx
 generalize a.eval y = v at hy
 unfold aoN at h
 split at h
 ·rename_i b c hkd
  simp only [Res.wp] at h
  cases hx; cases hy
  have hb := anN hkd
  refine zP hR hd (v := .bool ((b == c) != neg)) ?_ (.bool _ _) h
  have hg : (eqGuard (ZI neg) t x y (.bool b) (.bool c)).run P w = .ok () w := by cases neg <;> simp [ZI, eqGuard]
  simp only [Sem.run_bind, hg, Result.andThen_ok]
  exact Xm neg t _ _ _ w (by simp only [binOp]) (by simp only [binOp]) (run_equalIn_bool' w 9999 t b c hb)
 ·rename_i e hkd
  simp only [Res.wp] at h
  cases hx; cases hy
  have hb := jR hkd
  refine zP hR hd (v := .bool (!neg)) ?_ (.bool _ _) h
  have hg : (eqGuard (ZI neg) t x y (.slice none 0 0) (.slice none 0 0)).run P w = .ok () w := by cases neg <;> simp [ZI, eqGuard]
  simp only [Sem.run_bind, hg, Result.andThen_ok]
  have := Xm neg t _ _ _ w (by simp only [binOp]) (by simp only [binOp]) (ahP 9999 t e w hb)
  simpa using this
 ·rename_i e sz xs hkd
  simp only [Res.wp] at h
  cases hy
  have hb := jR hkd
  have hg : ∀ u, (eqGuard (ZI neg) t x y u (.slice none 0 0)).run P w = .ok () w := fun u => by cases neg <;> cases u <;> simp [ZI, eqGuard]
  have hsl : ∀ al ll cl, (Op.equalIn 10000 t (.slice al ll cl) (.slice none 0 0)).run P w = .ok al.isNone w := fun al ll cl => adG 9999 t e al ll cl w hb
  have done : ∀ al ll cl, (al = none → xs = []) → Good P B F a dst g K (do eqGuard (ZI neg) t x y (.slice al ll cl) (.slice none 0 0); binOp (ZI neg) t (.slice al ll cl) (.slice none 0 0)) w := by
   intro al ll cl hnil
   refine zP hR hd (v := .bool (al.isNone != neg)) (p := .bool (al.isNone != neg)) ?_ (.bool _ _) ?_
   ·simp only [Sem.run_bind, hg, Result.andThen_ok]
    exact Xm neg t _ _ _ w (by simp only [binOp]) (by simp only [binOp]) (hsl al ll cl)
   ·cases al with
    | none => have := h.2.1 (hnil rfl); cases neg <;> exact this
    | some ad => have := h.2.2; cases neg <;> exact this
  cases hx with
  | wN _ al cl _ => exact done al 0 cl (fun _ => rfl)
  | list _ b off len cap _ c vs _ hH hlen hcap hsz h1 hv hr => exact done _ _ _ (fun hh => by cases hh)
 ·rename_i fs as bs hkd
  split at h
  ·rename_i hfl
   split at h
   ·rename_i c hc
    simp only [Res.wp] at h
    obtain ⟨i, d, e1, e2, e3, e4, e5, e6, e7, e8⟩ := y7 hkd (by simp)
    obtain ⟨xs, rfl, hfs⟩ := aaH e3
    rw [e8] at hfl
    simp only [amO, Bool.and_eq_true, Bool.not_eq_true', beq_iff_eq, Array.all_eq_true', bne_iff_ne] at hfl
    obtain ⟨⟨⟨g1, g2⟩, g3⟩, g4⟩ := hfl
    cases hx with
    | agg _ us _ hx =>
     cases hy with
     | agg _ vs _ hy =>
      have hf : P.fieldsOf t = xs := by simp [Program.fieldsOf, e2]
      have hrun := aaR (P := P) (w := w) (H := H) (L := L) 9998 us.toArray vs.toArray xs.toList 0 us vs as bs c (fun f hf => g4 f (by simpa using hf)) (by rw [g3, List.range_eq_range']; simp) (by intro j; simp) (by intro j; simp) hx hy (by rw [← hfs]; exact hc)
      have hrun' : (Op.equalIn 10000 t (.agg us.toArray) (.agg vs.toArray)).run P w = .ok c w := by
       rw [run_equalIn_struct w 9999 t _ _ (by rw [hf, e2]) g1, hf]
       exact hrun
      refine zP hR hd (v := .bool (c != neg)) ?_ (.bool _ _) h
      cases neg
      ·simp only [ZI, Sem.run_bind, run_eqGuard_agg w _ t x y _ _ g2, Result.andThen_ok, run_eql_struct, hrun']
       simp
      ·simp only [ZI, Sem.run_bind, run_eqGuard_agg w _ t x y _ _ g2, Result.andThen_ok, run_neq_struct, hrun']
       simp
   ·simp [Res.wp] at h
  ·simp [Res.wp] at h
 ·simp [Res.wp] at h
theorem akz (hR : Rel B F H L s a w) (hd : ∀ d, dst = some d → d < a.tmps.size) (neg : Bool) (t : Nat) (x y : Operand) (hk : (zH P t).kd = .iface)
  (h : (ai2 neg (s.ev x) y).wp P q s dst k g K) :
  Good P B F a dst g K (do eqGuard (ZI neg) t x y (a.eval x) (a.eval y); binOp (ZI neg) t (a.eval x) (a.eval y)) w := by
 have hx := hR.eval x
 generalize s.ev x = p at h hx
 obtain ⟨ms, hu⟩ := ard hk
 unfold ai2 at h
 split at h
 ·have hy : a.eval (.const .nilIface) = .nilIface := rfl
  rw [hy]
  generalize a.eval x = u at hx
  split at h
  ·simp only [Res.wp] at h
   cases hx
   refine zP hR hd (v := .bool (!neg)) ?_ (.bool _ _) h
   have hg : (eqGuard (ZI neg) t x (.const .nilIface) .nilIface .nilIface).run P w = .ok () w := by cases neg <;> simp [ZI, eqGuard]
   simp only [Sem.run_bind, hg, Result.andThen_ok]
   have := Xm neg t _ _ _ w (by simp only [binOp]) (by simp only [binOp]) (amu 9999 t ms w hu)
   simpa using this
  ·rename_i tx pv
   simp only [Res.wp] at h
   cases hx with
   | iface _ _ vx _ hp' =>
    refine zP hR hd (v := .bool neg) ?_ (.bool _ _) h
    have hg : (eqGuard (ZI neg) t x (.const .nilIface) (.iface tx vx) .nilIface).run P w = .ok () w := by cases neg <;> simp [ZI, eqGuard]
    simp only [Sem.run_bind, hg, Result.andThen_ok]
    have := Xm neg t _ _ _ w (by simp only [binOp]) (by simp only [binOp]) (ah1 9999 t tx vx ms w hu)
    simpa using this
  ·simp [Res.wp] at h
 ·simp [Res.wp] at h
theorem anq (hR : Rel B F H L s a w) (hd : ∀ d, dst = some d → d < a.tmps.size) (op : BinOp) (t : Nat) (x y : Operand)
  (h : (afK P (zH P t) op (s.ev x) (s.ev y) y).wp P q s dst k g K) :
  Good P B F a dst g K (do eqGuard op t x y (a.eval x) (a.eval y); binOp op t (a.eval x) (a.eval y)) w := by
 have hx := hR.eval x
 have hy := hR.eval y
 unfold afK at h
 split at h
 ·rename_i k1 p k2 r hp hr
  split at h
  ·rename_i hkk
   subst hkk
   rw [hp] at hx
   rw [hr] at hy
   generalize a.eval x = u at hx
   generalize a.eval y = v at hy
   cases hx; cases hy
   refine anm hR hd op _ p r t _ ?_ h
   have : (eqGuard op t x y (.int k1 p) (.int k1 r)).run P w = .ok () w := by cases op <;> simp [eqGuard]
   simp only [Sem.run_bind, this, Result.andThen_ok]
  ·simp [Res.wp] at h
 ·rename_i p r hp hr
  rw [hp] at hx
  rw [hr] at hy
  generalize a.eval x = u at hx
  generalize a.eval y = v at hy
  cases hx; cases hy
  refine an3 hR hd op p r t _ ?_ h
  have : (eqGuard op t x y (.string ⟨p.toArray⟩) (.string ⟨r.toArray⟩)).run P w = .ok () w := by cases op <;> simp [eqGuard]
  simp only [Sem.run_bind, this, Result.andThen_ok]
 ·split at h
  ·rename_i hk
   exact akz hR hd false t x y hk h
  ·rename_i hk
   exact akz hR hd true t x y hk h
  ·exact amV hR hd false t x y h
  ·exact amV hR hd true t x y h
  ·simp [Res.wp] at h
theorem ap0 (hR : Rel B F H L s a w) (hd : ∀ d, dst = some d → d < a.tmps.size) (op : UnOp) (x : Operand) (h : (akY op (s.ev x)).wp P q s dst k g K) :
  Good P B F a dst g K (Op.unary op (a.eval x)) w := by
 have hx := hR.eval x
 generalize s.ev x = p at h hx
 generalize a.eval x = u at hx
 unfold akY at h
 split at h
 ·simp only [Res.wp] at h
  cases hx
  exact zP hR hd (v := .int _ _) (by simp [Op.unary, Op.intArith]) (.int _ _ _) h
 ·simp only [Res.wp] at h
  cases hx
  exact zP hR hd (v := .bool _) (by simp [Op.unary]) (.bool _ _) h
 ·simp [Res.wp] at h
theorem aoU (hR : Rel B F H L s a w) (hd : ∀ d, dst = some d → d < a.tmps.size) (c x y : Operand) (h : ((match s.ev c with | .bool t => .val (if t = true then s.ev x else s.ev y) | _ => .bad : Res)).wp P q s dst k g K) :
  Good P B F a dst g K (do pure (if ← asBool (a.eval c) then a.eval x else a.eval y)) w := by
 have hc := hR.eval c
 generalize s.ev c = p at h hc
 generalize a.eval c = u at hc
 split at h
 ·rename_i t
  simp only [Res.wp] at h
  cases hc
  refine zP hR hd (v := if t = true then a.eval x else a.eval y) (by simp [asBool]) ?_ h
  cases t
  ·exact hR.eval y
  ·exact hR.eval x
 ·simp [Res.wp] at h
end
end Go.Proofs.YtclohbgnaopjfaaDoor
namespace Go.Proofs.YtclohbgnaopjfaaDoor
set_option linter.unusedSimpArgs false
set_option linter.unusedVariables false
open Go
section
variable {P : Program} {B : Base} {F : Nat → Prop} {H : Imm} {L : Lay} {s : St} {a : Act} {w : World} {q : Bool} {dst : Option Nat} {k g : Nat} {K : St → Prop}
def ag3 (v : Option Value) (n dflt : Int) : Prop := (v = none ∧ n = dflt) ∨ ∃ j, v = some (.int j n)
theorem ad6 (hR : Rel B F H L s a w) {x : Option Operand} {n : Int} {j : IntKind} (h : x.map s.ev = some (.int j n)) : x.map a.eval = some (.int j n) := by
 cases x with
 | none => simp at h
 | some x =>
  have hx := hR.eval x
  simp only [Option.map_some, Option.some.injEq] at h ⊢
  rw [h] at hx
  generalize a.eval x = u at hx
  cases hx; rfl
theorem y5 (hR : Rel B F H L s a w) {lo hi : Option Operand} {len : Nat} {l h : Int} (hb : KG len (lo.map s.ev) (hi.map s.ev) = some (l, h)) :
  ag3 (lo.map a.eval) l 0 ∧ ag3 (hi.map a.eval) h len := by
 unfold KG at hb
 split at hb <;> simp only [Option.some.injEq, Prod.mk.injEq, reduceCtorEq] at hb
 ·rename_i h1 h2
  obtain ⟨rfl, rfl⟩ := hb
  exact ⟨.inl ⟨by cases lo <;> simp_all, rfl⟩, .inl ⟨by cases hi <;> simp_all, rfl⟩⟩
 ·rename_i h1 h2
  obtain ⟨rfl, rfl⟩ := hb
  exact ⟨.inr ⟨_, ad6 hR h1⟩, .inl ⟨by cases hi <;> simp_all, rfl⟩⟩
 ·rename_i h1 h2
  obtain ⟨rfl, rfl⟩ := hb
  exact ⟨.inl ⟨by cases lo <;> simp_all, rfl⟩, .inr ⟨_, ad6 hR h2⟩⟩
 ·rename_i h1 h2
  obtain ⟨rfl, rfl⟩ := hb
  exact ⟨.inr ⟨_, ad6 hR h1⟩, .inr ⟨_, ad6 hR h2⟩⟩
theorem xn (isS : Bool) (len cap : Nat) (lo hi : Option Value) (l h : Int) (hl : ag3 lo l 0) (hh : ag3 hi h len) (h0 : 0 ≤ l) (h1 : l ≤ h) (h2 : h ≤ cap) :
  (Instr.sliceBounds isS len cap lo hi none).run P w = .ok (l.toNat, h.toNat, cap) w := by
 have hb : ∀ (j : IntKind) (n : Int) (y : Nat) (code : BoundsCode), 0 ≤ n → n ≤ y → (Instr.sliceBound (.int j n) y code).run P w = .ok n.toNat w := by
  intro j n y code g1 g2
  simp [Instr.sliceBound, asIntOf, g1, g2]
 rcases hh with ⟨rfl, rfl⟩ | ⟨j, rfl⟩ <;> rcases hl with ⟨rfl, rfl⟩ | ⟨j', rfl⟩
 ·simp [Instr.sliceBounds]
 ·have := hb j' l len .sliceB h0 h1
  simp [Instr.sliceBounds, this]
 ·have := hb j h cap (if isS = true then .sliceAcap else .sliceAlen) (by omega) h2
  simp [Instr.sliceBounds, this]
 ·have g1 := hb j h cap (if isS = true then .sliceAcap else .sliceAlen) (by omega) h2
  have g2 := hb j' l h.toNat .sliceB h0 (by omega)
  simp [Instr.sliceBounds, g1, g2]
theorem QU {t e : Nat} (hu : P.underlying t = some (.slice e)) (hz : (zH P e).kd ≠ .none) (ad : Option Addr) (len cap : Nat) (lo hi : Option Value) (l h : Int)
  (hb : (Instr.sliceBounds true len cap lo hi none).run P w = .ok (l.toNat, h.toNat, cap) w) :
  (Instr.sliceAt t (.slice ad len cap) lo hi none).run P w = .ok (.slice (if cap = l.toNat then ad else ad.map (·.add (l.toNat * (zH P e).size))) (h.toNat - l.toNat) (cap - l.toNat)) w := by
 simp only [Instr.sliceAt, Sem.run_bind, run_underlying hu w, Result.andThen_ok, Instr.slice, hb, jN hz, Sem.run_pure]
theorem aaV {sz : Nat} : ∀ (xs : List PV) (n : Nat), (∀ x ∈ xs, x.cells.length = sz) → (xs.take n).flatMap PV.cells = (xs.flatMap PV.cells).take (n * sz)
 | [], n, _ => by simp
 | x :: xs, 0, _ => by simp
 | x :: xs, n + 1, hs => by
  have h0 := hs x (by simp)
  simp only [List.take_succ_cons, List.flatMap_cons, aaV xs n (fun y hy => hs y (by simp [hy]))]
  rw [List.take_append, h0, show (n + 1) * sz - sz = n * sz by rw [Nat.succ_mul]; omega, List.take_of_length_le (show x.cells.length ≤ (n + 1) * sz by rw [h0, Nat.succ_mul]; omega)]
theorem aeW {sz : Nat} : ∀ (xs : List PV) (n : Nat), (∀ x ∈ xs, x.cells.length = sz) → (xs.drop n).flatMap PV.cells = (xs.flatMap PV.cells).drop (n * sz)
 | [], n, _ => by simp
 | x :: xs, 0, _ => by simp
 | x :: xs, n + 1, hs => by
  have h0 := hs x (by simp)
  simp only [List.drop_succ_cons, List.flatMap_cons, aeW xs n (fun y hy => hs y (by simp [hy]))]
  rw [List.drop_append, h0, show (n + 1) * sz - sz = n * sz by rw [Nat.succ_mul]; omega, List.drop_eq_nil_of_le (show x.cells.length ≤ (n + 1) * sz by rw [h0, Nat.succ_mul]; omega), List.nil_append]
theorem ani {b off len cap sz : Nat} {c : Array Value} {vs : List Value} {xs : List PV} (hH : H b = some c) (hlen : xs.length = len) (hcap : len ≤ cap) (hsz : ∀ x ∈ xs, x.cells.length = sz) (h1 : ∀ v ∈ vs, v.oneCell' = true)
  (hv : ∀ i, i < vs.length → c[off + i]? = vs[i]?) (hr : zI H Lay.none vs (xs.flatMap PV.cells)) (l h : Nat) (hl : l ≤ h) (hh : h ≤ len) :
  Rep H L (.slice (if cap = l then some ⟨b, off, none⟩ else (some (⟨b, off, none⟩ : Addr)).map (·.add (l * sz))) (h - l) (cap - l)) (.list sz ((xs.take h).drop l)) := by
 by_cases he : h = l
 ·subst he
  have : (xs.take h).drop h = [] := by simp
  rw [this, Nat.sub_self]
  exact .wN _ _ _ _
 ·have hne : cap ≠ l := by omega
  simp only [hne, if_false, Option.map_some, addr_add]
  refine .list _ b (off + l * sz) _ _ sz c ((vs.take (h * sz)).drop (l * sz)) _ hH (by simp; omega) (by omega) (fun x hx => hsz x (List.mem_of_mem_take (List.mem_of_mem_drop hx))) (fun v hv => h1 v (List.mem_of_mem_take (List.mem_of_mem_drop hv))) (fun i hi => ?_) ?_
  ·simp only [List.length_drop, List.length_take] at hi
   rw [Nat.add_assoc, hv (l * sz + i) (by omega), List.getElem?_drop, List.getElem?_take]
   simp [show l * sz + i < h * sz by omega]
  ·rw [aeW (sz := sz) _ _ (fun x hx => hsz x (List.mem_of_mem_take hx)), aaV _ _ hsz]
   exact (hr.take _).drop _
theorem Rel.freeze (h : Rel B F H L s a w) {k g sz : Nat} {f : Bool} {xs : List PV} (hk : k < 1000) (hf : s.sto.find k = some (g, .row f sz xs)) :
  ∃ H', Rel B F H' L (s.set k g (.row true sz xs)) a w ∧ Grow H H' ∧ ∃ sl, L.at_ k = some sl ∧ sl.gen = g ∧ wL H' L w sl (.row true sz xs) := by
 obtain ⟨sl, h1, h2, h3⟩ := h.sto k g _ hf
 have same : wL H L w sl (.row true sz xs) → ∃ H', Rel B F H' L (s.set k g (.row true sz xs)) a w ∧ Grow H H' ∧ ∃ sl, L.at_ k = some sl ∧ sl.gen = g ∧ wL H' L w sl (.row true sz xs) := by
  intro he
  have := h.VQ (e := .row true sz xs) (H' := H) (w' := w) h1 (.refl _) h.agree (fun b c hc => .inl hc) (Nat.le_refl _) (fun _ _ _ => rfl) rfl rfl rfl he
  rw [h2] at this
  exact ⟨H, this, .refl _, sl, h1, h2, he⟩
 cases f with
 | true => exact same h3
 | false =>
  obtain ⟨e1, e2, e3, e4⟩ := h3
  rcases e4 with ⟨e4, e5⟩ | ⟨b, vs, rest, t, g1, g2, g3, g4, g5, g6⟩
  ·exact same ⟨e1, e2, e3, .inl ⟨e4, List.eq_nil_of_length_eq_zero (by omega)⟩⟩
  ·have hG : Grow H (fun x => if x = b then some (vs ++ rest).toArray else H x) := by
    intro x c hc
    by_cases hx : x = b
    ·subst hx; rw [g2] at hc; cases hc
    ·simpa [hx] using hc
   have he : wL (fun x => if x = b then some (vs ++ rest).toArray else H x) L w sl (.row true sz xs) :=
    ⟨e1, e2, e3, .inr ⟨b, (vs ++ rest).toArray, vs, g1, if_pos rfl, g4, fun i hi => by simp [List.getElem?_append_left hi], g5.mono hG (.refl _)⟩⟩
   have := h.VQ (e := .row true sz xs) (H' := fun x => if x = b then some (vs ++ rest).toArray else H x) (w' := w) h1 hG
    (fun x c hc => by
     by_cases hx : x = b
     ·subst hx
      simp only [if_true, Option.some.injEq] at hc
      subst hc
      exact ⟨t, _, g3⟩
     ·simp only [hx, if_false] at hc
      exact h.agree x c hc)
    (fun x c hc => by
     by_cases hx : x = b
     ·subst hx; exact .inr (.inr ⟨g1, hk⟩)
     ·simp only [hx, if_false] at hc
      exact .inl hc)
    (Nat.le_refl _) (fun _ _ _ => rfl) rfl rfl rfl he
   rw [h2] at this
   exact ⟨_, this, hG, sl, h1, h2, he⟩
theorem Rel.av4 (h : Rel B F H L s a w) {k g ty : Nat} {cs : List PV} (hk : k < 1000) (hf : s.sto.find k = some (g, .var ty cs)) (hp : yj cs = true) :
  ∃ H', Rel B F H' L (s.set k g .gone) a w ∧ Grow H H' ∧ ∃ sl b vs, L.at_ k = some sl ∧ sl.gen = g ∧ sl.block = some b ∧ H' b = some vs.toArray ∧ zI H' Lay.none vs cs := by
 obtain ⟨sl, h1, h2, b, vs, _, g1, g2, g3, g4⟩ := h.sto k g _ hf
 have hG : Grow H (fun x => if x = b then some vs.toArray else H x) := by
  intro x c hc
  by_cases hx : x = b
  ·subst hx; rw [g2] at hc; cases hc
  ·simpa [hx] using hc
 have := h.VQ (e := .gone) (H' := fun x => if x = b then some vs.toArray else H x) (w' := w) h1 hG
  (fun x c hc => by
   by_cases hx : x = b
   ·subst hx
    simp only [if_true, Option.some.injEq] at hc
    subst hc
    exact ⟨ty, _, g3⟩
   ·simp only [hx, if_false] at hc
    exact h.agree x c hc)
  (fun x c hc => by
   by_cases hx : x = b
   ·subst hx; exact .inr (.inr ⟨g1, hk⟩)
   ·simp only [hx, if_false] at hc
    exact .inl hc)
  (Nat.le_refl _) (fun _ _ _ => rfl) rfl rfl rfl trivial
 rw [h2] at this
 exact ⟨_, this, hG, sl, b, vs, h1, h2, g1, if_pos rfl, (g4.pure hp).mono hG (.refl _)⟩
theorem ahG {L0 : Lay} {sl : Slot} {sz n : Nat} {xs : List PV} (he : wL H L0 w sl (.row true sz xs)) (l h : Nat) (hl : l ≤ h) (hh : h ≤ n) (hn : n ≤ xs.length) :
  Rep H L (.slice (if sl.cap = l then sl.block.map (fun b => (⟨b, 0, none⟩ : Addr)) else (sl.block.map fun b => (⟨b, 0, none⟩ : Addr)).map (·.add (l * sz))) (h - l) (sl.cap - l)) (.list sz ((xs.take h).drop l)) := by
 obtain ⟨e1, e2, e3, e4⟩ := he
 rcases e4 with ⟨e4, e5⟩ | ⟨b, c, vs, g1, g2, g3, g4, g5⟩
 ·subst e5
  simp only [List.length_nil, Nat.le_zero] at hn
  have : h = 0 := by omega
  have : l = 0 := by omega
  subst_vars
  simpa using Rep.wN (H := H) L _ _ _
 ·rw [g1]
  simpa using ani (L := L) (off := 0) g2 rfl e3 e2 g3 (by simpa using g4) g5 l h hl (by omega)
theorem an0 (hR : Rel B F H L s a w) (hd : ∀ d, dst = some d → d < a.tmps.size) (t : Nat) (x : Operand) (lo hi mx : Option Operand)
  (h : (jY P q s.sto.find t (s.ev x) (lo.map s.ev) (hi.map s.ev) (mx.map s.ev)).wp P q s dst k g K) :
  Good P B F a dst g K (Instr.sliceAt t (a.eval x) (lo.map a.eval) (hi.map a.eval) (mx.map a.eval)) w := by
 have hx := hR.eval x
 generalize hp : s.ev x = p at h hx
 generalize a.eval x = v at hx
 unfold jY at h
 split at h
 ·simp [Res.wp] at h
 ·rename_i hm
  have hm' : mx = none := by cases mx <;> simp_all
  subst hm'
  simp only [Option.map_none]
  split at h
  ·rename_i b hkd
   have hu := QK hkd
   split at h
   ·rename_i l r hb
    simp only [Res.wp] at h
    obtain ⟨⟨h0, h1, h2⟩, h⟩ := h
    obtain ⟨g1, g2⟩ := y5 hR hb
    cases hx
    refine zP hR hd (v := .string ⟨((b.take r.toNat).drop l.toNat).toArray⟩) ?_ (.str _ _) h
    have := xn (P := P) (w := w) false b.length b.length _ _ l r g1 g2 h0 h1 (by omega)
    have hs : (ByteArray.mk b.toArray).size = b.length := by show b.toArray.size = _; simp
    simp only [Instr.sliceAt, Sem.run_bind, run_underlying hu w, Result.andThen_ok, Instr.slice, Option.isSome_none, Bool.false_eq_true, if_false, Sem.run_pure, hs, this]
    congr 2
    apply ByteArray.ext
    apply Array.ext'
    simp [List.drop_take]
   ·simp [Res.wp] at h
  ·rename_i e hkd
   have hu := jR hkd
   split at h
   ·rename_i l r hb
    simp only [Res.wp] at h
    obtain ⟨⟨rfl, rfl, hz⟩, h⟩ := h
    obtain ⟨g1, g2⟩ := y5 hR hb
    cases hx
    refine zP hR hd (v := .slice none 0 0) ?_ (.kS _) h
    have hb' := xn (P := P) (w := w) true 0 0 _ _ 0 0 g1 g2 (by omega) (by omega) (by simp)
    have := QU hu (yB rfl hz) none 0 0 _ _ 0 0 hb'
    simpa using this
   ·simp [Res.wp] at h
  ·rename_i e sz xs hkd
   have hu := jR hkd
   split at h
   ·rename_i l r hb
    simp only [Res.wp] at h
    obtain ⟨⟨h0, h1, h2, h3, hz⟩, h⟩ := h
    obtain ⟨g1, g2⟩ := y5 hR hb
    rw [h3] at hz
    cases hx with
    | wN _ ad c =>
     simp only [List.length_nil] at h2 g2
     have hl0 : l = 0 := by omega
     have hr0 : r = 0 := by omega
     subst hl0; subst hr0
     have hb' := xn (P := P) (w := w) true 0 c _ _ 0 0 g1 g2 (by omega) (by omega) (by omega)
     have := QU hu (yB rfl hz) ad 0 c _ _ 0 0 hb'
     exact zP hR hd this (by simpa using Rep.wN (H := H) L _ _ sz) h
    | list _ b off len cap _ c vs _ hH hlen hcap hs1 h1' hv hr =>
     subst hlen
     have hb' := xn (P := P) (w := w) true xs.length cap _ _ l r g1 g2 h0 h1 (by omega)
     have hrun := QU hu (yB rfl hz) (some ⟨b, off, none⟩) xs.length cap _ _ l r hb'
     rw [← h3] at hrun
     exact zP hR hd hrun (ani hH rfl hcap hs1 h1' hv hr l.toNat r.toNat (by omega) (by omega)) h
   ·simp [Res.wp] at h
  ·rename_i e k' g' n hkd
   have hu := jR hkd
   split at h
   ·rename_i g'' f sz xs hf
    split at h
    ·rename_i hc
     obtain ⟨rfl, h3, hz⟩ := hc
     obtain ⟨sl, e1, e2, e3⟩ := hR.sto k' g' _ hf
     have hcap : xs.length ≤ sl.cap := by
      cases f
      ·exact e3.2.2.1
      ·exact e3.2.2.1
     rw [h3] at hz
     cases hx with
     | row _ _ _ _ _ hu' hs hx =>
      have hv := hx sl e1 e2
      subst hv
      split at h
      ·rename_i hlo
       have hlo' : lo = none := by cases lo <;> simp_all
       subst hlo'
       split at h
       ·rename_i l r hb
        simp only [Res.wp] at h
        obtain ⟨⟨h0, h1, h2⟩, h⟩ := h
        obtain ⟨g1, g2⟩ := y5 (lo := none) hR (by simpa using hb)
        have hl0 : l = 0 := by
         rcases g1 with ⟨_, g1⟩ | ⟨j, g1⟩
         ·exact g1
         ·simp at g1
        subst hl0
        have hb' := xn (P := P) (w := w) true n sl.cap _ _ 0 r g1 g2 (by omega) h0 (by omega)
        have hrun := QU hu (yB rfl hz) (sl.block.map fun b => ⟨b, 0, none⟩) n sl.cap _ _ 0 r hb'
        have hval : (if sl.cap = (0 : Int).toNat then (sl.block.map fun b => (⟨b, 0, none⟩ : Addr)) else (sl.block.map fun b => (⟨b, 0, none⟩ : Addr)).map (·.add ((0 : Int).toNat * (zH P e).size))) = sl.block.map fun b => (⟨b, 0, none⟩ : Addr) := by
         split
         ·rfl
         ·cases sl.block <;> simp [Addr.add]
        rw [hval] at hrun
        refine zP hR hd hrun (.row _ _ _ _ _ hu' ⟨_, _, rfl⟩ fun sl' h1' h2' => ?_) h
        rw [e1] at h1'
        cases h1'
        simp
       ·simp [Res.wp] at h
      ·rename_i lo' hlo
       split at h
       ·rename_i l r hb
        simp only [Res.wp] at h
        obtain ⟨⟨_, h0, h1, h2, h4, h5⟩, h⟩ := h
        obtain ⟨g1, g2⟩ := y5 hR hb
        have hb' := xn (P := P) (w := w) true n sl.cap _ _ l r g1 g2 h0 h1 (by omega)
        have hrun := QU hu (yB rfl hz) (sl.block.map fun b => ⟨b, 0, none⟩) n sl.cap _ _ l r hb'
        rw [← h3] at hrun
        obtain ⟨H', hR', hG, sl', e1', e2', e3'⟩ := hR.freeze h5 hf
        rw [e1] at e1'
        cases e1'
        have hp := ahG (L := L) (n := n) e3' l.toNat r.toNat (by omega) (by omega) h4
        refine ⟨_, w, H', L, _, hrun, (hR'.put (dst := dst) hd hp).less (fun _ h => h.1), ?_⟩
        cases dst <;> exact h
       ·simp [Res.wp] at h
    ·simp [Res.wp] at h
   ·simp [Res.wp] at h
  ·simp [Res.wp] at h
end
end Go.Proofs.YtclohbgnaopjfaaDoor
