/- The words of the abstract walk: values without memory, their reading in a world, and small laws about these. -/
import Derived.Calls
import Derived.Orders
import Derived.Tactics
namespace Go.Proofs.YtlgjbmgmoaphjaaDoor
set_option linter.unusedSimpArgs false
set_option linter.unusedVariables false
open Go

/-- Values without memory. -/
inductive PV where
  | undef
  | bool (b : Bool)
  | int (k : IntKind) (n : Int)
  | str (s : List UInt8)
  | nilS
  | list (sz : Nat) (xs : List PV)
  | own (sz : Nat) (xs : List PV)
  | row (k g n : Nat)
  | agg (cs : List PV)
  | tup (vs : List PV)
  | ref (cs : List PV)
  | box (k g off : Nat)
  | elt (k g i off : Nat)
  | fn (f : Nat) (cap : List PV)
  | nilF
  | nilP
  | nilI
  | iface (t : Nat) (v : PV)
  /-- nil, or the address of what lies behind a key -/
  | selfP (k g : Nat)

instance : Inhabited PV := ⟨.undef⟩

def PV.cells : PV → List PV
  | .agg cs => cs
  | v => [v]

/-- What lies behind a key. -/
inductive Ent where
  | var (ty : Nat) (cs : List PV)
  | row (fro : Bool) (sz : Nat) (xs : List PV)
  | iter (s : List UInt8) (pos : Nat)
  /-- nothing is known of it any more -/
  | gone
  /-- a row that may lie elsewhere than it did (told of what a call leaves, alone) -/
  | moved (sz : Nat) (xs : List PV)
  /-- a row of bytes of which the type of its block is known -/
  | bytes (bt : Nat) (bs : List UInt8)
  | movedB (bt : Nat) (bs : List UInt8)

abbrev Env := List (Nat × PV)
abbrev Sto := List (Nat × Nat × Ent)

def Env.get : Env → Nat → PV
  | [], _ => .undef
  | (j, v) :: r, i => if i = j then v else Env.get r i

def Sto.find : Sto → Nat → Option (Nat × Ent)
  | [], _ => none
  | (j, x) :: r, k => if k = j then some x else Sto.find r k

def Sto.upd : Sto → Nat → Nat → Ent → Sto
  | [], k, g, e => [(k, g, e)]
  | (j, x) :: r, k, g, e => if k = j then (k, g, e) :: r else (j, x) :: Sto.upd r k g e

structure St where
  env : Env
  sto : Sto
  nx : Nat

/-- Rows of cells that are not written any more. -/
abbrev Imm := Nat → Option (Array Value)

structure Slot where
  gen : Nat
  block : Option Nat
  cap : Nat
  sz : Nat

/-- Where the keys lie. -/
structure Lay where
  used : Nat → Prop
  at_ : Nat → Option Slot

/-- No key lies anywhere. -/
def Lay.none : Lay := ⟨fun _ => False, fun _ => Option.none⟩

mutual
/-- What a value reads as. What lies in rows that are not written any more speaks of no key. -/
inductive Rep (H : Imm) : Lay → Value → PV → Prop where
  | undef (L : Lay) (v : Value) : Rep H L v .undef
  | bool (L : Lay) (b : Bool) : Rep H L (.bool b) (.bool b)
  | int (L : Lay) (k : IntKind) (n : Int) : Rep H L (.int k n) (.int k n)
  | str (L : Lay) (s : List UInt8) : Rep H L (.string ⟨s.toArray⟩) (.str s)
  | nilS (L : Lay) : Rep H L (.slice none 0 0) .nilS
  | listNil (L : Lay) (a : Option Addr) (c sz : Nat) : Rep H L (.slice a 0 c) (.list sz [])
  | list (L : Lay) (b off len cap sz : Nat) (c : Array Value) (vs : List Value) (xs : List PV) (hH : H b = some c) (hlen : xs.length = len) (hcap : len ≤ cap) (hsz : ∀ x ∈ xs, x.cells.length = sz) (h1 : ∀ v ∈ vs, v.oneCell' = true)
      (hv : ∀ i, i < vs.length → c[off + i]? = vs[i]?) (hr : RepL H Lay.none vs (xs.flatMap PV.cells)) : Rep H L (.slice (some ⟨b, off, Option.none⟩) len cap) (.list sz xs)
  | row (L : Lay) (v : Value) (k g n : Nat) (hu : L.used g) (hs : ∃ a c, v = .slice a n c) (h : ∀ s, L.at_ k = some s → s.gen = g → v = .slice (s.block.map fun b => ⟨b, 0, Option.none⟩) n s.cap) : Rep H L v (.row k g n)
  | agg (L : Lay) (vs : List Value) (ps : List PV) (h : RepL H L vs ps) : Rep H L (.agg vs.toArray) (.agg ps)
  | tup (L : Lay) (vs : List Value) (ps : List PV) (h : RepL H L vs ps) : Rep H L (.tuple vs.toArray) (.tup ps)
  | ref (L : Lay) (b off : Nat) (c : Array Value) (vs : List Value) (ps : List PV) (hH : H b = some c) (hv : ∀ i, i < vs.length → c[off + i]? = vs[i]?) (h : RepL H Lay.none vs ps) : Rep H L (.pointer (some ⟨b, off, Option.none⟩)) (.ref ps)
  | box (L : Lay) (v : Value) (k g off : Nat) (hu : L.used g) (hs : ∃ a, v = .pointer a) (h : ∀ s b, L.at_ k = some s → s.gen = g → s.block = some b → v = .pointer (some ⟨b, off, Option.none⟩)) : Rep H L v (.box k g off)
  | elt (L : Lay) (v : Value) (k g i off : Nat) (hu : L.used g) (hs : ∃ a, v = .pointer a) (h : ∀ s b, L.at_ k = some s → s.gen = g → s.block = some b → v = .pointer (some ⟨b, i * s.sz + off, Option.none⟩)) : Rep H L v (.elt k g i off)
  | fn (L : Lay) (f : Nat) (vs : List Value) (ps : List PV) (h : RepL H L vs ps) : Rep H L (.func (.func f) #[] vs.toArray) (.fn f ps)
  | nilF (L : Lay) : Rep H L .nilFunc .nilF
  | nilP (L : Lay) : Rep H L (.pointer none) .nilP
  | nilI (L : Lay) : Rep H L .nilIface .nilI
  | iface (L : Lay) (t : Nat) (v : Value) (p : PV) (h : Rep H L v p) : Rep H L (.iface t v) (.iface t p)
  | selfP (L : Lay) (v : Value) (k g : Nat) (hu : L.used g) (hs : ∃ a, v = .pointer a) (h : v = .pointer none ∨ ∀ s b, L.at_ k = some s → s.gen = g → s.block = some b → v = .pointer (some ⟨b, 0, Option.none⟩)) : Rep H L v (.selfP k g)
/-- The same of rows of values. -/
inductive RepL (H : Imm) : Lay → List Value → List PV → Prop where
  | nil (L : Lay) : RepL H L [] []
  | cons (L : Lay) (v : Value) (p : PV) (vs : List Value) (ps : List PV) (h : Rep H L v p) (t : RepL H L vs ps) : RepL H L (v :: vs) (p :: ps)
end

mutual
/-- Does a value speak of no key? -/
def PV.pure : PV → Bool
  | .row _ _ _ | .box _ _ _ | .elt _ _ _ _ | .own _ _ | .selfP _ _ => false
  | .agg cs => pureL cs
  | .tup vs => pureL vs
  | .fn _ cs => pureL cs
  | .iface _ v => v.pure
  | _ => true
def pureL : List PV → Bool
  | [] => true
  | p :: ps => p.pure && pureL ps
end

mutual
/-- Other keys, and their stamps, in the place of keys. -/
def PV.inst (m : Nat → Nat × Nat) : PV → PV
  | .row k _ n => .row (m k).1 (m k).2 n
  | .box k _ off => .box (m k).1 (m k).2 off
  | .elt k _ i off => .elt (m k).1 (m k).2 i off
  | .selfP k _ => .selfP (m k).1 (m k).2
  | .agg cs => .agg (instL m cs)
  | .tup vs => .tup (instL m vs)
  | .fn f cs => .fn f (instL m cs)
  | .iface t v => .iface t (v.inst m)
  | v => v
def instL (m : Nat → Nat × Nat) : List PV → List PV
  | [] => []
  | p :: ps => p.inst m :: instL m ps
end

mutual
/-- Does a value speak of keys that were handed over alone ('n' of them)? -/
def PV.extOk (n : Nat) : PV → Bool
  | .row k g _ => decide (1000 ≤ k) && decide (k < 1000 + n) && decide (g = 0)
  | .box k g _ => decide (1000 ≤ k) && decide (k < 1000 + n) && decide (g = 0)
  | .elt k g _ _ => decide (1000 ≤ k) && decide (k < 1000 + n) && decide (g = 0)
  | .selfP k g => decide (1000 ≤ k) && decide (k < 1000 + n) && decide (g = 0)
  | .own _ _ => false
  | .agg cs => extOkL n cs
  | .tup vs => extOkL n vs
  | .fn _ cs => extOkL n cs
  | .iface _ v => v.extOk n
  | _ => true
def extOkL (n : Nat) : List PV → Bool
  | [] => true
  | p :: ps => p.extOk n && extOkL n ps
end

def Ent.inst (m : Nat → Nat × Nat) : Ent → Ent
  | .var ty cs => .var ty (instL m cs)
  | .moved sz xs => .row false sz xs
  | .movedB bt bs => .bytes bt bs
  | e => e
def Ent.extOk (n : Nat) : Ent → Bool
  | .var _ cs => extOkL n cs
  | .row fro _ _ => !fro
  | _ => true
/-- What may lie elsewhere behind a call. -/
def Ent.moves : Ent → Bool
  | .moved _ _ => true
  | .movedB _ _ => true
  | .gone => true
  | _ => false

end Go.Proofs.YtlgjbmgmoaphjaaDoor
