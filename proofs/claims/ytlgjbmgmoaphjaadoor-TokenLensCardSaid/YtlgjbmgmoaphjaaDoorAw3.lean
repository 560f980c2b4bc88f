/- The abstract walk: what a call promises (BC, PC), and the weakest precondition of code over states without memory. -/
import Derived.Test.YtlgjbmgmoaphjaaDoorAw2
import Derived.Test.YtlgjbmgmoaphjaaDoorAwG
namespace Go.Proofs.YtlgjbmgmoaphjaaDoor
set_option linter.unusedSimpArgs false
set_option linter.unusedVariables false
open Go

/-! ### Worlds -/
/-- 'w'' is 'w' with new blocks, and with changes in the blocks of 'may' alone. -/
structure Ext (may : Nat → Prop) (w w' : World) : Prop where
  size : w.heap.size ≤ w'.heap.size
  old : ∀ b, b < w.heap.size → ¬ may b → w'.heap[b]? = w.heap[b]?
  out : w'.output = w.output
  os : w'.os = w.os
  tape : w'.tape = w.tape

def Grow (H H' : Imm) : Prop := ∀ b c, H b = some c → H' b = some c

def Agree (H : Imm) (w : World) : Prop := ∀ b c, H b = some c → ∃ t fr, w.heap[b]? = some (.cells c t fr)

/-- What never changes holds the global variables. -/
def Glob (H : Imm) : Prop := ∀ w, Agree H w → GW w
theorem glob_grow {H H' : Imm} (hg : Grow H H') (h : Glob H) : Glob H' := fun w hA => h w fun b c hc => hA b c (hg b c hc)

/-- A slice value that alone leads to its row, which may be written. -/
def OwnRep (H : Imm) (w : World) (n0 : Nat) (v : Value) (sz : Nat) (xs : List PV) : Prop :=
  (∀ x ∈ xs, x.cells.length = sz) ∧ ((xs = [] ∧ v = .slice none 0 0) ∨
    ∃ b cap vs rest t, n0 ≤ b ∧ H b = none ∧ v = .slice (some ⟨b, 0, none⟩) xs.length cap ∧ w.heap[b]? = some (.cells (vs ++ rest).toArray t (0, 0)) ∧
      (∀ v ∈ vs, v.oneCell' = true) ∧ RepL H Lay.none vs (xs.flatMap PV.cells) ∧ rest.length = (cap - xs.length) * sz ∧ xs.length ≤ cap)

def ResRep (H : Imm) (w : World) (n0 : Nat) (v : Value) : PV → Prop
  | .own sz xs => OwnRep H w n0 v sz xs
  | r => Rep H Lay.none v r

/-- What an entry is in a world. -/
def EntRep (H : Imm) (L : Lay) (w : World) (s : Slot) : Ent → Prop
  | .var ty cs => ∃ (b : Nat) (vs : List Value) (_ : Nat), s.block = some b ∧ H b = none ∧ w.heap[b]? = some (.cells vs.toArray ty (0, 0)) ∧ RepL H L vs cs
  | .row false sz xs => s.sz = sz ∧ (∀ x ∈ xs, x.cells.length = sz) ∧ xs.length ≤ s.cap ∧ ((s.block = none ∧ s.cap = 0) ∨
      ∃ b vs rest t, s.block = some b ∧ H b = none ∧ w.heap[b]? = some (.cells (vs ++ rest).toArray t (0, 0)) ∧ (∀ v ∈ vs, v.oneCell' = true) ∧ RepL H Lay.none vs (xs.flatMap PV.cells) ∧ rest.length = (s.cap - xs.length) * sz)
  | .row true sz xs => s.sz = sz ∧ (∀ x ∈ xs, x.cells.length = sz) ∧ xs.length ≤ s.cap ∧ ((s.block = none ∧ xs = []) ∨
      ∃ b c vs, s.block = some b ∧ H b = some c ∧ (∀ v ∈ vs, v.oneCell' = true) ∧ (∀ i, i < vs.length → c[i]? = vs[i]?) ∧ RepL H Lay.none vs (xs.flatMap PV.cells))
  | .iter s' pos => ∃ b, s.block = some b ∧ H b = none ∧ w.heap[b]? = some (.stringIter ⟨s'.toArray⟩ pos)
  | .gone => True
  | .bytes bt bs | .movedB bt bs => s.sz = 1 ∧ bs.length ≤ s.cap ∧ ((s.block = none ∧ s.cap = 0) ∨
      ∃ b rest, s.block = some b ∧ H b = none ∧ w.heap[b]? = some (.cells (bs.map (fun c => Value.int .u8 c.toNat) ++ rest).toArray bt (0, 0)) ∧ rest.length = s.cap - bs.length)
  | .moved sz xs => s.sz = sz ∧ (∀ x ∈ xs, x.cells.length = sz) ∧ xs.length ≤ s.cap ∧ ((s.block = none ∧ s.cap = 0) ∨
      ∃ b vs rest t, s.block = some b ∧ H b = none ∧ w.heap[b]? = some (.cells (vs ++ rest).toArray t (0, 0)) ∧ (∀ v ∈ vs, v.oneCell' = true) ∧ RepL H Lay.none vs (xs.flatMap PV.cells) ∧ rest.length = (s.cap - xs.length) * sz)

/-- The keys of what a caller hands over to be written. -/
def extKey (i : Nat) : Nat := 1000 + i

def extSto : Nat → List Ent → Sto
  | _, [] => []
  | i, e :: es => (extKey i, 0, e) :: extSto (i + 1) es

def extLay (ss : List Slot) : Lay := ⟨fun g => g = 0, fun k => if 1000 ≤ k then ss[k - 1000]? else none⟩

/-- A function that has a body of its own. -/
def Callable (P : Program) (f : Nat) : Prop := ∃ fn, P.funcs[f]? = some fn ∧ fn.body.isNone = false ∧ (fn.name == "runtime.NumGoroutine") = false

/-- No two of them lie in one place. -/
def SepS (ss : List Slot) : Prop := ∀ (i j : Nat) (si sj : Slot) (b : Nat), ss[i]? = some si → ss[j]? = some sj → si.block = some b → sj.block = some b → i = j

/-- Where what was handed over lies behind a call. -/
structure Moved (n0 : Nat) (w' : World) (es' : List Ent) (ss ss' : List Slot) : Prop where
  len : ss'.length = ss.length
  gen : ∀ s ∈ ss', s.gen = 0
  low : ∀ s ∈ ss', ∀ b, s.block = some b → b < w'.heap.size
  sep : SepS ss'
  at_ : ∀ (i : Nat) (s s' : Slot) (e : Ent), ss[i]? = some s → ss'[i]? = some s' → es'[i]? = some e → s' = s ∨ (e.moves = true ∧ ∀ b, s'.block = some b → s.block = some b ∨ n0 ≤ b)

/-- The contract of a function: called with what reads as 'args', where 'es' lies behind the keys handed over, it returns what reads as 'r', and 'es'' lies there. -/
def BC (P : Program) (f : Nat) (args : List PV) (es : List Ent) (r : PV) (es' : List Ent) : Prop :=
  Callable P f ∧ (es'.length = es.length ∧ ∀ e ∈ es', e.extOk es.length = true) ∧
  ∀ (H : Imm) (w : World) (ss : List Slot) (vs : List Value), Agree H w → Glob H → ss.length = es.length → (∀ s ∈ ss, s.gen = 0 ∧ ∀ b, s.block = some b → b < w.heap.size) →
    SepS ss →
    (∀ (i : Nat) (s : Slot) (e : Ent), ss[i]? = some s → es[i]? = some e → EntRep H (extLay ss) w s e) → RepL H (extLay ss) vs args →
    Calls P f vs.toArray w fun e w' => ∃ v H' ss', e = .returned v ∧ Grow H H' ∧ Agree H' w' ∧ (∀ b c, H' b = some c → H b = some c ∨ w.heap.size ≤ b) ∧
      Ext (fun b => ∃ s ∈ ss, s.block = some b) w w' ∧ Moved w.heap.size w' es' ss ss' ∧ (∀ (i : Nat) (s : Slot) (e : Ent), ss'[i]? = some s → es'[i]? = some e → EntRep H' (extLay ss') w' s e) ∧
      ResRep H' w' w.heap.size v r

/-- The contract of a function that writes nothing of its caller's. -/
def PC (P : Program) (f : Nat) (args : List PV) (r : PV) : Prop := BC P f args [] r []

/-! ### Less is said -/
mutual
inductive Wk : PV → PV → Prop where
  | refl (p : PV) : Wk p p
  | nil (sz : Nat) : Wk .nilS (.list sz [])
  | list (sz : Nat) (xs ys : List PV) (h : WkC xs ys) : Wk (.list sz xs) (.list sz ys)
  | agg (xs ys : List PV) (h : WkL xs ys) : Wk (.agg xs) (.agg ys)
  | tup (xs ys : List PV) (h : WkL xs ys) : Wk (.tup xs) (.tup ys)
inductive WkL : List PV → List PV → Prop where
  | nil : WkL [] []
  | cons (x y : PV) (xs ys : List PV) (h : Wk x y) (t : WkL xs ys) : WkL (x :: xs) (y :: ys)
/-- Elements: each by its cells. -/
inductive WkC : List PV → List PV → Prop where
  | nil : WkC [] []
  | cons (x y : PV) (xs ys : List PV) (h : WkL x.cells y.cells) (t : WkC xs ys) : WkC (x :: xs) (y :: ys)
end

/-! ### What is handed on: rows as rows that are not written any more -/
def pur0 (fnd : Nat → Option (Nat × Ent)) : PV → PV
  | .row k g n => match fnd k with
    | some (g', .row _ sz xs) => if g = g' ∧ n ≤ xs.length ∧ k < 1000 then .list sz (xs.take n) else .row k g n
    | _ => .row k g n
  | p => p

def pur1 (fnd : Nat → Option (Nat × Ent)) : PV → PV
  | .agg cs => .agg (cs.map (pur0 fnd))
  | p => pur0 fnd p

def pur2 (fnd : Nat → Option (Nat × Ent)) : PV → PV
  | .tup vs => .tup (vs.map (pur1 fnd))
  | p => pur1 fnd p

def frz0 : PV → List Nat
  | .row k _ _ => [k]
  | _ => []

def frz1 : PV → List Nat
  | .agg cs => cs.flatMap frz0
  | p => frz0 p

def Sto.frzK (sto : Sto) (k : Nat) : Sto :=
  match sto.find k with
  | some (g, .row _ sz xs) => if k < 1000 then sto.upd k g (.row true sz xs) else sto
  | _ => sto

def Sto.frz : List Nat → Sto → Sto
  | [], sto => sto
  | k :: ks, sto => Sto.frz ks (sto.frzK k)

/-- What a call leaves in its place. -/
def St.back (s : St) (dst : Option Nat) (k g : Nat) : PV → St
  | .own sz xs => (s.put dst (.row k g xs.length)).set k g (.row false sz xs)
  | r => s.put dst r

def setAll : Sto → List (Nat × Nat) → List Ent → Sto
  | sto, (k, g) :: ks, e :: es => setAll (sto.upd k g e) ks es
  | sto, _, _ => sto

def findAll (m : Nat → Nat × Nat) (n : Nat) (sto : Sto) : List (Nat × Nat) → List Ent → Prop
  | (k, g) :: ks, e :: es => sto.find k = some (g, e.inst m) ∧ e.extOk n = true ∧ findAll m n sto ks es
  | [], [] => True
  | _, _ => False

def keyAt (ks : List (Nat × Nat)) (k : Nat) : Nat × Nat := ks.getD (k - 1000) (0, 0)

/-- The stamps behind a call: of what may lie elsewhere a new one. -/
def newKs (g : Nat) : List (Nat × Nat) → List Ent → List (Nat × Nat)
  | (k, g0) :: ks, e :: es => (k, if e.moves = true then g else g0) :: newKs g ks es
  | ks, _ => ks

def anyMoves : List Ent → Bool
  | [] => false
  | e :: es => e.moves || anyMoves es

def notOwn : PV → Bool
  | .own _ _ => false
  | _ => true

/-- A call: of what writes nothing of ours, or of what writes behind keys that are handed over. -/
def callWp (P : Program) (q : Bool) (s : St) (dst : Option Nat) (k g f : Nat) (args : List PV) (K : St → Prop) : Prop :=
  (∃ args' r, (q = true → args.flatMap frz1 = [] ∧ notOwn r = true) ∧ pureL (args.map (pur1 s.sto.find)) = true ∧ WkL (args.map (pur1 s.sto.find)) args' ∧ PC P f args' r ∧ K (({ s with sto := Sto.frz (args.flatMap frz1) s.sto } : St).back dst k g r)) ∨
  (q = false ∧ ∃ ks es args' r es', findAll (keyAt ks) ks.length s.sto ks es ∧ (ks.map (·.1)).Nodup ∧ extOkL ks.length args' = true ∧ WkL args (instL (keyAt ks) args') ∧ BC P f args' es r es' ∧ (notOwn r || !anyMoves es') = true ∧
    K (({ s with sto := setAll s.sto (newKs g ks es') (es'.map (Ent.inst (keyAt (newKs g ks es')))) } : St).back dst k g r))

def Res.wp (P : Program) (q : Bool) (s : St) (dst : Option Nat) (k g : Nat) : Res → (St → Prop) → Prop
  | .val v, K => K (s.put dst v)
  | .eff v k' g' e, K => K ((s.put dst v).set k' g' e)
  | .call f args, K => callWp P q s dst k g f args K
  | .need p r, K => p ∧ Res.wp P q s dst k g r K
  | .ndet p b, K => q = false ∧ (p → K (s.put dst (.bool b))) ∧ K (s.put dst (.bool !b))
  | .bad, _ => False

/-- How the cells of a value are told: 'some sz': a slice there is told as a row that is not written any more, of elements of 'sz' cells. -/
abbrev Nf := List (Option Nat)

/-- Names of the keys that operations lay; and how what an operation yields is told. -/
structure Names where
  key : Nat → Nat
  nf : List (Nat × Nf)
  /-- in regions that draw their order: what keys an operation looks at, by its slot -/
  fp : List (Nat × List Nat)

instance : CoeFun Names fun _ => Nat → Nat := ⟨Names.key⟩

def nrm0 (fnd : Nat → Option (Nat × Ent)) : Option Nat → PV → PV
  | some sz, .nilS => .list sz []
  | some _, .row k g n => pur0 fnd (.row k g n)
  | _, v => v

def nrmL (fnd : Nat → Option (Nat × Ent)) : Nf → List PV → List PV
  | x :: xs, v :: vs => nrm0 fnd x v :: nrmL fnd xs vs
  | _, vs => vs

def nrm1 (fnd : Nat → Option (Nat × Ent)) (l : Nf) : PV → PV
  | .agg cs => .agg (nrmL fnd l cs)
  | v => nrm0 fnd (l.headD none) v

def nks0 : Option Nat → PV → List Nat
  | some _, .row k _ _ => [k]
  | _, _ => []

def nksL : Nf → List PV → List Nat
  | x :: xs, v :: vs => nks0 x v ++ nksL xs vs
  | _, _ => []

def nks1 (l : Nf) : PV → List Nat
  | .agg cs => nksL l cs
  | v => nks0 (l.headD none) v

/-- What a slot holds is told anew; where it holds an address of a variable: what lies there. -/
def St.act1 (s : St) (d : Nat) (l : Nf) : St :=
  match s.env.get d with
  | .box k _ _ => match s.sto.find k with
    | some (g', .var tv cs) => { s with sto := (Sto.frz (nksL l cs) s.sto).upd k g' (.var tv (nrmL s.sto.find l cs)) }
    | _ => s
  | v => { s with env := (d, nrm1 s.sto.find l v) :: s.env, sto := Sto.frz (nks1 l v) s.sto }

def nfOf : List (Nat × Nf) → Nat → Nf
  | [], _ => []
  | (j, l) :: r, d => if d = j then l else nfOf r d

def St.act2 (s : St) (d : Nat) : Nf → St
  | [] => s
  | l => s.act1 d l

def St.act (s : St) (nf : List (Nat × Nf)) : Option Nat → St
  | some d => s.act2 d (nfOf nf d)
  | none => s

def St.actq (q : Bool) (nf : List (Nat × Nf)) (dst : Option Nat) (s : St) : St :=
  match q with
  | true => s
  | false => s.act nf dst

def keyOf (nm : Names) : Option Nat → Nat
  | some d => nm d
  | none => 0

def guardSlot (ops : List Oper) (j : Nat) : Option Nat := (ops[j]?).bind (·.dst)

/-- Operations that lay something anew. -/
def laysOp : Op → Bool
  | .alloc _ | .box _ _ | .buildSlice _ _ _ | .range _ _ => true
  | _ => false

def PV.top : PV → Option Nat
  | .row k _ _ | .box k _ _ | .elt k _ _ _ => some k
  | _ => none

def fpIn : List (Nat × List Nat) → Nat → Option (List Nat)
  | [], _ => none
  | (j, l) :: r, d => if d = j then some l else fpIn r d

def fpOf (fp : List (Nat × List Nat)) : Option Nat → Option (List Nat)
  | some d => fpIn fp d
  | none => none

def topIn (F : List Nat) : Option Nat → Bool
  | some k => F.contains k
  | none => true

def topsIn (F : List Nat) (s : St) : List Operand → Bool
  | [] => true
  | x :: r => topIn F (s.ev x).top && topsIn F s r

def fpOk2 (o : Oper) (s : St) : Option (List Nat) → Prop
  | some F => topsIn F s o.op.operands.toList = true
  | none => True

def fpOk (q : Bool) (nm : Names) (o : Oper) (s : St) : Prop :=
  match q with
  | true => fpOk2 o s (fpOf nm.fp o.dst)
  | false => True

/-- How what an operation yields is told. -/
def nfD (nm : Names) : Option Nat → Nf
  | some d => nfOf nm.nf d
  | none => []

/-- The keys that a call may touch in a region that draws its order: where its slot has a footprint. -/
def callF (nm : Names) (op : Op) (dst : Option Nat) : Option (List Nat) :=
  match op with
  | .call c => match c.callee with
    | .value _ => fpOf nm.fp dst
    | _ => none
  | _ => none
def fOf (q : Bool) (nm : Names) (op : Op) (dst : Option Nat) : Option (List Nat) :=
  match q with
  | true => callF nm op dst
  | false => none

/-- A call, in a region that draws its order, of what writes behind keys of the footprint, or makes a row of its own. -/
def callQwp (P : Program) (fp : List Nat) (s : St) (dst : Option Nat) (k g f : Nat) (args : List PV) (K : St → Prop) : Prop :=
  ∃ ks es args' r es', (∀ x ∈ ks, x.1 ∈ fp) ∧ findAll (keyAt ks) ks.length s.sto ks es ∧ (ks.map (·.1)).Nodup ∧ extOkL ks.length args' = true ∧ WkL args (instL (keyAt ks) args') ∧ BC P f args' es r es' ∧ (notOwn r || !anyMoves es') = true ∧
    K (({ s with sto := setAll s.sto (newKs g ks es') (es'.map (Ent.inst (keyAt (newKs g ks es')))) } : St).back dst k g r)

def wpQ (P : Program) (q : Bool) (fp : Option (List Nat)) (s : St) (dst : Option Nat) (k g : Nat) (r : Res) (K : St → Prop) : Prop :=
  match fp, r with
  | some fp, .call f args => callQwp P fp s dst k g f args K
  | _, r => r.wp P q s dst k g K

def runWp (P : Program) (q : Bool) (nm : Names) (i : Nat) (o : Oper) (s : St) (K : St → Prop) : Prop :=
  (q = true → laysOp o.op = true → s.sto.find (keyOf nm o.dst) = none) ∧ fpOk q nm o s ∧ wpQ P q (fOf q nm o.op o.dst) s o.dst (keyOf nm o.dst) (s.nx + i) (shutq q (nfD nm o.dst) o.op (opRes P q s (keyOf nm o.dst) (s.nx + i) o.op)) fun s' => K (s'.actq q nm.nf o.dst)

/-- Does a guarded operation come up? What was passed over itself yields nothing. -/
def gate (want : Bool) : PV → Option Bool
  | .bool b => some (b == want)
  | .tup [] => some false
  | _ => none

def opWp (P : Program) (q : Bool) (nm : Names) (ops : List Oper) (i : Nat) (o : Oper) (s : St) (K : St → Prop) : Prop :=
  match o.guard with
  | none => runWp P q nm i o s K
  | some (j, want) => match guardSlot ops j with
    | some d => match gate want (s.env.get d) with
      | some true => runWp P q nm i o s K
      | some false => K (s.put o.dst (.tup []))
      | none => False
    | none => False

def opsWp (P : Program) (q : Bool) (nm : Names) (ops : List Oper) : List Oper → Nat → St → (St → Prop) → Prop
  | [], _, s, K => K s
  | o :: r, i, s, K => opWp P q nm ops i o s fun s' => opsWp P q nm ops r (i + 1) s' K

/-- What is done behind a region to how things are told: a slot that holds a nil slice is told from there on as a row of nothing behind a key; a cell of a variable likewise; what a slot holds is told anew; a key gets another name. -/
inductive FAct where
  | thaw (d k sz : Nat)
  | thawV (k c k' sz : Nat)
  | thawB (k c k' bt : Nat)
  | nrm (d : Nat) (l : Nf)
  | ren (k k' : Nat)
  | self (k c : Nat)

/-- What is kept behind a region: slots, keys; and what is done ahead of that, and behind. -/
structure Ann where
  keep : List Nat
  keys : List Nat
  acts : List FAct
  last : List FAct
  order : List Nat

mutual
/-- Does a value speak of a key? -/
def PV.speaks (k : Nat) : PV → Bool
  | .row j _ _ | .box j _ _ | .elt j _ _ _ | .selfP j _ => j == k
  | .agg cs => speaksL k cs
  | .tup vs => speaksL k vs
  | .fn _ cs => speaksL k cs
  | .iface _ v => v.speaks k
  | _ => false
def speaksL (k : Nat) : List PV → Bool
  | [] => false
  | p :: ps => p.speaks k || speaksL k ps
end

mutual
def PV.ren (k k' : Nat) : PV → PV
  | .row j g n => .row (if j = k then k' else j) g n
  | .box j g off => .box (if j = k then k' else j) g off
  | .elt j g i off => .elt (if j = k then k' else j) g i off
  | .selfP j g => .selfP (if j = k then k' else j) g
  | .agg cs => .agg (renL k k' cs)
  | .tup vs => .tup (renL k k' vs)
  | .fn f cs => .fn f (renL k k' cs)
  | .iface t v => .iface t (v.ren k k')
  | v => v
def renL (k k' : Nat) : List PV → List PV
  | [] => []
  | p :: ps => p.ren k k' :: renL k k' ps
end

def Ent.speaks (k : Nat) : Ent → Bool
  | .var _ cs => speaksL k cs
  | _ => false

def Ent.ren (k k' : Nat) : Ent → Ent
  | .var tv cs => .var tv (renL k k' cs)
  | e => e

def envSpeaks (k : Nat) : Env → Bool
  | [] => false
  | (_, v) :: r => v.speaks k || envSpeaks k r

def stoSpeaks (k : Nat) : Sto → Bool
  | [] => false
  | (j, _, e) :: r => j == k || e.speaks k || stoSpeaks k r

def renEnv (k k' : Nat) : Env → Env
  | [] => []
  | (i, v) :: r => (i, v.ren k k') :: renEnv k k' r

def renSto (k k' : Nat) : Sto → Sto
  | [] => []
  | (j, g, e) :: r => (if j = k then k' else j, g, e.ren k k') :: renSto k k' r

def St.ren (s : St) (k k' : Nat) : St :=
  if (decide (k < 1000) && decide (k' < 1000) && !envSpeaks k' s.env && !stoSpeaks k' s.sto) = true then { env := renEnv k k' s.env, sto := renSto k k' s.sto, nx := s.nx } else s

def St.thaw1 (s : St) (d k sz : Nat) : St :=
  match s.env.get d with
  | .nilS => if k < 1000 then { env := (d, .row k s.nx 0) :: s.env, sto := s.sto.upd k s.nx (.row false sz []), nx := s.nx + 1 } else s
  | _ => s

def St.thawV (s : St) (k c k' sz : Nat) : St :=
  match s.sto.find k with
  | some (g, .var tv cs) => match cs[c]? with
    | some .nilS => if k' < 1000 ∧ k ≠ k' then { env := s.env, sto := (s.sto.upd k' s.nx (.row false sz [])).upd k g (.var tv (cs.set c (.row k' s.nx 0))), nx := s.nx + 1 } else s
    | _ => s
  | _ => s

/-- The same of a row of bytes. -/
def St.thawB (s : St) (k c k' bt : Nat) : St :=
  match s.sto.find k with
  | some (g, .var tv cs) => match cs[c]? with
    | some .nilS => if k' < 1000 ∧ k ≠ k' then { env := s.env, sto := (s.sto.upd k' s.nx (.bytes bt [])).upd k g (.var tv (cs.set c (.row k' s.nx 0))), nx := s.nx + 1 } else s
    | _ => s
  | _ => s

/-- A cell that holds nil, or the address of its own variable, is told as either. -/
def St.selfV (s : St) (k c : Nat) : St :=
  match s.sto.find k with
  | some (g, .var tv cs) => match cs[c]? with
    | some .nilP => { s with sto := s.sto.upd k g (.var tv (cs.set c (.selfP k g))) }
    | some (.box k' g' 0) => if k' = k ∧ g' = g then { s with sto := s.sto.upd k g (.var tv (cs.set c (.selfP k g))) } else s
    | _ => s
  | _ => s

def St.fact (s : St) : FAct → St
  | .thaw d k sz => s.thaw1 d k sz
  | .thawV k c k' sz => s.thawV k c k' sz
  | .thawB k c k' bt => s.thawB k c k' bt
  | .nrm d l => s.act1 d l
  | .ren k k' => s.ren k k'
  | .self k c => s.selfV k c

def St.facts : St → List FAct → St
  | s, [] => s
  | s, x :: r => (s.fact x).facts r

def keepEnv (env : Env) : List Nat → Env
  | [] => []
  | i :: r => (i, env.get i) :: keepEnv env r

def keepSto (sto : Sto) : List Nat → Sto
  | [] => []
  | k :: r => match sto.find k with
    | some x => (k, x) :: keepSto sto r
    | none => keepSto sto r

def St.keep (s : St) (a : Ann) : St := { env := keepEnv s.env a.keep, sto := keepSto s.sto a.keys, nx := s.nx }

def St.sort (s : St) (l : List Nat) : St := { env := s.env, sto := keepSto s.sto l, nx := s.nx }

def St.fin (s : St) (n : Nat) (a : Ann) : St := (((({ s with nx := s.nx + n } : St).facts a.acts).keep a).facts a.last).sort a.order

inductive AExit where
  | normal
  | exit (id : Nat)
  | goto (l : Nat)
  | ret

def AExit.then (K : St → Prop) (Q : AExit → St → Prop) : AExit → St → Prop
  | .normal, s => K s
  | e, s => Q e s

def AExit.inBlock (id : Nat) (Q : AExit → St → Prop) : AExit → St → Prop
  | .exit id', s => if id' = id then Q .normal s else Q (.exit id') s
  | e, s => Q e s

def AExit.noGoto (Q : AExit → St → Prop) : AExit → St → Prop
  | .goto _, _ => False
  | e, s => Q e s

/-- The program, the names of keys, and what is kept behind each region. -/
structure Cx where
  P : Program
  nm : Names
  an : Nat → Ann

/-- Less is told. -/
structure Less (s t : St) : Prop where
  env : ∀ i, t.env.get i = s.env.get i ∨ t.env.get i = .undef
  sto : ∀ k v, t.sto.find k = some v → s.sto.find k = some v
  nx : t.nx = s.nx

/-- Less is told, or what is there is told otherwise. -/
inductive Told : St → St → Prop where
  | less {s t : St} (h : Less s t) : Told s t
  | fact (s : St) (x : FAct) : Told s (s.fact x)
  | trans {s t u : St} (h : Told s t) (h' : Told t u) : Told s u

def CutTo (K : St → Prop) (s : St) : Prop := ∃ t, Told s t ∧ K t

def St.cut (s : St) (l ks : List Nat) : St := { env := keepEnv s.env l, sto := keepSto s.sto ks, nx := s.nx }

/-- A loop: the least that its rounds bear. -/
def ALoop (F : (AExit → St → Prop) → St → Prop) (Q : AExit → St → Prop) (s : St) : Prop :=
  ∀ I : St → Prop, (∀ s, F (AExit.then (CutTo I) Q) s → I s) → I s

def condWp (v : PV) (t e : Prop) : Prop :=
  match v with
  | .bool b => if b = true then t else e
  | _ => False

/-- Operations of a region whose order is drawn hand no rows over. -/
def awp (X : Cx) : Code → (AExit → St → Prop) → St → Prop
  | .skip, Q, s => Q .normal s
  | .label _, Q, s => Q .normal s
  | .region id ops draw, Q, s => CutTo (fun s => opsWp X.P draw X.nm ops.toList ops.toList 0 s fun s' => Q .normal (s'.fin ops.size (X.an id))) s
  | .seq a b, Q, s => awp X a (AExit.then (CutTo (awp X b Q)) Q) s
  | .cond c x y, Q, s => condWp (s.ev c) (awp X x Q s) (awp X y Q s)
  | .block id c, Q, s => awp X c (AExit.inBlock id Q) s
  | .loop c, Q, s => CutTo (ALoop (awp X c) Q) s
  | .exit id, Q, s => Q (.exit id) s
  | .goto l, Q, s => Q (.goto l) s
  | .ret, Q, s => Q .ret s
  | .scope c, Q, s => awp X c (AExit.noGoto Q) s
  | _, _, _ => False

/-! ### Functions -/
def initEnv : Nat → List PV → Env
  | _, [] => []
  | i, p :: ps => (i, p) :: initEnv (i + 1) ps

def initSt (args : List PV) (es : List Ent) : St := ⟨initEnv 0 args, extSto 0 es, 1⟩

def resOf (env : Env) : List Nat → PV
  | [t] => env.get t
  | ts => .tup (ts.map env.get)

/-- Results, in slots, and in variables. -/
inductive RV where
  | tmp (t : Nat)
  | cell (t ty : Nat)

def RV.var : RV → ResultVar
  | .tmp t => .tmp t
  | .cell t ty => .cell t ty

def cellRes (ty : Ty) (fnd : Nat → Option (Nat × Ent)) : PV → Option PV
  | .box k g 0 => match fnd k with
    | some (g', .var tv cs) => if g = g' ∧ cs.length = ty.size ∧ ty.size ≠ 0 then (match ty.agg with
      | true => some (.agg cs)
      | false => cs.head?) else none
    | _ => none
  | _ => none

def rvRes (P : Program) (s : St) : RV → Option PV
  | .tmp t => some (s.env.get t)
  | .cell t ty => match (tyOf P ty).kd with
    | .none => none
    | _ => cellRes (tyOf P ty) s.sto.find (s.env.get t)

def rvsRes (P : Program) (s : St) : List RV → Option (List PV)
  | [] => some []
  | r :: rs => match rvRes P s r with
    | some v => match rvsRes P s rs with
      | some vs => some (v :: vs)
      | none => none
    | none => none

def tupOf : List PV → PV
  | [v] => v
  | vs => .tup vs

/-- What is handed back: as it reads, or alone in its row. -/
def RetOk (s : St) (v r : PV) : Prop :=
  (Wk (pur2 s.sto.find v) r ∧ r.pure = true) ∨
  (∃ k g sz xs, v = .row k g xs.length ∧ k < 1000 ∧ s.sto.find k = some (g, .row false sz xs) ∧ r = .own sz xs) ∨
  (∃ sz, v = .nilS ∧ r = .own sz [])

/-- What lies behind the keys that were handed over, at the end: what may lie elsewhere may bear another stamp. -/
def entsOk (m : Nat → Nat × Nat) (n : Nat) (sto : Sto) : Nat → List (Nat × Nat) → List Ent → Prop
  | i, (k, g) :: ks, e :: es => k = extKey i ∧ sto.find k = some (g, e.inst m) ∧ e.extOk n = true ∧ (e.moves || g == 0) = true ∧ entsOk m n sto (i + 1) ks es
  | _, [], [] => True
  | _, _, _ => False

def bodyK (P : Program) (rs : List RV) (r : PV) (es' : List Ent) (s : St) : Prop :=
  match rvsRes P s rs with
  | some vs => RetOk s (tupOf vs) r ∧ ∃ ks, entsOk (keyAt ks) es'.length s.sto 0 ks es'
  | none => False

def bodyR (P : Program) (rs : List RV) (r : PV) (es' : List Ent) : AExit → St → Prop
  | .ret, s => bodyK P rs r es' s
  | .normal, s => CutTo (bodyK P rs r es') s
  | _, _ => False

def bodyQ (rs : List Nat) (r : PV) (es' : List Ent) : AExit → St → Prop
  | .ret, s | .normal, s => RetOk s (resOf s.env rs) r ∧ ∃ ks, entsOk (keyAt ks) es'.length s.sto 0 ks es'
  | _, _ => False

end Go.Proofs.YtlgjbmgmoaphjaaDoor
