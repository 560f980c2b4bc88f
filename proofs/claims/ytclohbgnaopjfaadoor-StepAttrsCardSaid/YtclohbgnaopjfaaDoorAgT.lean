/- Texts of the proof of stepAttrsCard -/
import Derived.Test.YtclohbgnaopjfaaDoorAg0
namespace Go.Proofs.YtclohbgnaopjfaaDoor
set_option linter.unusedSimpArgs false
set_option linter.unusedVariables false
open Go
set_option maxRecDepth 100000
abbrev pvL {α : Type} (sz : Nat) (f : α → PV) (l : List α) : PV := .list sz (l.map f)
structure zu where
  Text : Int
  Marks : Int
  zt : Int
  In : Int
instance : Inhabited zu := ⟨⟨0, 0, 0, 0⟩⟩
deriving instance DecidableEq for zu
def zu.pv (x : zu) : PV := .agg [.int .i64 x.Text, .int .i64 x.Marks, .int .i64 x.zt, .int .i64 x.In]
theorem zu.xK (x : zu) : x.pv = .agg [.int .i64 x.Text, .int .i64 x.Marks, .int .i64 x.zt, .int .i64 x.In] := rfl
structure zf where
  Name : Str
  Value : Str
instance : Inhabited zf := ⟨⟨[], []⟩⟩
deriving instance DecidableEq for zf
def zf.pv (x : zf) : PV := .agg [.str x.Name, .str x.Value]
theorem zf.xK (x : zf) : x.pv = .agg [.str x.Name, .str x.Value] := rfl
structure za where
  Kind : Str
  Text : Str
  Marks : (List Str)
  zt : (List zf)
  Kids : (List za)
instance : Inhabited za := ⟨⟨[], [], [], [], []⟩⟩
def za.pv : za → PV
  | ⟨a0, a1, a2, a3, a4⟩ => .agg [.str a0, .str a1, .list 1 (a2.map PV.str), .list 2 (a3.map zf.pv), .list 5 (a4.map za.pv)]
theorem za.xK (x : za) : x.pv = .agg [.str x.Kind, .str x.Text, .list 1 (x.Marks.map PV.str), .list 2 (x.zt.map zf.pv), .list 5 (x.Kids.map za.pv)] := by
  cases x; rw [za.pv]
structure zz where
  Kind : Int
  From : Int
  To : Int
  wC : (List za)
  Name : Str
  Value : Str
instance : Inhabited zz := ⟨⟨0, 0, 0, [], [], []⟩⟩
def zz.pv (x : zz) : PV := .agg [.int .u8 x.Kind, .int .i64 x.From, .int .i64 x.To, .list 5 (x.wC.map za.pv), .str x.Name, .str x.Value]
theorem zz.xK (x : zz) : x.pv = .agg [.int .u8 x.Kind, .int .i64 x.From, .int .i64 x.To, .list 5 (x.wC.map za.pv), .str x.Name, .str x.Value] := rfl
structure qC where
  path : (List Int)
  in_ : za
  from_ : Int
  to_ : Int
instance : Inhabited qC := ⟨⟨[], default, 0, 0⟩⟩
def qC.pv (x : qC) : PV := .agg [.list 1 (x.path.map (PV.int .i64)), .str x.in_.Kind, .str x.in_.Text, .list 1 (x.in_.Marks.map PV.str), .list 2 (x.in_.zt.map zf.pv), .list 5 (x.in_.Kids.map za.pv), .int .i64 x.from_, .int .i64 x.to_]
theorem qC.xK (x : qC) : x.pv = .agg [.list 1 (x.path.map (PV.int .i64)), .str x.in_.Kind, .str x.in_.Text, .list 1 (x.in_.Marks.map PV.str), .list 2 (x.in_.zt.map zf.pv), .list 5 (x.in_.Kids.map za.pv), .int .i64 x.from_, .int .i64 x.to_] := rfl
structure qU where
  Path : (List Int)
  Index : Int
  Offset : Int
instance : Inhabited qU := ⟨⟨[], 0, 0⟩⟩
deriving instance DecidableEq for qU
def qU.pv (x : qU) : PV := .agg [.list 1 (x.Path.map (PV.int .i64)), .int .i64 x.Index, .int .i64 x.Offset]
theorem qU.xK (x : qU) : x.pv = .agg [.list 1 (x.Path.map (PV.int .i64)), .int .i64 x.Index, .int .i64 x.Offset] := rfl
structure zn where
  Pos : Int
  Old : Int
  New : Int
instance : Inhabited zn := ⟨⟨0, 0, 0⟩⟩
deriving instance DecidableEq for zn
def zn.pv (x : zn) : PV := .agg [.int .i64 x.Pos, .int .i64 x.Old, .int .i64 x.New]
theorem zn.xK (x : zn) : x.pv = .agg [.int .i64 x.Pos, .int .i64 x.Old, .int .i64 x.New] := rfl
structure jJ where
  s : zz
  changed : (List zn)
instance : Inhabited jJ := ⟨⟨default, []⟩⟩
def jJ.pv (x : jJ) : PV := .agg [.int .u8 x.s.Kind, .int .i64 x.s.From, .int .i64 x.s.To, .list 5 (x.s.wC.map za.pv), .str x.s.Name, .str x.s.Value, .list 3 (x.changed.map zn.pv)]
theorem jJ.xK (x : jJ) : x.pv = .agg [.int .u8 x.s.Kind, .int .i64 x.s.From, .int .i64 x.s.To, .list 5 (x.s.wC.map za.pv), .str x.s.Name, .str x.s.Value, .list 3 (x.changed.map zn.pv)] := rfl
end Go.Proofs.YtclohbgnaopjfaaDoor
