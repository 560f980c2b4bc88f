/- Texts of the proof of stepThroughCard -/
import Derived.Test.YtclohbgnaopjfaaDoorAg0
namespace Go.Proofs.YtclohbgnaopjfaaDoor
set_option linter.unusedSimpArgs false
set_option linter.unusedVariables false
open Go
set_option maxRecDepth 100000
abbrev pvL {α : Type} (sz : Nat) (f : α → PV) (l : List α) : PV := .list sz (l.map f)
structure zx where
  Text : Int
  Marks : Int
  zu : Int
  In : Int
instance : Inhabited zx := ⟨⟨0, 0, 0, 0⟩⟩
deriving instance DecidableEq for zx
def zx.pv (x : zx) : PV := .agg [.int .i64 x.Text, .int .i64 x.Marks, .int .i64 x.zu, .int .i64 x.In]
theorem zx.x8 (x : zx) : x.pv = .agg [.int .i64 x.Text, .int .i64 x.Marks, .int .i64 x.zu, .int .i64 x.In] := rfl
structure zh where
  Name : Str
  Value : Str
instance : Inhabited zh := ⟨⟨[], []⟩⟩
deriving instance DecidableEq for zh
def zh.pv (x : zh) : PV := .agg [.str x.Name, .str x.Value]
theorem zh.x8 (x : zh) : x.pv = .agg [.str x.Name, .str x.Value] := rfl
structure za where
  Kind : Str
  Text : Str
  Marks : (List Str)
  zu : (List zh)
  Kids : (List za)
instance : Inhabited za := ⟨⟨[], [], [], [], []⟩⟩
def za.pv : za → PV
  | ⟨a0, a1, a2, a3, a4⟩ => .agg [.str a0, .str a1, .list 1 (a2.map PV.str), .list 2 (a3.map zh.pv), .list 5 (a4.map za.pv)]
theorem za.x8 (x : za) : x.pv = .agg [.str x.Kind, .str x.Text, .list 1 (x.Marks.map PV.str), .list 2 (x.zu.map zh.pv), .list 5 (x.Kids.map za.pv)] := by
  cases x; rw [za.pv]
structure zz where
  Kind : Int
  From : Int
  To : Int
  qK : (List za)
  Name : Str
  Value : Str
instance : Inhabited zz := ⟨⟨0, 0, 0, [], [], []⟩⟩
def zz.pv (x : zz) : PV := .agg [.int .u8 x.Kind, .int .i64 x.From, .int .i64 x.To, .list 5 (x.qK.map za.pv), .str x.Name, .str x.Value]
theorem zz.x8 (x : zz) : x.pv = .agg [.int .u8 x.Kind, .int .i64 x.From, .int .i64 x.To, .list 5 (x.qK.map za.pv), .str x.Name, .str x.Value] := rfl
structure qH where
  path : (List Int)
  in_ : za
  from_ : Int
  to_ : Int
instance : Inhabited qH := ⟨⟨[], default, 0, 0⟩⟩
def qH.pv (x : qH) : PV := .agg [.list 1 (x.path.map (PV.int .i64)), .str x.in_.Kind, .str x.in_.Text, .list 1 (x.in_.Marks.map PV.str), .list 2 (x.in_.zu.map zh.pv), .list 5 (x.in_.Kids.map za.pv), .int .i64 x.from_, .int .i64 x.to_]
theorem qH.x8 (x : qH) : x.pv = .agg [.list 1 (x.path.map (PV.int .i64)), .str x.in_.Kind, .str x.in_.Text, .list 1 (x.in_.Marks.map PV.str), .list 2 (x.in_.zu.map zh.pv), .list 5 (x.in_.Kids.map za.pv), .int .i64 x.from_, .int .i64 x.to_] := rfl
structure qU where
  Path : (List Int)
  Index : Int
  Offset : Int
instance : Inhabited qU := ⟨⟨[], 0, 0⟩⟩
deriving instance DecidableEq for qU
def qU.pv (x : qU) : PV := .agg [.list 1 (x.Path.map (PV.int .i64)), .int .i64 x.Index, .int .i64 x.Offset]
theorem qU.x8 (x : qU) : x.pv = .agg [.list 1 (x.Path.map (PV.int .i64)), .int .i64 x.Index, .int .i64 x.Offset] := rfl
structure zg where
  Pos : Int
  Old : Int
  New : Int
instance : Inhabited zg := ⟨⟨0, 0, 0⟩⟩
deriving instance DecidableEq for zg
def zg.pv (x : zg) : PV := .agg [.int .i64 x.Pos, .int .i64 x.Old, .int .i64 x.New]
theorem zg.x8 (x : zg) : x.pv = .agg [.int .i64 x.Pos, .int .i64 x.Old, .int .i64 x.New] := rfl
structure jV where
  s : zz
  changed : (List zg)
instance : Inhabited jV := ⟨⟨default, []⟩⟩
def jV.pv (x : jV) : PV := .agg [.int .u8 x.s.Kind, .int .i64 x.s.From, .int .i64 x.s.To, .list 5 (x.s.qK.map za.pv), .str x.s.Name, .str x.s.Value, .list 3 (x.changed.map zg.pv)]
theorem jV.x8 (x : jV) : x.pv = .agg [.int .u8 x.s.Kind, .int .i64 x.s.From, .int .i64 x.s.To, .list 5 (x.s.qK.map za.pv), .str x.s.Name, .str x.s.Value, .list 3 (x.changed.map zg.pv)] := rfl
end Go.Proofs.YtclohbgnaopjfaaDoor
