/- Texts of the proof of stepBackCard -/
import Derived.Test.YtclohbgnaopjfaaDoorAg0
namespace Go.Proofs.YtclohbgnaopjfaaDoor
set_option linter.unusedSimpArgs false
set_option linter.unusedVariables false
open Go
set_option maxRecDepth 100000
abbrev pvL {α : Type} (sz : Nat) (f : α → PV) (l : List α) : PV := .list sz (l.map f)
structure zt where
 Text : Int
 Marks : Int
 zo : Int
 In : Int
instance : Inhabited zt := ⟨⟨0, 0, 0, 0⟩⟩
deriving instance DecidableEq for zt
def zt.pv (x : zt) : PV := .agg [.int .i64 x.Text, .int .i64 x.Marks, .int .i64 x.zo, .int .i64 x.In]
theorem zt.yn (x : zt) : x.pv = .agg [.int .i64 x.Text, .int .i64 x.Marks, .int .i64 x.zo, .int .i64 x.In] := rfl
structure zg where
 Name : Str
 Value : Str
instance : Inhabited zg := ⟨⟨[], []⟩⟩
deriving instance DecidableEq for zg
def zg.pv (x : zg) : PV := .agg [.str x.Name, .str x.Value]
theorem zg.yn (x : zg) : x.pv = .agg [.str x.Name, .str x.Value] := rfl
structure za where
 Kind : Str
 Text : Str
 Marks : (List Str)
 zo : (List zg)
 Kids : (List za)
instance : Inhabited za := ⟨⟨[], [], [], [], []⟩⟩
def za.pv : za → PV
 | ⟨a0, a1, a2, a3, a4⟩ => .agg [.str a0, .str a1, .list 1 (a2.map PV.str), .list 2 (a3.map zg.pv), .list 5 (a4.map za.pv)]
theorem za.yn (x : za) : x.pv = .agg [.str x.Kind, .str x.Text, .list 1 (x.Marks.map PV.str), .list 2 (x.zo.map zg.pv), .list 5 (x.Kids.map za.pv)] := by
 cases x; rw [za.pv]
structure zz where
 Kind : Int
 From : Int
 To : Int
 wC : (List za)
 Name : Str
 Value : Str
instance : Inhabited zz := ⟨⟨0, 0, 0, [], [], []⟩⟩
def zz.pv (x : zz) : PV := .agg [.int .u8 x.Kind, .int .i64 x.From, .int .i64 x.To, .list 5 (x.wC.map za.pv), .str x.Name, .str x.Value]
theorem zz.yn (x : zz) : x.pv = .agg [.int .u8 x.Kind, .int .i64 x.From, .int .i64 x.To, .list 5 (x.wC.map za.pv), .str x.Name, .str x.Value] := rfl
structure qE where
 path : (List Int)
 in_ : za
 from_ : Int
 to_ : Int
instance : Inhabited qE := ⟨⟨[], default, 0, 0⟩⟩
def qE.pv (x : qE) : PV := .agg [.list 1 (x.path.map (PV.int .i64)), .str x.in_.Kind, .str x.in_.Text, .list 1 (x.in_.Marks.map PV.str), .list 2 (x.in_.zo.map zg.pv), .list 5 (x.in_.Kids.map za.pv), .int .i64 x.from_, .int .i64 x.to_]
theorem qE.yn (x : qE) : x.pv = .agg [.list 1 (x.path.map (PV.int .i64)), .str x.in_.Kind, .str x.in_.Text, .list 1 (x.in_.Marks.map PV.str), .list 2 (x.in_.zo.map zg.pv), .list 5 (x.in_.Kids.map za.pv), .int .i64 x.from_, .int .i64 x.to_] := rfl
structure wB where
 Path : (List Int)
 Index : Int
 Offset : Int
instance : Inhabited wB := ⟨⟨[], 0, 0⟩⟩
deriving instance DecidableEq for wB
def wB.pv (x : wB) : PV := .agg [.list 1 (x.Path.map (PV.int .i64)), .int .i64 x.Index, .int .i64 x.Offset]
theorem wB.yn (x : wB) : x.pv = .agg [.list 1 (x.Path.map (PV.int .i64)), .int .i64 x.Index, .int .i64 x.Offset] := rfl
structure zk where
 Pos : Int
 Old : Int
 New : Int
instance : Inhabited zk := ⟨⟨0, 0, 0⟩⟩
deriving instance DecidableEq for zk
def zk.pv (x : zk) : PV := .agg [.int .i64 x.Pos, .int .i64 x.Old, .int .i64 x.New]
theorem zk.yn (x : zk) : x.pv = .agg [.int .i64 x.Pos, .int .i64 x.Old, .int .i64 x.New] := rfl
structure xg where
 s : zz
 changed : (List zk)
instance : Inhabited xg := ⟨⟨default, []⟩⟩
def xg.pv (x : xg) : PV := .agg [.int .u8 x.s.Kind, .int .i64 x.s.From, .int .i64 x.s.To, .list 5 (x.s.wC.map za.pv), .str x.s.Name, .str x.s.Value, .list 3 (x.changed.map zk.pv)]
theorem xg.yn (x : xg) : x.pv = .agg [.int .u8 x.s.Kind, .int .i64 x.s.From, .int .i64 x.s.To, .list 5 (x.s.wC.map za.pv), .str x.s.Name, .str x.s.Value, .list 3 (x.changed.map zk.pv)] := rfl
end Go.Proofs.YtclohbgnaopjfaaDoor
