/- Texts of the proof of stepTokensCard -/
import Derived.Test.YtclohbgnaopjfaaGreatDoorAg0
namespace Go.Proofs.YtclohbgnaopjfaaGreatDoor
set_option linter.unusedSimpArgs false
set_option linter.unusedVariables false
open Go
set_option maxRecDepth 100000
abbrev pvL {α : Type} (sz : Nat) (f : α → PV) (l : List α) : PV := .list sz (l.map f)
structure zu where
 Text : Int
 Marks : Int
 zq : Int
 In : Int
instance : Inhabited zu := ⟨⟨0, 0, 0, 0⟩⟩
deriving instance DecidableEq for zu
def zu.pv (x : zu) : PV := .agg [.int .i64 x.Text, .int .i64 x.Marks, .int .i64 x.zq, .int .i64 x.In]
theorem zu.jA (x : zu) : x.pv = .agg [.int .i64 x.Text, .int .i64 x.Marks, .int .i64 x.zq, .int .i64 x.In] := rfl
structure zf where
 Name : Str
 Value : Str
instance : Inhabited zf := ⟨⟨[], []⟩⟩
deriving instance DecidableEq for zf
def zf.pv (x : zf) : PV := .agg [.str x.Name, .str x.Value]
theorem zf.jA (x : zf) : x.pv = .agg [.str x.Name, .str x.Value] := rfl
structure za where
 Kind : Str
 Text : Str
 Marks : (List Str)
 zq : (List zf)
 Kids : (List za)
instance : Inhabited za := ⟨⟨[], [], [], [], []⟩⟩
def za.pv : za → PV
 | ⟨a0, a1, a2, a3, a4⟩ => .agg [.str a0, .str a1, .list 1 (a2.map PV.str), .list 2 (a3.map zf.pv), .list 5 (a4.map za.pv)]
theorem za.jA (x : za) : x.pv = .agg [.str x.Kind, .str x.Text, .list 1 (x.Marks.map PV.str), .list 2 (x.zq.map zf.pv), .list 5 (x.Kids.map za.pv)] := by
 cases x; rw [za.pv]
structure zG where
 Kind : Int
 From : Int
 To : Int
 wJ : (List za)
 Name : Str
 Value : Str
instance : Inhabited zG := ⟨⟨0, 0, 0, [], [], []⟩⟩
def zG.pv (x : zG) : PV := .agg [.int .u8 x.Kind, .int .i64 x.From, .int .i64 x.To, .list 5 (x.wJ.map za.pv), .str x.Name, .str x.Value]
theorem zG.jA (x : zG) : x.pv = .agg [.int .u8 x.Kind, .int .i64 x.From, .int .i64 x.To, .list 5 (x.wJ.map za.pv), .str x.Name, .str x.Value] := rfl
structure zx where
 Kind : Int
 Text : Str
 Head : Str
instance : Inhabited zx := ⟨⟨0, [], []⟩⟩
deriving instance DecidableEq for zx
def zx.pv (x : zx) : PV := .agg [.int .u8 x.Kind, .str x.Text, .str x.Head]
theorem zx.jA (x : zx) : x.pv = .agg [.int .u8 x.Kind, .str x.Text, .str x.Head] := rfl
structure wR where
 Kind : Int
 Text : Str
 Head : Str
instance : Inhabited wR := ⟨⟨0, [], []⟩⟩
deriving instance DecidableEq for wR
def wR.pv (x : wR) : PV := .agg [.int .u8 x.Kind, .str x.Text, .str x.Head]
theorem wR.jA (x : wR) : x.pv = .agg [.int .u8 x.Kind, .str x.Text, .str x.Head] := rfl
structure qH where
 path : (List Int)
 in_ : za
 from_ : Int
 to_ : Int
instance : Inhabited qH := ⟨⟨[], default, 0, 0⟩⟩
def qH.pv (x : qH) : PV := .agg [.list 1 (x.path.map (PV.int .i64)), .str x.in_.Kind, .str x.in_.Text, .list 1 (x.in_.Marks.map PV.str), .list 2 (x.in_.zq.map zf.pv), .list 5 (x.in_.Kids.map za.pv), .int .i64 x.from_, .int .i64 x.to_]
theorem qH.jA (x : qH) : x.pv = .agg [.list 1 (x.path.map (PV.int .i64)), .str x.in_.Kind, .str x.in_.Text, .list 1 (x.in_.Marks.map PV.str), .list 2 (x.in_.zq.map zf.pv), .list 5 (x.in_.Kids.map za.pv), .int .i64 x.from_, .int .i64 x.to_] := rfl
structure wz where
 Path : (List Int)
 Index : Int
 Offset : Int
instance : Inhabited wz := ⟨⟨[], 0, 0⟩⟩
deriving instance DecidableEq for wz
def wz.pv (x : wz) : PV := .agg [.list 1 (x.Path.map (PV.int .i64)), .int .i64 x.Index, .int .i64 x.Offset]
theorem wz.jA (x : wz) : x.pv = .agg [.list 1 (x.Path.map (PV.int .i64)), .int .i64 x.Index, .int .i64 x.Offset] := rfl
structure zi where
 Pos : Int
 Old : Int
 New : Int
instance : Inhabited zi := ⟨⟨0, 0, 0⟩⟩
deriving instance DecidableEq for zi
def zi.pv (x : zi) : PV := .agg [.int .i64 x.Pos, .int .i64 x.Old, .int .i64 x.New]
theorem zi.jA (x : zi) : x.pv = .agg [.int .i64 x.Pos, .int .i64 x.Old, .int .i64 x.New] := rfl
structure jS where
 s : zG
 changed : (List zi)
instance : Inhabited jS := ⟨⟨default, []⟩⟩
def jS.pv (x : jS) : PV := .agg [.int .u8 x.s.Kind, .int .i64 x.s.From, .int .i64 x.s.To, .list 5 (x.s.wJ.map za.pv), .str x.s.Name, .str x.s.Value, .list 3 (x.changed.map zi.pv)]
theorem jS.jA (x : jS) : x.pv = .agg [.int .u8 x.s.Kind, .int .i64 x.s.From, .int .i64 x.s.To, .list 5 (x.s.wJ.map za.pv), .str x.s.Name, .str x.s.Value, .list 3 (x.changed.map zi.pv)] := rfl
end Go.Proofs.YtclohbgnaopjfaaGreatDoor
