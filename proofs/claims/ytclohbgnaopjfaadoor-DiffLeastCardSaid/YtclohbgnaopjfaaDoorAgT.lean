/- Texts of the proof of diffLeastCard -/
import Derived.Test.YtclohbgnaopjfaaDoorAg0
namespace Go.Proofs.YtclohbgnaopjfaaDoor
set_option linter.unusedSimpArgs false
set_option linter.unusedVariables false
open Go
set_option maxRecDepth 100000
abbrev pvL {α : Type} (sz : Nat) (f : α → PV) (l : List α) : PV := .list sz (l.map f)
structure zu where
 Text : Int
 Marks : Int
 zh : Int
 In : Int
instance : Inhabited zu := ⟨⟨0, 0, 0, 0⟩⟩
deriving instance DecidableEq for zu
def zu.pv (x : zu) : PV := .agg [.int .i64 x.Text, .int .i64 x.Marks, .int .i64 x.zh, .int .i64 x.In]
theorem zu.xE (x : zu) : x.pv = .agg [.int .i64 x.Text, .int .i64 x.Marks, .int .i64 x.zh, .int .i64 x.In] := rfl
structure ze where
 Name : Str
 Value : Str
instance : Inhabited ze := ⟨⟨[], []⟩⟩
deriving instance DecidableEq for ze
def ze.pv (x : ze) : PV := .agg [.str x.Name, .str x.Value]
theorem ze.xE (x : ze) : x.pv = .agg [.str x.Name, .str x.Value] := rfl
structure za where
 Kind : Str
 Text : Str
 Marks : (List Str)
 zh : (List ze)
 Kids : (List za)
instance : Inhabited za := ⟨⟨[], [], [], [], []⟩⟩
def za.pv : za → PV
 | ⟨a0, a1, a2, a3, a4⟩ => .agg [.str a0, .str a1, .list 1 (a2.map PV.str), .list 2 (a3.map ze.pv), .list 5 (a4.map za.pv)]
theorem za.xE (x : za) : x.pv = .agg [.str x.Kind, .str x.Text, .list 1 (x.Marks.map PV.str), .list 2 (x.zh.map ze.pv), .list 5 (x.Kids.map za.pv)] := by
 cases x; rw [za.pv]
structure zx where
 Kind : Int
 From : Int
 To : Int
 kG : (List za)
 Name : Str
 Value : Str
instance : Inhabited zx := ⟨⟨0, 0, 0, [], [], []⟩⟩
def zx.pv (x : zx) : PV := .agg [.int .u8 x.Kind, .int .i64 x.From, .int .i64 x.To, .list 5 (x.kG.map za.pv), .str x.Name, .str x.Value]
theorem zx.xE (x : zx) : x.pv = .agg [.int .u8 x.Kind, .int .i64 x.From, .int .i64 x.To, .list 5 (x.kG.map za.pv), .str x.Name, .str x.Value] := rfl
structure vT where
 a : za
 b : za
 path : (List Int)
 at_ : Int
 head : Int
 m : Int
 n : Int
 attrs : (List zx)
instance : Inhabited vT := ⟨⟨default, default, [], 0, 0, 0, 0, []⟩⟩
def vT.pv (x : vT) : PV := .agg [.str x.a.Kind, .str x.a.Text, .list 1 (x.a.Marks.map PV.str), .list 2 (x.a.zh.map ze.pv), .list 5 (x.a.Kids.map za.pv), .str x.b.Kind, .str x.b.Text, .list 1 (x.b.Marks.map PV.str), .list 2 (x.b.zh.map ze.pv), .list 5 (x.b.Kids.map za.pv), .list 1 (x.path.map (PV.int .i64)), .int .i64 x.at_, .int .i64 x.head, .int .i64 x.m, .int .i64 x.n, .list 6 (x.attrs.map zx.pv)]
theorem vT.xE (x : vT) : x.pv = .agg [.str x.a.Kind, .str x.a.Text, .list 1 (x.a.Marks.map PV.str), .list 2 (x.a.zh.map ze.pv), .list 5 (x.a.Kids.map za.pv), .str x.b.Kind, .str x.b.Text, .list 1 (x.b.Marks.map PV.str), .list 2 (x.b.zh.map ze.pv), .list 5 (x.b.Kids.map za.pv), .list 1 (x.path.map (PV.int .i64)), .int .i64 x.at_, .int .i64 x.head, .int .i64 x.m, .int .i64 x.n, .list 6 (x.attrs.map zx.pv)] := rfl
structure qO where
 path : (List Int)
 in_ : za
 from_ : Int
 to_ : Int
instance : Inhabited qO := ⟨⟨[], default, 0, 0⟩⟩
def qO.pv (x : qO) : PV := .agg [.list 1 (x.path.map (PV.int .i64)), .str x.in_.Kind, .str x.in_.Text, .list 1 (x.in_.Marks.map PV.str), .list 2 (x.in_.zh.map ze.pv), .list 5 (x.in_.Kids.map za.pv), .int .i64 x.from_, .int .i64 x.to_]
theorem qO.xE (x : qO) : x.pv = .agg [.list 1 (x.path.map (PV.int .i64)), .str x.in_.Kind, .str x.in_.Text, .list 1 (x.in_.Marks.map PV.str), .list 2 (x.in_.zh.map ze.pv), .list 5 (x.in_.Kids.map za.pv), .int .i64 x.from_, .int .i64 x.to_] := rfl
structure wo where
 Path : (List Int)
 Index : Int
 Offset : Int
instance : Inhabited wo := ⟨⟨[], 0, 0⟩⟩
deriving instance DecidableEq for wo
def wo.pv (x : wo) : PV := .agg [.list 1 (x.Path.map (PV.int .i64)), .int .i64 x.Index, .int .i64 x.Offset]
theorem wo.xE (x : wo) : x.pv = .agg [.list 1 (x.Path.map (PV.int .i64)), .int .i64 x.Index, .int .i64 x.Offset] := rfl
structure zD where
 Pos : Int
 Old : Int
 New : Int
instance : Inhabited zD := ⟨⟨0, 0, 0⟩⟩
deriving instance DecidableEq for zD
def zD.pv (x : zD) : PV := .agg [.int .i64 x.Pos, .int .i64 x.Old, .int .i64 x.New]
theorem zD.xE (x : zD) : x.pv = .agg [.int .i64 x.Pos, .int .i64 x.Old, .int .i64 x.New] := rfl
structure jW where
 s : zx
 changed : (List zD)
instance : Inhabited jW := ⟨⟨default, []⟩⟩
def jW.pv (x : jW) : PV := .agg [.int .u8 x.s.Kind, .int .i64 x.s.From, .int .i64 x.s.To, .list 5 (x.s.kG.map za.pv), .str x.s.Name, .str x.s.Value, .list 3 (x.changed.map zD.pv)]
theorem jW.xE (x : jW) : x.pv = .agg [.int .u8 x.s.Kind, .int .i64 x.s.From, .int .i64 x.s.To, .list 5 (x.s.kG.map za.pv), .str x.s.Name, .str x.s.Value, .list 3 (x.changed.map zD.pv)] := rfl
end Go.Proofs.YtclohbgnaopjfaaDoor
