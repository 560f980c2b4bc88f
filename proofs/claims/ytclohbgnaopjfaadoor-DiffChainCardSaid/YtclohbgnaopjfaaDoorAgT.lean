/- Texts of the proof of diffChainCard -/
import Derived.Test.YtclohbgnaopjfaaDoorAg0
namespace Go.Proofs.YtclohbgnaopjfaaDoor
set_option linter.unusedSimpArgs false
set_option linter.unusedVariables false
open Go
set_option maxRecDepth 100000
abbrev pvL {α : Type} (sz : Nat) (f : α → PV) (l : List α) : PV := .list sz (l.map f)
structure zx where
 Text : Int
 Marks : Int
 zh : Int
 In : Int
instance : Inhabited zx := ⟨⟨0, 0, 0, 0⟩⟩
deriving instance DecidableEq for zx
def zx.pv (x : zx) : PV := .agg [.int .i64 x.Text, .int .i64 x.Marks, .int .i64 x.zh, .int .i64 x.In]
theorem zx.xY (x : zx) : x.pv = .agg [.int .i64 x.Text, .int .i64 x.Marks, .int .i64 x.zh, .int .i64 x.In] := rfl
structure ze where
 Name : Str
 Value : Str
instance : Inhabited ze := ⟨⟨[], []⟩⟩
deriving instance DecidableEq for ze
def ze.pv (x : ze) : PV := .agg [.str x.Name, .str x.Value]
theorem ze.xY (x : ze) : x.pv = .agg [.str x.Name, .str x.Value] := rfl
structure za where
 Kind : Str
 Text : Str
 Marks : (List Str)
 zh : (List ze)
 Kids : (List za)
instance : Inhabited za := ⟨⟨[], [], [], [], []⟩⟩
def za.pv : za → PV
 | ⟨a0, a1, a2, a3, a4⟩ => .agg [.str a0, .str a1, .list 1 (a2.map PV.str), .list 2 (a3.map ze.pv), .list 5 (a4.map za.pv)]
theorem za.xY (x : za) : x.pv = .agg [.str x.Kind, .str x.Text, .list 1 (x.Marks.map PV.str), .list 2 (x.zh.map ze.pv), .list 5 (x.Kids.map za.pv)] := by
 cases x; rw [za.pv]
structure zo where
 Kind : Int
 From : Int
 To : Int
 kF : (List za)
 Name : Str
 Value : Str
instance : Inhabited zo := ⟨⟨0, 0, 0, [], [], []⟩⟩
def zo.pv (x : zo) : PV := .agg [.int .u8 x.Kind, .int .i64 x.From, .int .i64 x.To, .list 5 (x.kF.map za.pv), .str x.Name, .str x.Value]
theorem zo.xY (x : zo) : x.pv = .agg [.int .u8 x.Kind, .int .i64 x.From, .int .i64 x.To, .list 5 (x.kF.map za.pv), .str x.Name, .str x.Value] := rfl
structure jb where
 a : za
 b : za
 path : (List Int)
 at_ : Int
 head : Int
 m : Int
 n : Int
 attrs : (List zo)
instance : Inhabited jb := ⟨⟨default, default, [], 0, 0, 0, 0, []⟩⟩
def jb.pv (x : jb) : PV := .agg [.str x.a.Kind, .str x.a.Text, .list 1 (x.a.Marks.map PV.str), .list 2 (x.a.zh.map ze.pv), .list 5 (x.a.Kids.map za.pv), .str x.b.Kind, .str x.b.Text, .list 1 (x.b.Marks.map PV.str), .list 2 (x.b.zh.map ze.pv), .list 5 (x.b.Kids.map za.pv), .list 1 (x.path.map (PV.int .i64)), .int .i64 x.at_, .int .i64 x.head, .int .i64 x.m, .int .i64 x.n, .list 6 (x.attrs.map zo.pv)]
theorem jb.xY (x : jb) : x.pv = .agg [.str x.a.Kind, .str x.a.Text, .list 1 (x.a.Marks.map PV.str), .list 2 (x.a.zh.map ze.pv), .list 5 (x.a.Kids.map za.pv), .str x.b.Kind, .str x.b.Text, .list 1 (x.b.Marks.map PV.str), .list 2 (x.b.zh.map ze.pv), .list 5 (x.b.Kids.map za.pv), .list 1 (x.path.map (PV.int .i64)), .int .i64 x.at_, .int .i64 x.head, .int .i64 x.m, .int .i64 x.n, .list 6 (x.attrs.map zo.pv)] := rfl
structure qU where
 path : (List Int)
 in_ : za
 from_ : Int
 to_ : Int
instance : Inhabited qU := ⟨⟨[], default, 0, 0⟩⟩
def qU.pv (x : qU) : PV := .agg [.list 1 (x.path.map (PV.int .i64)), .str x.in_.Kind, .str x.in_.Text, .list 1 (x.in_.Marks.map PV.str), .list 2 (x.in_.zh.map ze.pv), .list 5 (x.in_.Kids.map za.pv), .int .i64 x.from_, .int .i64 x.to_]
theorem qU.xY (x : qU) : x.pv = .agg [.list 1 (x.path.map (PV.int .i64)), .str x.in_.Kind, .str x.in_.Text, .list 1 (x.in_.Marks.map PV.str), .list 2 (x.in_.zh.map ze.pv), .list 5 (x.in_.Kids.map za.pv), .int .i64 x.from_, .int .i64 x.to_] := rfl
structure wG where
 Path : (List Int)
 Index : Int
 Offset : Int
instance : Inhabited wG := ⟨⟨[], 0, 0⟩⟩
deriving instance DecidableEq for wG
def wG.pv (x : wG) : PV := .agg [.list 1 (x.Path.map (PV.int .i64)), .int .i64 x.Index, .int .i64 x.Offset]
theorem wG.xY (x : wG) : x.pv = .agg [.list 1 (x.Path.map (PV.int .i64)), .int .i64 x.Index, .int .i64 x.Offset] := rfl
structure zt where
 Pos : Int
 Old : Int
 New : Int
instance : Inhabited zt := ⟨⟨0, 0, 0⟩⟩
deriving instance DecidableEq for zt
def zt.pv (x : zt) : PV := .agg [.int .i64 x.Pos, .int .i64 x.Old, .int .i64 x.New]
theorem zt.xY (x : zt) : x.pv = .agg [.int .i64 x.Pos, .int .i64 x.Old, .int .i64 x.New] := rfl
structure xC where
 s : zo
 changed : (List zt)
instance : Inhabited xC := ⟨⟨default, []⟩⟩
def xC.pv (x : xC) : PV := .agg [.int .u8 x.s.Kind, .int .i64 x.s.From, .int .i64 x.s.To, .list 5 (x.s.kF.map za.pv), .str x.s.Name, .str x.s.Value, .list 3 (x.changed.map zt.pv)]
theorem xC.xY (x : xC) : x.pv = .agg [.int .u8 x.s.Kind, .int .i64 x.s.From, .int .i64 x.s.To, .list 5 (x.s.kF.map za.pv), .str x.s.Name, .str x.s.Value, .list 3 (x.changed.map zt.pv)] := rfl
end Go.Proofs.YtclohbgnaopjfaaDoor
