/- The types of the program, plain. -/
import Derived.Test.YtblielhogcnnkaaDoorAg0
namespace Go.Proofs.YtblielhogcnnkaaDoor
set_option linter.unusedSimpArgs false
set_option linter.unusedVariables false
open Go
set_option maxRecDepth 100000

abbrev pvL {α : Type} (sz : Nat) (f : α → PV) (l : List α) : PV := .list sz (l.map f)
structure diptychlaw5_Cell where
  Op : Int
  A : Int
  B : Int
instance : Inhabited diptychlaw5_Cell := ⟨⟨0, 0, 0⟩⟩
deriving instance DecidableEq for diptychlaw5_Cell
def diptychlaw5_Cell.pv (x : diptychlaw5_Cell) : PV := .agg [.int .i64 x.Op, .int .i64 x.A, .int .i64 x.B]
theorem diptychlaw5_Cell.pv_eq (x : diptychlaw5_Cell) : x.pv = .agg [.int .i64 x.Op, .int .i64 x.A, .int .i64 x.B] := rfl
structure api_Attr where
  Name : Str
  Value : Str
instance : Inhabited api_Attr := ⟨⟨[], []⟩⟩
deriving instance DecidableEq for api_Attr
def api_Attr.pv (x : api_Attr) : PV := .agg [.str x.Name, .str x.Value]
theorem api_Attr.pv_eq (x : api_Attr) : x.pv = .agg [.str x.Name, .str x.Value] := rfl
structure api_Node where
  Kind : Str
  Text : Str
  Marks : (List Str)
  Attrs : (List api_Attr)
  Kids : (List api_Node)
instance : Inhabited api_Node := ⟨⟨[], [], [], [], []⟩⟩
def api_Node.pv : api_Node → PV
  | ⟨a0, a1, a2, a3, a4⟩ => .agg [.str a0, .str a1, .list 1 (a2.map PV.str), .list 2 (a3.map api_Attr.pv), .list 5 (a4.map api_Node.pv)]
theorem api_Node.pv_eq (x : api_Node) : x.pv = .agg [.str x.Kind, .str x.Text, .list 1 (x.Marks.map PV.str), .list 2 (x.Attrs.map api_Attr.pv), .list 5 (x.Kids.map api_Node.pv)] := by
  cases x; rw [api_Node.pv]
structure token_Token where
  Kind : Int
  Text : Str
  Head : Str
instance : Inhabited token_Token := ⟨⟨0, [], []⟩⟩
deriving instance DecidableEq for token_Token
def token_Token.pv (x : token_Token) : PV := .agg [.int .u8 x.Kind, .str x.Text, .str x.Head]
theorem token_Token.pv_eq (x : token_Token) : x.pv = .agg [.int .u8 x.Kind, .str x.Text, .str x.Head] := rfl
structure piece_flat where
  path : (List Int)
  in_ : api_Node
  from_ : Int
  to_ : Int
instance : Inhabited piece_flat := ⟨⟨[], default, 0, 0⟩⟩
def piece_flat.pv (x : piece_flat) : PV := .agg [.list 1 (x.path.map (PV.int .i64)), .str x.in_.Kind, .str x.in_.Text, .list 1 (x.in_.Marks.map PV.str), .list 2 (x.in_.Attrs.map api_Attr.pv), .list 5 (x.in_.Kids.map api_Node.pv), .int .i64 x.from_, .int .i64 x.to_]
theorem piece_flat.pv_eq (x : piece_flat) : x.pv = .agg [.list 1 (x.path.map (PV.int .i64)), .str x.in_.Kind, .str x.in_.Text, .list 1 (x.in_.Marks.map PV.str), .list 2 (x.in_.Attrs.map api_Attr.pv), .list 5 (x.in_.Kids.map api_Node.pv), .int .i64 x.from_, .int .i64 x.to_] := rfl
structure place_Spot where
  Path : (List Int)
  Index : Int
  Offset : Int
instance : Inhabited place_Spot := ⟨⟨[], 0, 0⟩⟩
deriving instance DecidableEq for place_Spot
def place_Spot.pv (x : place_Spot) : PV := .agg [.list 1 (x.Path.map (PV.int .i64)), .int .i64 x.Index, .int .i64 x.Offset]
theorem place_Spot.pv_eq (x : place_Spot) : x.pv = .agg [.list 1 (x.Path.map (PV.int .i64)), .int .i64 x.Index, .int .i64 x.Offset] := rfl
structure diptychref4_Spot where
  Path : (List Int)
  Index : Int
  Offset : Int
instance : Inhabited diptychref4_Spot := ⟨⟨[], 0, 0⟩⟩
deriving instance DecidableEq for diptychref4_Spot
def diptychref4_Spot.pv (x : diptychref4_Spot) : PV := .agg [.list 1 (x.Path.map (PV.int .i64)), .int .i64 x.Index, .int .i64 x.Offset]
theorem diptychref4_Spot.pv_eq (x : diptychref4_Spot) : x.pv = .agg [.list 1 (x.Path.map (PV.int .i64)), .int .i64 x.Index, .int .i64 x.Offset] := rfl

end Go.Proofs.YtblielhogcnnkaaDoor
