/- The types of the program, plain. -/
import Derived.Test.YtpjdafhmneiohaaDoorAg0
namespace Go.Proofs.YtpjdafhmneiohaaDoor
set_option linter.unusedSimpArgs false
set_option linter.unusedVariables false
open Go
set_option maxRecDepth 100000

abbrev pvL {α : Type} (sz : Nat) (f : α → PV) (l : List α) : PV := .list sz (l.map f)
structure diptychlaw18_Cell where
  Text : Int
  Marks : Int
  Attrs : Int
  In : Int
instance : Inhabited diptychlaw18_Cell := ⟨⟨0, 0, 0, 0⟩⟩
deriving instance DecidableEq for diptychlaw18_Cell
def diptychlaw18_Cell.pv (x : diptychlaw18_Cell) : PV := .agg [.int .i64 x.Text, .int .i64 x.Marks, .int .i64 x.Attrs, .int .i64 x.In]
theorem diptychlaw18_Cell.pv_eq (x : diptychlaw18_Cell) : x.pv = .agg [.int .i64 x.Text, .int .i64 x.Marks, .int .i64 x.Attrs, .int .i64 x.In] := rfl
structure api_Attr where
  Name : Str
  Value : Str
instance : Inhabited api_Attr := ⟨⟨[], []⟩⟩
deriving instance DecidableEq for api_Attr
def api_Attr.pv (x : api_Attr) : PV := .agg [.str x.Name, .str x.Value]
theorem api_Attr.pv_eq (x : api_Attr) : x.pv = .agg [.str x.Name, .str x.Value] := rfl
structure api_Node where
  Kind : Str
  Text : Str
  Marks : (List Str)
  Attrs : (List api_Attr)
  Kids : (List api_Node)
instance : Inhabited api_Node := ⟨⟨[], [], [], [], []⟩⟩
def api_Node.pv : api_Node → PV
  | ⟨a0, a1, a2, a3, a4⟩ => .agg [.str a0, .str a1, .list 1 (a2.map PV.str), .list 2 (a3.map api_Attr.pv), .list 5 (a4.map api_Node.pv)]
theorem api_Node.pv_eq (x : api_Node) : x.pv = .agg [.str x.Kind, .str x.Text, .list 1 (x.Marks.map PV.str), .list 2 (x.Attrs.map api_Attr.pv), .list 5 (x.Kids.map api_Node.pv)] := by
  cases x; rw [api_Node.pv]
structure step_Step where
  Kind : Int
  From : Int
  To : Int
  Nodes : (List api_Node)
  Name : Str
  Value : Str
instance : Inhabited step_Step := ⟨⟨0, 0, 0, [], [], []⟩⟩
def step_Step.pv (x : step_Step) : PV := .agg [.int .u8 x.Kind, .int .i64 x.From, .int .i64 x.To, .list 5 (x.Nodes.map api_Node.pv), .str x.Name, .str x.Value]
theorem step_Step.pv_eq (x : step_Step) : x.pv = .agg [.int .u8 x.Kind, .int .i64 x.From, .int .i64 x.To, .list 5 (x.Nodes.map api_Node.pv), .str x.Name, .str x.Value] := rfl
structure diff_change where
  a : api_Node
  b : api_Node
  path : (List Int)
  at_ : Int
  head : Int
  m : Int
  n : Int
  attrs : (List step_Step)
instance : Inhabited diff_change := ⟨⟨default, default, [], 0, 0, 0, 0, []⟩⟩
def diff_change.pv (x : diff_change) : PV := .agg [.str x.a.Kind, .str x.a.Text, .list 1 (x.a.Marks.map PV.str), .list 2 (x.a.Attrs.map api_Attr.pv), .list 5 (x.a.Kids.map api_Node.pv), .str x.b.Kind, .str x.b.Text, .list 1 (x.b.Marks.map PV.str), .list 2 (x.b.Attrs.map api_Attr.pv), .list 5 (x.b.Kids.map api_Node.pv), .list 1 (x.path.map (PV.int .i64)), .int .i64 x.at_, .int .i64 x.head, .int .i64 x.m, .int .i64 x.n, .list 6 (x.attrs.map step_Step.pv)]
theorem diff_change.pv_eq (x : diff_change) : x.pv = .agg [.str x.a.Kind, .str x.a.Text, .list 1 (x.a.Marks.map PV.str), .list 2 (x.a.Attrs.map api_Attr.pv), .list 5 (x.a.Kids.map api_Node.pv), .str x.b.Kind, .str x.b.Text, .list 1 (x.b.Marks.map PV.str), .list 2 (x.b.Attrs.map api_Attr.pv), .list 5 (x.b.Kids.map api_Node.pv), .list 1 (x.path.map (PV.int .i64)), .int .i64 x.at_, .int .i64 x.head, .int .i64 x.m, .int .i64 x.n, .list 6 (x.attrs.map step_Step.pv)] := rfl
structure maps_Range where
  Pos : Int
  Old : Int
  New : Int
instance : Inhabited maps_Range := ⟨⟨0, 0, 0⟩⟩
deriving instance DecidableEq for maps_Range
def maps_Range.pv (x : maps_Range) : PV := .agg [.int .i64 x.Pos, .int .i64 x.Old, .int .i64 x.New]
theorem maps_Range.pv_eq (x : maps_Range) : x.pv = .agg [.int .i64 x.Pos, .int .i64 x.Old, .int .i64 x.New] := rfl

end Go.Proofs.YtpjdafhmneiohaaDoor
