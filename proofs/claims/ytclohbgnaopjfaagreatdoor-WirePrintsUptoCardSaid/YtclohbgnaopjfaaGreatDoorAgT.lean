/- The types of the program, plain. -/
import Derived.Test.YtclohbgnaopjfaaGreatDoorAg0
namespace Go.Proofs.YtclohbgnaopjfaaGreatDoor
set_option linter.unusedSimpArgs false
set_option linter.unusedVariables false
open Go
set_option maxRecDepth 100000

abbrev pvL {α : Type} (sz : Nat) (f : α → PV) (l : List α) : PV := .list sz (l.map f)
structure api_Attr where
  Name : Str
  Value : Str
instance : Inhabited api_Attr := ⟨⟨[], []⟩⟩
deriving instance DecidableEq for api_Attr
def api_Attr.pv (x : api_Attr) : PV := .agg [.str x.Name, .str x.Value]
theorem api_Attr.pv_eq (x : api_Attr) : x.pv = .agg [.str x.Name, .str x.Value] := rfl
structure api_Node where
  Kind : Str
  Text : Str
  Marks : (List Str)
  Attrs : (List api_Attr)
  Kids : (List api_Node)
instance : Inhabited api_Node := ⟨⟨[], [], [], [], []⟩⟩
def api_Node.pv : api_Node → PV
  | ⟨a0, a1, a2, a3, a4⟩ => .agg [.str a0, .str a1, .list 1 (a2.map PV.str), .list 2 (a3.map api_Attr.pv), .list 5 (a4.map api_Node.pv)]
theorem api_Node.pv_eq (x : api_Node) : x.pv = .agg [.str x.Kind, .str x.Text, .list 1 (x.Marks.map PV.str), .list 2 (x.Attrs.map api_Attr.pv), .list 5 (x.Kids.map api_Node.pv)] := by
  cases x; rw [api_Node.pv]
structure step_Step where
  Kind : Int
  From : Int
  To : Int
  Nodes : (List api_Node)
  Name : Str
  Value : Str
instance : Inhabited step_Step := ⟨⟨0, 0, 0, [], [], []⟩⟩
def step_Step.pv (x : step_Step) : PV := .agg [.int .u8 x.Kind, .int .i64 x.From, .int .i64 x.To, .list 5 (x.Nodes.map api_Node.pv), .str x.Name, .str x.Value]
theorem step_Step.pv_eq (x : step_Step) : x.pv = .agg [.int .u8 x.Kind, .int .i64 x.From, .int .i64 x.To, .list 5 (x.Nodes.map api_Node.pv), .str x.Name, .str x.Value] := rfl
structure diptychref11_Step where
  Kind : Int
  From : Int
  To : Int
  Nodes : (List api_Node)
  Name : Str
  Value : Str
instance : Inhabited diptychref11_Step := ⟨⟨0, 0, 0, [], [], []⟩⟩
def diptychref11_Step.pv (x : diptychref11_Step) : PV := .agg [.int .u8 x.Kind, .int .i64 x.From, .int .i64 x.To, .list 5 (x.Nodes.map api_Node.pv), .str x.Name, .str x.Value]
theorem diptychref11_Step.pv_eq (x : diptychref11_Step) : x.pv = .agg [.int .u8 x.Kind, .int .i64 x.From, .int .i64 x.To, .list 5 (x.Nodes.map api_Node.pv), .str x.Name, .str x.Value] := rfl

end Go.Proofs.YtclohbgnaopjfaaGreatDoor
