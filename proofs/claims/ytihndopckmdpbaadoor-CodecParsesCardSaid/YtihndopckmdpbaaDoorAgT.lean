/- The types of the program, plain. -/
import Derived.Test.YtihndopckmdpbaaDoorAg0
namespace Go.Proofs.YtihndopckmdpbaaDoor
set_option linter.unusedSimpArgs false
set_option linter.unusedVariables false
open Go
set_option maxRecDepth 100000

abbrev pvL {α : Type} (sz : Nat) (f : α → PV) (l : List α) : PV := .list sz (l.map f)
structure api_Attr where
  Name : Str
  Value : Str
instance : Inhabited api_Attr := ⟨⟨[], []⟩⟩
deriving instance DecidableEq for api_Attr
def api_Attr.pv (x : api_Attr) : PV := .agg [.str x.Name, .str x.Value]
theorem api_Attr.pv_eq (x : api_Attr) : x.pv = .agg [.str x.Name, .str x.Value] := rfl
structure api_Node where
  Kind : Str
  Text : Str
  Marks : (List Str)
  Attrs : (List api_Attr)
  Kids : (List api_Node)
instance : Inhabited api_Node := ⟨⟨[], [], [], [], []⟩⟩
def api_Node.pv : api_Node → PV
  | ⟨a0, a1, a2, a3, a4⟩ => .agg [.str a0, .str a1, .list 1 (a2.map PV.str), .list 2 (a3.map api_Attr.pv), .list 5 (a4.map api_Node.pv)]
theorem api_Node.pv_eq (x : api_Node) : x.pv = .agg [.str x.Kind, .str x.Text, .list 1 (x.Marks.map PV.str), .list 2 (x.Attrs.map api_Attr.pv), .list 5 (x.Kids.map api_Node.pv)] := by
  cases x; rw [api_Node.pv]
structure codec_reader where
  left : Str
  bad : Bool
instance : Inhabited codec_reader := ⟨⟨[], false⟩⟩
deriving instance DecidableEq for codec_reader
def codec_reader.pv (x : codec_reader) : PV := .agg [.str x.left, .bool x.bad]
theorem codec_reader.pv_eq (x : codec_reader) : x.pv = .agg [.str x.left, .bool x.bad] := rfl
structure diptychref2_Reader where
  S : Str
  At : Int
  Bad : Bool
instance : Inhabited diptychref2_Reader := ⟨⟨[], 0, false⟩⟩
deriving instance DecidableEq for diptychref2_Reader
def diptychref2_Reader.pv (x : diptychref2_Reader) : PV := .agg [.str x.S, .int .i64 x.At, .bool x.Bad]
theorem diptychref2_Reader.pv_eq (x : diptychref2_Reader) : x.pv = .agg [.str x.S, .int .i64 x.At, .bool x.Bad] := rfl

end Go.Proofs.YtihndopckmdpbaaDoor
