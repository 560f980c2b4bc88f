/- The types of the program, plain. -/
import Derived.Test.YtpjdafhmneiohaaDoorAg0
namespace Go.Proofs.YtpjdafhmneiohaaDoor
set_option linter.unusedSimpArgs false
set_option linter.unusedVariables false
open Go
set_option maxRecDepth 100000

abbrev pvL {α : Type} (sz : Nat) (f : α → PV) (l : List α) : PV := .list sz (l.map f)
structure lens_Prim where
  Op : Int
  Kind : Str
  Name : Str
  New : Str
  Values : (List Str)
  To : (List Str)
instance : Inhabited lens_Prim := ⟨⟨0, [], [], [], [], []⟩⟩
deriving instance DecidableEq for lens_Prim
def lens_Prim.pv (x : lens_Prim) : PV := .agg [.int .u8 x.Op, .str x.Kind, .str x.Name, .str x.New, .list 1 (x.Values.map PV.str), .list 1 (x.To.map PV.str)]
theorem lens_Prim.pv_eq (x : lens_Prim) : x.pv = .agg [.int .u8 x.Op, .str x.Kind, .str x.Name, .str x.New, .list 1 (x.Values.map PV.str), .list 1 (x.To.map PV.str)] := rfl
structure lens_Lens where
  Prim : lens_Prim
  Turned : Bool
  Kids : (List lens_Lens)
instance : Inhabited lens_Lens := ⟨⟨default, false, []⟩⟩
def lens_Lens.pv : lens_Lens → PV
  | ⟨a0, a1, a2⟩ => .agg [.int .u8 a0.Op, .str a0.Kind, .str a0.Name, .str a0.New, .list 1 (a0.Values.map PV.str), .list 1 (a0.To.map PV.str), .bool a1, .list 8 (a2.map lens_Lens.pv)]
theorem lens_Lens.pv_eq (x : lens_Lens) : x.pv = .agg [.int .u8 x.Prim.Op, .str x.Prim.Kind, .str x.Prim.Name, .str x.Prim.New, .list 1 (x.Prim.Values.map PV.str), .list 1 (x.Prim.To.map PV.str), .bool x.Turned, .list 8 (x.Kids.map lens_Lens.pv)] := by
  cases x; rw [lens_Lens.pv]
structure diptychref13_Prim where
  Op : Int
  Kind : Str
  Name : Str
  New : Str
  Values : (List Str)
  To : (List Str)
instance : Inhabited diptychref13_Prim := ⟨⟨0, [], [], [], [], []⟩⟩
deriving instance DecidableEq for diptychref13_Prim
def diptychref13_Prim.pv (x : diptychref13_Prim) : PV := .agg [.int .u8 x.Op, .str x.Kind, .str x.Name, .str x.New, .list 1 (x.Values.map PV.str), .list 1 (x.To.map PV.str)]
theorem diptychref13_Prim.pv_eq (x : diptychref13_Prim) : x.pv = .agg [.int .u8 x.Op, .str x.Kind, .str x.Name, .str x.New, .list 1 (x.Values.map PV.str), .list 1 (x.To.map PV.str)] := rfl
structure diptychref13_Lens where
  Prim : diptychref13_Prim
  Turned : Bool
  Kids : (List diptychref13_Lens)
instance : Inhabited diptychref13_Lens := ⟨⟨default, false, []⟩⟩
def diptychref13_Lens.pv : diptychref13_Lens → PV
  | ⟨a0, a1, a2⟩ => .agg [.int .u8 a0.Op, .str a0.Kind, .str a0.Name, .str a0.New, .list 1 (a0.Values.map PV.str), .list 1 (a0.To.map PV.str), .bool a1, .list 8 (a2.map diptychref13_Lens.pv)]
theorem diptychref13_Lens.pv_eq (x : diptychref13_Lens) : x.pv = .agg [.int .u8 x.Prim.Op, .str x.Prim.Kind, .str x.Prim.Name, .str x.Prim.New, .list 1 (x.Prim.Values.map PV.str), .list 1 (x.Prim.To.map PV.str), .bool x.Turned, .list 8 (x.Kids.map diptychref13_Lens.pv)] := by
  cases x; rw [diptychref13_Lens.pv]

end Go.Proofs.YtpjdafhmneiohaaDoor
