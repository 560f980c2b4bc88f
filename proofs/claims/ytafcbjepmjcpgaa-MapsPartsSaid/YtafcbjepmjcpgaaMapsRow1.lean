/- 'MapsThrough' holds: for every input the law returns true. -/
import Derived.Test.YtafcbjepmjcpgaaMaps1
import Derived.Test.YtafcbjepmjcpgaaAwS
import Derived.Test.YtafcbjepmjcpgaaRows
import Derived.WalkKit
import Derived.ProofKit
import Derived.OpenShut
namespace Go.Proofs.Ytafcbjepmjcpgaa
set_option linter.unusedSimpArgs false
set_option linter.unusedVariables false
open Go Go.ChangeShapes Go.WideShapes Go.RowKit

theorem own : ownKnob Try.prog.godebug = none := by kernel_rfl
theorem laid : laidOutB Try.prog = true := by kernel_rfl

theorem cells3 : Try.prog.cellsOf 3 = 1 := by kernel_rfl
theorem cells33 : Try.prog.cellsOf 33 = 3 := by kernel_rfl
theorem cells25 : Try.prog.cellsOf 25 = 1 := by kernel_rfl

def Rg.cs (r : Rg) : List PV := [.int .i64 r.a, .int .i64 r.o, .int .i64 r.n]
theorem rg_ty {cs : List PV} (h : OfTy Try.prog 33 cs) : ∃ r : Rg, cs = r.cs := by
  obtain ⟨hl, hf⟩ := h.struct_inv Try.underlying33
  rw [cells33] at hl
  match cs, hl with
  | [x, y, z], _ =>
    have h1 := hf _ (List.mem_cons_self ..)
    have h2 := hf _ (List.mem_cons_of_mem _ (List.mem_cons_self ..))
    have h3 := hf _ (List.mem_cons_of_mem _ (List.mem_cons_of_mem _ (List.mem_cons_self ..)))
    simp only [cells3, List.drop_zero, List.drop_succ_cons, List.take_succ_cons, List.take_zero] at h1 h2 h3
    obtain ⟨a, e1, _⟩ := h1.int_inv Try.underlying3
    obtain ⟨b, e2, _⟩ := h2.int_inv Try.underlying3
    obtain ⟨c, e3, _⟩ := h3.int_inv Try.underlying3
    cases e1; cases e2; cases e3
    exact ⟨⟨a, b, c⟩, rfl⟩

theorem agg33 : aggT Try.prog 33 = true := by simp [aggT, Try.underlying33]
theorem agg25 : aggT Try.prog 25 = false := by simp [aggT, Try.underlying25]
theorem agg22 : aggT Try.prog 22 = false := by simp [aggT, Try.underlying22]

theorem map_ty {cs : List PV} (h : OfTy Try.prog 25 cs) : ∃ m : List Rg, cs = [mp m] ∧ m.length ≤ 9223372036854775807 := by
  obtain ⟨css, rfl, hx, hl⟩ := h.slice_inv Try.underlying25
  obtain ⟨m, rfl⟩ := all_as Rg.cs fun c hc => rg_ty (hx c hc)
  refine ⟨m, ?_, by simpa [maxLen] using hl⟩
  simp [mp, cells33, packT, agg33, Rg.pv, Rg.cs, Function.comp_def]

theorem maps_ty {cs : List PV} (h : OfTy Try.prog 22 cs) : ∃ l : List (List Rg), cs = [.list 1 (l.map mp)] ∧ l.length ≤ 9223372036854775807 ∧ ∀ m ∈ l, m.length ≤ 9223372036854775807 := by
  obtain ⟨css, rfl, hx, hl⟩ := h.slice_inv Try.underlying22
  obtain ⟨l, rfl⟩ := all_as (fun m : {m : List Rg // m.length ≤ 9223372036854775807} => [mp m.1]) fun c hc => by
    obtain ⟨m, h1, h2⟩ := map_ty (hx c hc)
    exact ⟨⟨m, h2⟩, h1⟩
  refine ⟨l.map (·.1), ?_, by simpa [maxLen] using hl, ?_⟩
  · simp [cells25, packT, agg25, Function.comp_def]
  · intro m hm
    obtain ⟨x, _, rfl⟩ := List.mem_map.1 hm
    exact x.2

theorem agg3 : aggT Try.prog 3 = false := by simp [aggT, Try.underlying3]
theorem agg4 : aggT Try.prog 4 = false := by simp [aggT, Try.underlying4]

end Go.Proofs.Ytafcbjepmjcpgaa
