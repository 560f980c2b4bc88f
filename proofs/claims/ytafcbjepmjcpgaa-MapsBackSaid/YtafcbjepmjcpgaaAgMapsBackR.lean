/- The law MapsBack returns true for every input: any map, any position. No condition. -/
import Derived.Test.YtafcbjepmjcpgaaMapsLaws
import Derived.Test.YtafcbjepmjcpgaaAgK8
import Derived.Test.YtafcbjepmjcpgaaAwS
import Derived.Test.YtafcbjepmjcpgaaRows
import Derived.WalkKit
import Derived.ProofKit
import Derived.OpenShut
namespace Go.Proofs.Ytafcbjepmjcpgaa
set_option linter.unusedSimpArgs false
set_option linter.unusedVariables false
open Go Go.ChangeShapes Go.WideShapes Go.RowKit

theorem own : ownKnob Try.prog.godebug = none := by kernel_rfl
theorem laid : laidOutB Try.prog = true := by kernel_rfl
theorem cells3 : Try.prog.cellsOf 3 = 1 := by kernel_rfl
theorem agg3 : aggT Try.prog 3 = false := by simp [aggT, Try.underlying3]
theorem cells33 : Try.prog.cellsOf 33 = 3 := by kernel_rfl
theorem agg33 : aggT Try.prog 33 = true := by simp [aggT, Try.underlying33]
theorem cells25 : Try.prog.cellsOf 25 = 1 := by kernel_rfl
theorem agg25 : aggT Try.prog 25 = false := by simp [aggT, Try.underlying25]
theorem wf_i64 {n : Int} (h : (Lit.int .i64 n).wf = true) : -9223372036854775808 ≤ n ∧ n ≤ 9223372036854775807 := by
  simp only [Lit.wf, IntKind.min, IntKind.max, IntKind.signed, IntKind.bits, Bool.and_eq_true, decide_eq_true_eq] at h
  simpa using h
theorem wf_u8 {n : Int} (h : (Lit.int .u8 n).wf = true) : 0 ≤ n ∧ n ≤ 255 := by
  simp only [Lit.wf, IntKind.min, IntKind.max, IntKind.signed, IntKind.bits, Bool.and_eq_true, decide_eq_true_eq] at h
  simpa using h
def maps_Range.wf (x : maps_Range) : Prop := (-9223372036854775808 ≤ x.Pos ∧ x.Pos ≤ 9223372036854775807) ∧ (-9223372036854775808 ≤ x.Old ∧ x.Old ≤ 9223372036854775807) ∧ (-9223372036854775808 ≤ x.New ∧ x.New ≤ 9223372036854775807)
theorem ty33_inv {cs : List PV} (h : OfTy Try.prog 33 cs) : ∃ x : maps_Range, cs = [.int .i64 x.Pos, .int .i64 x.Old, .int .i64 x.New] ∧ maps_Range.wf x := by
  obtain ⟨hl, hf⟩ := h.struct_inv Try.underlying33
  rw [cells33] at hl
  match cs, hl with
  | [q0, q1, q2], _ =>
    have h0 := hf _ (List.mem_cons_self ..)
    have h1 := hf _ (List.mem_cons_of_mem _ (List.mem_cons_self ..))
    have h2 := hf _ (List.mem_cons_of_mem _ (List.mem_cons_of_mem _ (List.mem_cons_self ..)))
    simp only [cells3, List.drop_zero, List.drop_succ_cons, List.take_succ_cons, List.take_zero] at h0 h1 h2
    obtain ⟨x0, e0, w0⟩ := h0.int_inv Try.underlying3
    replace w0 := wf_i64 w0
    cases e0
    obtain ⟨x1, e1, w1⟩ := h1.int_inv Try.underlying3
    replace w1 := wf_i64 w1
    cases e1
    obtain ⟨x2, e2, w2⟩ := h2.int_inv Try.underlying3
    replace w2 := wf_i64 w2
    cases e2
    exact ⟨⟨x0, x1, x2⟩, rfl, w0, w1, w2⟩
theorem ty25_inv {cs : List PV} (h : OfTy Try.prog 25 cs) : ∃ l : List maps_Range, cs = [.list 3 (l.map maps_Range.pv)] ∧ (l.length ≤ 9223372036854775807 ∧ ∀ x ∈ l, maps_Range.wf x) := by
  obtain ⟨css, rfl, hx, hl⟩ := h.slice_inv Try.underlying25
  obtain ⟨l, rfl⟩ := all_as (fun s : {x : maps_Range // maps_Range.wf x} => ([.int .i64 s.1.Pos, .int .i64 s.1.Old, .int .i64 s.1.New] : List PV)) fun c hc => by
    obtain ⟨x, rfl, w⟩ := ty33_inv (hx c hc)
    exact ⟨⟨x, w⟩, rfl⟩
  refine ⟨l.map (·.1), ?_, by simpa [maxLen] using hl, ?_⟩
  · simp [cells33, packT, agg33, Function.comp_def, maps_Range.pv_eq]
  · intro x hx
    obtain ⟨y, _, rfl⟩ := List.mem_map.1 hx
    exact y.2
theorem mapsBack_law (pvs : List PV) (h : ArgsTy Try.prog Try.f8.params.toList pvs) : PC Try.prog 8 pvs (.bool true) := by
  rw [Try.params8] at h
  match pvs, h with
  | [p0, p1], ⟨⟨c0, e0, h0⟩, ⟨c1, e1, h1⟩, _⟩ =>
    obtain ⟨a0, rfl, w0⟩ := ty25_inv h0
    obtain ⟨a1, rfl, w1⟩ := h1.int_inv Try.underlying3
    replace w1 := wf_i64 w1
    subst e0 e1
    simp only [packT, agg25, agg3, Bool.false_eq_true, if_false, if_true, List.headD_cons]
    exact diptychlaw10_MapsBack_ok a0 a1 true (mapsBack_true a0 a1 w0.1)

set_option maxRecDepth 100000 in
theorem mapsBack_lifted (os : Os) (started : os.Started) (H : Type) (enc : TypeId × Value → H) :
    ReturnsInHanded {} Try.checked os 8 .any (Rows.mapsBackSpec.pre6 enc Try.prog Try.f8 Rows.mapsBackRow.domain false) (Rows.mapsBackSpec.post enc Try.prog Try.f8 false true false false) :=
  lifted_of (C := Try.checked) (s := Rows.mapsBackSpec) (conds := Rows.mapsBackRow.domain) (ts := [3, 33, 25, 4]) (tb := 4) own (by kernel_rfl) Try.func8 laid (by kernel_rfl)
    (by rw [Try.params8]; decide) (by rw [Try.params8]; intro t ht; simp only [List.mem_cons, List.not_mem_nil, or_false] at ht; rcases ht with rfl | rfl <;> exact ⟨by kernel_rfl, of_decide_eq_true (by kernel_rfl)⟩)
    rfl (by kernel_rfl) Try.underlying4 (fun H ds hd => by
      rw [Try.params8] at hd
      match ds, hd with
      | [d0, d1], _ => rfl) mapsBack_law os started H enc
    (ChangeSpec.witness6 (enc := enc) (C := Try.checked) false ⟨#[], #[.slice none 0 0, .int .i64 0], []⟩ 8 (by kernel_rfl) (by kernel_rfl) (by kernel_rfl) (by kernel_rfl))

theorem mapsBack_over : Rows.mapsBackRow.holds Try.pinned (OpenSpec.ofChange Rows.mapsBackSpec) :=
  OpenClaim.holds_of_wide 8 Try.f8 rfl rfl rfl rfl rfl rfl rfl ⟨rfl, rfl, rfl, rfl, rfl⟩ rfl rfl rfl rfl rfl (by kernel_rfl) Try.func8 (by kernel_rfl)
    (of_decide_eq_true (by kernel_rfl)) (by unfold Func.isWrapper; first | (rw [if_pos (by decide +kernel)]; kernel_rfl) | (rw [if_neg (by decide +kernel)]; exact ⟨rfl, rfl⟩))
    (fun os started H enc _ => mapsBack_lifted os started H enc)

theorem mapsBack : Rows.MapsBackSaid := mapsBack_over

#print axioms mapsBack
end Go.Proofs.Ytafcbjepmjcpgaa
