/- x -/
import Derived.Test.YtafcbjepmjcpgaaPlaceInnerL
import Derived.Test.YtafcbjepmjcpgaaAgK13
import Derived.Test.YtafcbjepmjcpgaaAwS
import Derived.Test.YtafcbjepmjcpgaaRows
import Derived.WalkKit
import Derived.ProofKit
import Derived.OpenShut
namespace Go.Proofs.Ytafcbjepmjcpgaa
set_option linter.unusedSimpArgs false
set_option linter.unusedVariables false
open Go Go.ChangeShapes Go.WideShapes Go.RowKit

theorem own : ownKnob Try.prog.godebug = none := by kernel_rfl
theorem laid : laidOutB Try.prog = true := by kernel_rfl
theorem cells3 : Try.prog.cellsOf 3 = 1 := by kernel_rfl
theorem agg3 : aggT Try.prog 3 = false := by simp [aggT, Try.underlying3]
theorem cells97 : Try.prog.cellsOf 97 = 3 := by kernel_rfl
theorem agg97 : aggT Try.prog 97 = true := by simp [aggT, Try.underlying97]
theorem cells46 : Try.prog.cellsOf 46 = 1 := by kernel_rfl
theorem agg46 : aggT Try.prog 46 = false := by simp [aggT, Try.underlying46]
theorem cells47 : Try.prog.cellsOf 47 = 1 := by kernel_rfl
theorem agg47 : aggT Try.prog 47 = false := by simp [aggT, Try.underlying47]
theorem wf_i64 {n : Int} (h : (Lit.int .i64 n).wf = true) : -9223372036854775808 ≤ n ∧ n ≤ 9223372036854775807 := by
  simp only [Lit.wf, IntKind.min, IntKind.max, IntKind.signed, IntKind.bits, Bool.and_eq_true, decide_eq_true_eq] at h
  simpa using h
theorem wf_u8 {n : Int} (h : (Lit.int .u8 n).wf = true) : 0 ≤ n ∧ n ≤ 255 := by
  simp only [Lit.wf, IntKind.min, IntKind.max, IntKind.signed, IntKind.bits, Bool.and_eq_true, decide_eq_true_eq] at h
  simpa using h
def diptychlaw4_Cell.wf (x : diptychlaw4_Cell) : Prop := (-9223372036854775808 ≤ x.Op ∧ x.Op ≤ 9223372036854775807) ∧ (-9223372036854775808 ≤ x.A ∧ x.A ≤ 9223372036854775807) ∧ (-9223372036854775808 ≤ x.B ∧ x.B ≤ 9223372036854775807)
theorem ty97_inv {cs : List PV} (h : OfTy Try.prog 97 cs) : ∃ x : diptychlaw4_Cell, cs = [.int .i64 x.Op, .int .i64 x.A, .int .i64 x.B] ∧ diptychlaw4_Cell.wf x := by
  obtain ⟨hl, hf⟩ := h.struct_inv Try.underlying97
  rw [cells97] at hl
  match cs, hl with
  | [q0, q1, q2], _ =>
    have h0 := hf _ (List.mem_cons_self ..)
    have h1 := hf _ (List.mem_cons_of_mem _ (List.mem_cons_self ..))
    have h2 := hf _ (List.mem_cons_of_mem _ (List.mem_cons_of_mem _ (List.mem_cons_self ..)))
    simp only [cells3, List.drop_zero, List.drop_succ_cons, List.take_succ_cons, List.take_zero] at h0 h1 h2
    obtain ⟨x0, e0, w0⟩ := h0.int_inv Try.underlying3
    replace w0 := wf_i64 w0
    cases e0
    obtain ⟨x1, e1, w1⟩ := h1.int_inv Try.underlying3
    replace w1 := wf_i64 w1
    cases e1
    obtain ⟨x2, e2, w2⟩ := h2.int_inv Try.underlying3
    replace w2 := wf_i64 w2
    cases e2
    exact ⟨⟨x0, x1, x2⟩, rfl, w0, w1, w2⟩
theorem ty46_inv {cs : List PV} (h : OfTy Try.prog 46 cs) : ∃ l : List diptychlaw4_Cell, cs = [.list 3 (l.map diptychlaw4_Cell.pv)] ∧ (l.length ≤ 9223372036854775807 ∧ ∀ x ∈ l, diptychlaw4_Cell.wf x) := by
  obtain ⟨css, rfl, hx, hl⟩ := h.slice_inv Try.underlying46
  obtain ⟨l, rfl⟩ := all_as (fun s : {x : diptychlaw4_Cell // diptychlaw4_Cell.wf x} => ([.int .i64 s.1.Op, .int .i64 s.1.A, .int .i64 s.1.B] : List PV)) fun c hc => by
    obtain ⟨x, rfl, w⟩ := ty97_inv (hx c hc)
    exact ⟨⟨x, w⟩, rfl⟩
  refine ⟨l.map (·.1), ?_, by simpa [maxLen] using hl, ?_⟩
  · simp [cells97, packT, agg97, Function.comp_def, diptychlaw4_Cell.pv_eq]
  · intro x hx
    obtain ⟨y, _, rfl⟩ := List.mem_map.1 hx
    exact y.2
theorem ty47_inv {cs : List PV} (h : OfTy Try.prog 47 cs) : ∃ l : List Int, cs = [.list 1 (l.map (PV.int .i64))] ∧ (l.length ≤ 9223372036854775807 ∧ ∀ x ∈ l, (-9223372036854775808 ≤ x ∧ x ≤ 9223372036854775807)) := by
  obtain ⟨css, rfl, hx, hl⟩ := h.slice_inv Try.underlying47
  obtain ⟨l, rfl⟩ := all_as (fun s : {x : Int // (-9223372036854775808 ≤ x ∧ x ≤ 9223372036854775807)} => ([.int .i64 s.1] : List PV)) fun c hc => by
    obtain ⟨x, rfl, w⟩ := (hx c hc).int_inv Try.underlying3
    replace w := wf_i64 w
    exact ⟨⟨x, w⟩, rfl⟩
  refine ⟨l.map (·.1), ?_, by simpa [maxLen] using hl, ?_⟩
  · simp [cells3, packT, agg3, Function.comp_def]
  · intro x hx
    obtain ⟨y, _, rfl⟩ := List.mem_map.1 hx
    exact y.2
theorem placeInner_law (pvs : List PV) (h : ArgsTy Try.prog Try.f12.params.toList pvs) : PC Try.prog 12 pvs (.bool true) := by
  rw [Try.params12] at h
  match pvs, h with
  | [p0, p1, p2], ⟨⟨c0, e0, h0⟩, ⟨c1, e1, h1⟩, ⟨c2, e2, h2⟩, _⟩ =>
    obtain ⟨a0, rfl, w0⟩ := ty46_inv h0
    obtain ⟨a1, rfl, w1⟩ := ty46_inv h1
    obtain ⟨a2, rfl, w2⟩ := ty47_inv h2
    subst e0 e1 e2
    simp only [packT, agg46, agg47, Bool.false_eq_true, if_false, if_true, List.headD_cons]
    exact diptychlaw4_PlaceInner_ok a0 a1 a2 true (PlaceInner_true a0 a1 a2 w0.1 w0.2 w1.1 w1.2)

set_option maxRecDepth 100000 in
theorem placeInner_lifted (os : Os) (started : os.Started) (H : Type) (enc : TypeId × Value → H) :
    ReturnsInHanded {} Try.checked os 12 .any (Rows.placeInnerSpec.pre6 enc Try.prog Try.f12 Rows.placeInnerRow.domain false) (Rows.placeInnerSpec.post enc Try.prog Try.f12 false true false false) :=
  lifted_of (C := Try.checked) (s := Rows.placeInnerSpec) (conds := Rows.placeInnerRow.domain) (ts := [3, 97, 46, 47, 4]) (tb := 4) own (by kernel_rfl) Try.func12 laid (by kernel_rfl)
    (by rw [Try.params12]; decide) (by rw [Try.params12]; intro t ht; simp only [List.mem_cons, List.not_mem_nil, or_false] at ht; rcases ht with rfl | rfl | rfl <;> exact ⟨by kernel_rfl, of_decide_eq_true (by kernel_rfl)⟩)
    rfl (by kernel_rfl) Try.underlying4 (fun H ds hd => by
      rw [Try.params12] at hd
      match ds, hd with
      | [d0, d1, d2], _ => rfl) placeInner_law os started H enc
    (ChangeSpec.witness6 (enc := enc) (C := Try.checked) false ⟨#[], #[.slice none 0 0, .slice none 0 0, .slice none 0 0], []⟩ 8 (by kernel_rfl) (by kernel_rfl) (by kernel_rfl) (by kernel_rfl))

theorem placeInner_over : Rows.placeInnerRow.holds Try.pinned (OpenSpec.ofChange Rows.placeInnerSpec) :=
  OpenClaim.holds_of_wide 12 Try.f12 rfl rfl rfl rfl rfl rfl rfl ⟨rfl, rfl, rfl, rfl, rfl⟩ rfl rfl rfl rfl rfl (by kernel_rfl) Try.func12 (by kernel_rfl)
    (of_decide_eq_true (by kernel_rfl)) (by unfold Func.isWrapper; first | (rw [if_pos (by decide +kernel)]; kernel_rfl) | (rw [if_neg (by decide +kernel)]; exact ⟨rfl, rfl⟩))
    (fun os started H enc _ => placeInner_lifted os started H enc)

theorem placeInner : Rows.PlaceInnerSaid := placeInner_over

#print axioms placeInner
end Go.Proofs.Ytafcbjepmjcpgaa
