/- The spot of a position, and the position of a spot, or what is wrong, are as the chapter says, by all spots one behind the other, for every document that is made, any position, any spot. -/
import Derived.Test.YtacmddgliagpcaaPlaceResolvesL
import Derived.Test.YtacmddgliagpcaaAgK11
import Derived.Test.YtacmddgliagpcaaAwS
import Derived.Test.YtacmddgliagpcaaRows
import Derived.WalkKit
import Derived.ProofKit
import Derived.OpenShut
namespace Go.Proofs.Ytacmddgliagpcaa
set_option linter.unusedSimpArgs false
set_option linter.unusedVariables false
open Go Go.ChangeShapes Go.WideShapes Go.RowKit

set_option maxRecDepth 100000
theorem own : ownKnob Try.prog.godebug = none := by kernel_rfl
theorem laid : laidOutB Try.prog = true := by kernel_rfl
theorem cells3 : Try.prog.cellsOf 3 = 1 := by kernel_rfl
theorem agg3 : aggT Try.prog 3 = false := by simp [aggT, Try.underlying3]
theorem cells55 : Try.prog.cellsOf 55 = 3 := by kernel_rfl
theorem agg55 : aggT Try.prog 55 = true := by simp [aggT, Try.underlying55]
theorem cells22 : Try.prog.cellsOf 22 = 1 := by kernel_rfl
theorem agg22 : aggT Try.prog 22 = false := by simp [aggT, Try.underlying22]
theorem cells23 : Try.prog.cellsOf 23 = 1 := by kernel_rfl
theorem agg23 : aggT Try.prog 23 = false := by simp [aggT, Try.underlying23]
theorem cells25 : Try.prog.cellsOf 25 = 3 := by kernel_rfl
theorem agg25 : aggT Try.prog 25 = true := by simp [aggT, Try.underlying25]
theorem wf_i64 {n : Int} (h : (Lit.int .i64 n).wf = true) : -9223372036854775808 ≤ n ∧ n ≤ 9223372036854775807 := by
  simp only [Lit.wf, IntKind.min, IntKind.max, IntKind.signed, IntKind.bits, Bool.and_eq_true, decide_eq_true_eq] at h
  simpa using h
theorem wf_u8 {n : Int} (h : (Lit.int .u8 n).wf = true) : 0 ≤ n ∧ n ≤ 255 := by
  simp only [Lit.wf, IntKind.min, IntKind.max, IntKind.signed, IntKind.bits, Bool.and_eq_true, decide_eq_true_eq] at h
  simpa using h
def diptychlaw4_Cell.wf (x : diptychlaw4_Cell) : Prop := (-9223372036854775808 ≤ x.Op ∧ x.Op ≤ 9223372036854775807) ∧ (-9223372036854775808 ≤ x.A ∧ x.A ≤ 9223372036854775807) ∧ (-9223372036854775808 ≤ x.B ∧ x.B ≤ 9223372036854775807)
theorem ty55_inv {cs : List PV} (h : OfTy Try.prog 55 cs) : ∃ x : diptychlaw4_Cell, cs = [.int .i64 x.Op, .int .i64 x.A, .int .i64 x.B] ∧ diptychlaw4_Cell.wf x := by
  obtain ⟨hl, hf⟩ := h.struct_inv Try.underlying55
  rw [cells55] at hl
  match cs, hl with
  | [q0, q1, q2], _ =>
    have h0 := hf _ (List.mem_cons_self ..)
    have h1 := hf _ (List.mem_cons_of_mem _ (List.mem_cons_self ..))
    have h2 := hf _ (List.mem_cons_of_mem _ (List.mem_cons_of_mem _ (List.mem_cons_self ..)))
    simp only [cells3, List.drop_zero, List.drop_succ_cons, List.take_succ_cons, List.take_zero] at h0 h1 h2
    obtain ⟨x0, e0, w0⟩ := h0.int_inv Try.underlying3
    replace w0 := wf_i64 w0
    cases e0
    obtain ⟨x1, e1, w1⟩ := h1.int_inv Try.underlying3
    replace w1 := wf_i64 w1
    cases e1
    obtain ⟨x2, e2, w2⟩ := h2.int_inv Try.underlying3
    replace w2 := wf_i64 w2
    cases e2
    exact ⟨⟨x0, x1, x2⟩, rfl, w0, w1, w2⟩
theorem ty22_inv {cs : List PV} (h : OfTy Try.prog 22 cs) : ∃ l : List diptychlaw4_Cell, cs = [.list 3 (l.map diptychlaw4_Cell.pv)] ∧ (l.length ≤ 9223372036854775807 ∧ ∀ x ∈ l, diptychlaw4_Cell.wf x) := by
  obtain ⟨css, rfl, hx, hl⟩ := h.slice_inv Try.underlying22
  obtain ⟨l, rfl⟩ := all_as (fun s : {x : diptychlaw4_Cell // diptychlaw4_Cell.wf x} => ([.int .i64 s.1.Op, .int .i64 s.1.A, .int .i64 s.1.B] : List PV)) fun c hc => by
    obtain ⟨x, rfl, w⟩ := ty55_inv (hx c hc)
    exact ⟨⟨x, w⟩, rfl⟩
  refine ⟨l.map (·.1), ?_, by simpa [maxLen] using hl, ?_⟩
  · simp [cells55, packT, agg55, Function.comp_def, diptychlaw4_Cell.pv_eq]
  · intro x hx
    obtain ⟨y, _, rfl⟩ := List.mem_map.1 hx
    exact y.2
theorem ty23_inv {cs : List PV} (h : OfTy Try.prog 23 cs) : ∃ l : List Int, cs = [.list 1 (l.map (PV.int .i64))] ∧ (l.length ≤ 9223372036854775807 ∧ ∀ x ∈ l, (-9223372036854775808 ≤ x ∧ x ≤ 9223372036854775807)) := by
  obtain ⟨css, rfl, hx, hl⟩ := h.slice_inv Try.underlying23
  obtain ⟨l, rfl⟩ := all_as (fun s : {x : Int // (-9223372036854775808 ≤ x ∧ x ≤ 9223372036854775807)} => ([.int .i64 s.1] : List PV)) fun c hc => by
    obtain ⟨x, rfl, w⟩ := (hx c hc).int_inv Try.underlying3
    replace w := wf_i64 w
    exact ⟨⟨x, w⟩, rfl⟩
  refine ⟨l.map (·.1), ?_, by simpa [maxLen] using hl, ?_⟩
  · simp [cells3, packT, agg3, Function.comp_def]
  · intro x hx
    obtain ⟨y, _, rfl⟩ := List.mem_map.1 hx
    exact y.2
def place_Spot.wf (x : place_Spot) : Prop := (x.Path.length ≤ 9223372036854775807 ∧ ∀ y ∈ x.Path, (-9223372036854775808 ≤ y ∧ y ≤ 9223372036854775807)) ∧ (-9223372036854775808 ≤ x.Index ∧ x.Index ≤ 9223372036854775807) ∧ (-9223372036854775808 ≤ x.Offset ∧ x.Offset ≤ 9223372036854775807)
theorem ty25_inv {cs : List PV} (h : OfTy Try.prog 25 cs) : ∃ x : place_Spot, cs = [.list 1 (x.Path.map (PV.int .i64)), .int .i64 x.Index, .int .i64 x.Offset] ∧ place_Spot.wf x := by
  obtain ⟨hl, hf⟩ := h.struct_inv Try.underlying25
  rw [cells25] at hl
  match cs, hl with
  | [q0, q1, q2], _ =>
    have h0 := hf _ (List.mem_cons_self ..)
    have h1 := hf _ (List.mem_cons_of_mem _ (List.mem_cons_self ..))
    have h2 := hf _ (List.mem_cons_of_mem _ (List.mem_cons_of_mem _ (List.mem_cons_self ..)))
    simp only [cells23, cells3, List.drop_zero, List.drop_succ_cons, List.take_succ_cons, List.take_zero] at h0 h1 h2
    obtain ⟨x0, e0, w0⟩ := ty23_inv h0
    cases e0
    obtain ⟨x1, e1, w1⟩ := h1.int_inv Try.underlying3
    replace w1 := wf_i64 w1
    cases e1
    obtain ⟨x2, e2, w2⟩ := h2.int_inv Try.underlying3
    replace w2 := wf_i64 w2
    cases e2
    exact ⟨⟨x0, x1, x2⟩, rfl, w0, w1, w2⟩
theorem placeResolves_law (pvs : List PV) (h : ArgsTy Try.prog Try.f3.params.toList pvs) : PC Try.prog 3 pvs (.bool true) := by
  rw [Try.params3] at h
  match pvs, h with
  | [p0, p1, p2], ⟨⟨c0, e0, h0⟩, ⟨c1, e1, h1⟩, ⟨c2, e2, h2⟩, _⟩ =>
    obtain ⟨a0, rfl, w0⟩ := ty22_inv h0
    obtain ⟨a1, rfl, w1⟩ := h1.int_inv Try.underlying3
    replace w1 := wf_i64 w1
    obtain ⟨a2, rfl, w2⟩ := ty25_inv h2
    subst e0 e1 e2
    simp only [packT, agg22, agg25, agg3, Bool.false_eq_true, if_false, if_true, List.headD_cons]
    exact diptychlaw4_PlaceResolves_ok a0 a1 a2 true (PlaceResolves_true a0 a1 a2 w0.1 w0.2)

set_option maxRecDepth 100000 in
theorem placeResolves_lifted (os : Os) (started : os.Started) (H : Type) (enc : TypeId × Value → H) :
    ReturnsInHanded {} Try.checked os 3 .any (Rows.placeResolvesSpec.pre6 enc Try.prog Try.f3 Rows.placeResolvesRow.domain false) (Rows.placeResolvesSpec.post enc Try.prog Try.f3 false true false false) :=
  lifted_of (C := Try.checked) (s := Rows.placeResolvesSpec) (conds := Rows.placeResolvesRow.domain) (ts := [3, 55, 22, 23, 25, 4]) (tb := 4) own (by kernel_rfl) Try.func3 laid (by kernel_rfl)
    (by rw [Try.params3]; decide) (by rw [Try.params3]; intro t ht; simp only [List.mem_cons, List.not_mem_nil, or_false] at ht; rcases ht with rfl | rfl | rfl <;> exact ⟨by kernel_rfl, of_decide_eq_true (by kernel_rfl)⟩)
    rfl (by kernel_rfl) Try.underlying4 (fun H ds hd => by
      rw [Try.params3] at hd
      match ds, hd with
      | [d0, d1, d2], _ => rfl) placeResolves_law (fun _ => trivial) os started H enc
    (ChangeSpec.witness6 (enc := enc) (C := Try.checked) false ⟨#[], #[.slice none 0 0, .int .i64 0, .agg #[.slice none 0 0, .int .i64 0, .int .i64 0]], []⟩ 8 (by kernel_rfl) (by kernel_rfl) (by kernel_rfl) (by kernel_rfl))

theorem placeResolves_over : Rows.placeResolvesRow.holds Try.pinned (OpenSpec.ofChange Rows.placeResolvesSpec) :=
  OpenClaim.holds_of_wide 3 Try.f3 rfl rfl rfl rfl rfl rfl rfl ⟨rfl, rfl, rfl, rfl, rfl⟩ rfl rfl rfl rfl rfl (by kernel_rfl) Try.func3 (by kernel_rfl)
    (of_decide_eq_true (by kernel_rfl)) (by unfold Func.isWrapper; first | (rw [if_pos (by decide +kernel)]; kernel_rfl) | (rw [if_neg (by decide +kernel)]; exact ⟨rfl, rfl⟩))
    (fun os started H enc _ => placeResolves_lifted os started H enc)

theorem placeResolves : Rows.PlaceResolvesSaid := placeResolves_over

#print axioms placeResolves
end Go.Proofs.Ytacmddgliagpcaa
