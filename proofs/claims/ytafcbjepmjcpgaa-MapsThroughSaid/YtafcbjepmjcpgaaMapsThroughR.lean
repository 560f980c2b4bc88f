/- The law MapsThrough returns true for every input: whatever maps, position, side and cut it is given. No condition. -/
import Derived.Test.YtafcbjepmjcpgaaMapsRow1
namespace Go.Proofs.Ytafcbjepmjcpgaa
set_option linter.unusedSimpArgs false
set_option linter.unusedVariables false
open Go Go.ChangeShapes Go.WideShapes Go.RowKit

theorem through_law (pvs : List PV) (h : ArgsTy Try.prog Try.f3.params.toList pvs) : PC Try.prog 3 pvs (.bool true) := by
  rw [Try.params3] at h
  match pvs, h with
  | [p1, p2, p3, p4], ⟨⟨c1, e1, h1⟩, ⟨c2, e2, h2⟩, ⟨c3, e3, h3⟩, ⟨c4, e4, h4⟩, _⟩ =>
    obtain ⟨l, rfl, hl, hlm⟩ := maps_ty h1
    obtain ⟨pos, rfl, _⟩ := h2.int_inv Try.underlying3
    obtain ⟨right, rfl⟩ := h3.bool_inv Try.underlying4
    obtain ⟨at_, rfl, _⟩ := h4.int_inv Try.underlying3
    subst e1 e2 e3 e4
    simp only [packT, agg22, agg3, agg4, Bool.false_eq_true, if_false, List.headD_cons]
    exact pc3 l pos right at_ hl hlm

set_option maxRecDepth 100000 in
theorem through_lifted (os : Os) (started : os.Started) (H : Type) (enc : TypeId × Value → H) :
    ReturnsInHanded {} Try.checked os 3 .any (Rows.mapsThroughSpec.pre6 enc Try.prog Try.f3 Rows.mapsThroughRow.domain false) (Rows.mapsThroughSpec.post enc Try.prog Try.f3 false true false false) :=
  lifted_of (C := Try.checked) (s := Rows.mapsThroughSpec) (conds := Rows.mapsThroughRow.domain) (ts := [22, 25, 33, 3, 4]) (tb := 4) own (by kernel_rfl) Try.func3 laid (by kernel_rfl)
    (by rw [Try.params3]; decide) (by rw [Try.params3]; intro t ht; simp only [List.mem_cons, List.not_mem_nil, or_false] at ht; rcases ht with rfl | rfl | rfl | rfl <;> exact ⟨by kernel_rfl, of_decide_eq_true (by kernel_rfl)⟩)
    rfl (by kernel_rfl) Try.underlying4 (fun H ds hd => by
      rw [Try.params3] at hd
      match ds, hd with
      | [d1, d2, d3, d4], _ => rfl) through_law os started H enc
    (ChangeSpec.witness6 (enc := enc) (C := Try.checked) false ⟨#[], #[.slice none 0 0, .int .i64 0, .bool false, .int .i64 0], []⟩ 8 (by kernel_rfl) (by kernel_rfl) (by kernel_rfl) (by kernel_rfl))

theorem through_over : Rows.mapsThroughRow.holds Try.pinned (OpenSpec.ofChange Rows.mapsThroughSpec) :=
  OpenClaim.holds_of_wide 3 Try.f3 rfl rfl rfl rfl rfl rfl rfl ⟨rfl, rfl, rfl, rfl, rfl⟩ rfl rfl rfl rfl rfl (by kernel_rfl) Try.func3 (by kernel_rfl)
    (of_decide_eq_true (by kernel_rfl)) (by unfold Func.isWrapper; first | (rw [if_pos (by decide +kernel)]; kernel_rfl) | (rw [if_neg (by decide +kernel)]; exact ⟨rfl, rfl⟩))
    (fun os started H enc _ => through_lifted os started H enc)

theorem mapsThrough : Rows.MapsThroughSaid := through_over

#print axioms mapsThrough
end Go.Proofs.Ytafcbjepmjcpgaa
