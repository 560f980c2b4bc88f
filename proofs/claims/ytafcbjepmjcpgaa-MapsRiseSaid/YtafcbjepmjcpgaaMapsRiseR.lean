/- The law MapsRise returns true for every input: any map, any two positions. No condition. -/
import Derived.Test.YtafcbjepmjcpgaaMapsRise
import Derived.Test.YtafcbjepmjcpgaaMapsRow1
namespace Go.Proofs.Ytafcbjepmjcpgaa
set_option linter.unusedSimpArgs false
set_option linter.unusedVariables false
open Go Go.ChangeShapes Go.WideShapes Go.RowKit

theorem mapsRise_law (pvs : List PV) (h : ArgsTy Try.prog Try.f4.params.toList pvs) : PC Try.prog 4 pvs (.bool true) := by
  rw [Try.params4] at h
  match pvs, h with
  | [p0, p1, p2], ⟨⟨c0, e0, h0⟩, ⟨c1, e1, h1⟩, ⟨c2, e2, h2⟩, _⟩ =>
    obtain ⟨m, rfl, hm⟩ := map_ty h0
    obtain ⟨a, rfl, _⟩ := h1.int_inv Try.underlying3
    obtain ⟨b, rfl, _⟩ := h2.int_inv Try.underlying3
    subst e0 e1 e2
    simp only [packT, agg25, agg3, Bool.false_eq_true, if_false, if_true, List.headD_cons]
    exact pc4 m a b hm

set_option maxRecDepth 100000 in
theorem mapsRise_lifted (os : Os) (started : os.Started) (H : Type) (enc : TypeId × Value → H) :
    ReturnsInHanded {} Try.checked os 4 .any (Rows.mapsRiseSpec.pre6 enc Try.prog Try.f4 Rows.mapsRiseRow.domain false) (Rows.mapsRiseSpec.post enc Try.prog Try.f4 false true false false) :=
  lifted_of (C := Try.checked) (s := Rows.mapsRiseSpec) (conds := Rows.mapsRiseRow.domain) (ts := [25, 33, 3]) (tb := 4) own (by kernel_rfl) Try.func4 laid (by kernel_rfl)
    (by rw [Try.params4]; decide) (by rw [Try.params4]; intro t ht; simp only [List.mem_cons, List.not_mem_nil, or_false] at ht; rcases ht with rfl | rfl | rfl <;> exact ⟨by kernel_rfl, of_decide_eq_true (by kernel_rfl)⟩)
    rfl (by kernel_rfl) Try.underlying4 (fun H ds hd => by
      rw [Try.params4] at hd
      match ds, hd with
      | [d0, d1, d2], _ => rfl) mapsRise_law os started H enc
    (ChangeSpec.witness6 (enc := enc) (C := Try.checked) false ⟨#[], #[.slice none 0 0, .int .i64 0, .int .i64 0], []⟩ 8 (by kernel_rfl) (by kernel_rfl) (by kernel_rfl) (by kernel_rfl))

theorem mapsRise_over : Rows.mapsRiseRow.holds Try.pinned (OpenSpec.ofChange Rows.mapsRiseSpec) :=
  OpenClaim.holds_of_wide 4 Try.f4 rfl rfl rfl rfl rfl rfl rfl ⟨rfl, rfl, rfl, rfl, rfl⟩ rfl rfl rfl rfl rfl (by kernel_rfl) Try.func4 (by kernel_rfl)
    (of_decide_eq_true (by kernel_rfl)) (by unfold Func.isWrapper; first | (rw [if_pos (by decide +kernel)]; kernel_rfl) | (rw [if_neg (by decide +kernel)]; exact ⟨rfl, rfl⟩))
    (fun os started H enc _ => mapsRise_lifted os started H enc)

theorem mapsRise : Rows.MapsRiseSaid := mapsRise_over

#print axioms mapsRise
end Go.Proofs.Ytafcbjepmjcpgaa
