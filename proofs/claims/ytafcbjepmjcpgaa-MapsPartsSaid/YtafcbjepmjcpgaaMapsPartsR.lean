/- The law MapsParts returns true for every input: any map, any position. No condition. -/
import Derived.Test.YtafcbjepmjcpgaaMapsParts
import Derived.Test.YtafcbjepmjcpgaaMapsRow1
namespace Go.Proofs.Ytafcbjepmjcpgaa
set_option linter.unusedSimpArgs false
set_option linter.unusedVariables false
open Go Go.ChangeShapes Go.WideShapes Go.RowKit

theorem mapsParts_law (pvs : List PV) (h : ArgsTy Try.prog Try.f5.params.toList pvs) : PC Try.prog 5 pvs (.bool true) := by
  rw [Try.params5] at h
  match pvs, h with
  | [p0, p1], ⟨⟨c0, e0, h0⟩, ⟨c1, e1, h1⟩, _⟩ =>
    obtain ⟨m, rfl, hm⟩ := map_ty h0
    obtain ⟨pos, rfl, _⟩ := h1.int_inv Try.underlying3
    subst e0 e1
    simp only [packT, agg25, agg3, Bool.false_eq_true, if_false, if_true, List.headD_cons]
    exact pc5 m pos hm

set_option maxRecDepth 100000 in
theorem mapsParts_lifted (os : Os) (started : os.Started) (H : Type) (enc : TypeId × Value → H) :
    ReturnsInHanded {} Try.checked os 5 .any (Rows.mapsPartsSpec.pre6 enc Try.prog Try.f5 Rows.mapsPartsRow.domain false) (Rows.mapsPartsSpec.post enc Try.prog Try.f5 false true false false) :=
  lifted_of (C := Try.checked) (s := Rows.mapsPartsSpec) (conds := Rows.mapsPartsRow.domain) (ts := [25, 33, 3]) (tb := 4) own (by kernel_rfl) Try.func5 laid (by kernel_rfl)
    (by rw [Try.params5]; decide) (by rw [Try.params5]; intro t ht; simp only [List.mem_cons, List.not_mem_nil, or_false] at ht; rcases ht with rfl | rfl <;> exact ⟨by kernel_rfl, of_decide_eq_true (by kernel_rfl)⟩)
    rfl (by kernel_rfl) Try.underlying4 (fun H ds hd => by
      rw [Try.params5] at hd
      match ds, hd with
      | [d0, d1], _ => rfl) mapsParts_law os started H enc
    (ChangeSpec.witness6 (enc := enc) (C := Try.checked) false ⟨#[], #[.slice none 0 0, .int .i64 0], []⟩ 8 (by kernel_rfl) (by kernel_rfl) (by kernel_rfl) (by kernel_rfl))

theorem mapsParts_over : Rows.mapsPartsRow.holds Try.pinned (OpenSpec.ofChange Rows.mapsPartsSpec) :=
  OpenClaim.holds_of_wide 5 Try.f5 rfl rfl rfl rfl rfl rfl rfl ⟨rfl, rfl, rfl, rfl, rfl⟩ rfl rfl rfl rfl rfl (by kernel_rfl) Try.func5 (by kernel_rfl)
    (of_decide_eq_true (by kernel_rfl)) (by unfold Func.isWrapper; first | (rw [if_pos (by decide +kernel)]; kernel_rfl) | (rw [if_neg (by decide +kernel)]; exact ⟨rfl, rfl⟩))
    (fun os started H enc _ => mapsParts_lifted os started H enc)

theorem mapsParts : Rows.MapsPartsSaid := mapsParts_over

#print axioms mapsParts
end Go.Proofs.Ytafcbjepmjcpgaa
