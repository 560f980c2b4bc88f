/- The node, and the nodes, of a text, or what is wrong, are as the reference says. -/
import Derived.Test.YtihndopckmdpbaaDoorCodecParsesL
import Derived.Test.YtihndopckmdpbaaDoorAgK1
import Derived.Test.YtihndopckmdpbaaDoorAwL
import Derived.Test.YtihndopckmdpbaaDoorRows
import Derived.WalkKit
import Derived.ProofKit
import Derived.OpenShut
namespace Go.Proofs.YtihndopckmdpbaaDoor
set_option linter.unusedSimpArgs false
set_option linter.unusedVariables false
open Go Go.ChangeShapes Go.WideShapes Go.RowKit

set_option maxRecDepth 100000
theorem own : ownKnob Tryd.prog.godebug = none := by kernel_rfl
theorem laid : laidOutB Tryd.prog = true := by kernel_rfl
theorem cells9 : Tryd.prog.cellsOf 9 = 1 := by kernel_rfl
theorem agg9 : aggT Tryd.prog 9 = false := by simp [aggT, Tryd.underlying9]
theorem wf_i64 {n : Int} (h : (Lit.int .i64 n).wf = true) : -9223372036854775808 ≤ n ∧ n ≤ 9223372036854775807 := by
  simp only [Lit.wf, IntKind.min, IntKind.max, IntKind.signed, IntKind.bits, Bool.and_eq_true, decide_eq_true_eq] at h
  simpa using h
theorem wf_u8 {n : Int} (h : (Lit.int .u8 n).wf = true) : 0 ≤ n ∧ n ≤ 255 := by
  simp only [Lit.wf, IntKind.min, IntKind.max, IntKind.signed, IntKind.bits, Bool.and_eq_true, decide_eq_true_eq] at h
  simpa using h
theorem codecParses_law (pvs : List PV) (h : ArgsTy Tryd.prog Tryd.f5.params.toList pvs) : PC Tryd.prog 5 pvs (.bool true) := by
  rw [Tryd.params5] at h
  match pvs, h with
  | [p0], ⟨⟨c0, e0, h0⟩, _⟩ =>
    obtain ⟨a0, rfl, w0⟩ := h0.str_inv Tryd.underlying9
    subst e0
    simp only [packT, agg9, Bool.false_eq_true, if_false, if_true, List.headD_cons]
    exact diptychlaw2_CodecParses_ok a0 true (CodecParses_true a0)

set_option maxRecDepth 100000 in
theorem codecParses_lifted (os : Os) (started : os.Started) (H : Type) (enc : TypeId × Value → H) (F : Stop.Interp) :
    ReturnsInHanded {} Tryd.checked os 5 .any ((OpenSpec.ofChange Rows.codecParsesSpec).preRow enc Tryd.prog Tryd.f5 Rows.codecParsesRow.domain false laidVars) (((OpenSpec.ofChange Rows.codecParsesSpec).at F).post enc Tryd.prog Tryd.f5 false true false false) := by
  have hw : (DataW.whole enc Tryd.checked.prog ((laidWorld os).forCall (fun _ _ => 0) ⟨#[], #[.string ⟨#[]⟩], []⟩).memory Tryd.f5.params.toList Rows.codecParsesSpec.vars false (#[.string ⟨#[]⟩] : Array Value).toList 8).isSome = true := by kernel_rfl
  obtain ⟨x, hx⟩ := Option.isSome_iff_exists.1 hw
  exact lifted_of_laid (s := Rows.codecParsesSpec) (conds := Rows.codecParsesRow.domain) (ts := [9, 4]) (tb := 4) own (by kernel_rfl) Tryd.func5 laid (by kernel_rfl)
    (by rw [Tryd.params5]; decide) (by rw [Tryd.params5]; intro t ht; simp only [List.mem_cons, List.not_mem_nil, or_false] at ht; subst ht <;> exact ⟨by kernel_rfl, of_decide_eq_true (by kernel_rfl)⟩)
    rfl (by kernel_rfl) Tryd.underlying4 (fun H ds hd => by
      rw [Tryd.params5] at hd
      match ds, hd with
      | [d0], _ => rfl) codecParses_law os started H enc F
    (witness_laid enc os #[.string ⟨#[]⟩] 1 (by kernel_rfl) (by kernel_rfl) (by kernel_rfl) (by kernel_rfl) hx rfl (by kernel_rfl) rfl)

theorem codecParses_over : Rows.codecParsesRow.holds Tryd.pinned (OpenSpec.ofChange Rows.codecParsesSpec) :=
  OpenClaim.holds_of_cond 5 Tryd.f5 rfl rfl rfl rfl rfl rfl rfl ⟨rfl, rfl, rfl, rfl, rfl⟩ rfl rfl rfl rfl rfl (by kernel_rfl) Tryd.func5 (by kernel_rfl)
    (of_decide_eq_true (by kernel_rfl)) (by unfold Func.isWrapper; first | (rw [if_pos (by decide +kernel)]; kernel_rfl) | (rw [if_neg (by decide +kernel)]; exact ⟨rfl, rfl⟩))
    (fun os started H enc _ F => by rw [OpenClaim.pre_eq_preRow]; exact codecParses_lifted os started H enc F)

theorem codecParses : Rows.CodecParsesSaid := codecParses_over

#print axioms codecParses
end Go.Proofs.YtihndopckmdpbaaDoor
