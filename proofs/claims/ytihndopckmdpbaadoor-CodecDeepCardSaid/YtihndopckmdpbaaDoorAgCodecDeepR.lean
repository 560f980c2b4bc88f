/- A node as deep as may be is read as it was written; a deeper one is too deep; a wrong one is wrong. -/
import Derived.Test.YtihndopckmdpbaaDoorCodecDeepL
import Derived.Test.YtihndopckmdpbaaDoorAgK0
import Derived.Test.YtihndopckmdpbaaDoorAwL
import Derived.Test.YtihndopckmdpbaaDoorRows
import Derived.WalkKit
import Derived.ProofKit
import Derived.OpenShut
namespace Go.Proofs.YtihndopckmdpbaaDoor
set_option linter.unusedSimpArgs false
set_option linter.unusedVariables false
open Go Go.ChangeShapes Go.WideShapes Go.RowKit

set_option maxRecDepth 100000
theorem own : ownKnob Tryd.prog.godebug = none := by kernel_rfl
theorem laid : laidOutB Tryd.prog = true := by kernel_rfl
theorem cells3 : Tryd.prog.cellsOf 3 = 1 := by kernel_rfl
theorem agg3 : aggT Tryd.prog 3 = false := by simp [aggT, Tryd.underlying3]
theorem cells4 : Tryd.prog.cellsOf 4 = 1 := by kernel_rfl
theorem agg4 : aggT Tryd.prog 4 = false := by simp [aggT, Tryd.underlying4]
theorem wf_i64 {n : Int} (h : (Lit.int .i64 n).wf = true) : -9223372036854775808 ≤ n ∧ n ≤ 9223372036854775807 := by
  simp only [Lit.wf, IntKind.min, IntKind.max, IntKind.signed, IntKind.bits, Bool.and_eq_true, decide_eq_true_eq] at h
  simpa using h
theorem wf_u8 {n : Int} (h : (Lit.int .u8 n).wf = true) : 0 ≤ n ∧ n ≤ 255 := by
  simp only [Lit.wf, IntKind.min, IntKind.max, IntKind.signed, IntKind.bits, Bool.and_eq_true, decide_eq_true_eq] at h
  simpa using h
theorem codecDeep_law (pvs : List PV) (h : ArgsTy Tryd.prog Tryd.f8.params.toList pvs) : PC Tryd.prog 8 pvs (.bool true) := by
  rw [Tryd.params8] at h
  match pvs, h with
  | [p0, p1], ⟨⟨c0, e0, h0⟩, ⟨c1, e1, h1⟩, _⟩ =>
    obtain ⟨a0, rfl, w0⟩ := h0.int_inv Tryd.underlying3
    replace w0 := wf_i64 w0
    obtain ⟨a1, rfl⟩ := h1.bool_inv Tryd.underlying4
    have w1 : True := trivial
    subst e0 e1
    simp only [packT, agg3, agg4, Bool.false_eq_true, if_false, if_true, List.headD_cons]
    exact diptychlaw2_CodecDeep_ok a0 a1 true (CodecDeep_true a0 a1 w0)

set_option maxRecDepth 100000 in
theorem codecDeep_lifted (os : Os) (started : os.Started) (H : Type) (enc : TypeId × Value → H) (F : Stop.Interp) :
    ReturnsInHanded {} Tryd.checked os 8 .any ((OpenSpec.ofChange Rows.codecDeepSpec).preRow enc Tryd.prog Tryd.f8 Rows.codecDeepRow.domain false laidVars) (((OpenSpec.ofChange Rows.codecDeepSpec).at F).post enc Tryd.prog Tryd.f8 false true false false) := by
  have hw : (DataW.whole enc Tryd.checked.prog ((laidWorld os).forCall (fun _ _ => 0) ⟨#[], #[.int .i64 0, .bool false], []⟩).memory Tryd.f8.params.toList Rows.codecDeepSpec.vars false (#[.int .i64 0, .bool false] : Array Value).toList 8).isSome = true := by kernel_rfl
  obtain ⟨x, hx⟩ := Option.isSome_iff_exists.1 hw
  exact lifted_of_laid (s := Rows.codecDeepSpec) (conds := Rows.codecDeepRow.domain) (ts := [3, 4]) (tb := 4) own (by kernel_rfl) Tryd.func8 laid (by kernel_rfl)
    (by rw [Tryd.params8]; decide) (by rw [Tryd.params8]; intro t ht; simp only [List.mem_cons, List.not_mem_nil, or_false] at ht; rcases ht with rfl | rfl <;> exact ⟨by kernel_rfl, of_decide_eq_true (by kernel_rfl)⟩)
    rfl (by kernel_rfl) Tryd.underlying4 (fun H ds hd => by
      rw [Tryd.params8] at hd
      match ds, hd with
      | [d0, d1], _ => rfl) codecDeep_law os started H enc F
    (witness_laid enc os #[.int .i64 0, .bool false] 2 (by kernel_rfl) (by kernel_rfl) (by kernel_rfl) (by kernel_rfl) hx rfl (by kernel_rfl) rfl)

theorem codecDeep_over : Rows.codecDeepRow.holds Tryd.pinned (OpenSpec.ofChange Rows.codecDeepSpec) :=
  OpenClaim.holds_of_cond 8 Tryd.f8 rfl rfl rfl rfl rfl rfl rfl ⟨rfl, rfl, rfl, rfl, rfl⟩ rfl rfl rfl rfl rfl (by kernel_rfl) Tryd.func8 (by kernel_rfl)
    (of_decide_eq_true (by kernel_rfl)) (by unfold Func.isWrapper; first | (rw [if_pos (by decide +kernel)]; kernel_rfl) | (rw [if_neg (by decide +kernel)]; exact ⟨rfl, rfl⟩))
    (fun os started H enc _ F => by rw [OpenClaim.pre_eq_preRow]; exact codecDeep_lifted os started H enc F)

theorem codecDeep : Rows.CodecDeepSaid := codecDeep_over

#print axioms codecDeep
end Go.Proofs.YtihndopckmdpbaaDoor
