/- The steps from one document to another one grow as these do, and the way back is as many steps, and replacements. -/
import Derived.Test.YtpjdafhmneiohaaDoorDiffSizesL
import Derived.Test.YtpjdafhmneiohaaDoorAgK5
import Derived.Test.YtpjdafhmneiohaaDoorAwL
import Derived.Test.YtpjdafhmneiohaaDoorRows
import Derived.WalkKit
import Derived.ProofKit
import Derived.OpenShut
namespace Go.Proofs.YtpjdafhmneiohaaDoor
set_option linter.unusedSimpArgs false
set_option linter.unusedVariables false
open Go Go.ChangeShapes Go.WideShapes Go.RowKit

set_option maxRecDepth 100000
theorem own : ownKnob Tryd.prog.godebug = none := by kernel_rfl
theorem laid : laidOutB Tryd.prog = true := by kernel_rfl
theorem cells3 : Tryd.prog.cellsOf 3 = 1 := by kernel_rfl
theorem agg3 : aggT Tryd.prog 3 = false := by simp [aggT, Tryd.underlying3]
theorem cells110 : Tryd.prog.cellsOf 110 = 4 := by kernel_rfl
theorem agg110 : aggT Tryd.prog 110 = true := by simp [aggT, Tryd.underlying110]
theorem cells35 : Tryd.prog.cellsOf 35 = 1 := by kernel_rfl
theorem agg35 : aggT Tryd.prog 35 = false := by simp [aggT, Tryd.underlying35]
theorem wf_i64 {n : Int} (h : (Lit.int .i64 n).wf = true) : -9223372036854775808 ≤ n ∧ n ≤ 9223372036854775807 := by
  simp only [Lit.wf, IntKind.min, IntKind.max, IntKind.signed, IntKind.bits, Bool.and_eq_true, decide_eq_true_eq] at h
  simpa using h
theorem wf_u8 {n : Int} (h : (Lit.int .u8 n).wf = true) : 0 ≤ n ∧ n ≤ 255 := by
  simp only [Lit.wf, IntKind.min, IntKind.max, IntKind.signed, IntKind.bits, Bool.and_eq_true, decide_eq_true_eq] at h
  simpa using h
def diptychlaw18_Cell.wf (x : diptychlaw18_Cell) : Prop := (-9223372036854775808 ≤ x.Text ∧ x.Text ≤ 9223372036854775807) ∧ (-9223372036854775808 ≤ x.Marks ∧ x.Marks ≤ 9223372036854775807) ∧ (-9223372036854775808 ≤ x.Attrs ∧ x.Attrs ≤ 9223372036854775807) ∧ (-9223372036854775808 ≤ x.In ∧ x.In ≤ 9223372036854775807)
theorem ty110_inv {cs : List PV} (h : OfTy Tryd.prog 110 cs) : ∃ x : diptychlaw18_Cell, cs = [.int .i64 x.Text, .int .i64 x.Marks, .int .i64 x.Attrs, .int .i64 x.In] ∧ diptychlaw18_Cell.wf x := by
  obtain ⟨hl, hf⟩ := h.struct_inv Tryd.underlying110
  rw [cells110] at hl
  match cs, hl with
  | [q0, q1, q2, q3], _ =>
    have h0 := hf _ (List.mem_cons_self ..)
    have h1 := hf _ (List.mem_cons_of_mem _ (List.mem_cons_self ..))
    have h2 := hf _ (List.mem_cons_of_mem _ (List.mem_cons_of_mem _ (List.mem_cons_self ..)))
    have h3 := hf _ (List.mem_cons_of_mem _ (List.mem_cons_of_mem _ (List.mem_cons_of_mem _ (List.mem_cons_self ..))))
    simp only [cells3, List.drop_zero, List.drop_succ_cons, List.take_succ_cons, List.take_zero] at h0 h1 h2 h3
    obtain ⟨x0, e0, w0⟩ := h0.int_inv Tryd.underlying3
    replace w0 := wf_i64 w0
    cases e0
    obtain ⟨x1, e1, w1⟩ := h1.int_inv Tryd.underlying3
    replace w1 := wf_i64 w1
    cases e1
    obtain ⟨x2, e2, w2⟩ := h2.int_inv Tryd.underlying3
    replace w2 := wf_i64 w2
    cases e2
    obtain ⟨x3, e3, w3⟩ := h3.int_inv Tryd.underlying3
    replace w3 := wf_i64 w3
    cases e3
    exact ⟨⟨x0, x1, x2, x3⟩, rfl, w0, w1, w2, w3⟩
theorem ty35_inv {cs : List PV} (h : OfTy Tryd.prog 35 cs) : ∃ l : List diptychlaw18_Cell, cs = [.list 4 (l.map diptychlaw18_Cell.pv)] ∧ (l.length ≤ 9223372036854775807 ∧ ∀ x ∈ l, diptychlaw18_Cell.wf x) := by
  obtain ⟨css, rfl, hx, hl⟩ := h.slice_inv Tryd.underlying35
  obtain ⟨l, rfl⟩ := all_as (fun s : {x : diptychlaw18_Cell // diptychlaw18_Cell.wf x} => ([.int .i64 s.1.Text, .int .i64 s.1.Marks, .int .i64 s.1.Attrs, .int .i64 s.1.In] : List PV)) fun c hc => by
    obtain ⟨x, rfl, w⟩ := ty110_inv (hx c hc)
    exact ⟨⟨x, w⟩, rfl⟩
  refine ⟨l.map (·.1), ?_, by simpa [maxLen] using hl, ?_⟩
  · simp [cells110, packT, agg110, Function.comp_def, diptychlaw18_Cell.pv_eq]
  · intro x hx
    obtain ⟨y, _, rfl⟩ := List.mem_map.1 hx
    exact y.2
theorem diffSizes_law (pvs : List PV) (h : ArgsTy Tryd.prog Tryd.f4.params.toList pvs) : PC Tryd.prog 4 pvs (.bool true) := by
  rw [Tryd.params4] at h
  match pvs, h with
  | [p0, p1], ⟨⟨c0, e0, h0⟩, ⟨c1, e1, h1⟩, _⟩ =>
    obtain ⟨a0, rfl, w0⟩ := ty35_inv h0
    obtain ⟨a1, rfl, w1⟩ := ty35_inv h1
    subst e0 e1
    simp only [packT, agg35, Bool.false_eq_true, if_false, if_true, List.headD_cons]
    exact diptychlaw18_DiffSizes_ok a0 a1 true (DiffSizes_true a0 a1 w0.1 w0.2 w1.1 w1.2)

set_option maxRecDepth 100000 in
theorem diffSizes_lifted (os : Os) (started : os.Started) (H : Type) (enc : TypeId × Value → H) (F : Stop.Interp) :
    ReturnsInHanded {} Tryd.checked os 4 .any ((OpenSpec.ofChange Rows.diffSizesSpec).preRow enc Tryd.prog Tryd.f4 Rows.diffSizesRow.domain false laidVars) (((OpenSpec.ofChange Rows.diffSizesSpec).at F).post enc Tryd.prog Tryd.f4 false true false false) := by
  have hw : (DataW.whole enc Tryd.checked.prog ((laidWorld os).forCall (fun _ _ => 0) ⟨#[], #[.slice none 0 0, .slice none 0 0], []⟩).memory Tryd.f4.params.toList Rows.diffSizesSpec.vars false (#[.slice none 0 0, .slice none 0 0] : Array Value).toList 8).isSome = true := by kernel_rfl
  obtain ⟨x, hx⟩ := Option.isSome_iff_exists.1 hw
  exact lifted_of_laid (s := Rows.diffSizesSpec) (conds := Rows.diffSizesRow.domain) (ts := [3, 110, 35, 4]) (tb := 4) own (by kernel_rfl) Tryd.func4 laid (by kernel_rfl)
    (by rw [Tryd.params4]; decide) (by rw [Tryd.params4]; intro t ht; simp only [List.mem_cons, List.not_mem_nil, or_false] at ht; rcases ht with rfl | rfl <;> exact ⟨by kernel_rfl, of_decide_eq_true (by kernel_rfl)⟩)
    rfl (by kernel_rfl) Tryd.underlying4 (fun H ds hd => by
      rw [Tryd.params4] at hd
      match ds, hd with
      | [d0, d1], _ => rfl) diffSizes_law os started H enc F
    (witness_laid enc os #[.slice none 0 0, .slice none 0 0] 2 (by kernel_rfl) (by kernel_rfl) (by kernel_rfl) (by kernel_rfl) hx rfl (by kernel_rfl) rfl)

theorem diffSizes_over : Rows.diffSizesRow.holds Tryd.pinned (OpenSpec.ofChange Rows.diffSizesSpec) :=
  OpenClaim.holds_of_cond 4 Tryd.f4 rfl rfl rfl rfl rfl rfl rfl ⟨rfl, rfl, rfl, rfl, rfl⟩ rfl rfl rfl rfl rfl (by kernel_rfl) Tryd.func4 (by kernel_rfl)
    (of_decide_eq_true (by kernel_rfl)) (by unfold Func.isWrapper; first | (rw [if_pos (by decide +kernel)]; kernel_rfl) | (rw [if_neg (by decide +kernel)]; exact ⟨rfl, rfl⟩))
    (fun os started H enc _ F => by rw [OpenClaim.pre_eq_preRow]; exact diffSizes_lifted os started H enc F)

theorem diffSizes : Rows.DiffSizesSaid := diffSizes_over

#print axioms diffSizes
end Go.Proofs.YtpjdafhmneiohaaDoor
