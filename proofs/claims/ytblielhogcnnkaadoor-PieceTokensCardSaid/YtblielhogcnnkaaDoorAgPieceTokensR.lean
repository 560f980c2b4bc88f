/- What is put in place of others changes the tokens there alone. -/
import Derived.Test.YtblielhogcnnkaaDoorPieceTokensL
import Derived.Test.YtblielhogcnnkaaDoorAgK6
import Derived.Test.YtblielhogcnnkaaDoorAwL
import Derived.Test.YtblielhogcnnkaaDoorRows
import Derived.WalkKit
import Derived.ProofKit
import Derived.OpenShut
namespace Go.Proofs.YtblielhogcnnkaaDoor
set_option linter.unusedSimpArgs false
set_option linter.unusedVariables false
open Go Go.ChangeShapes Go.WideShapes Go.RowKit

set_option maxRecDepth 100000
theorem own : ownKnob Tryd.prog.godebug = none := by kernel_rfl
theorem laid : laidOutB Tryd.prog = true := by kernel_rfl
theorem cells3 : Tryd.prog.cellsOf 3 = 1 := by kernel_rfl
theorem agg3 : aggT Tryd.prog 3 = false := by simp [aggT, Tryd.underlying3]
theorem cells114 : Tryd.prog.cellsOf 114 = 3 := by kernel_rfl
theorem agg114 : aggT Tryd.prog 114 = true := by simp [aggT, Tryd.underlying114]
theorem cells58 : Tryd.prog.cellsOf 58 = 1 := by kernel_rfl
theorem agg58 : aggT Tryd.prog 58 = false := by simp [aggT, Tryd.underlying58]
theorem wf_i64 {n : Int} (h : (Lit.int .i64 n).wf = true) : -9223372036854775808 ≤ n ∧ n ≤ 9223372036854775807 := by
  simp only [Lit.wf, IntKind.min, IntKind.max, IntKind.signed, IntKind.bits, Bool.and_eq_true, decide_eq_true_eq] at h
  simpa using h
theorem wf_u8 {n : Int} (h : (Lit.int .u8 n).wf = true) : 0 ≤ n ∧ n ≤ 255 := by
  simp only [Lit.wf, IntKind.min, IntKind.max, IntKind.signed, IntKind.bits, Bool.and_eq_true, decide_eq_true_eq] at h
  simpa using h
def diptychlaw5_Cell.wf (x : diptychlaw5_Cell) : Prop := (-9223372036854775808 ≤ x.Op ∧ x.Op ≤ 9223372036854775807) ∧ (-9223372036854775808 ≤ x.A ∧ x.A ≤ 9223372036854775807) ∧ (-9223372036854775808 ≤ x.B ∧ x.B ≤ 9223372036854775807)
theorem ty114_inv {cs : List PV} (h : OfTy Tryd.prog 114 cs) : ∃ x : diptychlaw5_Cell, cs = [.int .i64 x.Op, .int .i64 x.A, .int .i64 x.B] ∧ diptychlaw5_Cell.wf x := by
  obtain ⟨hl, hf⟩ := h.struct_inv Tryd.underlying114
  rw [cells114] at hl
  match cs, hl with
  | [q0, q1, q2], _ =>
    have h0 := hf _ (List.mem_cons_self ..)
    have h1 := hf _ (List.mem_cons_of_mem _ (List.mem_cons_self ..))
    have h2 := hf _ (List.mem_cons_of_mem _ (List.mem_cons_of_mem _ (List.mem_cons_self ..)))
    simp only [cells3, List.drop_zero, List.drop_succ_cons, List.take_succ_cons, List.take_zero] at h0 h1 h2
    obtain ⟨x0, e0, w0⟩ := h0.int_inv Tryd.underlying3
    replace w0 := wf_i64 w0
    cases e0
    obtain ⟨x1, e1, w1⟩ := h1.int_inv Tryd.underlying3
    replace w1 := wf_i64 w1
    cases e1
    obtain ⟨x2, e2, w2⟩ := h2.int_inv Tryd.underlying3
    replace w2 := wf_i64 w2
    cases e2
    exact ⟨⟨x0, x1, x2⟩, rfl, w0, w1, w2⟩
theorem ty58_inv {cs : List PV} (h : OfTy Tryd.prog 58 cs) : ∃ l : List diptychlaw5_Cell, cs = [.list 3 (l.map diptychlaw5_Cell.pv)] ∧ (l.length ≤ 9223372036854775807 ∧ ∀ x ∈ l, diptychlaw5_Cell.wf x) := by
  obtain ⟨css, rfl, hx, hl⟩ := h.slice_inv Tryd.underlying58
  obtain ⟨l, rfl⟩ := all_as (fun s : {x : diptychlaw5_Cell // diptychlaw5_Cell.wf x} => ([.int .i64 s.1.Op, .int .i64 s.1.A, .int .i64 s.1.B] : List PV)) fun c hc => by
    obtain ⟨x, rfl, w⟩ := ty114_inv (hx c hc)
    exact ⟨⟨x, w⟩, rfl⟩
  refine ⟨l.map (·.1), ?_, by simpa [maxLen] using hl, ?_⟩
  · simp [cells114, packT, agg114, Function.comp_def, diptychlaw5_Cell.pv_eq]
  · intro x hx
    obtain ⟨y, _, rfl⟩ := List.mem_map.1 hx
    exact y.2
theorem pieceTokens_law (pvs : List PV) (h : ArgsTy Tryd.prog Tryd.f12.params.toList pvs) : PC Tryd.prog 12 pvs (.bool true) := by
  rw [Tryd.params12] at h
  match pvs, h with
  | [p0, p1, p2, p3], ⟨⟨c0, e0, h0⟩, ⟨c1, e1, h1⟩, ⟨c2, e2, h2⟩, ⟨c3, e3, h3⟩, _⟩ =>
    obtain ⟨a0, rfl, w0⟩ := ty58_inv h0
    obtain ⟨a1, rfl, w1⟩ := ty58_inv h1
    obtain ⟨a2, rfl, w2⟩ := h2.int_inv Tryd.underlying3
    replace w2 := wf_i64 w2
    obtain ⟨a3, rfl, w3⟩ := h3.int_inv Tryd.underlying3
    replace w3 := wf_i64 w3
    subst e0 e1 e2 e3
    simp only [packT, agg3, agg58, Bool.false_eq_true, if_false, if_true, List.headD_cons]
    exact diptychlaw5_PieceTokens_ok a0 a1 a2 a3 true (PieceTokens_true a0 a1 a2 a3 w0.1 w0.2 w1.1 w1.2 w2 w3)

set_option maxRecDepth 100000 in
theorem pieceTokens_lifted (os : Os) (started : os.Started) (H : Type) (enc : TypeId × Value → H) (F : Stop.Interp) :
    ReturnsInHanded {} Tryd.checked os 12 .any ((OpenSpec.ofChange Rows.pieceTokensSpec).preRow enc Tryd.prog Tryd.f12 Rows.pieceTokensRow.domain false laidVars) (((OpenSpec.ofChange Rows.pieceTokensSpec).at F).post enc Tryd.prog Tryd.f12 false true false false) := by
  have hw : (DataW.whole enc Tryd.checked.prog ((laidWorld os).forCall (fun _ _ => 0) ⟨#[], #[.slice none 0 0, .slice none 0 0, .int .i64 0, .int .i64 0], []⟩).memory Tryd.f12.params.toList Rows.pieceTokensSpec.vars false (#[.slice none 0 0, .slice none 0 0, .int .i64 0, .int .i64 0] : Array Value).toList 8).isSome = true := by kernel_rfl
  obtain ⟨x, hx⟩ := Option.isSome_iff_exists.1 hw
  exact lifted_of_laid (s := Rows.pieceTokensSpec) (conds := Rows.pieceTokensRow.domain) (ts := [3, 114, 58, 4]) (tb := 4) own (by kernel_rfl) Tryd.func12 laid (by kernel_rfl)
    (by rw [Tryd.params12]; decide) (by rw [Tryd.params12]; intro t ht; simp only [List.mem_cons, List.not_mem_nil, or_false] at ht; rcases ht with rfl | rfl | rfl | rfl <;> exact ⟨by kernel_rfl, of_decide_eq_true (by kernel_rfl)⟩)
    rfl (by kernel_rfl) Tryd.underlying4 (fun H ds hd => by
      rw [Tryd.params12] at hd
      match ds, hd with
      | [d0, d1, d2, d3], _ => rfl) pieceTokens_law os started H enc F
    (witness_laid enc os #[.slice none 0 0, .slice none 0 0, .int .i64 0, .int .i64 0] 4 (by kernel_rfl) (by kernel_rfl) (by kernel_rfl) (by kernel_rfl) hx rfl (by kernel_rfl) rfl)

theorem pieceTokens_over : Rows.pieceTokensRow.holds Tryd.pinned (OpenSpec.ofChange Rows.pieceTokensSpec) :=
  OpenClaim.holds_of_cond 12 Tryd.f12 rfl rfl rfl rfl rfl rfl rfl ⟨rfl, rfl, rfl, rfl, rfl⟩ rfl rfl rfl rfl rfl (by kernel_rfl) Tryd.func12 (by kernel_rfl)
    (of_decide_eq_true (by kernel_rfl)) (by unfold Func.isWrapper; first | (rw [if_pos (by decide +kernel)]; kernel_rfl) | (rw [if_neg (by decide +kernel)]; exact ⟨rfl, rfl⟩))
    (fun os started H enc _ F => by rw [OpenClaim.pre_eq_preRow]; exact pieceTokens_lifted os started H enc F)

theorem pieceTokens : Rows.PieceTokensSaid := pieceTokens_over

#print axioms pieceTokens
end Go.Proofs.YtblielhogcnnkaaDoor
