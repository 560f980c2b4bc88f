/- Texts of the proof of diffChainCard -/
import Derived.Test.YtclohbgnaopjfaaDoorLwB
import Derived.Test.YtclohbgnaopjfaaDoorAgK10
import Derived.Test.YtclohbgnaopjfaaDoorAwL
import Derived.Test.YtclohbgnaopjfaaDoorRows
import Derived.WalkKit
import Derived.ProofKit
import Derived.OpenShut
namespace Go.Proofs.YtclohbgnaopjfaaDoor
set_option linter.unusedSimpArgs false
set_option linter.unusedVariables false
open Go Go.ChangeShapes Go.WideShapes Go.RowKit
set_option maxRecDepth 100000
theorem own : ownKnob Tryd.prog.godebug = none := by kernel_rfl
theorem laid : laidOutB Tryd.prog = true := by kernel_rfl
theorem cells3 : Tryd.prog.cellsOf 3 = 1 := by kernel_rfl
theorem aqy : Tryd.prog.cellsOf 73 = 4 := by kernel_rfl
theorem ayT : Xb Tryd.prog 73 = true := by simp [Xb, Tryd.underlying73]
theorem ayv : Xb Tryd.prog 22 = false := by simp [Xb, Tryd.underlying22]
theorem wf_i64 {n : Int} (h : (Lit.int .i64 n).wf = true) : -9223372036854775808 ≤ n ∧ n ≤ 9223372036854775807 := by
 simp only [Lit.wf, IntKind.min, IntKind.max, IntKind.signed, IntKind.bits, Bool.and_eq_true, decide_eq_true_eq] at h
 simpa using h
def zx.wf (x : zx) : Prop := (-9223372036854775808 ≤ x.Text ∧ x.Text ≤ 9223372036854775807) ∧ (-9223372036854775808 ≤ x.Marks ∧ x.Marks ≤ 9223372036854775807) ∧ (-9223372036854775808 ≤ x.zh ∧ x.zh ≤ 9223372036854775807) ∧ (-9223372036854775808 ≤ x.In ∧ x.In ≤ 9223372036854775807)
theorem atN {cs : List PV} (h : ZW Tryd.prog 73 cs) : ∃ x : zx, cs = [.int .i64 x.Text, .int .i64 x.Marks, .int .i64 x.zh, .int .i64 x.In] ∧ zx.wf x := by
 obtain ⟨hl, hf⟩ := h.apR Tryd.underlying73
 rw [aqy] at hl
 match cs, hl with
 | [q0, q1, q2, q3], _ =>
  have h0 := hf _ (List.mem_cons_self ..)
  have h1 := hf _ (List.mem_cons_of_mem _ (List.mem_cons_self ..))
  have h2 := hf _ (List.mem_cons_of_mem _ (List.mem_cons_of_mem _ (List.mem_cons_self ..)))
  have h3 := hf _ (List.mem_cons_of_mem _ (List.mem_cons_of_mem _ (List.mem_cons_of_mem _ (List.mem_cons_self ..))))
  simp only [cells3, List.drop_zero, List.drop_succ_cons, List.take_succ_cons, List.take_zero] at h0 h1 h2 h3
  obtain ⟨x0, e0, w0⟩ := h0.ahc Tryd.underlying3
  replace w0 := wf_i64 w0
  cases e0
  obtain ⟨x1, e1, w1⟩ := h1.ahc Tryd.underlying3
  replace w1 := wf_i64 w1
  cases e1
  obtain ⟨x2, e2, w2⟩ := h2.ahc Tryd.underlying3
  replace w2 := wf_i64 w2
  cases e2
  obtain ⟨x3, e3, w3⟩ := h3.ahc Tryd.underlying3
  replace w3 := wf_i64 w3
  cases e3
  exact ⟨⟨x0, x1, x2, x3⟩, rfl, w0, w1, w2, w3⟩
theorem ahJ {cs : List PV} (h : ZW Tryd.prog 22 cs) : ∃ l : List zx, cs = [.list 4 (l.map zx.pv)] ∧ (l.length ≤ 9223372036854775807 ∧ ∀ x ∈ l, zx.wf x) := by
 obtain ⟨css, rfl, hx, hl⟩ := h.aro Tryd.underlying22
 obtain ⟨l, rfl⟩ := axF (fun s : {x : zx // zx.wf x} => ([.int .i64 s.1.Text, .int .i64 s.1.Marks, .int .i64 s.1.zh, .int .i64 s.1.In] : List PV)) fun c hc => by
  obtain ⟨x, rfl, w⟩ := atN (hx c hc)
  exact ⟨⟨x, w⟩, rfl⟩
 refine ⟨l.map (·.1), ?_, by simpa [maxLen] using hl, ?_⟩
 ·simp [aqy, xO, ayT, Function.comp_def, zx.xY]
 ·intro x hx
  obtain ⟨y, _, rfl⟩ := List.mem_map.1 hx
  exact y.2
theorem ajF (pvs : List PV) (h : alu Tryd.prog Tryd.f3.params.toList pvs) : PC Tryd.prog 3 pvs (.bool true) := by
 rw [Tryd.params3] at h
 match pvs, h with
 | [p0, p1, p2], ⟨⟨c0, e0, h0⟩, ⟨c1, e1, h1⟩, ⟨c2, e2, h2⟩, _⟩ =>
  obtain ⟨a0, rfl, w0⟩ := ahJ h0
  obtain ⟨a1, rfl, w1⟩ := ahJ h1
  obtain ⟨a2, rfl, w2⟩ := ahJ h2
  subst e0 e1 e2
  simp only [xO, ayv, Bool.false_eq_true, if_false, if_true, List.headD_cons]
  exact Jk a0 a1 a2 true (air a0 a1 a2 w0.1 w0.2 w1.1 w1.2 w2.1 w2.2)
set_option maxRecDepth 100000 in
theorem afa (os : Os) (started : os.Started) (H : Type) (enc : TypeId × Value → H) (F : Stop.Interp) :
  ReturnsInHanded {} Tryd.checked os 3 .any ((OpenSpec.ofChange Rows.diffChainSpec).preRow enc Tryd.prog Tryd.f3 Rows.diffChainRow.domain false VM) (((OpenSpec.ofChange Rows.diffChainSpec).at F).post enc Tryd.prog Tryd.f3 false true false false) := by
 have hw : (DataW.whole enc Tryd.checked.prog ((Ql os).forCall (fun _ _ => 0) ⟨#[], #[.slice none 0 0, .slice none 0 0, .slice none 0 0], []⟩).memory Tryd.f3.params.toList Rows.diffChainSpec.vars false (#[.slice none 0 0, .slice none 0 0, .slice none 0 0] : Array Value).toList 8).isSome = true := by kernel_rfl
 obtain ⟨x, hx⟩ := Option.isSome_iff_exists.1 hw
 exact aiY (s := Rows.diffChainSpec) (conds := Rows.diffChainRow.domain) (ts := [3, 73, 22, 4]) (tb := 4) own (by kernel_rfl) Tryd.func3 laid (by kernel_rfl)
  (by rw [Tryd.params3]; decide) (by rw [Tryd.params3]; intro t ht; simp only [List.mem_cons, List.not_mem_nil, or_false] at ht; rcases ht with rfl | rfl | rfl <;> exact ⟨by kernel_rfl, of_decide_eq_true (by kernel_rfl)⟩)
  rfl (by kernel_rfl) Tryd.underlying4 (fun H ds hd => by
   rw [Tryd.params3] at hd
   match ds, hd with
   | [d0, d1, d2], _ => rfl) ajF os started H enc F
  (al6 enc os #[.slice none 0 0, .slice none 0 0, .slice none 0 0] 3 (by kernel_rfl) (by kernel_rfl) (by kernel_rfl) (by kernel_rfl) hx rfl (by kernel_rfl) rfl)
theorem YZ : Rows.diffChainRow.holds Tryd.pinned (OpenSpec.ofChange Rows.diffChainSpec) :=
 OpenClaim.holds_of_cond 3 Tryd.f3 rfl rfl rfl rfl rfl rfl rfl ⟨rfl, rfl, rfl, rfl, rfl⟩ rfl rfl rfl rfl rfl (by kernel_rfl) Tryd.func3 (by kernel_rfl)
  (of_decide_eq_true (by kernel_rfl)) (by unfold Func.isWrapper; first | (rw [if_pos (by decide +kernel)]; kernel_rfl) | (rw [if_neg (by decide +kernel)]; exact ⟨rfl, rfl⟩))
  (fun os started H enc _ F => by rw [OpenClaim.pre_eq_preRow]; exact afa os started H enc F)
theorem diffChain : Rows.DiffChainSaid := YZ
#print axioms diffChain
end Go.Proofs.YtclohbgnaopjfaaDoor
