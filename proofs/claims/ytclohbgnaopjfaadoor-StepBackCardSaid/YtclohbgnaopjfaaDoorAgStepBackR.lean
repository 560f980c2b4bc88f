/- Texts of the proof of stepBackCard -/
import Derived.Test.YtclohbgnaopjfaaDoorLwB
import Derived.Test.YtclohbgnaopjfaaDoorAgK9
import Derived.Test.YtclohbgnaopjfaaDoorAwL
import Derived.Test.YtclohbgnaopjfaaDoorRows
import Derived.WalkKit
import Derived.ProofKit
import Derived.OpenShut
namespace Go.Proofs.YtclohbgnaopjfaaDoor
set_option linter.unusedSimpArgs false
set_option linter.unusedVariables false
open Go Go.ChangeShapes Go.WideShapes Go.RowKit
set_option maxRecDepth 100000
theorem own : ownKnob Tryd.prog.godebug = none := by kernel_rfl
theorem laid : laidOutB Tryd.prog = true := by kernel_rfl
theorem cells3 : Tryd.prog.cellsOf 3 = 1 := by kernel_rfl
theorem axx : V3 Tryd.prog 3 = false := by simp [V3, Tryd.underlying3]
theorem am3 : Tryd.prog.cellsOf 108 = 4 := by kernel_rfl
theorem av4 : V3 Tryd.prog 108 = true := by simp [V3, Tryd.underlying108]
theorem aww : V3 Tryd.prog 50 = false := by simp [V3, Tryd.underlying50]
theorem wf_i64 {n : Int} (h : (Lit.int .i64 n).wf = true) : -9223372036854775808 ≤ n ∧ n ≤ 9223372036854775807 := by
 simp only [Lit.wf, IntKind.min, IntKind.max, IntKind.signed, IntKind.bits, Bool.and_eq_true, decide_eq_true_eq] at h
 simpa using h
def zt.wf (x : zt) : Prop := (-9223372036854775808 ≤ x.Text ∧ x.Text ≤ 9223372036854775807) ∧ (-9223372036854775808 ≤ x.Marks ∧ x.Marks ≤ 9223372036854775807) ∧ (-9223372036854775808 ≤ x.zo ∧ x.zo ≤ 9223372036854775807) ∧ (-9223372036854775808 ≤ x.In ∧ x.In ≤ 9223372036854775807)
theorem apZ {cs : List PV} (h : Zr Tryd.prog 108 cs) : ∃ x : zt, cs = [.int .i64 x.Text, .int .i64 x.Marks, .int .i64 x.zo, .int .i64 x.In] ∧ zt.wf x := by
 obtain ⟨hl, hf⟩ := h.anJ Tryd.underlying108
 rw [am3] at hl
 match cs, hl with
 | [q0, q1, q2, q3], _ =>
  have h0 := hf _ (List.mem_cons_self ..)
  have h1 := hf _ (List.mem_cons_of_mem _ (List.mem_cons_self ..))
  have h2 := hf _ (List.mem_cons_of_mem _ (List.mem_cons_of_mem _ (List.mem_cons_self ..)))
  have h3 := hf _ (List.mem_cons_of_mem _ (List.mem_cons_of_mem _ (List.mem_cons_of_mem _ (List.mem_cons_self ..))))
  simp only [cells3, List.drop_zero, List.drop_succ_cons, List.take_succ_cons, List.take_zero] at h0 h1 h2 h3
  obtain ⟨x0, e0, w0⟩ := h0.XO Tryd.underlying3
  replace w0 := wf_i64 w0
  cases e0
  obtain ⟨x1, e1, w1⟩ := h1.XO Tryd.underlying3
  replace w1 := wf_i64 w1
  cases e1
  obtain ⟨x2, e2, w2⟩ := h2.XO Tryd.underlying3
  replace w2 := wf_i64 w2
  cases e2
  obtain ⟨x3, e3, w3⟩ := h3.XO Tryd.underlying3
  replace w3 := wf_i64 w3
  cases e3
  exact ⟨⟨x0, x1, x2, x3⟩, rfl, w0, w1, w2, w3⟩
theorem alX {cs : List PV} (h : Zr Tryd.prog 50 cs) : ∃ l : List zt, cs = [.list 4 (l.map zt.pv)] ∧ (l.length ≤ 9223372036854775807 ∧ ∀ x ∈ l, zt.wf x) := by
 obtain ⟨css, rfl, hx, hl⟩ := h.ap9 Tryd.underlying50
 obtain ⟨l, rfl⟩ := av5 (fun s : {x : zt // zt.wf x} => ([.int .i64 s.1.Text, .int .i64 s.1.Marks, .int .i64 s.1.zo, .int .i64 s.1.In] : List PV)) fun c hc => by
  obtain ⟨x, rfl, w⟩ := apZ (hx c hc)
  exact ⟨⟨x, w⟩, rfl⟩
 refine ⟨l.map (·.1), ?_, by simpa [maxLen] using hl, ?_⟩
 ·simp [am3, xA, av4, Function.comp_def, zt.yn]
 ·intro x hx
  obtain ⟨y, _, rfl⟩ := List.mem_map.1 hx
  exact y.2
theorem aky (pvs : List PV) (h : akV Tryd.prog Tryd.f10.params.toList pvs) : PC Tryd.prog 10 pvs (.bool true) := by
 rw [Tryd.params10] at h
 match pvs, h with
 | [p0, p1, p2, p3, p4], ⟨⟨c0, e0, h0⟩, ⟨c1, e1, h1⟩, ⟨c2, e2, h2⟩, ⟨c3, e3, h3⟩, ⟨c4, e4, h4⟩, _⟩ =>
  obtain ⟨a0, rfl, w0⟩ := alX h0
  obtain ⟨a1, rfl, w1⟩ := h1.XO Tryd.underlying3
  replace w1 := wf_i64 w1
  obtain ⟨a2, rfl, w2⟩ := h2.XO Tryd.underlying3
  replace w2 := wf_i64 w2
  obtain ⟨a3, rfl, w3⟩ := h3.XO Tryd.underlying3
  replace w3 := wf_i64 w3
  obtain ⟨a4, rfl, w4⟩ := alX h4
  subst e0 e1 e2 e3 e4
  simp only [xA, axx, aww, Bool.false_eq_true, if_false, if_true, List.headD_cons]
  exact Ju a0 a1 a2 a3 a4 true (aiU a0 a1 a2 a3 a4 w0.1 w0.2 w1 w2 w3 w4.1 w4.2)
set_option maxRecDepth 100000 in
theorem af9 (os : Os) (started : os.Started) (H : Type) (enc : TypeId × Value → H) (F : Stop.Interp) :
  ReturnsInHanded {} Tryd.checked os 10 .any ((OpenSpec.ofChange Rows.stepBackSpec).preRow enc Tryd.prog Tryd.f10 Rows.stepBackRow.domain false VJ) (((OpenSpec.ofChange Rows.stepBackSpec).at F).post enc Tryd.prog Tryd.f10 false true false false) := by
 have hw : (DataW.whole enc Tryd.checked.prog ((Z9 os).forCall (fun _ _ => 0) ⟨#[], #[.slice none 0 0, .int .i64 0, .int .i64 0, .int .i64 0, .slice none 0 0], []⟩).memory Tryd.f10.params.toList Rows.stepBackSpec.vars false (#[.slice none 0 0, .int .i64 0, .int .i64 0, .int .i64 0, .slice none 0 0] : Array Value).toList 8).isSome = true := by kernel_rfl
 obtain ⟨x, hx⟩ := Option.isSome_iff_exists.1 hw
 exact aix (s := Rows.stepBackSpec) (conds := Rows.stepBackRow.domain) (ts := [3, 108, 50, 4]) (tb := 4) own (by kernel_rfl) Tryd.func10 laid (by kernel_rfl)
  (by rw [Tryd.params10]; decide) (by rw [Tryd.params10]; intro t ht; simp only [List.mem_cons, List.not_mem_nil, or_false] at ht; rcases ht with rfl | rfl | rfl | rfl | rfl <;> exact ⟨by kernel_rfl, of_decide_eq_true (by kernel_rfl)⟩)
  rfl (by kernel_rfl) Tryd.underlying4 (fun H ds hd => by
   rw [Tryd.params10] at hd
   match ds, hd with
   | [d0, d1, d2, d3, d4], _ => rfl) aky os started H enc F
  (ak3 enc os #[.slice none 0 0, .int .i64 0, .int .i64 0, .int .i64 0, .slice none 0 0] 5 (by kernel_rfl) (by kernel_rfl) (by kernel_rfl) (by kernel_rfl) hx rfl (by kernel_rfl) rfl)
theorem abE : Rows.stepBackRow.holds Tryd.pinned (OpenSpec.ofChange Rows.stepBackSpec) :=
 OpenClaim.holds_of_cond 10 Tryd.f10 rfl rfl rfl rfl rfl rfl rfl ⟨rfl, rfl, rfl, rfl, rfl⟩ rfl rfl rfl rfl rfl (by kernel_rfl) Tryd.func10 (by kernel_rfl)
  (of_decide_eq_true (by kernel_rfl)) (by unfold Func.isWrapper; first | (rw [if_pos (by decide +kernel)]; kernel_rfl) | (rw [if_neg (by decide +kernel)]; exact ⟨rfl, rfl⟩))
  (fun os started H enc _ F => by rw [OpenClaim.pre_eq_preRow]; exact af9 os started H enc F)
theorem stepBack : Rows.StepBackSaid := abE
#print axioms stepBack
end Go.Proofs.YtclohbgnaopjfaaDoor
