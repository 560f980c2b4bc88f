/- Texts of the proof of stepTokensCard -/
import Derived.Test.YtclohbgnaopjfaaGreatDoorLwB
import Derived.Test.YtclohbgnaopjfaaGreatDoorAgK9
import Derived.Test.YtclohbgnaopjfaaGreatDoorAwL
import Derived.Test.YtclohbgnaopjfaaGreatDoorRows
import Derived.WalkKit
import Derived.ProofKit
import Derived.OpenShut
namespace Go.Proofs.YtclohbgnaopjfaaGreatDoor
set_option linter.unusedSimpArgs false
set_option linter.unusedVariables false
open Go Go.ChangeShapes Go.WideShapes Go.RowKit
set_option maxRecDepth 100000
theorem own : ownKnob Tryz.prog.godebug = none := by kernel_rfl
theorem laid : laidOutB Tryz.prog = true := by kernel_rfl
theorem cells3 : Tryz.prog.cellsOf 3 = 1 := by kernel_rfl
theorem axc : Vy Tryz.prog 3 = false := by simp [Vy, Tryz.underlying3]
theorem ao4 : Tryz.prog.cellsOf 71 = 4 := by kernel_rfl
theorem avT : Vy Tryz.prog 71 = true := by simp [Vy, Tryz.underlying71]
theorem av0 : Vy Tryz.prog 22 = false := by simp [Vy, Tryz.underlying22]
theorem wf_i64 {n : Int} (h : (Lit.int .i64 n).wf = true) : -9223372036854775808 ≤ n ∧ n ≤ 9223372036854775807 := by
 simp only [Lit.wf, IntKind.min, IntKind.max, IntKind.signed, IntKind.bits, Bool.and_eq_true, decide_eq_true_eq] at h
 simpa using h
def zu.wf (x : zu) : Prop := (-9223372036854775808 ≤ x.Text ∧ x.Text ≤ 9223372036854775807) ∧ (-9223372036854775808 ≤ x.Marks ∧ x.Marks ≤ 9223372036854775807) ∧ (-9223372036854775808 ≤ x.zq ∧ x.zq ≤ 9223372036854775807) ∧ (-9223372036854775808 ≤ x.In ∧ x.In ≤ 9223372036854775807)
theorem arS {cs : List PV} (h : Zd Tryz.prog 71 cs) : ∃ x : zu, cs = [.int .i64 x.Text, .int .i64 x.Marks, .int .i64 x.zq, .int .i64 x.In] ∧ zu.wf x := by
 obtain ⟨hl, hf⟩ := h.anb Tryz.underlying71
 rw [ao4] at hl
 match cs, hl with
 | [q0, q1, q2, q3], _ =>
  have h0 := hf _ (List.mem_cons_self ..)
  have h1 := hf _ (List.mem_cons_of_mem _ (List.mem_cons_self ..))
  have h2 := hf _ (List.mem_cons_of_mem _ (List.mem_cons_of_mem _ (List.mem_cons_self ..)))
  have h3 := hf _ (List.mem_cons_of_mem _ (List.mem_cons_of_mem _ (List.mem_cons_of_mem _ (List.mem_cons_self ..))))
  simp only [cells3, List.drop_zero, List.drop_succ_cons, List.take_succ_cons, List.take_zero] at h0 h1 h2 h3
  obtain ⟨x0, e0, w0⟩ := h0.Xg Tryz.underlying3
  replace w0 := wf_i64 w0
  cases e0
  obtain ⟨x1, e1, w1⟩ := h1.Xg Tryz.underlying3
  replace w1 := wf_i64 w1
  cases e1
  obtain ⟨x2, e2, w2⟩ := h2.Xg Tryz.underlying3
  replace w2 := wf_i64 w2
  cases e2
  obtain ⟨x3, e3, w3⟩ := h3.Xg Tryz.underlying3
  replace w3 := wf_i64 w3
  cases e3
  exact ⟨⟨x0, x1, x2, x3⟩, rfl, w0, w1, w2, w3⟩
theorem alV {cs : List PV} (h : Zd Tryz.prog 22 cs) : ∃ l : List zu, cs = [.list 4 (l.map zu.pv)] ∧ (l.length ≤ 9223372036854775807 ∧ ∀ x ∈ l, zu.wf x) := by
 obtain ⟨css, rfl, hx, hl⟩ := h.aqE Tryz.underlying22
 obtain ⟨l, rfl⟩ := avq (fun s : {x : zu // zu.wf x} => ([.int .i64 s.1.Text, .int .i64 s.1.Marks, .int .i64 s.1.zq, .int .i64 s.1.In] : List PV)) fun c hc => by
  obtain ⟨x, rfl, w⟩ := arS (hx c hc)
  exact ⟨⟨x, w⟩, rfl⟩
 refine ⟨l.map (·.1), ?_, by simpa [maxLen] using hl, ?_⟩
 ·simp [ao4, jX, avT, Function.comp_def, zu.jA]
 ·intro x hx
  obtain ⟨y, _, rfl⟩ := List.mem_map.1 hx
  exact y.2
theorem ag0 (pvs : List PV) (h : ajQ Tryz.prog Tryz.f3.params.toList pvs) : PC Tryz.prog 3 pvs (.bool true) := by
 rw [Tryz.params3] at h
 match pvs, h with
 | [p0, p1, p2, p3, p4], ⟨⟨c0, e0, h0⟩, ⟨c1, e1, h1⟩, ⟨c2, e2, h2⟩, ⟨c3, e3, h3⟩, ⟨c4, e4, h4⟩, _⟩ =>
  obtain ⟨a0, rfl, w0⟩ := alV h0
  obtain ⟨a1, rfl, w1⟩ := h1.Xg Tryz.underlying3
  replace w1 := wf_i64 w1
  obtain ⟨a2, rfl, w2⟩ := h2.Xg Tryz.underlying3
  replace w2 := wf_i64 w2
  obtain ⟨a3, rfl, w3⟩ := h3.Xg Tryz.underlying3
  replace w3 := wf_i64 w3
  obtain ⟨a4, rfl, w4⟩ := alV h4
  subst e0 e1 e2 e3 e4
  simp only [jX, av0, axc, Bool.false_eq_true, if_false, if_true, List.headD_cons]
  exact KS a0 a1 a2 a3 a4 true (afp a0 a1 a2 a3 a4 w0.1 w0.2 w1 w2 w3 w4.1 w4.2)
set_option maxRecDepth 100000 in
theorem acQ (os : Os) (started : os.Started) (H : Type) (enc : TypeId × Value → H) (F : Stop.Interp) :
  ReturnsInHanded {} Tryz.checked os 3 .any ((OpenSpec.ofChange Rows.stepTokensSpec).preRow enc Tryz.prog Tryz.f3 Rows.stepTokensRow.domain false K4) (((OpenSpec.ofChange Rows.stepTokensSpec).at F).post enc Tryz.prog Tryz.f3 false true false false) := by
 have hw : (DataW.whole enc Tryz.checked.prog ((Zx os).forCall (fun _ _ => 0) ⟨#[], #[.slice none 0 0, .int .i64 0, .int .i64 0, .int .i64 0, .slice none 0 0], []⟩).memory Tryz.f3.params.toList Rows.stepTokensSpec.vars false (#[.slice none 0 0, .int .i64 0, .int .i64 0, .int .i64 0, .slice none 0 0] : Array Value).toList 8).isSome = true := by kernel_rfl
 obtain ⟨x, hx⟩ := Option.isSome_iff_exists.1 hw
 exact ahf (s := Rows.stepTokensSpec) (conds := Rows.stepTokensRow.domain) (ts := [3, 71, 22, 4]) (tb := 4) own (by kernel_rfl) Tryz.func3 laid (by kernel_rfl)
  (by rw [Tryz.params3]; decide) (by rw [Tryz.params3]; intro t ht; simp only [List.mem_cons, List.not_mem_nil, or_false] at ht; rcases ht with rfl | rfl | rfl | rfl | rfl <;> exact ⟨by kernel_rfl, of_decide_eq_true (by kernel_rfl)⟩)
  rfl (by kernel_rfl) Tryz.underlying4 (fun H ds hd => by
   rw [Tryz.params3] at hd
   match ds, hd with
   | [d0, d1, d2, d3, d4], _ => rfl) ag0 os started H enc F
  (akx enc os #[.slice none 0 0, .int .i64 0, .int .i64 0, .int .i64 0, .slice none 0 0] 5 (by kernel_rfl) (by kernel_rfl) (by kernel_rfl) (by kernel_rfl) hx rfl (by kernel_rfl) rfl)
theorem XC : Rows.stepTokensRow.holds Tryz.pinned (OpenSpec.ofChange Rows.stepTokensSpec) :=
 OpenClaim.holds_of_cond 3 Tryz.f3 rfl rfl rfl rfl rfl rfl rfl ⟨rfl, rfl, rfl, rfl, rfl⟩ rfl rfl rfl rfl rfl (by kernel_rfl) Tryz.func3 (by kernel_rfl)
  (of_decide_eq_true (by kernel_rfl)) (by unfold Func.isWrapper; first | (rw [if_pos (by decide +kernel)]; kernel_rfl) | (rw [if_neg (by decide +kernel)]; exact ⟨rfl, rfl⟩))
  (fun os started H enc _ F => by rw [OpenClaim.pre_eq_preRow]; exact acQ os started H enc F)
theorem stepTokens : Rows.StepTokensSaid := XC
#print axioms stepTokens
end Go.Proofs.YtclohbgnaopjfaaGreatDoor
