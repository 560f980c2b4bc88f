/- steps as they are written, or what is wrong, are as the reference says -/
import Derived.Test.YtclohbgnaopjfaaGreatDoorM3
import Derived.Test.YtclohbgnaopjfaaGreatDoorAgK7
import Derived.Test.YtclohbgnaopjfaaGreatDoorAwL
import Derived.Test.YtclohbgnaopjfaaGreatDoorRows
import Derived.WalkKit
import Derived.ProofKit
import Derived.OpenShut
namespace Go.Proofs.YtclohbgnaopjfaaGreatDoor
set_option linter.unusedSimpArgs false
set_option linter.unusedVariables false
open Go Go.ChangeShapes Go.WideShapes Go.RowKit

set_option maxRecDepth 100000
theorem own : ownKnob Tryz.prog.godebug = none := by kernel_rfl
theorem laid : laidOutB Tryz.prog = true := by kernel_rfl
theorem cells5 : Tryz.prog.cellsOf 5 = 1 := by kernel_rfl
theorem agg5 : aggT Tryz.prog 5 = false := by simp [aggT, Tryz.underlying5]
theorem cells3 : Tryz.prog.cellsOf 3 = 1 := by kernel_rfl
theorem agg3 : aggT Tryz.prog 3 = false := by simp [aggT, Tryz.underlying3]
theorem cells9 : Tryz.prog.cellsOf 9 = 1 := by kernel_rfl
theorem agg9 : aggT Tryz.prog 9 = false := by simp [aggT, Tryz.underlying9]
theorem cells24 : Tryz.prog.cellsOf 24 = 1 := by kernel_rfl
theorem agg24 : aggT Tryz.prog 24 = false := by simp [aggT, Tryz.underlying24]
theorem cells87 : Tryz.prog.cellsOf 87 = 2 := by kernel_rfl
theorem agg87 : aggT Tryz.prog 87 = true := by simp [aggT, Tryz.underlying87]
theorem cells25 : Tryz.prog.cellsOf 25 = 1 := by kernel_rfl
theorem agg25 : aggT Tryz.prog 25 = false := by simp [aggT, Tryz.underlying25]
theorem cells28 : Tryz.prog.cellsOf 28 = 5 := by kernel_rfl
theorem agg28 : aggT Tryz.prog 28 = true := by simp [aggT, Tryz.underlying28]
theorem cells26 : Tryz.prog.cellsOf 26 = 1 := by kernel_rfl
theorem agg26 : aggT Tryz.prog 26 = false := by simp [aggT, Tryz.underlying26]
theorem cells31 : Tryz.prog.cellsOf 31 = 6 := by kernel_rfl
theorem agg31 : aggT Tryz.prog 31 = true := by simp [aggT, Tryz.underlying31]
theorem cells51 : Tryz.prog.cellsOf 51 = 1 := by kernel_rfl
theorem agg51 : aggT Tryz.prog 51 = false := by simp [aggT, Tryz.underlying51]
theorem wf_i64 {n : Int} (h : (Lit.int .i64 n).wf = true) : -9223372036854775808 ≤ n ∧ n ≤ 9223372036854775807 := by
  simp only [Lit.wf, IntKind.min, IntKind.max, IntKind.signed, IntKind.bits, Bool.and_eq_true, decide_eq_true_eq] at h
  simpa using h
theorem wf_u8 {n : Int} (h : (Lit.int .u8 n).wf = true) : 0 ≤ n ∧ n ≤ 255 := by
  simp only [Lit.wf, IntKind.min, IntKind.max, IntKind.signed, IntKind.bits, Bool.and_eq_true, decide_eq_true_eq] at h
  simpa using h
theorem ty24_inv {cs : List PV} (h : OfTy Tryz.prog 24 cs) : ∃ l : List Str, cs = [.list 1 (l.map PV.str)] ∧ (l.length ≤ 9223372036854775807 ∧ ∀ x ∈ l, (x.length ≤ 9223372036854775807)) := by
  obtain ⟨css, rfl, hx, hl⟩ := h.slice_inv Tryz.underlying24
  obtain ⟨l, rfl⟩ := all_as (fun s : {x : Str // (x.length ≤ 9223372036854775807)} => ([.str s.1] : List PV)) fun c hc => by
    obtain ⟨x, rfl, w⟩ := (hx c hc).str_inv Tryz.underlying9
    exact ⟨⟨x, w⟩, rfl⟩
  refine ⟨l.map (·.1), ?_, by simpa [maxLen] using hl, ?_⟩
  · simp [cells9, packT, agg9, Function.comp_def]
  · intro x hx
    obtain ⟨y, _, rfl⟩ := List.mem_map.1 hx
    exact y.2
def api_Attr.wf (x : api_Attr) : Prop := (x.Name.length ≤ 9223372036854775807) ∧ (x.Value.length ≤ 9223372036854775807)
theorem ty87_inv {cs : List PV} (h : OfTy Tryz.prog 87 cs) : ∃ x : api_Attr, cs = [.str x.Name, .str x.Value] ∧ api_Attr.wf x := by
  obtain ⟨hl, hf⟩ := h.struct_inv Tryz.underlying87
  rw [cells87] at hl
  match cs, hl with
  | [q0, q1], _ =>
    have h0 := hf _ (List.mem_cons_self ..)
    have h1 := hf _ (List.mem_cons_of_mem _ (List.mem_cons_self ..))
    simp only [cells9, List.drop_zero, List.drop_succ_cons, List.take_succ_cons, List.take_zero] at h0 h1
    obtain ⟨x0, e0, w0⟩ := h0.str_inv Tryz.underlying9
    cases e0
    obtain ⟨x1, e1, w1⟩ := h1.str_inv Tryz.underlying9
    cases e1
    exact ⟨⟨x0, x1⟩, rfl, w0, w1⟩
theorem ty25_inv {cs : List PV} (h : OfTy Tryz.prog 25 cs) : ∃ l : List api_Attr, cs = [.list 2 (l.map api_Attr.pv)] ∧ (l.length ≤ 9223372036854775807 ∧ ∀ x ∈ l, api_Attr.wf x) := by
  obtain ⟨css, rfl, hx, hl⟩ := h.slice_inv Tryz.underlying25
  obtain ⟨l, rfl⟩ := all_as (fun s : {x : api_Attr // api_Attr.wf x} => ([.str s.1.Name, .str s.1.Value] : List PV)) fun c hc => by
    obtain ⟨x, rfl, w⟩ := ty87_inv (hx c hc)
    exact ⟨⟨x, w⟩, rfl⟩
  refine ⟨l.map (·.1), ?_, by simpa [maxLen] using hl, ?_⟩
  · simp [cells87, packT, agg87, Function.comp_def, api_Attr.pv_eq]
  · intro x hx
    obtain ⟨y, _, rfl⟩ := List.mem_map.1 hx
    exact y.2
inductive api_Node.wf : api_Node → Prop where
  | mk (x : api_Node) (h0 : (x.Kind.length ≤ 9223372036854775807)) (h1 : (x.Text.length ≤ 9223372036854775807)) (h2a : x.Marks.length ≤ 9223372036854775807) (h2b : ∀ y ∈ x.Marks, (y.length ≤ 9223372036854775807)) (h3a : x.Attrs.length ≤ 9223372036854775807) (h3b : ∀ y ∈ x.Attrs, api_Attr.wf y) (h4a : x.Kids.length ≤ 9223372036854775807) (h4b : ∀ y ∈ x.Kids, api_Node.wf y) : api_Node.wf x
theorem ty28_both {k : Nat} {cs : List PV} (h : OfTy Tryz.prog k cs) : (k = 28 → (∃ x : api_Node, cs = [.str x.Kind, .str x.Text, .list 1 (x.Marks.map PV.str), .list 2 (x.Attrs.map api_Attr.pv), .list 5 (x.Kids.map api_Node.pv)] ∧ api_Node.wf x)) ∧ (k = 26 → (∃ l : List api_Node, cs = [.list 5 (l.map api_Node.pv)] ∧ (l.length ≤ 9223372036854775807 ∧ ∀ x ∈ l, api_Node.wf x))) := by
  induction h with
  | bool b ht => refine ⟨fun e => ?_, fun e => ?_⟩ <;> (subst e; first | (rw [Tryz.underlying28] at ht; cases ht) | (rw [Tryz.underlying26] at ht; cases ht))
  | int k n ht hw => refine ⟨fun e => ?_, fun e => ?_⟩ <;> (subst e; first | (rw [Tryz.underlying28] at ht; cases ht) | (rw [Tryz.underlying26] at ht; cases ht))
  | str s ht hl => refine ⟨fun e => ?_, fun e => ?_⟩ <;> (subst e; first | (rw [Tryz.underlying28] at ht; cases ht) | (rw [Tryz.underlying26] at ht; cases ht))
  | slice e css ht hx hl ih =>
    refine ⟨fun e => ?_, fun e => ?_⟩
    · subst e; rw [Tryz.underlying28] at ht; cases ht
    · subst e; rw [Tryz.underlying26] at ht; cases ht
      obtain ⟨l, rfl⟩ := all_as (fun s : {x : api_Node // api_Node.wf x} => ([.str s.1.Kind, .str s.1.Text, .list 1 (s.1.Marks.map PV.str), .list 2 (s.1.Attrs.map api_Attr.pv), .list 5 (s.1.Kids.map api_Node.pv)] : List PV)) fun c hc => by
        obtain ⟨x, rfl, w⟩ := (ih c hc).1 rfl
        exact ⟨⟨x, w⟩, rfl⟩
      refine ⟨l.map (·.1), ?_, by simpa [maxLen] using hl, ?_⟩
      · simp [cells28, packT, agg28, Function.comp_def, api_Node.pv_eq]
      · intro x hx
        obtain ⟨y, _, rfl⟩ := List.mem_map.1 hx
        exact y.2
  | struct fs cs ht hl hf ih =>
    refine ⟨fun e => ?_, fun e => ?_⟩
    · subst e; rw [Tryz.underlying28] at ht; cases ht
      rw [cells28] at hl
      match cs, hl with
      | [q0, q1, q2, q3, q4], _ =>
        have h0 := hf _ (List.mem_cons_self ..)
        have h1 := hf _ (List.mem_cons_of_mem _ (List.mem_cons_self ..))
        have h2 := hf _ (List.mem_cons_of_mem _ (List.mem_cons_of_mem _ (List.mem_cons_self ..)))
        have h3 := hf _ (List.mem_cons_of_mem _ (List.mem_cons_of_mem _ (List.mem_cons_of_mem _ (List.mem_cons_self ..))))
        have h4 := hf _ (List.mem_cons_of_mem _ (List.mem_cons_of_mem _ (List.mem_cons_of_mem _ (List.mem_cons_of_mem _ (List.mem_cons_self ..)))))
        have i4 := (ih _ (List.mem_cons_of_mem _ (List.mem_cons_of_mem _ (List.mem_cons_of_mem _ (List.mem_cons_of_mem _ (List.mem_cons_self ..)))))).2 rfl
        simp only [cells24, cells25, cells26, cells9, List.drop_zero, List.drop_succ_cons, List.take_succ_cons, List.take_zero] at h0 h1 h2 h3 i4
        obtain ⟨x0, e0, w0⟩ := h0.str_inv Tryz.underlying9
        cases e0
        obtain ⟨x1, e1, w1⟩ := h1.str_inv Tryz.underlying9
        cases e1
        obtain ⟨x2, e2, w2⟩ := ty24_inv h2
        cases e2
        obtain ⟨x3, e3, w3⟩ := ty25_inv h3
        cases e3
        obtain ⟨x4, e4, w4⟩ := i4
        cases e4
        exact ⟨⟨x0, x1, x2, x3, x4⟩, rfl, .mk _ w0 w1 w2.1 w2.2 w3.1 w3.2 w4.1 w4.2⟩
    · subst e; rw [Tryz.underlying26] at ht; cases ht
theorem ty28_inv {cs : List PV} (h : OfTy Tryz.prog 28 cs) : (∃ x : api_Node, cs = [.str x.Kind, .str x.Text, .list 1 (x.Marks.map PV.str), .list 2 (x.Attrs.map api_Attr.pv), .list 5 (x.Kids.map api_Node.pv)] ∧ api_Node.wf x) := (ty28_both h).1 rfl
theorem ty26_inv {cs : List PV} (h : OfTy Tryz.prog 26 cs) : (∃ l : List api_Node, cs = [.list 5 (l.map api_Node.pv)] ∧ (l.length ≤ 9223372036854775807 ∧ ∀ x ∈ l, api_Node.wf x)) := (ty28_both h).2 rfl
def step_Step.wf (x : step_Step) : Prop := (0 ≤ x.Kind ∧ x.Kind ≤ 255) ∧ (-9223372036854775808 ≤ x.From ∧ x.From ≤ 9223372036854775807) ∧ (-9223372036854775808 ≤ x.To ∧ x.To ≤ 9223372036854775807) ∧ (x.Nodes.length ≤ 9223372036854775807 ∧ ∀ y ∈ x.Nodes, api_Node.wf y) ∧ (x.Name.length ≤ 9223372036854775807) ∧ (x.Value.length ≤ 9223372036854775807)
theorem ty31_inv {cs : List PV} (h : OfTy Tryz.prog 31 cs) : ∃ x : step_Step, cs = [.int .u8 x.Kind, .int .i64 x.From, .int .i64 x.To, .list 5 (x.Nodes.map api_Node.pv), .str x.Name, .str x.Value] ∧ step_Step.wf x := by
  obtain ⟨hl, hf⟩ := h.struct_inv Tryz.underlying31
  rw [cells31] at hl
  match cs, hl with
  | [q0, q1, q2, q3, q4, q5], _ =>
    have h0 := hf _ (List.mem_cons_self ..)
    have h1 := hf _ (List.mem_cons_of_mem _ (List.mem_cons_self ..))
    have h2 := hf _ (List.mem_cons_of_mem _ (List.mem_cons_of_mem _ (List.mem_cons_self ..)))
    have h3 := hf _ (List.mem_cons_of_mem _ (List.mem_cons_of_mem _ (List.mem_cons_of_mem _ (List.mem_cons_self ..))))
    have h4 := hf _ (List.mem_cons_of_mem _ (List.mem_cons_of_mem _ (List.mem_cons_of_mem _ (List.mem_cons_of_mem _ (List.mem_cons_self ..)))))
    have h5 := hf _ (List.mem_cons_of_mem _ (List.mem_cons_of_mem _ (List.mem_cons_of_mem _ (List.mem_cons_of_mem _ (List.mem_cons_of_mem _ (List.mem_cons_self ..))))))
    simp only [cells26, cells3, cells5, cells9, List.drop_zero, List.drop_succ_cons, List.take_succ_cons, List.take_zero] at h0 h1 h2 h3 h4 h5
    obtain ⟨x0, e0, w0⟩ := h0.int_inv Tryz.underlying5
    replace w0 := wf_u8 w0
    cases e0
    obtain ⟨x1, e1, w1⟩ := h1.int_inv Tryz.underlying3
    replace w1 := wf_i64 w1
    cases e1
    obtain ⟨x2, e2, w2⟩ := h2.int_inv Tryz.underlying3
    replace w2 := wf_i64 w2
    cases e2
    obtain ⟨x3, e3, w3⟩ := ty26_inv h3
    cases e3
    obtain ⟨x4, e4, w4⟩ := h4.str_inv Tryz.underlying9
    cases e4
    obtain ⟨x5, e5, w5⟩ := h5.str_inv Tryz.underlying9
    cases e5
    exact ⟨⟨x0, x1, x2, x3, x4, x5⟩, rfl, w0, w1, w2, w3, w4, w5⟩
theorem ty51_inv {cs : List PV} (h : OfTy Tryz.prog 51 cs) : ∃ l : List step_Step, cs = [.list 6 (l.map step_Step.pv)] ∧ (l.length ≤ 9223372036854775807 ∧ ∀ x ∈ l, step_Step.wf x) := by
  obtain ⟨css, rfl, hx, hl⟩ := h.slice_inv Tryz.underlying51
  obtain ⟨l, rfl⟩ := all_as (fun s : {x : step_Step // step_Step.wf x} => ([.int .u8 s.1.Kind, .int .i64 s.1.From, .int .i64 s.1.To, .list 5 (s.1.Nodes.map api_Node.pv), .str s.1.Name, .str s.1.Value] : List PV)) fun c hc => by
    obtain ⟨x, rfl, w⟩ := ty31_inv (hx c hc)
    exact ⟨⟨x, w⟩, rfl⟩
  refine ⟨l.map (·.1), ?_, by simpa [maxLen] using hl, ?_⟩
  · simp [cells31, packT, agg31, Function.comp_def, step_Step.pv_eq]
  · intro x hx
    obtain ⟨y, _, rfl⟩ := List.mem_map.1 hx
    exact y.2
theorem wirePrintsUpto_law (pvs : List PV) (h : ArgsTy Tryz.prog Tryz.f5.params.toList pvs) (hw : pvWs pvs ≤ 1048576) : PC Tryz.prog 5 pvs (.bool true) := by
  rw [Tryz.params5] at h
  match pvs, h, hw with
  | [p0], ⟨⟨c0, e0, h0⟩, _⟩, hw =>
    obtain ⟨a0, rfl, w0⟩ := ty51_inv h0
    subst e0
    simp only [packT, agg51, Bool.false_eq_true, if_false, if_true, List.headD_cons, pvWs] at hw ⊢
    exact diptychlaw12_WirePrints_ok a0 true (WirePrints_card a0 hw)

set_option maxRecDepth 100000 in
theorem wirePrintsUpto_lifted (os : Os) (started : os.Started) (H : Type) (enc : TypeId × Value → H) (F : Stop.Interp) :
    ReturnsInHanded {} Tryz.checked os 5 .any ((Rows.OpenSpec.upto Rows.wirePrintsSpec).preRow enc Tryz.prog Tryz.f5 Rows.wirePrintsUptoRow.domain false laidVars) (((Rows.OpenSpec.upto Rows.wirePrintsSpec).at F).post enc Tryz.prog Tryz.f5 false true false false) := by
  have hx : (DataW.whole enc Tryz.checked.prog ((laidWorld os).forCall (fun _ _ => 0) ⟨#[], #[.slice none 0 0], []⟩).memory Tryz.f5.params.toList Rows.wirePrintsSpec.vars false (#[.slice none 0 0] : Array Value).toList 8) = some ([.nil], [], []) := by kernel_rfl
  exact lifted_upto (s := Rows.wirePrintsSpec) (conds := Rows.wirePrintsUptoRow.domain) (ts := [5, 3, 9, 24, 87, 25, 28, 26, 31, 51, 4]) (tb := 4) own (by kernel_rfl) Tryz.func5 laid (by kernel_rfl)
    (by rw [Tryz.params5]; decide) (by rw [Tryz.params5]; intro t ht; simp only [List.mem_cons, List.not_mem_nil, or_false] at ht; subst ht <;> exact ⟨by kernel_rfl, of_decide_eq_true (by kernel_rfl)⟩)
    rfl (by kernel_rfl) Tryz.underlying4 (fun H ds hd => by
      rw [Tryz.params5] at hd
      match ds, hd with
      | [d0], _ => rfl) wirePrintsUpto_law os started H enc F
    (witness_upto enc os #[.slice none 0 0] 1 (by kernel_rfl) (by kernel_rfl) (by kernel_rfl) (by kernel_rfl) hx rfl (by kernel_rfl) (by kernel_rfl))

theorem wirePrintsUpto_over : Rows.wirePrintsUptoRow.holds Tryz.pinned (Rows.OpenSpec.upto Rows.wirePrintsSpec) :=
  OpenClaim.holds_of_cond 5 Tryz.f5 rfl rfl rfl rfl rfl rfl rfl ⟨rfl, rfl, rfl, rfl, rfl⟩ rfl rfl rfl rfl rfl (by kernel_rfl) Tryz.func5 (by kernel_rfl)
    (of_decide_eq_true (by kernel_rfl)) (by unfold Func.isWrapper; first | (rw [if_pos (by decide +kernel)]; kernel_rfl) | (rw [if_neg (by decide +kernel)]; exact ⟨rfl, rfl⟩))
    (fun os started H enc _ F => by rw [OpenClaim.pre_eq_preRow]; exact wirePrintsUpto_lifted os started H enc F)

theorem wirePrintsUpto : Rows.WirePrintsUptoSaid := wirePrintsUpto_over

#print axioms wirePrintsUpto
end Go.Proofs.YtclohbgnaopjfaaGreatDoor
