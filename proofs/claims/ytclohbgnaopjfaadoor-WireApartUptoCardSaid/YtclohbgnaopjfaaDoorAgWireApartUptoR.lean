/- two right steps are written alike just if they are one -/
import Derived.Test.YtclohbgnaopjfaaDoorWireApartL
import Derived.Test.YtclohbgnaopjfaaDoorAgK3
import Derived.Test.YtclohbgnaopjfaaDoorAwL
import Derived.Test.YtclohbgnaopjfaaDoorRows
import Derived.WalkKit
import Derived.ProofKit
import Derived.OpenShut
namespace Go.Proofs.YtclohbgnaopjfaaDoor
set_option linter.unusedSimpArgs false
set_option linter.unusedVariables false
open Go Go.ChangeShapes Go.WideShapes Go.RowKit

set_option maxRecDepth 100000
theorem own : ownKnob Tryd.prog.godebug = none := by kernel_rfl
theorem laid : laidOutB Tryd.prog = true := by kernel_rfl
theorem cells5 : Tryd.prog.cellsOf 5 = 1 := by kernel_rfl
theorem agg5 : aggT Tryd.prog 5 = false := by simp [aggT, Tryd.underlying5]
theorem cells3 : Tryd.prog.cellsOf 3 = 1 := by kernel_rfl
theorem agg3 : aggT Tryd.prog 3 = false := by simp [aggT, Tryd.underlying3]
theorem cells9 : Tryd.prog.cellsOf 9 = 1 := by kernel_rfl
theorem agg9 : aggT Tryd.prog 9 = false := by simp [aggT, Tryd.underlying9]
theorem cells24 : Tryd.prog.cellsOf 24 = 1 := by kernel_rfl
theorem agg24 : aggT Tryd.prog 24 = false := by simp [aggT, Tryd.underlying24]
theorem cells83 : Tryd.prog.cellsOf 83 = 2 := by kernel_rfl
theorem agg83 : aggT Tryd.prog 83 = true := by simp [aggT, Tryd.underlying83]
theorem cells25 : Tryd.prog.cellsOf 25 = 1 := by kernel_rfl
theorem agg25 : aggT Tryd.prog 25 = false := by simp [aggT, Tryd.underlying25]
theorem cells28 : Tryd.prog.cellsOf 28 = 5 := by kernel_rfl
theorem agg28 : aggT Tryd.prog 28 = true := by simp [aggT, Tryd.underlying28]
theorem cells26 : Tryd.prog.cellsOf 26 = 1 := by kernel_rfl
theorem agg26 : aggT Tryd.prog 26 = false := by simp [aggT, Tryd.underlying26]
theorem cells39 : Tryd.prog.cellsOf 39 = 6 := by kernel_rfl
theorem agg39 : aggT Tryd.prog 39 = true := by simp [aggT, Tryd.underlying39]
theorem wf_i64 {n : Int} (h : (Lit.int .i64 n).wf = true) : -9223372036854775808 ≤ n ∧ n ≤ 9223372036854775807 := by
  simp only [Lit.wf, IntKind.min, IntKind.max, IntKind.signed, IntKind.bits, Bool.and_eq_true, decide_eq_true_eq] at h
  simpa using h
theorem wf_u8 {n : Int} (h : (Lit.int .u8 n).wf = true) : 0 ≤ n ∧ n ≤ 255 := by
  simp only [Lit.wf, IntKind.min, IntKind.max, IntKind.signed, IntKind.bits, Bool.and_eq_true, decide_eq_true_eq] at h
  simpa using h
theorem ty24_inv {cs : List PV} (h : OfTy Tryd.prog 24 cs) : ∃ l : List Str, cs = [.list 1 (l.map PV.str)] ∧ (l.length ≤ 9223372036854775807 ∧ ∀ x ∈ l, (x.length ≤ 9223372036854775807)) := by
  obtain ⟨css, rfl, hx, hl⟩ := h.slice_inv Tryd.underlying24
  obtain ⟨l, rfl⟩ := all_as (fun s : {x : Str // (x.length ≤ 9223372036854775807)} => ([.str s.1] : List PV)) fun c hc => by
    obtain ⟨x, rfl, w⟩ := (hx c hc).str_inv Tryd.underlying9
    exact ⟨⟨x, w⟩, rfl⟩
  refine ⟨l.map (·.1), ?_, by simpa [maxLen] using hl, ?_⟩
  · simp [cells9, packT, agg9, Function.comp_def]
  · intro x hx
    obtain ⟨y, _, rfl⟩ := List.mem_map.1 hx
    exact y.2
def api_Attr.wf (x : api_Attr) : Prop := (x.Name.length ≤ 9223372036854775807) ∧ (x.Value.length ≤ 9223372036854775807)
theorem ty83_inv {cs : List PV} (h : OfTy Tryd.prog 83 cs) : ∃ x : api_Attr, cs = [.str x.Name, .str x.Value] ∧ api_Attr.wf x := by
  obtain ⟨hl, hf⟩ := h.struct_inv Tryd.underlying83
  rw [cells83] at hl
  match cs, hl with
  | [q0, q1], _ =>
    have h0 := hf _ (List.mem_cons_self ..)
    have h1 := hf _ (List.mem_cons_of_mem _ (List.mem_cons_self ..))
    simp only [cells9, List.drop_zero, List.drop_succ_cons, List.take_succ_cons, List.take_zero] at h0 h1
    obtain ⟨x0, e0, w0⟩ := h0.str_inv Tryd.underlying9
    cases e0
    obtain ⟨x1, e1, w1⟩ := h1.str_inv Tryd.underlying9
    cases e1
    exact ⟨⟨x0, x1⟩, rfl, w0, w1⟩
theorem ty25_inv {cs : List PV} (h : OfTy Tryd.prog 25 cs) : ∃ l : List api_Attr, cs = [.list 2 (l.map api_Attr.pv)] ∧ (l.length ≤ 9223372036854775807 ∧ ∀ x ∈ l, api_Attr.wf x) := by
  obtain ⟨css, rfl, hx, hl⟩ := h.slice_inv Tryd.underlying25
  obtain ⟨l, rfl⟩ := all_as (fun s : {x : api_Attr // api_Attr.wf x} => ([.str s.1.Name, .str s.1.Value] : List PV)) fun c hc => by
    obtain ⟨x, rfl, w⟩ := ty83_inv (hx c hc)
    exact ⟨⟨x, w⟩, rfl⟩
  refine ⟨l.map (·.1), ?_, by simpa [maxLen] using hl, ?_⟩
  · simp [cells83, packT, agg83, Function.comp_def, api_Attr.pv_eq]
  · intro x hx
    obtain ⟨y, _, rfl⟩ := List.mem_map.1 hx
    exact y.2
inductive api_Node.wf : api_Node → Prop where
  | mk (x : api_Node) (h0 : (x.Kind.length ≤ 9223372036854775807)) (h1 : (x.Text.length ≤ 9223372036854775807)) (h2a : x.Marks.length ≤ 9223372036854775807) (h2b : ∀ y ∈ x.Marks, (y.length ≤ 9223372036854775807)) (h3a : x.Attrs.length ≤ 9223372036854775807) (h3b : ∀ y ∈ x.Attrs, api_Attr.wf y) (h4a : x.Kids.length ≤ 9223372036854775807) (h4b : ∀ y ∈ x.Kids, api_Node.wf y) : api_Node.wf x
theorem ty28_both {k : Nat} {cs : List PV} (h : OfTy Tryd.prog k cs) : (k = 28 → (∃ x : api_Node, cs = [.str x.Kind, .str x.Text, .list 1 (x.Marks.map PV.str), .list 2 (x.Attrs.map api_Attr.pv), .list 5 (x.Kids.map api_Node.pv)] ∧ api_Node.wf x)) ∧ (k = 26 → (∃ l : List api_Node, cs = [.list 5 (l.map api_Node.pv)] ∧ (l.length ≤ 9223372036854775807 ∧ ∀ x ∈ l, api_Node.wf x))) := by
  induction h with
  | bool b ht => refine ⟨fun e => ?_, fun e => ?_⟩ <;> (subst e; first | (rw [Tryd.underlying28] at ht; cases ht) | (rw [Tryd.underlying26] at ht; cases ht))
  | int k n ht hw => refine ⟨fun e => ?_, fun e => ?_⟩ <;> (subst e; first | (rw [Tryd.underlying28] at ht; cases ht) | (rw [Tryd.underlying26] at ht; cases ht))
  | str s ht hl => refine ⟨fun e => ?_, fun e => ?_⟩ <;> (subst e; first | (rw [Tryd.underlying28] at ht; cases ht) | (rw [Tryd.underlying26] at ht; cases ht))
  | slice e css ht hx hl ih =>
    refine ⟨fun e => ?_, fun e => ?_⟩
    · subst e; rw [Tryd.underlying28] at ht; cases ht
    · subst e; rw [Tryd.underlying26] at ht; cases ht
      obtain ⟨l, rfl⟩ := all_as (fun s : {x : api_Node // api_Node.wf x} => ([.str s.1.Kind, .str s.1.Text, .list 1 (s.1.Marks.map PV.str), .list 2 (s.1.Attrs.map api_Attr.pv), .list 5 (s.1.Kids.map api_Node.pv)] : List PV)) fun c hc => by
        obtain ⟨x, rfl, w⟩ := (ih c hc).1 rfl
        exact ⟨⟨x, w⟩, rfl⟩
      refine ⟨l.map (·.1), ?_, by simpa [maxLen] using hl, ?_⟩
      · simp [cells28, packT, agg28, Function.comp_def, api_Node.pv_eq]
      · intro x hx
        obtain ⟨y, _, rfl⟩ := List.mem_map.1 hx
        exact y.2
  | struct fs cs ht hl hf ih =>
    refine ⟨fun e => ?_, fun e => ?_⟩
    · subst e; rw [Tryd.underlying28] at ht; cases ht
      rw [cells28] at hl
      match cs, hl with
      | [q0, q1, q2, q3, q4], _ =>
        have h0 := hf _ (List.mem_cons_self ..)
        have h1 := hf _ (List.mem_cons_of_mem _ (List.mem_cons_self ..))
        have h2 := hf _ (List.mem_cons_of_mem _ (List.mem_cons_of_mem _ (List.mem_cons_self ..)))
        have h3 := hf _ (List.mem_cons_of_mem _ (List.mem_cons_of_mem _ (List.mem_cons_of_mem _ (List.mem_cons_self ..))))
        have h4 := hf _ (List.mem_cons_of_mem _ (List.mem_cons_of_mem _ (List.mem_cons_of_mem _ (List.mem_cons_of_mem _ (List.mem_cons_self ..)))))
        have i4 := (ih _ (List.mem_cons_of_mem _ (List.mem_cons_of_mem _ (List.mem_cons_of_mem _ (List.mem_cons_of_mem _ (List.mem_cons_self ..)))))).2 rfl
        simp only [cells24, cells25, cells26, cells9, List.drop_zero, List.drop_succ_cons, List.take_succ_cons, List.take_zero] at h0 h1 h2 h3 i4
        obtain ⟨x0, e0, w0⟩ := h0.str_inv Tryd.underlying9
        cases e0
        obtain ⟨x1, e1, w1⟩ := h1.str_inv Tryd.underlying9
        cases e1
        obtain ⟨x2, e2, w2⟩ := ty24_inv h2
        cases e2
        obtain ⟨x3, e3, w3⟩ := ty25_inv h3
        cases e3
        obtain ⟨x4, e4, w4⟩ := i4
        cases e4
        exact ⟨⟨x0, x1, x2, x3, x4⟩, rfl, .mk _ w0 w1 w2.1 w2.2 w3.1 w3.2 w4.1 w4.2⟩
    · subst e; rw [Tryd.underlying26] at ht; cases ht
theorem ty28_inv {cs : List PV} (h : OfTy Tryd.prog 28 cs) : (∃ x : api_Node, cs = [.str x.Kind, .str x.Text, .list 1 (x.Marks.map PV.str), .list 2 (x.Attrs.map api_Attr.pv), .list 5 (x.Kids.map api_Node.pv)] ∧ api_Node.wf x) := (ty28_both h).1 rfl
theorem ty26_inv {cs : List PV} (h : OfTy Tryd.prog 26 cs) : (∃ l : List api_Node, cs = [.list 5 (l.map api_Node.pv)] ∧ (l.length ≤ 9223372036854775807 ∧ ∀ x ∈ l, api_Node.wf x)) := (ty28_both h).2 rfl
def step_Step.wf (x : step_Step) : Prop := (0 ≤ x.Kind ∧ x.Kind ≤ 255) ∧ (-9223372036854775808 ≤ x.From ∧ x.From ≤ 9223372036854775807) ∧ (-9223372036854775808 ≤ x.To ∧ x.To ≤ 9223372036854775807) ∧ (x.Nodes.length ≤ 9223372036854775807 ∧ ∀ y ∈ x.Nodes, api_Node.wf y) ∧ (x.Name.length ≤ 9223372036854775807) ∧ (x.Value.length ≤ 9223372036854775807)
theorem ty39_inv {cs : List PV} (h : OfTy Tryd.prog 39 cs) : ∃ x : step_Step, cs = [.int .u8 x.Kind, .int .i64 x.From, .int .i64 x.To, .list 5 (x.Nodes.map api_Node.pv), .str x.Name, .str x.Value] ∧ step_Step.wf x := by
  obtain ⟨hl, hf⟩ := h.struct_inv Tryd.underlying39
  rw [cells39] at hl
  match cs, hl with
  | [q0, q1, q2, q3, q4, q5], _ =>
    have h0 := hf _ (List.mem_cons_self ..)
    have h1 := hf _ (List.mem_cons_of_mem _ (List.mem_cons_self ..))
    have h2 := hf _ (List.mem_cons_of_mem _ (List.mem_cons_of_mem _ (List.mem_cons_self ..)))
    have h3 := hf _ (List.mem_cons_of_mem _ (List.mem_cons_of_mem _ (List.mem_cons_of_mem _ (List.mem_cons_self ..))))
    have h4 := hf _ (List.mem_cons_of_mem _ (List.mem_cons_of_mem _ (List.mem_cons_of_mem _ (List.mem_cons_of_mem _ (List.mem_cons_self ..)))))
    have h5 := hf _ (List.mem_cons_of_mem _ (List.mem_cons_of_mem _ (List.mem_cons_of_mem _ (List.mem_cons_of_mem _ (List.mem_cons_of_mem _ (List.mem_cons_self ..))))))
    simp only [cells26, cells3, cells5, cells9, List.drop_zero, List.drop_succ_cons, List.take_succ_cons, List.take_zero] at h0 h1 h2 h3 h4 h5
    obtain ⟨x0, e0, w0⟩ := h0.int_inv Tryd.underlying5
    replace w0 := wf_u8 w0
    cases e0
    obtain ⟨x1, e1, w1⟩ := h1.int_inv Tryd.underlying3
    replace w1 := wf_i64 w1
    cases e1
    obtain ⟨x2, e2, w2⟩ := h2.int_inv Tryd.underlying3
    replace w2 := wf_i64 w2
    cases e2
    obtain ⟨x3, e3, w3⟩ := ty26_inv h3
    cases e3
    obtain ⟨x4, e4, w4⟩ := h4.str_inv Tryd.underlying9
    cases e4
    obtain ⟨x5, e5, w5⟩ := h5.str_inv Tryd.underlying9
    cases e5
    exact ⟨⟨x0, x1, x2, x3, x4, x5⟩, rfl, w0, w1, w2, w3, w4, w5⟩
theorem wireApartUpto_law (pvs : List PV) (h : ArgsTy Tryd.prog Tryd.f4.params.toList pvs) (hw : pvWs pvs ≤ 1048576) : PC Tryd.prog 4 pvs (.bool true) := by
  rw [Tryd.params4] at h
  match pvs, h, hw with
  | [p0, p1], ⟨⟨c0, e0, h0⟩, ⟨c1, e1, h1⟩, _⟩, hw =>
    obtain ⟨a0, rfl, w0⟩ := ty39_inv h0
    obtain ⟨a1, rfl, w1⟩ := ty39_inv h1
    subst e0 e1
    simp only [packT, agg39, Bool.false_eq_true, if_false, if_true, List.headD_cons, pvWs] at hw ⊢
    exact diptychlaw12_WireApart_ok a0 a1 true (WireApart_card a0 a1 hw)

set_option maxRecDepth 100000 in
theorem wireApartUpto_lifted (os : Os) (started : os.Started) (H : Type) (enc : TypeId × Value → H) (F : Stop.Interp) :
    ReturnsInHanded {} Tryd.checked os 4 .any ((Rows.OpenSpec.upto Rows.wireApartSpec).preRow enc Tryd.prog Tryd.f4 Rows.wireApartUptoRow.domain false laidVars) (((Rows.OpenSpec.upto Rows.wireApartSpec).at F).post enc Tryd.prog Tryd.f4 false true false false) := by
  have hx : (DataW.whole enc Tryd.checked.prog ((laidWorld os).forCall (fun _ _ => 0) ⟨#[], #[.agg #[.int .u8 0, .int .i64 0, .int .i64 0, .slice none 0 0, .string ⟨#[]⟩, .string ⟨#[]⟩], .agg #[.int .u8 0, .int .i64 0, .int .i64 0, .slice none 0 0, .string ⟨#[]⟩, .string ⟨#[]⟩]], []⟩).memory Tryd.f4.params.toList Rows.wireApartSpec.vars false (#[.agg #[.int .u8 0, .int .i64 0, .int .i64 0, .slice none 0 0, .string ⟨#[]⟩, .string ⟨#[]⟩], .agg #[.int .u8 0, .int .i64 0, .int .i64 0, .slice none 0 0, .string ⟨#[]⟩, .string ⟨#[]⟩]] : Array Value).toList 8) = some ([.agg [.lit (.int .u8 0), .lit (.int .i64 0), .lit (.int .i64 0), .nil, .lit (.string []), .lit (.string [])], .agg [.lit (.int .u8 0), .lit (.int .i64 0), .lit (.int .i64 0), .nil, .lit (.string []), .lit (.string [])]], [], []) := by kernel_rfl
  exact lifted_upto (s := Rows.wireApartSpec) (conds := Rows.wireApartUptoRow.domain) (ts := [5, 3, 9, 24, 83, 25, 28, 26, 39, 4]) (tb := 4) own (by kernel_rfl) Tryd.func4 laid (by kernel_rfl)
    (by rw [Tryd.params4]; decide) (by rw [Tryd.params4]; intro t ht; simp only [List.mem_cons, List.not_mem_nil, or_false] at ht; rcases ht with rfl | rfl <;> exact ⟨by kernel_rfl, of_decide_eq_true (by kernel_rfl)⟩)
    rfl (by kernel_rfl) Tryd.underlying4 (fun H ds hd => by
      rw [Tryd.params4] at hd
      match ds, hd with
      | [d0, d1], _ => rfl) wireApartUpto_law os started H enc F
    (witness_upto enc os #[.agg #[.int .u8 0, .int .i64 0, .int .i64 0, .slice none 0 0, .string ⟨#[]⟩, .string ⟨#[]⟩], .agg #[.int .u8 0, .int .i64 0, .int .i64 0, .slice none 0 0, .string ⟨#[]⟩, .string ⟨#[]⟩]] 2 (by kernel_rfl) (by kernel_rfl) (by kernel_rfl) (by kernel_rfl) hx rfl (by kernel_rfl) (by kernel_rfl))

theorem wireApartUpto_over : Rows.wireApartUptoRow.holds Tryd.pinned (Rows.OpenSpec.upto Rows.wireApartSpec) :=
  OpenClaim.holds_of_cond 4 Tryd.f4 rfl rfl rfl rfl rfl rfl rfl ⟨rfl, rfl, rfl, rfl, rfl⟩ rfl rfl rfl rfl rfl (by kernel_rfl) Tryd.func4 (by kernel_rfl)
    (of_decide_eq_true (by kernel_rfl)) (by unfold Func.isWrapper; first | (rw [if_pos (by decide +kernel)]; kernel_rfl) | (rw [if_neg (by decide +kernel)]; exact ⟨rfl, rfl⟩))
    (fun os started H enc _ F => by rw [OpenClaim.pre_eq_preRow]; exact wireApartUpto_lifted os started H enc F)

theorem wireApartUpto : Rows.WireApartUptoSaid := wireApartUpto_over

#print axioms wireApartUpto
end Go.Proofs.YtclohbgnaopjfaaDoor
