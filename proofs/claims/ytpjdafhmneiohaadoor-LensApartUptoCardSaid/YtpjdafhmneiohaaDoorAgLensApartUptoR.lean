/- Two right lenses are written alike just if they are one; a lens that is turned is written otherwise, for inputs of weight up to 2^20. -/
import Derived.Test.YtpjdafhmneiohaaDoorLensApartL
import Derived.Test.YtpjdafhmneiohaaDoorAgK5
import Derived.Test.YtpjdafhmneiohaaDoorAwL
import Derived.Test.YtpjdafhmneiohaaDoorRows
import Derived.WalkKit
import Derived.ProofKit
import Derived.OpenShut
namespace Go.Proofs.YtpjdafhmneiohaaDoor
set_option linter.unusedSimpArgs false
set_option linter.unusedVariables false
open Go Go.ChangeShapes Go.WideShapes Go.RowKit

set_option maxRecDepth 100000
theorem own : ownKnob Tryd.prog.godebug = none := by kernel_rfl
theorem laid : laidOutB Tryd.prog = true := by kernel_rfl
theorem cells5 : Tryd.prog.cellsOf 5 = 1 := by kernel_rfl
theorem agg5 : aggT Tryd.prog 5 = false := by simp [aggT, Tryd.underlying5]
theorem cells9 : Tryd.prog.cellsOf 9 = 1 := by kernel_rfl
theorem agg9 : aggT Tryd.prog 9 = false := by simp [aggT, Tryd.underlying9]
theorem cells24 : Tryd.prog.cellsOf 24 = 1 := by kernel_rfl
theorem agg24 : aggT Tryd.prog 24 = false := by simp [aggT, Tryd.underlying24]
theorem cells50 : Tryd.prog.cellsOf 50 = 6 := by kernel_rfl
theorem agg50 : aggT Tryd.prog 50 = true := by simp [aggT, Tryd.underlying50]
theorem cells4 : Tryd.prog.cellsOf 4 = 1 := by kernel_rfl
theorem agg4 : aggT Tryd.prog 4 = false := by simp [aggT, Tryd.underlying4]
theorem cells51 : Tryd.prog.cellsOf 51 = 1 := by kernel_rfl
theorem agg51 : aggT Tryd.prog 51 = false := by simp [aggT, Tryd.underlying51]
theorem cells53 : Tryd.prog.cellsOf 53 = 8 := by kernel_rfl
theorem agg53 : aggT Tryd.prog 53 = true := by simp [aggT, Tryd.underlying53]
theorem wf_i64 {n : Int} (h : (Lit.int .i64 n).wf = true) : -9223372036854775808 ≤ n ∧ n ≤ 9223372036854775807 := by
  simp only [Lit.wf, IntKind.min, IntKind.max, IntKind.signed, IntKind.bits, Bool.and_eq_true, decide_eq_true_eq] at h
  simpa using h
theorem wf_u8 {n : Int} (h : (Lit.int .u8 n).wf = true) : 0 ≤ n ∧ n ≤ 255 := by
  simp only [Lit.wf, IntKind.min, IntKind.max, IntKind.signed, IntKind.bits, Bool.and_eq_true, decide_eq_true_eq] at h
  simpa using h
theorem ty24_inv {cs : List PV} (h : OfTy Tryd.prog 24 cs) : ∃ l : List Str, cs = [.list 1 (l.map PV.str)] ∧ (l.length ≤ 9223372036854775807 ∧ ∀ x ∈ l, (x.length ≤ 9223372036854775807)) := by
  obtain ⟨css, rfl, hx, hl⟩ := h.slice_inv Tryd.underlying24
  obtain ⟨l, rfl⟩ := all_as (fun s : {x : Str // (x.length ≤ 9223372036854775807)} => ([.str s.1] : List PV)) fun c hc => by
    obtain ⟨x, rfl, w⟩ := (hx c hc).str_inv Tryd.underlying9
    exact ⟨⟨x, w⟩, rfl⟩
  refine ⟨l.map (·.1), ?_, by simpa [maxLen] using hl, ?_⟩
  · simp [cells9, packT, agg9, Function.comp_def]
  · intro x hx
    obtain ⟨y, _, rfl⟩ := List.mem_map.1 hx
    exact y.2
def lens_Prim.wf (x : lens_Prim) : Prop := (0 ≤ x.Op ∧ x.Op ≤ 255) ∧ (x.Kind.length ≤ 9223372036854775807) ∧ (x.Name.length ≤ 9223372036854775807) ∧ (x.New.length ≤ 9223372036854775807) ∧ (x.Values.length ≤ 9223372036854775807 ∧ ∀ y ∈ x.Values, (y.length ≤ 9223372036854775807)) ∧ (x.To.length ≤ 9223372036854775807 ∧ ∀ y ∈ x.To, (y.length ≤ 9223372036854775807))
theorem ty50_inv {cs : List PV} (h : OfTy Tryd.prog 50 cs) : ∃ x : lens_Prim, cs = [.int .u8 x.Op, .str x.Kind, .str x.Name, .str x.New, .list 1 (x.Values.map PV.str), .list 1 (x.To.map PV.str)] ∧ lens_Prim.wf x := by
  obtain ⟨hl, hf⟩ := h.struct_inv Tryd.underlying50
  rw [cells50] at hl
  match cs, hl with
  | [q0, q1, q2, q3, q4, q5], _ =>
    have h0 := hf _ (List.mem_cons_self ..)
    have h1 := hf _ (List.mem_cons_of_mem _ (List.mem_cons_self ..))
    have h2 := hf _ (List.mem_cons_of_mem _ (List.mem_cons_of_mem _ (List.mem_cons_self ..)))
    have h3 := hf _ (List.mem_cons_of_mem _ (List.mem_cons_of_mem _ (List.mem_cons_of_mem _ (List.mem_cons_self ..))))
    have h4 := hf _ (List.mem_cons_of_mem _ (List.mem_cons_of_mem _ (List.mem_cons_of_mem _ (List.mem_cons_of_mem _ (List.mem_cons_self ..)))))
    have h5 := hf _ (List.mem_cons_of_mem _ (List.mem_cons_of_mem _ (List.mem_cons_of_mem _ (List.mem_cons_of_mem _ (List.mem_cons_of_mem _ (List.mem_cons_self ..))))))
    simp only [cells24, cells5, cells9, List.drop_zero, List.drop_succ_cons, List.take_succ_cons, List.take_zero] at h0 h1 h2 h3 h4 h5
    obtain ⟨x0, e0, w0⟩ := h0.int_inv Tryd.underlying5
    replace w0 := wf_u8 w0
    cases e0
    obtain ⟨x1, e1, w1⟩ := h1.str_inv Tryd.underlying9
    cases e1
    obtain ⟨x2, e2, w2⟩ := h2.str_inv Tryd.underlying9
    cases e2
    obtain ⟨x3, e3, w3⟩ := h3.str_inv Tryd.underlying9
    cases e3
    obtain ⟨x4, e4, w4⟩ := ty24_inv h4
    cases e4
    obtain ⟨x5, e5, w5⟩ := ty24_inv h5
    cases e5
    exact ⟨⟨x0, x1, x2, x3, x4, x5⟩, rfl, w0, w1, w2, w3, w4, w5⟩
inductive lens_Lens.wf : lens_Lens → Prop where
  | mk (x : lens_Lens) (h0 : lens_Prim.wf x.Prim) (h1 : True) (h2a : x.Kids.length ≤ 9223372036854775807) (h2b : ∀ y ∈ x.Kids, lens_Lens.wf y) : lens_Lens.wf x
theorem ty53_both {k : Nat} {cs : List PV} (h : OfTy Tryd.prog k cs) : (k = 53 → (∃ x : lens_Lens, cs = [.int .u8 x.Prim.Op, .str x.Prim.Kind, .str x.Prim.Name, .str x.Prim.New, .list 1 (x.Prim.Values.map PV.str), .list 1 (x.Prim.To.map PV.str), .bool x.Turned, .list 8 (x.Kids.map lens_Lens.pv)] ∧ lens_Lens.wf x)) ∧ (k = 51 → (∃ l : List lens_Lens, cs = [.list 8 (l.map lens_Lens.pv)] ∧ (l.length ≤ 9223372036854775807 ∧ ∀ x ∈ l, lens_Lens.wf x))) := by
  induction h with
  | bool b ht => refine ⟨fun e => ?_, fun e => ?_⟩ <;> (subst e; first | (rw [Tryd.underlying53] at ht; cases ht) | (rw [Tryd.underlying51] at ht; cases ht))
  | int k n ht hw => refine ⟨fun e => ?_, fun e => ?_⟩ <;> (subst e; first | (rw [Tryd.underlying53] at ht; cases ht) | (rw [Tryd.underlying51] at ht; cases ht))
  | str s ht hl => refine ⟨fun e => ?_, fun e => ?_⟩ <;> (subst e; first | (rw [Tryd.underlying53] at ht; cases ht) | (rw [Tryd.underlying51] at ht; cases ht))
  | slice e css ht hx hl ih =>
    refine ⟨fun e => ?_, fun e => ?_⟩
    · subst e; rw [Tryd.underlying53] at ht; cases ht
    · subst e; rw [Tryd.underlying51] at ht; cases ht
      obtain ⟨l, rfl⟩ := all_as (fun s : {x : lens_Lens // lens_Lens.wf x} => ([.int .u8 s.1.Prim.Op, .str s.1.Prim.Kind, .str s.1.Prim.Name, .str s.1.Prim.New, .list 1 (s.1.Prim.Values.map PV.str), .list 1 (s.1.Prim.To.map PV.str), .bool s.1.Turned, .list 8 (s.1.Kids.map lens_Lens.pv)] : List PV)) fun c hc => by
        obtain ⟨x, rfl, w⟩ := (ih c hc).1 rfl
        exact ⟨⟨x, w⟩, rfl⟩
      refine ⟨l.map (·.1), ?_, by simpa [maxLen] using hl, ?_⟩
      · simp [cells53, packT, agg53, Function.comp_def, lens_Lens.pv_eq]
      · intro x hx
        obtain ⟨y, _, rfl⟩ := List.mem_map.1 hx
        exact y.2
  | struct fs cs ht hl hf ih =>
    refine ⟨fun e => ?_, fun e => ?_⟩
    · subst e; rw [Tryd.underlying53] at ht; cases ht
      rw [cells53] at hl
      match cs, hl with
      | [q0, q1, q2, q3, q4, q5, q6, q7], _ =>
        have h0 := hf _ (List.mem_cons_self ..)
        have h1 := hf _ (List.mem_cons_of_mem _ (List.mem_cons_self ..))
        have h2 := hf _ (List.mem_cons_of_mem _ (List.mem_cons_of_mem _ (List.mem_cons_self ..)))
        have i2 := (ih _ (List.mem_cons_of_mem _ (List.mem_cons_of_mem _ (List.mem_cons_self ..)))).2 rfl
        simp only [cells4, cells50, cells51, List.drop_zero, List.drop_succ_cons, List.take_succ_cons, List.take_zero] at h0 h1 i2
        obtain ⟨x0, e0, w0⟩ := ty50_inv h0
        cases e0
        obtain ⟨x1, e1⟩ := h1.bool_inv Tryd.underlying4
        have w1 : True := trivial
        cases e1
        obtain ⟨x2, e2, w2⟩ := i2
        cases e2
        exact ⟨⟨x0, x1, x2⟩, rfl, .mk _ w0 w1 w2.1 w2.2⟩
    · subst e; rw [Tryd.underlying51] at ht; cases ht
theorem ty53_inv {cs : List PV} (h : OfTy Tryd.prog 53 cs) : (∃ x : lens_Lens, cs = [.int .u8 x.Prim.Op, .str x.Prim.Kind, .str x.Prim.Name, .str x.Prim.New, .list 1 (x.Prim.Values.map PV.str), .list 1 (x.Prim.To.map PV.str), .bool x.Turned, .list 8 (x.Kids.map lens_Lens.pv)] ∧ lens_Lens.wf x) := (ty53_both h).1 rfl
theorem ty51_inv {cs : List PV} (h : OfTy Tryd.prog 51 cs) : (∃ l : List lens_Lens, cs = [.list 8 (l.map lens_Lens.pv)] ∧ (l.length ≤ 9223372036854775807 ∧ ∀ x ∈ l, lens_Lens.wf x)) := (ty53_both h).2 rfl
theorem lensApartUpto_law (pvs : List PV) (h : ArgsTy Tryd.prog Tryd.f10.params.toList pvs) (hw : pvWs pvs ≤ 1048576) : PC Tryd.prog 10 pvs (.bool true) := by
  rw [Tryd.params10] at h
  match pvs, h, hw with
  | [p0, p1], ⟨⟨c0, e0, h0⟩, ⟨c1, e1, h1⟩, _⟩, hw =>
    obtain ⟨a0, rfl, w0⟩ := ty53_inv h0
    obtain ⟨a1, rfl, w1⟩ := ty53_inv h1
    subst e0 e1
    simp only [packT, agg53, Bool.false_eq_true, if_false, if_true, List.headD_cons, pvWs] at hw ⊢
    exact diptychlaw13_LensApart_ok a0 a1 true (LensApart_true a0 a1 (by have := lW_pv a0; rw [lens_Lens.pv_eq] at this; omega) (by have := lW_pv a1; rw [lens_Lens.pv_eq] at this; omega))

set_option maxRecDepth 100000 in
theorem lensApartUpto_lifted (os : Os) (started : os.Started) (H : Type) (enc : TypeId × Value → H) (F : Stop.Interp) :
    ReturnsInHanded {} Tryd.checked os 10 .any ((Rows.OpenSpec.upto Rows.lensApartSpec).preRow enc Tryd.prog Tryd.f10 Rows.lensApartUptoRow.domain false laidVars) (((Rows.OpenSpec.upto Rows.lensApartSpec).at F).post enc Tryd.prog Tryd.f10 false true false false) := by
  have hx : (DataW.whole enc Tryd.checked.prog ((laidWorld os).forCall (fun _ _ => 0) ⟨#[], #[.agg #[.int .u8 0, .string ⟨#[]⟩, .string ⟨#[]⟩, .string ⟨#[]⟩, .slice none 0 0, .slice none 0 0, .bool false, .slice none 0 0], .agg #[.int .u8 0, .string ⟨#[]⟩, .string ⟨#[]⟩, .string ⟨#[]⟩, .slice none 0 0, .slice none 0 0, .bool false, .slice none 0 0]], []⟩).memory Tryd.f10.params.toList Rows.lensApartSpec.vars false (#[.agg #[.int .u8 0, .string ⟨#[]⟩, .string ⟨#[]⟩, .string ⟨#[]⟩, .slice none 0 0, .slice none 0 0, .bool false, .slice none 0 0], .agg #[.int .u8 0, .string ⟨#[]⟩, .string ⟨#[]⟩, .string ⟨#[]⟩, .slice none 0 0, .slice none 0 0, .bool false, .slice none 0 0]] : Array Value).toList 8) = some ([.agg [.agg [.lit (.int .u8 0), .lit (.string []), .lit (.string []), .lit (.string []), .nil, .nil], .lit (.bool false), .nil], .agg [.agg [.lit (.int .u8 0), .lit (.string []), .lit (.string []), .lit (.string []), .nil, .nil], .lit (.bool false), .nil]], [], []) := by kernel_rfl
  exact lifted_upto (s := Rows.lensApartSpec) (conds := Rows.lensApartUptoRow.domain) (ts := [5, 9, 24, 50, 4, 51, 53]) (tb := 4) own (by kernel_rfl) Tryd.func10 laid (by kernel_rfl)
    (by rw [Tryd.params10]; decide) (by rw [Tryd.params10]; intro t ht; simp only [List.mem_cons, List.not_mem_nil, or_false] at ht; rcases ht with rfl | rfl <;> exact ⟨by kernel_rfl, of_decide_eq_true (by kernel_rfl)⟩)
    rfl (by kernel_rfl) Tryd.underlying4 (fun H ds hd => by
      rw [Tryd.params10] at hd
      match ds, hd with
      | [d0, d1], _ => rfl) lensApartUpto_law os started H enc F
    (witness_upto enc os #[.agg #[.int .u8 0, .string ⟨#[]⟩, .string ⟨#[]⟩, .string ⟨#[]⟩, .slice none 0 0, .slice none 0 0, .bool false, .slice none 0 0], .agg #[.int .u8 0, .string ⟨#[]⟩, .string ⟨#[]⟩, .string ⟨#[]⟩, .slice none 0 0, .slice none 0 0, .bool false, .slice none 0 0]] 2 (by kernel_rfl) (by kernel_rfl) (by kernel_rfl) (by kernel_rfl) hx rfl (by kernel_rfl) (by kernel_rfl))

theorem lensApartUpto_over : Rows.lensApartUptoRow.holds Tryd.pinned (Rows.OpenSpec.upto Rows.lensApartSpec) :=
  OpenClaim.holds_of_cond 10 Tryd.f10 rfl rfl rfl rfl rfl rfl rfl ⟨rfl, rfl, rfl, rfl, rfl⟩ rfl rfl rfl rfl rfl (by kernel_rfl) Tryd.func10 (by kernel_rfl)
    (of_decide_eq_true (by kernel_rfl)) (by unfold Func.isWrapper; first | (rw [if_pos (by decide +kernel)]; kernel_rfl) | (rw [if_neg (by decide +kernel)]; exact ⟨rfl, rfl⟩))
    (fun os started H enc _ F => by rw [OpenClaim.pre_eq_preRow]; exact lensApartUpto_lifted os started H enc F)

theorem lensApartUpto : Rows.LensApartUptoSaid := lensApartUpto_over

#print axioms lensApartUpto
end Go.Proofs.YtpjdafhmneiohaaDoor
