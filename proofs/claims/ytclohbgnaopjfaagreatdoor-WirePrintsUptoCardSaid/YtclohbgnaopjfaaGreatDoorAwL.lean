/- Rows that list global variables: what these hold, and the way from a law's contract to such a row. -/
import Derived.Test.YtclohbgnaopjfaaGreatDoorAwS
import Derived.Test.YtclohbgnaopjfaaGreatDoorAgL
import Derived.Test.YtclohbgnaopjfaaGreatDoorRows
import Derived.Lib.LaidIn
import Derived.Lib.LaidU8T
import Derived.Deep.DeepHandedRow
import Derived.Deep.DeepWitnessRowRef
import Derived.ProofKit
import Derived.SizedLaws
namespace Go.Proofs.YtclohbgnaopjfaaGreatDoor
set_option linter.unusedSimpArgs false
set_option linter.unusedVariables false
open Go Go.ChangeShapes Go.WideShapes Go.RowKit Go.Lib Go.Shelf
set_option maxRecDepth 100000

theorem cell_agree {W w : World} (h : Agree (immOf W) w) {a : Addr} {v : Value} (hv : W.cell? a = some v) : w.cell? a = some v := by
  unfold World.cell? at hv
  split at hv
  · rename_i c t fr hb
    have h1 : immOf W a.block = some c := by unfold immOf; rw [hb]
    obtain ⟨t', fr', h2⟩ := h _ _ h1
    unfold World.cell?
    rw [h2]
    exact hv
  · cases hv
theorem gw_agree {W w : World} (hW : GW W) (h : Agree (immOf W) w) : GW w := by
  obtain ⟨⟨⟨h1, h2⟩, m, h3⟩, t, fr, h4⟩ := hW
  exact ⟨⟨⟨fun c hc => cell_agree h (h1 c hc), fun i hi => ⟨cell_agree h (h2 i hi).1, cell_agree h (h2 i hi).2⟩⟩, m, cell_agree h h3⟩, h 3 _ (by unfold immOf; rw [h4])⟩

abbrev laidVars : List (String × DataW Unit) := [("math/bits.deBruijn32tab", Rows.laid_math_bits_deBruijn32tab), ("math/bits.deBruijn64tab", Rows.laid_math_bits_deBruijn64tab), ("internal/strconv.uint64pow10", Rows.laid_internal_strconv_uint64pow10), ("unicode/utf8.acceptRanges", Rows.laid_unicode_utf8_acceptRanges), ("unicode/utf8.first", Rows.laid_unicode_utf8_first)]
theorem pow_eq : (Rows.laid_internal_strconv_uint64pow10 : DataW Unit) = Lib.tabData .u64 Lib.pow10Tab := by kernel_rfl
theorem laid_tail {P : Program} {W : World} {x : String × DataW Unit} {rest : List (String × DataW Unit)} (h : laidMet P (x :: rest) W) : laidMet P rest W := by
  obtain ⟨ps, hv, hn, hc⟩ := h
  obtain ⟨n, d⟩ := x
  obtain ⟨g, t, cs, fuel, p, q, h1, h2, h3, h4, h5, rfl⟩ := hv
  exact ⟨q, h5, (List.nodup_append.1 hn).2.1, fun b off hm => hc b off (by simp [hm])⟩
theorem first_eq : Rows.laid_unicode_utf8_first = Lib.firstData := by kernel_rfl
theorem accept_eq : (Rows.laid_unicode_utf8_acceptRanges : DataW Unit) = Lib.acceptData := by kernel_rfl

theorem gw_of {W : World} (hL : laidMet Tryz.prog laidVars W) (hS : W.ShapedOpen Tryz.prog) : GW W := by
  have hU : Lib.Utf8Tabs (Tryz.lays196_ren.g 3) (Tryz.lays196_ren.g 4) W :=
    utf8Tabs_of_readsT (U8Types.of196 Tryz.lays196) ⟨by kernel_rfl, by kernel_rfl, by kernel_rfl, by kernel_rfl, by kernel_rfl, by kernel_rfl, by kernel_rfl⟩ (first_eq ▸ Lib.laidMet.reads hL (.tail _ (.tail _ (.tail _ (.tail _ (.head _)))))) (accept_eq ▸ Lib.laidMet.reads hL (.tail _ (.tail _ (.tail _ (.head _)))))
  have hT : Lib.TabIs Tryz.prog W "internal/strconv.uint64pow10" .u64 Lib.pow10Tab := by
    have h2 := laid_tail (laid_tail hL)
    rw [pow_eq] at h2
    exact Lib.tabIs_of_head (g := 3) (t := 221) (e := 201) (n := 20) (by kernel_rfl) (by kernel_rfl) (by kernel_rfl) (by kernel_rfl) (by kernel_rfl) (by kernel_rfl) h2
  have hg : Tryz.prog.globalNamed "internal/strconv.uint64pow10" = some 3 := by kernel_rfl
  unfold Lib.TabIs World.var? at hT
  rw [hg] at hT
  simp only [Option.bind_some] at hT
  refine ⟨⟨hU, Tryz.laysM155.s1_3 W hS⟩, ?_⟩
  split at hT
  · rename_i c t fr hb
    injection hT with hT
    subst hT
    exact ⟨t, fr, hb⟩
  · cases hT

/-- The settled world, the five variables holding what their initialisers lay. -/
noncomputable def laidWorld (os : Os) : World :=
  let w0 := World.holding Tryz.prog os ⟨#[], #[], []⟩
  let put (h : Array Obj) (g : Nat) (cs : Array Value) : Array Obj := h.modify g fun
    | .cells _ t frozen => .cells cs t frozen
    | o => o
  let h1 := put w0.heap 0 (Lib.firstTab.map fun z => Value.int .u8 z).toArray
  let h2 := put h1 1 ((List.range 16).flatMap fun i => [Value.int .u8 (Lib.accLo i), Value.int .u8 (Lib.accHi i)]).toArray
  let h3 := put h2 3 #[.int .u64 1, .int .u64 10, .int .u64 100, .int .u64 1000, .int .u64 10000, .int .u64 100000, .int .u64 1000000, .int .u64 10000000, .int .u64 100000000, .int .u64 1000000000, .int .u64 10000000000, .int .u64 100000000000, .int .u64 1000000000000, .int .u64 10000000000000, .int .u64 100000000000000, .int .u64 1000000000000000, .int .u64 10000000000000000, .int .u64 100000000000000000, .int .u64 1000000000000000000, .int .u64 10000000000000000000]
  let h4 := put h3 4 #[.int .u8 0, .int .u8 1, .int .u8 28, .int .u8 2, .int .u8 29, .int .u8 14, .int .u8 24, .int .u8 3, .int .u8 30, .int .u8 22, .int .u8 20, .int .u8 15, .int .u8 25, .int .u8 17, .int .u8 4, .int .u8 8, .int .u8 31, .int .u8 27, .int .u8 13, .int .u8 23, .int .u8 21, .int .u8 19, .int .u8 16, .int .u8 7, .int .u8 26, .int .u8 12, .int .u8 18, .int .u8 6, .int .u8 11, .int .u8 5, .int .u8 10, .int .u8 9]
  let h5 := put h4 5 #[.int .u8 0, .int .u8 1, .int .u8 56, .int .u8 2, .int .u8 57, .int .u8 49, .int .u8 28, .int .u8 3, .int .u8 61, .int .u8 58, .int .u8 42, .int .u8 50, .int .u8 38, .int .u8 29, .int .u8 17, .int .u8 4, .int .u8 62, .int .u8 47, .int .u8 59, .int .u8 36, .int .u8 45, .int .u8 43, .int .u8 51, .int .u8 22, .int .u8 53, .int .u8 39, .int .u8 33, .int .u8 30, .int .u8 24, .int .u8 18, .int .u8 12, .int .u8 5, .int .u8 63, .int .u8 55, .int .u8 48, .int .u8 27, .int .u8 60, .int .u8 41, .int .u8 37, .int .u8 16, .int .u8 46, .int .u8 35, .int .u8 44, .int .u8 21, .int .u8 52, .int .u8 32, .int .u8 23, .int .u8 11, .int .u8 54, .int .u8 26, .int .u8 40, .int .u8 15, .int .u8 34, .int .u8 20, .int .u8 31, .int .u8 10, .int .u8 25, .int .u8 14, .int .u8 19, .int .u8 9, .int .u8 13, .int .u8 8, .int .u8 7, .int .u8 6]
  { w0 with heap := h5 }
theorem laid_met (os : Os) (args : Array Value) : laidMet Tryz.prog laidVars ((laidWorld os).forCall (fun _ _ => 0) ⟨#[], args, []⟩).memory :=
  (LaidIn.of_run (l := laidVars) [0, 1, 3, 4, 5] 8 (by kernel_rfl) (by kernel_rfl) (by kernel_rfl) (by kernel_rfl)).met

theorem lifted_of_laid {f : Nat} {fn : Func} {s : ChangeSpec} {conds : List PathCond} {ts : List Nat} {tb : Nat} (own : ownKnob Tryz.checked.prog.godebug = none) (noInit : Tryz.checked.prog.inits.idxOf? f = none) (hfn : Tryz.checked.prog.funcs[f]? = some fn)
    (hl : laidOutB Tryz.checked.prog = true) (hts : okTys Tryz.checked.prog ts = true) (hm : ∀ t ∈ fn.params.toList, t ∈ ts) (hr : ∀ t ∈ fn.params.toList, Tryz.checked.prog.readableRec t = true ∧ t < Tryz.checked.prog.types.size)
    (hvars : s.vars = []) (hres : fn.resultTypes = #[tb]) (hb : Tryz.checked.prog.underlying tb = some .bool) (hspec : ∀ (H : Type) (ds : List (DataW H)), ds.length = fn.params.toList.length → s.fn H ds = { results := [.lit (.bool true)], args := ds })
    (law : ∀ pvs, ArgsTy Tryz.checked.prog fn.params.toList pvs → PC Tryz.checked.prog f pvs (.bool true)) (os : Os) (started : os.Started) (H : Type) (enc : TypeId × Value → H) (F : Stop.Interp)
    (witness : ∃ (w : World) (tape : Tape) (i : Input), w.os = os ∧ (w.forCall tape i).Shaped Tryz.checked.prog ∧ i.vars = [] ∧ Input.okWide Tryz.checked.prog (w.forCall tape i) .any w.heap.size f i ∧
      (OpenSpec.ofChange s).preRow enc Tryz.checked.prog fn conds false laidVars (w.forCall tape i).memory i.args ∧ ({} : Assume).holds Tryz.checked.prog (lone (Frame.enter Tryz.checked.prog f i.args .normal) [] (w.forCall tape i))) :
    ReturnsInHanded {} Tryz.checked os f .any ((OpenSpec.ofChange s).preRow enc Tryz.checked.prog fn conds false laidVars) (((OpenSpec.ofChange s).at F).post enc Tryz.checked.prog fn false true false false) := by
  refine returnsInHanded_of_row (C := Tryz.checked) (s := OpenSpec.ofChange s) own started noInit hfn witness ?_
  intro W base args ds gs before hval hW hcnd _ _ hL hS _
  have hW0 : DataW.Whole enc Tryz.checked.prog fn.params.toList s.vars false W args.toList ds gs before := hW
  have hW' := hW0
  obtain ⟨p, q, hA, hV, rfl, hz, hn⟩ := hW'
  obtain ⟨pvs, g1, g2, _⟩ := args_of muW_mu hts fn.params.toList args.toList ds p hm (fun j t v h1 h2 => hval j t v (by simpa using h1) (by simpa using h2)) hA
  obtain ⟨_, _, hc⟩ := law pvs g2
  have hG : GW W := gw_of hL hS
  have := hc (immOf W) W [] args.toList (agree_immOf W) (fun w hw => gw_agree hG hw) rfl (by simp) (fun i j si sj b h => by simp at h) (by simp) (g1.mono (.refl _) (.none _))
  rw [Array.toArray_toList] at this
  refine this.mono fun e W' ⟨v, H', ss', he, _, _, _, hext, _, _, hres'⟩ => ?_
  obtain rfl := true_of hres'
  exact ⟨_, he, post_of hl hr hvars hres hb (hspec H) hW0 ⟨hext.os, hext.tape, hext.out, hext.size, fun k hk => hext.old k hk (by simp)⟩⟩

theorem witness_laid {f : Nat} {fn : Func} {s : ChangeSpec} {conds : List PathCond} {H : Type} (enc : TypeId × Value → H) (os : Os) (args : Array Value) (n : Nat) (hn : fn.params.toList.length = n)
    (hv : ((laidWorld os).forCall (fun _ _ => 0) ⟨#[], args, []⟩).variablesRefB Tryz.checked.prog = true)
    (hr : (((laidWorld os).forCall (fun _ _ => 0) ⟨#[], args, []⟩).heap.toList.drop Tryz.checked.prog.globals.size).take ((begin Tryz.checked.prog (fun _ _ => 0) default).world.heap.size - Tryz.checked.prog.globals.size) =
      (begin Tryz.checked.prog (fun _ _ => 0) default).world.heap.toList.drop Tryz.checked.prog.globals.size)
    (hok : Input.okWideB Tryz.checked.prog ((laidWorld os).forCall (fun _ _ => 0) ⟨#[], args, []⟩) f ⟨#[], args, []⟩ = true)
    {x : List (DataW H) × List (DataW H) × List MemPlace} (hx : DataW.whole enc Tryz.checked.prog ((laidWorld os).forCall (fun _ _ => 0) ⟨#[], args, []⟩).memory fn.params.toList s.vars false args.toList 8 = some x)
    (hconds : conds.all (PathCond.test Tryz.checked.prog ⟨fn.params.toList, x.1, (OpenSpec.ofChange s).bare.plain.varTypes Tryz.checked.prog, x.2.1⟩) = true)
    (hsz : (OpenSpec.ofChange s).bare.sizedB enc Tryz.checked.prog fn false ((laidWorld os).forCall (fun _ _ => 0) ⟨#[], args, []⟩).memory args 8 = true) (hcond : (OpenSpec.ofChange s).cond = none) :
    ∃ (w : World) (tape : Tape) (i : Input), w.os = os ∧ (w.forCall tape i).Shaped Tryz.checked.prog ∧ i.vars = [] ∧ Input.okWide Tryz.checked.prog (w.forCall tape i) .any w.heap.size f i ∧
      (OpenSpec.ofChange s).preRow enc Tryz.checked.prog fn conds false laidVars (w.forCall tape i).memory i.args ∧ ({} : Assume).holds Tryz.checked.prog (lone (Frame.enter Tryz.checked.prog f i.args .normal) [] (w.forCall tape i)) :=
  witness_row_atRef (enc := enc) (C := Tryz.checked) false (laidWorld os) args rfl hv hr hok
    (OpenSpec.preRow_of_cond 8 hx hconds (fun k hk => by rw [hcond] at hk; cases hk) hsz (laid_met os _))

/-! ### Where what is read is small -/
theorem upto_one {H : Type} : ∀ d : DataW H, 1 ≤ Rows.uptoBulk d
  | .lit l => by cases l <;> simp [Rows.uptoBulk]
  | .nil => by simp [Rows.uptoBulk]
  | .ptr d => by simp [Rows.uptoBulk]
  | .slice elems spare => by simp [Rows.uptoBulk]
  | .agg parts => by simp [Rows.uptoBulk]
  | .iface t d => by simp [Rows.uptoBulk]
  | .map entries => by simp [Rows.uptoBulk]
  | .held h => by simp [Rows.uptoBulk]
theorem upto_sum {H : Type} (l : List (DataW H)) : (l.map Rows.uptoBulk).sum = Rows.uptoBulkAll l := by
  induction l with
  | nil => simp [Rows.uptoBulkAll]
  | cons d l ih => simp [Rows.uptoBulkAll, ih]
theorem upto_app {H : Type} (l r : List (DataW H)) : Rows.uptoBulkAll (l ++ r) = Rows.uptoBulkAll l + Rows.uptoBulkAll r := by
  rw [← upto_sum, ← upto_sum, ← upto_sum, List.map_append, List.sum_append]
theorem mu_upto {H : Type} : Mu (Rows.uptoBulk (H := H)) where
  one := upto_one
  str b := by simp [Rows.uptoBulk]
  slice a b := by rw [upto_sum]; simp only [Rows.uptoBulk]; omega
  agg a := by rw [upto_sum]; simp only [Rows.uptoBulk]; omega

theorem lifted_upto {f : Nat} {fn : Func} {s : ChangeSpec} {conds : List PathCond} {ts : List Nat} {tb : Nat} (own : ownKnob Tryz.checked.prog.godebug = none) (noInit : Tryz.checked.prog.inits.idxOf? f = none) (hfn : Tryz.checked.prog.funcs[f]? = some fn)
    (hl : laidOutB Tryz.checked.prog = true) (hts : okTys Tryz.checked.prog ts = true) (hm : ∀ t ∈ fn.params.toList, t ∈ ts) (hr : ∀ t ∈ fn.params.toList, Tryz.checked.prog.readableRec t = true ∧ t < Tryz.checked.prog.types.size)
    (hvars : s.vars = []) (hres : fn.resultTypes = #[tb]) (hb : Tryz.checked.prog.underlying tb = some .bool) (hspec : ∀ (H : Type) (ds : List (DataW H)), ds.length = fn.params.toList.length → s.fn H ds = { results := [.lit (.bool true)], args := ds })
    (law : ∀ pvs, ArgsTy Tryz.checked.prog fn.params.toList pvs → pvWs pvs ≤ 1048576 → PC Tryz.checked.prog f pvs (.bool true)) (os : Os) (started : os.Started) (H : Type) (enc : TypeId × Value → H) (F : Stop.Interp)
    (witness : ∃ (w : World) (tape : Tape) (i : Input), w.os = os ∧ (w.forCall tape i).Shaped Tryz.checked.prog ∧ i.vars = [] ∧ Input.okWide Tryz.checked.prog (w.forCall tape i) .any w.heap.size f i ∧
      (Rows.OpenSpec.upto s).preRow enc Tryz.checked.prog fn conds false laidVars (w.forCall tape i).memory i.args ∧ ({} : Assume).holds Tryz.checked.prog (lone (Frame.enter Tryz.checked.prog f i.args .normal) [] (w.forCall tape i))) :
    ReturnsInHanded {} Tryz.checked os f .any ((Rows.OpenSpec.upto s).preRow enc Tryz.checked.prog fn conds false laidVars) (((Rows.OpenSpec.upto s).at F).post enc Tryz.checked.prog fn false true false false) := by
  refine returnsInHanded_of_row (C := Tryz.checked) (s := Rows.OpenSpec.upto s) own started noInit hfn witness ?_
  intro W base args ds gs before hval hW hcnd hcond _ hL hS _
  have hW0 : DataW.Whole enc Tryz.checked.prog fn.params.toList s.vars false W args.toList ds gs before := hW
  have hW' := hW0
  obtain ⟨p, q, hA, hV, rfl, hz, hn⟩ := hW'
  obtain ⟨pvs, g1, g2, g3⟩ := args_of mu_upto hts fn.params.toList args.toList ds p hm (fun j t v h1 h2 => hval j t v (by simpa using h1) (by simpa using h2)) hA
  obtain ⟨_, _, hc⟩ := law pvs g2 (by
    have hk : Rows.uptoSmall H (ds ++ gs) = true := hcond _ rfl
    have hb := of_decide_eq_true hk
    rw [upto_app] at hb
    rw [upto_sum] at g3
    omega)
  have hG : GW W := gw_of hL hS
  have := hc (immOf W) W [] args.toList (agree_immOf W) (fun w hw => gw_agree hG hw) rfl (by simp) (fun i j si sj b h => by simp at h) (by simp) (g1.mono (.refl _) (.none _))
  rw [Array.toArray_toList] at this
  refine this.mono fun e W' ⟨v, H', ss', he, _, _, _, hext, _, _, hres'⟩ => ?_
  obtain rfl := true_of hres'
  exact ⟨_, he, post_of hl hr hvars hres hb (hspec H) hW0 ⟨hext.os, hext.tape, hext.out, hext.size, fun k hk => hext.old k hk (by simp)⟩⟩

theorem witness_upto {f : Nat} {fn : Func} {s : ChangeSpec} {conds : List PathCond} {H : Type} (enc : TypeId × Value → H) (os : Os) (args : Array Value) (n : Nat) (hn : fn.params.toList.length = n)
    (hv : ((laidWorld os).forCall (fun _ _ => 0) ⟨#[], args, []⟩).variablesRefB Tryz.checked.prog = true)
    (hr : (((laidWorld os).forCall (fun _ _ => 0) ⟨#[], args, []⟩).heap.toList.drop Tryz.checked.prog.globals.size).take ((begin Tryz.checked.prog (fun _ _ => 0) default).world.heap.size - Tryz.checked.prog.globals.size) =
      (begin Tryz.checked.prog (fun _ _ => 0) default).world.heap.toList.drop Tryz.checked.prog.globals.size)
    (hok : Input.okWideB Tryz.checked.prog ((laidWorld os).forCall (fun _ _ => 0) ⟨#[], args, []⟩) f ⟨#[], args, []⟩ = true)
    {x : List (DataW H) × List (DataW H) × List MemPlace} (hx : DataW.whole enc Tryz.checked.prog ((laidWorld os).forCall (fun _ _ => 0) ⟨#[], args, []⟩).memory fn.params.toList s.vars false args.toList 8 = some x)
    (hconds : conds.all (PathCond.test Tryz.checked.prog ⟨fn.params.toList, x.1, (Rows.OpenSpec.upto s).bare.plain.varTypes Tryz.checked.prog, x.2.1⟩) = true)
    (hsz : (Rows.OpenSpec.upto s).bare.sizedB enc Tryz.checked.prog fn false ((laidWorld os).forCall (fun _ _ => 0) ⟨#[], args, []⟩).memory args 8 = true) (hcond : Rows.uptoSmall H (x.1 ++ x.2.1) = true) :
    ∃ (w : World) (tape : Tape) (i : Input), w.os = os ∧ (w.forCall tape i).Shaped Tryz.checked.prog ∧ i.vars = [] ∧ Input.okWide Tryz.checked.prog (w.forCall tape i) .any w.heap.size f i ∧
      (Rows.OpenSpec.upto s).preRow enc Tryz.checked.prog fn conds false laidVars (w.forCall tape i).memory i.args ∧ ({} : Assume).holds Tryz.checked.prog (lone (Frame.enter Tryz.checked.prog f i.args .normal) [] (w.forCall tape i)) :=
  witness_row_atRef (enc := enc) (C := Tryz.checked) false (laidWorld os) args rfl hv hr hok
    (OpenSpec.preRow_of_cond 8 hx hconds (fun k hk => by cases hk; exact hcond) hsz (laid_met os _))

end Go.Proofs.YtclohbgnaopjfaaGreatDoor
