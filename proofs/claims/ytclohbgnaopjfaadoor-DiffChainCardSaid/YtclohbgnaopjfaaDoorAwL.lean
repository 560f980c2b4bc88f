/- Texts of the proof of diffChainCard -/
import Derived.Test.YtclohbgnaopjfaaDoorAwS
import Derived.Test.YtclohbgnaopjfaaDoorAgL
import Derived.Test.YtclohbgnaopjfaaDoorRows
import Derived.Lib.LaidIn
import Derived.Lib.LaidU8T
import Derived.Deep.DeepHandedRow
import Derived.Deep.DeepWitnessRowRef
import Derived.ProofKit
import Derived.SizedLaws
namespace Go.Proofs.YtclohbgnaopjfaaDoor
set_option linter.unusedSimpArgs false
set_option linter.unusedVariables false
open Go Go.ChangeShapes Go.WideShapes Go.RowKit Go.Lib Go.Shelf
set_option maxRecDepth 100000
theorem Yd {W w : World} (h : Agree (Zx W) w) {a : Addr} {v : Value} (hv : W.cell? a = some v) : w.cell? a = some v := by
 unfold World.cell? at hv
 split at hv
 ·rename_i c t fr hb
  have h1 : Zx W a.block = some c := by unfold Zx; rw [hb]
  obtain ⟨t', fr', h2⟩ := h _ _ h1
  unfold World.cell?
  rw [h2]
  exact hv
 ·cases hv
theorem auL {W w : World} (hW : GW W) (h : Agree (Zx W) w) : GW w := by
 obtain ⟨⟨h1, h2⟩, m, h3⟩ := hW
 exact ⟨⟨fun c hc => Yd h (h1 c hc), fun i hi => ⟨Yd h (h2 i hi).1, Yd h (h2 i hi).2⟩⟩, m, Yd h h3⟩
abbrev VM : List (String × DataW Unit) := [("unicode/utf8.acceptRanges", Rows.laid_unicode_utf8_acceptRanges), ("unicode/utf8.first", Rows.laid_unicode_utf8_first)]
theorem auU : Rows.laid_unicode_utf8_first = Lib.firstData := by kernel_rfl
theorem arl : (Rows.laid_unicode_utf8_acceptRanges : DataW Unit) = Lib.acceptData := by kernel_rfl
theorem ax9 {W : World} (hL : laidMet Tryd.prog VM W) (hS : W.ShapedOpen Tryd.prog) : GW W := by
 have hU : Lib.Utf8Tabs (Tryd.aaw.g 3) (Tryd.aaw.g 4) W :=
  utf8Tabs_of_readsT (U8Types.of196 Tryd.aql) ⟨by kernel_rfl, by kernel_rfl, by kernel_rfl, by kernel_rfl, by kernel_rfl, by kernel_rfl, by kernel_rfl⟩ (auU ▸ Lib.laidMet.reads hL (.tail _ (.head _))) (arl ▸ Lib.laidMet.reads hL (.head _))
 exact ⟨hU, Tryd.au9.s1_3 W hS⟩
noncomputable def Ql (os : Os) : World :=
 let w0 := World.holding Tryd.prog os ⟨#[], #[], []⟩
 let put (h : Array Obj) (g : Nat) (cs : Array Value) : Array Obj := h.modify g fun
  | .cells _ t frozen => .cells cs t frozen
  | o => o
 let h1 := put w0.heap 0 (Lib.firstTab.map fun z => Value.int .u8 z).toArray
 let h2 := put h1 1 ((List.range 16).flatMap fun i => [Value.int .u8 (Lib.accLo i), Value.int .u8 (Lib.accHi i)]).toArray
 { w0 with heap := h2 }
theorem aut (os : Os) (args : Array Value) : laidMet Tryd.prog VM ((Ql os).forCall (fun _ _ => 0) ⟨#[], args, []⟩).memory :=
 (LaidIn.of_run (l := VM) [0, 1] 8 (by kernel_rfl) (by kernel_rfl) (by kernel_rfl) (by kernel_rfl)).met
theorem aiY {f : Nat} {fn : Func} {s : ChangeSpec} {conds : List PathCond} {ts : List Nat} {tb : Nat} (own : ownKnob Tryd.checked.prog.godebug = none) (noInit : Tryd.checked.prog.inits.idxOf? f = none) (hfn : Tryd.checked.prog.funcs[f]? = some fn)
  (hl : laidOutB Tryd.checked.prog = true) (hts : aq1 Tryd.checked.prog ts = true) (hm : ∀ t ∈ fn.params.toList, t ∈ ts) (hr : ∀ t ∈ fn.params.toList, Tryd.checked.prog.readableRec t = true ∧ t < Tryd.checked.prog.types.size)
  (hvars : s.vars = []) (hres : fn.resultTypes = #[tb]) (hb : Tryd.checked.prog.underlying tb = some .bool) (hspec : ∀ (H : Type) (ds : List (DataW H)), ds.length = fn.params.toList.length → s.fn H ds = { results := [.lit (.bool true)], args := ds })
  (law : ∀ pvs, alu Tryd.checked.prog fn.params.toList pvs → PC Tryd.checked.prog f pvs (.bool true)) (os : Os) (started : os.Started) (H : Type) (enc : TypeId × Value → H) (F : Stop.Interp)
  (witness : ∃ (w : World) (tape : Tape) (i : Input), w.os = os ∧ (w.forCall tape i).Shaped Tryd.checked.prog ∧ i.vars = [] ∧ Input.okWide Tryd.checked.prog (w.forCall tape i) .any w.heap.size f i ∧
   (OpenSpec.ofChange s).preRow enc Tryd.checked.prog fn conds false VM (w.forCall tape i).memory i.args ∧ ({} : Assume).holds Tryd.checked.prog (lone (Frame.enter Tryd.checked.prog f i.args .normal) [] (w.forCall tape i))) :
  ReturnsInHanded {} Tryd.checked os f .any ((OpenSpec.ofChange s).preRow enc Tryd.checked.prog fn conds false VM) (((OpenSpec.ofChange s).at F).post enc Tryd.checked.prog fn false true false false) := by
 refine returnsInHanded_of_row (C := Tryd.checked) (s := OpenSpec.ofChange s) own started noInit hfn witness ?_
 intro W base args ds gs before hval hW hcnd _ _ hL hS _
 have hW0 : DataW.Whole enc Tryd.checked.prog fn.params.toList s.vars false W args.toList ds gs before := hW
 have hW' := hW0
 obtain ⟨p, q, hA, hV, rfl, hz, hn⟩ := hW'
 obtain ⟨pvs, g1, g2, _⟩ := aqJ axx hts fn.params.toList args.toList ds p hm (fun j t v h1 h2 => hval j t v (by simpa using h1) (by simpa using h2)) hA
 obtain ⟨_, _, hc⟩ := law pvs g2
 have hG : GW W := ax9 hL hS
 have := hc (Zx W) W [] args.toList (an9 W) (fun w hw => auL hG hw) rfl (by simp) (fun i j si sj b h => by simp at h) (by simp) (g1.mono (.refl _) (.none _))
 rw [Array.toArray_toList] at this
 refine this.mono fun e W' ⟨v, H', ss', he, _, _, _, hext, _, _, hres'⟩ => ?_
 obtain rfl := avY hres'
 exact ⟨_, he, awg hl hr hvars hres hb (hspec H) hW0 ⟨hext.os, hext.tape, hext.out, hext.size, fun k hk => hext.old k hk (by simp)⟩⟩
theorem al6 {f : Nat} {fn : Func} {s : ChangeSpec} {conds : List PathCond} {H : Type} (enc : TypeId × Value → H) (os : Os) (args : Array Value) (n : Nat) (hn : fn.params.toList.length = n)
  (hv : ((Ql os).forCall (fun _ _ => 0) ⟨#[], args, []⟩).variablesRefB Tryd.checked.prog = true)
  (hr : (((Ql os).forCall (fun _ _ => 0) ⟨#[], args, []⟩).heap.toList.drop Tryd.checked.prog.globals.size).take ((begin Tryd.checked.prog (fun _ _ => 0) default).world.heap.size - Tryd.checked.prog.globals.size) =
   (begin Tryd.checked.prog (fun _ _ => 0) default).world.heap.toList.drop Tryd.checked.prog.globals.size)
  (hok : Input.okWideB Tryd.checked.prog ((Ql os).forCall (fun _ _ => 0) ⟨#[], args, []⟩) f ⟨#[], args, []⟩ = true)
  {x : List (DataW H) × List (DataW H) × List MemPlace} (hx : DataW.whole enc Tryd.checked.prog ((Ql os).forCall (fun _ _ => 0) ⟨#[], args, []⟩).memory fn.params.toList s.vars false args.toList 8 = some x)
  (hconds : conds.all (PathCond.test Tryd.checked.prog ⟨fn.params.toList, x.1, (OpenSpec.ofChange s).bare.plain.varTypes Tryd.checked.prog, x.2.1⟩) = true)
  (hsz : (OpenSpec.ofChange s).bare.sizedB enc Tryd.checked.prog fn false ((Ql os).forCall (fun _ _ => 0) ⟨#[], args, []⟩).memory args 8 = true) (hcond : (OpenSpec.ofChange s).cond = none) :
  ∃ (w : World) (tape : Tape) (i : Input), w.os = os ∧ (w.forCall tape i).Shaped Tryd.checked.prog ∧ i.vars = [] ∧ Input.okWide Tryd.checked.prog (w.forCall tape i) .any w.heap.size f i ∧
   (OpenSpec.ofChange s).preRow enc Tryd.checked.prog fn conds false VM (w.forCall tape i).memory i.args ∧ ({} : Assume).holds Tryd.checked.prog (lone (Frame.enter Tryd.checked.prog f i.args .normal) [] (w.forCall tape i)) :=
 witness_row_atRef (enc := enc) (C := Tryd.checked) false (Ql os) args rfl hv hr hok
  (OpenSpec.preRow_of_cond 8 hx hconds (fun k hk => by rw [hcond] at hk; cases hk) hsz (aut os _))
end Go.Proofs.YtclohbgnaopjfaaDoor
