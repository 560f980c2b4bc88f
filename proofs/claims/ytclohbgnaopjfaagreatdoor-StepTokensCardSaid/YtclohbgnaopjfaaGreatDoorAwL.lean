/- Texts of the proof of stepTokensCard -/
import Derived.Test.YtclohbgnaopjfaaGreatDoorAwS
import Derived.Test.YtclohbgnaopjfaaGreatDoorAgL
import Derived.Test.YtclohbgnaopjfaaGreatDoorRows
import Derived.Lib.LaidIn
import Derived.Lib.LaidU8T
import Derived.Deep.DeepHandedRow
import Derived.Deep.DeepWitnessRowRef
import Derived.ProofKit
import Derived.SizedLaws
namespace Go.Proofs.YtclohbgnaopjfaaGreatDoor
set_option linter.unusedSimpArgs false
set_option linter.unusedVariables false
open Go Go.ChangeShapes Go.WideShapes Go.RowKit Go.Lib Go.Shelf
set_option maxRecDepth 100000
theorem Xq {W w : World} (h : Agree (yI W) w) {a : Addr} {v : Value} (hv : W.cell? a = some v) : w.cell? a = some v := by
 unfold World.cell? at hv
 split at hv
 ·rename_i c t fr hb
  have h1 : yI W a.block = some c := by unfold yI; rw [hb]
  obtain ⟨t', fr', h2⟩ := h _ _ h1
  unfold World.cell?
  rw [h2]
  exact hv
 ·cases hv
theorem asU {W w : World} (hW : GW W) (h : Agree (yI W) w) : GW w := by
 obtain ⟨⟨h1, h2⟩, m, h3⟩ := hW
 exact ⟨⟨fun c hc => Xq h (h1 c hc), fun i hi => ⟨Xq h (h2 i hi).1, Xq h (h2 i hi).2⟩⟩, m, Xq h h3⟩
abbrev K4 : List (String × DataW Unit) := [("unicode/utf8.acceptRanges", Rows.laid_unicode_utf8_acceptRanges), ("unicode/utf8.first", Rows.laid_unicode_utf8_first)]
theorem arQ : Rows.laid_unicode_utf8_first = Lib.firstData := by kernel_rfl
theorem apJ : (Rows.laid_unicode_utf8_acceptRanges : DataW Unit) = Lib.acceptData := by kernel_rfl
theorem awr {W : World} (hL : laidMet Tryz.prog K4 W) (hS : W.ShapedOpen Tryz.prog) : GW W := by
 have hU : Lib.Utf8Tabs (Tryz.Y2.g 3) (Tryz.Y2.g 4) W :=
  utf8Tabs_of_readsT (U8Types.of196 Tryz.aoG) ⟨by kernel_rfl, by kernel_rfl, by kernel_rfl, by kernel_rfl, by kernel_rfl, by kernel_rfl, by kernel_rfl⟩ (arQ ▸ Lib.laidMet.reads hL (.tail _ (.head _))) (apJ ▸ Lib.laidMet.reads hL (.head _))
 exact ⟨hU, Tryz.asy.s1_3 W hS⟩
noncomputable def Zx (os : Os) : World :=
 let w0 := World.holding Tryz.prog os ⟨#[], #[], []⟩
 let put (h : Array Obj) (g : Nat) (cs : Array Value) : Array Obj := h.modify g fun
  | .cells _ t frozen => .cells cs t frozen
  | o => o
 let h1 := put w0.heap 0 (Lib.firstTab.map fun z => Value.int .u8 z).toArray
 let h2 := put h1 1 ((List.range 16).flatMap fun i => [Value.int .u8 (Lib.accLo i), Value.int .u8 (Lib.accHi i)]).toArray
 { w0 with heap := h2 }
theorem aqU (os : Os) (args : Array Value) : laidMet Tryz.prog K4 ((Zx os).forCall (fun _ _ => 0) ⟨#[], args, []⟩).memory :=
 (LaidIn.of_run (l := K4) [0, 1] 8 (by kernel_rfl) (by kernel_rfl) (by kernel_rfl) (by kernel_rfl)).met
theorem ahf {f : Nat} {fn : Func} {s : ChangeSpec} {conds : List PathCond} {ts : List Nat} {tb : Nat} (own : ownKnob Tryz.checked.prog.godebug = none) (noInit : Tryz.checked.prog.inits.idxOf? f = none) (hfn : Tryz.checked.prog.funcs[f]? = some fn)
  (hl : laidOutB Tryz.checked.prog = true) (hts : aoP Tryz.checked.prog ts = true) (hm : ∀ t ∈ fn.params.toList, t ∈ ts) (hr : ∀ t ∈ fn.params.toList, Tryz.checked.prog.readableRec t = true ∧ t < Tryz.checked.prog.types.size)
  (hvars : s.vars = []) (hres : fn.resultTypes = #[tb]) (hb : Tryz.checked.prog.underlying tb = some .bool) (hspec : ∀ (H : Type) (ds : List (DataW H)), ds.length = fn.params.toList.length → s.fn H ds = { results := [.lit (.bool true)], args := ds })
  (law : ∀ pvs, ajQ Tryz.checked.prog fn.params.toList pvs → PC Tryz.checked.prog f pvs (.bool true)) (os : Os) (started : os.Started) (H : Type) (enc : TypeId × Value → H) (F : Stop.Interp)
  (witness : ∃ (w : World) (tape : Tape) (i : Input), w.os = os ∧ (w.forCall tape i).Shaped Tryz.checked.prog ∧ i.vars = [] ∧ Input.okWide Tryz.checked.prog (w.forCall tape i) .any w.heap.size f i ∧
   (OpenSpec.ofChange s).preRow enc Tryz.checked.prog fn conds false K4 (w.forCall tape i).memory i.args ∧ ({} : Assume).holds Tryz.checked.prog (lone (Frame.enter Tryz.checked.prog f i.args .normal) [] (w.forCall tape i))) :
  ReturnsInHanded {} Tryz.checked os f .any ((OpenSpec.ofChange s).preRow enc Tryz.checked.prog fn conds false K4) (((OpenSpec.ofChange s).at F).post enc Tryz.checked.prog fn false true false false) := by
 refine returnsInHanded_of_row (C := Tryz.checked) (s := OpenSpec.ofChange s) own started noInit hfn witness ?_
 intro W base args ds gs before hval hW hcnd _ _ hL hS _
 have hW0 : DataW.Whole enc Tryz.checked.prog fn.params.toList s.vars false W args.toList ds gs before := hW
 have hW' := hW0
 obtain ⟨p, q, hA, hV, rfl, hz, hn⟩ := hW'
 obtain ⟨pvs, g1, g2, _⟩ := aoi avb hts fn.params.toList args.toList ds p hm (fun j t v h1 h2 => hval j t v (by simpa using h1) (by simpa using h2)) hA
 obtain ⟨_, _, hc⟩ := law pvs g2
 have hG : GW W := awr hL hS
 have := hc (yI W) W [] args.toList (ala W) (fun w hw => asU hG hw) rfl (by simp) (fun i j si sj b h => by simp at h) (by simp) (g1.mono (.refl _) (.none _))
 rw [Array.toArray_toList] at this
 refine this.mono fun e W' ⟨v, H', ss', he, _, _, _, hext, _, _, hres'⟩ => ?_
 obtain rfl := atF hres'
 exact ⟨_, he, auj hl hr hvars hres hb (hspec H) hW0 ⟨hext.os, hext.tape, hext.out, hext.size, fun k hk => hext.old k hk (by simp)⟩⟩
theorem akx {f : Nat} {fn : Func} {s : ChangeSpec} {conds : List PathCond} {H : Type} (enc : TypeId × Value → H) (os : Os) (args : Array Value) (n : Nat) (hn : fn.params.toList.length = n)
  (hv : ((Zx os).forCall (fun _ _ => 0) ⟨#[], args, []⟩).variablesRefB Tryz.checked.prog = true)
  (hr : (((Zx os).forCall (fun _ _ => 0) ⟨#[], args, []⟩).heap.toList.drop Tryz.checked.prog.globals.size).take ((begin Tryz.checked.prog (fun _ _ => 0) default).world.heap.size - Tryz.checked.prog.globals.size) =
   (begin Tryz.checked.prog (fun _ _ => 0) default).world.heap.toList.drop Tryz.checked.prog.globals.size)
  (hok : Input.okWideB Tryz.checked.prog ((Zx os).forCall (fun _ _ => 0) ⟨#[], args, []⟩) f ⟨#[], args, []⟩ = true)
  {x : List (DataW H) × List (DataW H) × List MemPlace} (hx : DataW.whole enc Tryz.checked.prog ((Zx os).forCall (fun _ _ => 0) ⟨#[], args, []⟩).memory fn.params.toList s.vars false args.toList 8 = some x)
  (hconds : conds.all (PathCond.test Tryz.checked.prog ⟨fn.params.toList, x.1, (OpenSpec.ofChange s).bare.plain.varTypes Tryz.checked.prog, x.2.1⟩) = true)
  (hsz : (OpenSpec.ofChange s).bare.sizedB enc Tryz.checked.prog fn false ((Zx os).forCall (fun _ _ => 0) ⟨#[], args, []⟩).memory args 8 = true) (hcond : (OpenSpec.ofChange s).cond = none) :
  ∃ (w : World) (tape : Tape) (i : Input), w.os = os ∧ (w.forCall tape i).Shaped Tryz.checked.prog ∧ i.vars = [] ∧ Input.okWide Tryz.checked.prog (w.forCall tape i) .any w.heap.size f i ∧
   (OpenSpec.ofChange s).preRow enc Tryz.checked.prog fn conds false K4 (w.forCall tape i).memory i.args ∧ ({} : Assume).holds Tryz.checked.prog (lone (Frame.enter Tryz.checked.prog f i.args .normal) [] (w.forCall tape i)) :=
 witness_row_atRef (enc := enc) (C := Tryz.checked) false (Zx os) args rfl hv hr hok
  (OpenSpec.preRow_of_cond 8 hx hconds (fun k hk => by rw [hcond] at hk; cases hk) hsz (aqU os _))
end Go.Proofs.YtclohbgnaopjfaaGreatDoor
