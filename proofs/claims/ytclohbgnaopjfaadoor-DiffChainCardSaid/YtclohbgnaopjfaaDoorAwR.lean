/- Texts of the proof of diffChainCard -/
import Derived.Test.YtclohbgnaopjfaaDoorAw24
import Derived.Carry
import Derived.Handed
import Derived.ChangeSame
import Derived.RowKit
import Derived.JoinedOf
import Derived.Deep.Slices
namespace Go.Proofs.YtclohbgnaopjfaaDoor
set_option linter.unusedSimpArgs false
set_option linter.unusedVariables false
open Go Go.WideShapes Go.ChangeShapes Go.RowKit Go.Deep
def Zx (W : World) : Imm := fun b => match W.heap[b]? with
 | some (.cells c _ _) => some c
 | _ => none
theorem an9 (W : World) : Agree (Zx W) W := by
 intro b c h
 unfold Zx at h
 split at h
 ·rename_i c' t fr hb
  cases h
  exact ⟨t, fr, hb⟩
 ·cases h
def Xb (P : Program) (t : Nat) : Bool := match P.underlying t with
 | some (.struct _) => true
 | _ => false
def xO (P : Program) (e : Nat) (cs : List PV) : PV := if Xb P e = true then .agg cs else cs.headD .undef
inductive ZW (P : Program) : Nat → List PV → Prop where
 | bool {t : Nat} (b : Bool) (ht : P.underlying t = some .bool) : ZW P t [.bool b]
 | int {t : Nat} (k : IntKind) (n : Int) (ht : P.underlying t = some (.int k)) (hw : (Lit.int k n).wf = true) : ZW P t [.int k n]
 | str {t : Nat} (s : List UInt8) (ht : P.underlying t = some .string) (hl : s.length ≤ maxLen) : ZW P t [.str s]
 | slice {t : Nat} (e : Nat) (css : List (List PV)) (ht : P.underlying t = some (.slice e)) (hx : ∀ cs ∈ css, ZW P e cs) (hl : css.length ≤ maxLen) : ZW P t [.list (P.cellsOf e) (css.map (xO P e))]
 | struct {t : Nat} (fs : Array Field) (cs : List PV) (ht : P.underlying t = some (.struct fs)) (hl : cs.length = P.cellsOf t) (hf : ∀ f ∈ fs.toList, ZW P f.type ((cs.drop f.offset).take (P.cellsOf f.type))) : ZW P t cs
theorem ZW.cells {P : Program} {e : Nat} {cs : List PV} (h : ZW P e cs) : (xO P e cs).cells = cs := by
 cases h with
 | bool b ht => simp [xO, Xb, ht, PV.cells]
 | int k n ht hw => simp [xO, Xb, ht, PV.cells]
 | str s ht hl => simp [xO, Xb, ht, PV.cells]
 | slice e css ht hx hl => simp [xO, Xb, ht, PV.cells]
 | struct fs cs ht hl hf => simp [xO, Xb, ht, PV.cells]
def amX (P : Program) : Nat → List Field → Option Nat
 | o, [] => some o
 | o, f :: fs => if f.offset = o then amX P (o + P.cellsOf f.type) fs else none
mutual
def pvW : PV → Nat
 | .str s => s.length + 1
 | .list _ xs => Zo xs + 1
 | .agg cs => Zo cs
 | _ => 1
def Zo : List PV → Nat
 | [] => 0
 | p :: ps => pvW p + Zo ps
end
theorem ahk (a b : List PV) : Zo (a ++ b) = Zo a + Zo b := by
 induction a with
 | nil => simp [Zo]
 | cons p a ih => simp only [List.cons_append, Zo, ih]; omega
theorem ZW.weight {P : Program} {e : Nat} {cs : List PV} (h : ZW P e cs) : pvW (xO P e cs) = Zo cs := by
 cases h with
 | bool b ht => simp [xO, Xb, ht, pvW, Zo]
 | int k n ht hw => simp [xO, Xb, ht, pvW, Zo]
 | str s ht hl => simp [xO, Xb, ht, pvW, Zo]
 | slice e css ht hx hl => simp [xO, Xb, ht, pvW, Zo]
 | struct fs cs ht hl hf => simp [xO, Xb, ht, pvW, Zo]
theorem ak5 {P : Program} {e : Nat} : ∀ (css : List (List PV)), (∀ cs ∈ css, ZW P e cs) → Zo (css.map (xO P e)) = Zo css.flatten
 | [], _ => rfl
 | cs :: css, h => by
  simp only [List.map_cons, Zo, List.flatten_cons, ahk, (h cs (by simp)).weight, ak5 css fun x hx => h x (by simp [hx])]
structure Mu {H : Type} (μ : DataW H → Nat) : Prop where
 one : ∀ d, 1 ≤ μ d
 str : ∀ b, b.length + 1 ≤ μ (.lit (.string b))
 slice : ∀ a b, (a.map μ).sum + 1 ≤ μ (.slice a b)
 agg : ∀ a, (a.map μ).sum ≤ μ (.agg a)
def aq1 (P : Program) (ts : List Nat) : Bool := ts.all fun t => match P.underlying t with
 | some .bool | some (.int _) | some .string => true
 | some (.slice e) => decide (0 < P.cellsOf e) && ts.contains e
 | some (.struct fs) => (fs.toList.all fun f => ts.contains f.type) && amX P 0 fs.toList == some (P.cellsOf t)
 | _ => false
section
variable {H : Type} {enc : TypeId × Value → H} {P : Program} {W : World}
theorem aqT : ∀ (fs : List Field) (o n : Nat), amX P o fs = some n → o ≤ n
 | [], o, n, h => by simp only [amX, Option.some.injEq] at h; omega
 | f :: fs, o, n, h => by
  unfold amX at h
  split at h
  ·have := aqT fs _ _ h; omega
  ·cases h
theorem fields_of (cs : List Value) : ∀ (fs : List Field) (o : Nat), o ≤ cs.length → amX P o fs = some cs.length →
  ∀ ws : List Nat, (∀ (i : Nat) f, fs[i]? = some f → ∃ pcs, zI (Zx W) Lay.none ((cs.drop f.offset).take (P.cellsOf f.type)) pcs ∧ ZW P f.type pcs ∧ pcs.all PV.leaf = true ∧ ∃ w, ws[i]? = some w ∧ Zo pcs ≤ w) →
  ∃ pcs, zI (Zx W) Lay.none (cs.drop o) pcs ∧ pcs.all PV.leaf = true ∧ Zo pcs ≤ ws.sum ∧ ∀ f ∈ fs, o ≤ f.offset ∧ ZW P f.type ((pcs.drop (f.offset - o)).take (P.cellsOf f.type))
 | [], o, ho, ht, ws, _ => by
  simp only [amX, Option.some.injEq] at ht
  refine ⟨[], ?_, rfl, by simp [Zo], by simp⟩
  rw [ht, List.drop_length]
  exact .nil _
 | f :: fs, o, ho, ht, ws, h => by
  unfold amX at ht
  split at ht
  ·rename_i hfo
   obtain ⟨p1, a1, a2, a3, wt, hwt, a5⟩ := h 0 f rfl
   cases ws with
   | nil => cases hwt
   | cons w0 ws =>
   simp only [List.getElem?_cons_zero, Option.some.injEq] at hwt
   subst hwt
   have hlen := a1.length
   have hle := aqT _ _ _ ht
   have a4 : p1.length = P.cellsOf f.type := by
    simp only [List.length_take, List.length_drop] at hlen
    omega
   obtain ⟨p2, b1, b2, b4, b3⟩ := fields_of cs fs (o + P.cellsOf f.type) hle ht ws fun i g hg => by
    have := h (i + 1) g (by simpa using hg)
    simpa using this
   refine ⟨p1 ++ p2, ?_, by simp [a3, b2], by simp only [ahk, List.sum_cons]; omega, ?_⟩
   ·have := a1.append b1
    rw [hfo] at this
    rwa [show cs.drop (o + P.cellsOf f.type) = (cs.drop o).drop (P.cellsOf f.type) by rw [List.drop_drop], List.take_append_drop] at this
   ·intro g hg
    rcases List.mem_cons.1 hg with rfl | hg
    ·refine ⟨by omega, ?_⟩
     rw [show g.offset - o = 0 by omega, List.drop_zero, List.take_left' a4]
     exact a2
    ·obtain ⟨c1, c2⟩ := b3 g hg
     refine ⟨by omega, ?_⟩
     rw [List.drop_append, List.drop_of_length_le (by omega : p1.length ≤ g.offset - o), List.nil_append, a4, show g.offset - o - P.cellsOf f.type = g.offset - (o + P.cellsOf f.type) by omega]
     exact c2
  ·cases ht
theorem aqj {e sz len off : Nat} {c : Array Value} {ws : List Nat} (h : ∀ i, i < len → ∃ (cs : List Value) (pcs : List PV), cs.length = sz ∧ (∀ j, j < sz → c[off + i * sz + j]? = cs[j]?) ∧ zI (Zx W) Lay.none cs pcs ∧ ZW P e pcs ∧ pcs.all PV.leaf = true ∧ ∃ w, ws[i]? = some w ∧ Zo pcs ≤ w) : ∀ n, n ≤ len →
  ∃ (vs : List Value) (css : List (List PV)), vs.length = n * sz ∧ (∀ i, i < vs.length → c[off + i]? = vs[i]?) ∧ css.length = n ∧ (∀ cs ∈ css, ZW P e cs ∧ cs.length = sz) ∧ zI (Zx W) Lay.none vs css.flatten ∧ css.flatten.all PV.leaf = true ∧ Zo css.flatten ≤ (ws.take n).sum
 | 0, _ => ⟨[], [], by simp, by simp, rfl, by simp, .nil _, rfl, by simp [Zo]⟩
 | n + 1, hn => by
  obtain ⟨vs, css, h1, h2, h3, h4, h5, h6, h7⟩ := aqj h n (by omega)
  obtain ⟨cs, pcs, g1, g2, g3, g4, g5, w0, g6, g7⟩ := h n (by omega)
  refine ⟨vs ++ cs, css ++ [pcs], by simp [h1, g1, Nat.succ_mul], ?_, by simp [h3], ?_, ?_, by simp [h6, g5], ?_⟩
  rotate_left 3
  ·rw [List.take_add_one, g6]
   simp only [List.flatten_append, List.flatten_cons, List.flatten_nil, List.append_nil, ahk, Option.toList_some, List.sum_append, List.sum_cons, List.sum_nil]
   omega
  ·intro i hi
   by_cases hlt : i < vs.length
   ·rw [h2 i hlt, List.getElem?_append_left hlt]
   ·rw [List.getElem?_append_right (by omega)]
    have := g2 (i - vs.length) (by simp at hi; omega)
    rw [← this, h1]
    congr 1
    omega
  ·intro x hx
   rcases List.mem_append.1 hx with hx | hx
   ·exact h4 x hx
   ·simp at hx
    subst hx
    exact ⟨g4, by rw [← g3.length, g1]⟩
  ·simpa using h5.append g3
theorem aje {μ : DataW H → Nat} (hμ : Mu μ) {ts : List Nat} (hts : aq1 P ts = true) : ∀ (fuel : Nat) (t : Nat) (cs : List Value) (x : DataW H × List MemPlace), t ∈ ts → DataW.trod enc P W 0 (fun _ => true) true fuel t cs = some x →
  ∃ pcs, zI (Zx W) Lay.none cs pcs ∧ ZW P t pcs ∧ pcs.all PV.leaf = true ∧ Zo pcs ≤ μ x.1
 | 0, t, cs, x, _, h => by simp [DataW.trod] at h
 | fuel + 1, t, cs, x, htm, h => by
  have hty := List.all_eq_true.1 hts t htm
  split at hty
  ·rename_i ht
   obtain ⟨b, rfl, _⟩ := DataW.trod_bool ht h
   exact ⟨[.bool b], .cons _ _ _ _ _ (.bool _ b) (.nil _), .bool b ht, rfl, by simpa [pvW, Zo] using hμ.one _⟩
  ·rename_i k ht
   obtain ⟨n, rfl, _, hw⟩ := DataW.trod_int ht h
   exact ⟨[.int k n], .cons _ _ _ _ _ (.int _ k n) (.nil _), .int k n ht hw, rfl, by simpa [pvW, Zo] using hμ.one _⟩
  ·rename_i ht
   obtain ⟨s, rfl, rfl, hl⟩ := DataW.trod_string ht h
   refine ⟨[.str s.data.toList], .cons _ _ _ _ _ ?_ (.nil _), .str _ ht ?_, rfl, by simpa [pvW, Zo] using hμ.str s.data.toList⟩
   ·exact Rep.str (H := Zx W) Lay.none s.data.toList
   ·rw [Array.length_toList]; exact hl
  ·rename_i e ht
   simp only [Bool.and_eq_true, decide_eq_true_eq, List.contains_eq_mem] at hty
   obtain ⟨hpos, hem⟩ := hty
   rcases DataW.trod_slice ht h with ⟨rfl, _⟩ | ⟨a, len, cap, elems, rest, n, hn, rfl, rfl, hb, hl, hm, hlen, hel, _, _⟩
   ·exact ⟨[.list (P.cellsOf e) []], .cons _ _ _ _ _ (.wN _ _ _ _) (.nil _), by simpa using ZW.slice (P := P) e [] ht (by simp) (by simp), rfl, by simpa [pvW, Zo] using hμ.one _⟩
   ·cases hn
    by_cases h0 : len = 0
    ·subst h0
     exact ⟨[.list (P.cellsOf e) []], .cons _ _ _ _ _ (.wN _ _ _ _) (.nil _), by simpa using ZW.slice (P := P) e [] ht (by simp) (by simp), rfl, by simpa [pvW, Zo] using hμ.one _⟩
    ·have key : ∀ i, i < len → ∃ cs y, W.cells? 0 (a.add (i * P.cellsOf e)) (P.cellsOf e) = some cs ∧ DataW.trod enc P W 0 (fun _ => true) true fuel e cs = some y ∧ elems[i]? = some y := by
      intro i hi
      have := hel i hi
      rw [List.getElem?_eq_getElem (by omega)] at this
      obtain ⟨cs, q1, q2⟩ := Option.bind_eq_some_iff.1 this
      exact ⟨cs, _, q1, q2, List.getElem?_eq_getElem (by omega)⟩
     obtain ⟨cs0, y0, q1, q2, _⟩ := key 0 (by omega)
     obtain ⟨_, ql, qc⟩ := World.cells?_some q1
     have hc0 := qc 0 hpos
     obtain ⟨u0, hu0⟩ : ∃ u0, cs0[0]? = some u0 := by
      cases cs0 with
      | nil => simp at ql; omega
      | cons u _ => exact ⟨u, rfl⟩
     rw [hu0] at hc0
     have hspot : a.spot = none := by simpa [Addr.add] using World.cell?_spot hc0
     obtain ⟨b, off, spot⟩ := a
     simp only at hspot
     subst hspot
     have hblk : ∃ c tt fr, W.heap[b]? = some (.cells c tt fr) := by
      simp only [Addr.add, World.cell?] at hc0
      split at hc0
      ·rename_i c tt fr hbb
       exact ⟨c, tt, fr, by simpa using hbb⟩
      ·cases hc0
     obtain ⟨c, tt, fr, hbb⟩ := hblk
     have hrow : ∀ i, i < len → ∃ cs pcs, cs.length = P.cellsOf e ∧ (∀ j, j < P.cellsOf e → c[off + i * P.cellsOf e + j]? = cs[j]?) ∧ zI (Zx W) Lay.none cs pcs ∧ ZW P e pcs ∧ pcs.all PV.leaf = true ∧ ∃ w, (elems.map fun y => μ y.1)[i]? = some w ∧ Zo pcs ≤ w := by
      intro i hi
      obtain ⟨cs, y, r1, r2, r3⟩ := key i hi
      obtain ⟨_, rl, rc⟩ := World.cells?_some r1
      obtain ⟨pcs, s1, s2, s3, s4⟩ := aje hμ hts fuel e cs y hem r2
      refine ⟨cs, pcs, rl, fun j hj => ?_, s1, s2, s3, μ y.1, by rw [List.getElem?_map, r3]; rfl, s4⟩
      rw [← rc j hj, Deep.add_add, add_plain, XQ W b _ c tt fr hbb, Nat.add_assoc]
     obtain ⟨vs, css, w1, w2, w3, w4, w5, w6, w7⟩ := aqj (sz := P.cellsOf e) hrow len (Nat.le_refl _)
     have hflat : (css.map (xO P e)).flatMap PV.cells = css.flatten := by
      rw [List.flatMap_map, List.flatMap_def, List.map_congr_left (g := id) fun x hx => (w4 x hx).1.cells, List.map_id]
     refine ⟨[.list (P.cellsOf e) (css.map (xO P e))], .cons _ _ _ _ _ (.list _ b off len cap (P.cellsOf e) c vs _ (by simp [Zx, hbb]) (by simp [w3]) hl ?_ (w5.one w6) w2 (by rw [hflat]; exact w5)) (.nil _), .slice e css ht (fun x hx => (w4 x hx).1) (by omega), rfl, ?_⟩
     rotate_left
     ·have hs := hμ.slice (elems.map (·.1)) (rest.map (·.1))
      rw [List.take_of_length_le (by simp [hlen])] at w7
      rw [List.map_map] at hs
      simp only [Zo, pvW, ak5 css fun x hx => (w4 x hx).1, Nat.add_zero]
      exact Nat.le_trans (Nat.add_le_add_right w7 1) hs
     intro x hx
     obtain ⟨y, hy, rfl⟩ := List.mem_map.1 hx
     rw [(w4 y hy).1.cells]
     exact (w4 y hy).2
  ·rename_i fs ht
   simp only [Bool.and_eq_true, beq_iff_eq, List.all_eq_true, List.contains_eq_mem, decide_eq_true_eq] at hty
   obtain ⟨hfm, htile⟩ := hty
   obtain ⟨xs, n, hn, rfl, hl, hlen, hf⟩ := DataW.trod_struct ht h
   cases hn
   obtain ⟨pcs, p1, p2, p4, p3⟩ := fields_of (P := P) (W := W) cs fs.toList 0 (by omega) (by rw [hl]; exact htile) (xs.map fun y => μ y.1) fun i f hi => by
    have hfin : f ∈ fs.toList := List.mem_of_getElem? hi
    have hi' : fs[i]? = some f := by simpa using hi
    have := hf i f hi'
    have hilt : i < xs.length := by
     rw [hlen]
     exact (Array.getElem?_eq_some_iff.1 hi').1
    rw [List.getElem?_eq_getElem hilt] at this
    obtain ⟨pcs, s1, s2, s3, s4⟩ := aje hμ hts fuel f.type _ _ (hfm f hfin) this
    exact ⟨pcs, s1, s2, s3, _, by rw [List.getElem?_map, List.getElem?_eq_getElem hilt]; rfl, s4⟩
   refine ⟨pcs, by simpa using p1, .struct fs pcs ht ?_ (fun f hfin => by simpa using (p3 f hfin).2), p2, ?_⟩
   rotate_left
   ·have := hμ.agg (xs.map (·.1))
    rw [List.map_map] at this
    exact Nat.le_trans p4 this
   rw [← hl]
   simpa using p1.length.symm
  ·cases hty
end
mutual
def muW {H : Type} : DataW H → Nat
 | .lit (.string b) => b.length + 1
 | .slice a _ => atx a + 1
 | .agg a => atx a + 1
 | _ => 1
def atx {H : Type} : List (DataW H) → Nat
 | [] => 0
 | d :: r => muW d + atx r
end
theorem amU {H : Type} (l : List (DataW H)) : (l.map muW).sum = atx l := by
 induction l with
 | nil => rfl
 | cons d l ih => simp [atx, ih]
theorem axx {H : Type} : Mu (muW (H := H)) where
 one d := by unfold muW; split <;> omega
 str b := by simp [muW]
 slice a b := by rw [amU]; simp [muW]
 agg a := by rw [amU]; simp [muW]
end Go.Proofs.YtclohbgnaopjfaaDoor
