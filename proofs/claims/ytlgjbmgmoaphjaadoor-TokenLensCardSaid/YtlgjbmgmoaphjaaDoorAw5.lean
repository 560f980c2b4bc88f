/- How a state without memory stands for a frame and a world, and how both go on together. -/
import Derived.Test.YtlgjbmgmoaphjaaDoorAw4
import Derived.Laws.Append
import Derived.Laws.AppendOwn
import Derived.Laws.CopyRow
import Derived.Laws.Cells
import Derived.Laws.Strings
import Derived.Laws.Concat
import Derived.Laws.StructEq
import Derived.Laws.Tables
import Derived.Laws.Runes
namespace Go.Proofs.YtlgjbmgmoaphjaaDoor
set_option linter.unusedSimpArgs false
set_option linter.unusedVariables false
open Go

/-! ### Stores and frames -/
theorem Sto.find_upd_same (s : Sto) (k g : Nat) (e : Ent) : (s.upd k g e).find k = some (g, e) := by
  induction s with
  | nil => simp [Sto.upd, Sto.find]
  | cons x r ih =>
    obtain ⟨j, y⟩ := x
    by_cases h : k = j
    · simp [Sto.upd, Sto.find, h]
    · simp [Sto.upd, Sto.find, h, ih]

theorem Sto.find_upd_other (s : Sto) (k k' g : Nat) (e : Ent) (h : k' ≠ k) : (s.upd k g e).find k' = s.find k' := by
  induction s with
  | nil => simp [Sto.upd, Sto.find, h]
  | cons x r ih =>
    obtain ⟨j, y⟩ := x
    by_cases hk : k = j
    · subst hk; simp [Sto.upd, Sto.find, h]
    · simp only [Sto.upd, hk, if_false, Sto.find, ih]

theorem Act.put_get (a : Act) (d i : Nat) (v : Value) (hd : d < a.tmps.size) : (a.put (some d) v).tmps.getD i undef = if i = d then v else a.tmps.getD i undef := by
  simp only [Act.put]
  by_cases h : i = d
  · subst h; simp [Array.getD, hd]
  · simp only [h, if_false]
    unfold Array.getD
    simp only [Array.size_setIfInBounds]
    split
    · rename_i hi
      exact Array.getElem_setIfInBounds_ne (by simpa using hi) (Ne.symm h)
    · rfl

theorem Act.put_size (a : Act) (dst : Option Nat) (v : Value) : (a.put dst v).tmps.size = a.tmps.size := by
  cases dst <;> simp [Act.put]

theorem Act.put_defers (a : Act) (dst : Option Nat) (v : Value) : (a.put dst v).defers = a.defers := by
  cases dst <;> rfl

/-! ### The relation -/
structure Base where
  w0 : World
  H0 : Imm
  ss : List Slot
  glob : Glob H0

def Base.may (B : Base) (b : Nat) : Prop := ∃ x ∈ B.ss, x.block = some b

structure Rel (B : Base) (F : Nat → Prop) (H : Imm) (L : Lay) (s : St) (a : Act) (w : World) : Prop where
  env : ∀ i, Rep H L (a.tmps.getD i undef) (s.env.get i)
  agree : Agree H w
  sto : ∀ k g e, s.sto.find k = some (g, e) → ∃ sl, L.at_ k = some sl ∧ sl.gen = g ∧ EntRep H L w sl e
  sep : ∀ k k' sl sl' b, L.at_ k = some sl → L.at_ k' = some sl' → sl.block = some b → sl'.block = some b → k = k'
  low : ∀ k sl b, L.at_ k = some sl → sl.block = some b → b < w.heap.size
  used : ∀ k sl, L.at_ k = some sl → L.used sl.gen
  free : ∀ g, F g → ¬ L.used g
  mine : ∀ k sl b, L.at_ k = some sl → sl.block = some b → B.w0.heap.size ≤ b ∨ (1000 ≤ k ∧ ∃ o, B.ss[k - 1000]? = some o ∧ o.block = some b)
  zero : L.used 0
  ext0 : ∀ k sl, 1000 ≤ k → L.at_ k = some sl → sl.gen = 0 → B.ss[k - 1000]? = some sl
  grow : Grow B.H0 H
  imm : ∀ b c, H b = some c → B.H0 b = some c ∨ B.w0.heap.size ≤ b
  ext : Ext B.may B.w0 w

/-- Nothing that was is changed. -/
def Quiet (w w' : World) : Prop := Ext (fun _ => False) w w'

theorem Quiet.refl (w : World) : Quiet w w := ⟨Nat.le_refl _, fun _ _ _ => rfl, rfl, rfl, rfl⟩
theorem Quiet.drew (w : World) : Quiet w w.drew := ⟨Nat.le_refl _, fun _ _ _ => rfl, rfl, rfl, rfl⟩
theorem Quiet.alloc (w : World) (o : Obj) : Quiet w (w.alloc o) :=
  ⟨by show _ ≤ (w.heap.push o).size; simp, fun b hb _ => by show (w.heap.push o)[b]? = _; simp [Array.getElem?_push, Nat.ne_of_lt hb], rfl, rfl, rfl⟩
theorem Ext.trans {m : Nat → Prop} {w w' w'' : World} (h : Ext m w w') (h' : Ext m w' w'') : Ext m w w'' :=
  ⟨Nat.le_trans h.size h'.size, fun b hb hm => (h'.old b (Nat.lt_of_lt_of_le hb h.size) hm).trans (h.old b hb hm), h'.out.trans h.out, h'.os.trans h.os, h'.tape.trans h.tape⟩
theorem Ext.weaken {m m' : Nat → Prop} {w w' : World} (h : Ext m w w') (hm : ∀ b, m b → m' b) : Ext m' w w' :=
  ⟨h.size, fun b hb hn => h.old b hb (fun x => hn (hm b x)), h.out, h.os, h.tape⟩

theorem Agree.quiet {H : Imm} {w w' : World} (h : Agree H w) (hq : Quiet w w') : Agree H w' := fun b c hb => by
  obtain ⟨t, fr, he⟩ := h b c hb
  have hlt : b < w.heap.size := (Array.getElem?_eq_some_iff.1 he).1
  exact ⟨t, fr, (hq.old b hlt (by simp)).trans he⟩

/-- An entry lives on where its block is left alone. -/
theorem EntRep.keep {H H' : Imm} {L L' : Lay} {w w' : World} {sl : Slot} {e : Ent} (h : EntRep H L w sl e) (hH : Grow H H') (hL : LayLe L L')
    (hb : ∀ b, sl.block = some b → w'.heap[b]? = w.heap[b]? ∧ (H b = none → H' b = none)) : EntRep H' L' w' sl e := by
  match e with
  | .var _ cs =>
    obtain ⟨b, vs, t, h1, h2, h3, h4⟩ := h
    exact ⟨b, vs, t, h1, (hb b h1).2 h2, (hb b h1).1.trans h3, h4.mono hH hL⟩
  | .row false sz xs =>
    obtain ⟨h1, h2, h3, h4⟩ := h
    refine ⟨h1, h2, h3, ?_⟩
    rcases h4 with h4 | ⟨b, vs, rest, t, g1, g2, g3, g4, g5, g6⟩
    · exact .inl h4
    · exact .inr ⟨b, vs, rest, t, g1, (hb b g1).2 g2, (hb b g1).1.trans g3, g4, g5.mono hH (.refl _), g6⟩
  | .row true sz xs =>
    obtain ⟨h1, h2, h2', h3⟩ := h
    refine ⟨h1, h2, h2', ?_⟩
    rcases h3 with h3 | ⟨b, c, vs, g1, g2, g3, g4, g5⟩
    · exact .inl h3
    · exact .inr ⟨b, c, vs, g1, hH _ _ g2, g3, g4, g5.mono hH (.refl _)⟩
  | .iter s pos =>
    obtain ⟨b, h1, h2, h3⟩ := h
    exact ⟨b, h1, (hb b h1).2 h2, (hb b h1).1.trans h3⟩
  | .bytes bt bs | .movedB bt bs =>
    obtain ⟨h1, h3, h4⟩ := h
    refine ⟨h1, h3, ?_⟩
    rcases h4 with h4 | ⟨b, rest, g1, g2, g3, g6⟩
    · exact .inl h4
    · exact .inr ⟨b, rest, g1, (hb b g1).2 g2, (hb b g1).1.trans g3, g6⟩
  | .gone => trivial
  | .moved sz xs =>
    obtain ⟨h1, h2, h3, h4⟩ := h
    refine ⟨h1, h2, h3, ?_⟩
    rcases h4 with h4 | ⟨b, vs, rest, t, g1, g2, g3, g4, g5, g6⟩
    · exact .inl h4
    · exact .inr ⟨b, vs, rest, t, g1, (hb b g1).2 g2, (hb b g1).1.trans g3, g4, g5.mono hH (.refl _), g6⟩

section
variable {B : Base} {F : Nat → Prop} {H : Imm} {L : Lay} {s : St} {a : Act} {w : World}

/-- More rows that are not written any more, more blocks. -/
theorem Rel.quiet (h : Rel B F H L s a w) {H' : Imm} {w' : World} (hH : Grow H H') (hA : Agree H' w') (hn : ∀ b c, H' b = some c → H b = some c ∨ w.heap.size ≤ b) (hq : Quiet w w') : Rel B F H' L s a w' where
  env i := (h.env i).mono hH (.refl _)
  agree := hA
  sto k g e he := by
    obtain ⟨sl, h1, h2, h3⟩ := h.sto k g e he
    refine ⟨sl, h1, h2, h3.keep hH (.refl _) fun b hb => ⟨hq.old b (h.low k sl b h1 hb) (by simp), fun hnone => ?_⟩⟩
    cases hc : H' b with
    | none => rfl
    | some c =>
      rcases hn b c hc with h4 | h4
      · rw [hnone] at h4; cases h4
      · have := h.low k sl b h1 hb; omega
  sep := h.sep
  low k sl b h1 h2 := Nat.lt_of_lt_of_le (h.low k sl b h1 h2) hq.size
  used := h.used
  free := h.free
  mine := h.mine
  zero := h.zero
  ext0 := h.ext0
  grow := h.grow.trans hH
  imm b c hc := by
    rcases hn b c hc with h4 | h4
    · exact h.imm b c h4
    · exact .inr (Nat.le_trans h.ext.size h4)
  ext := h.ext.trans (hq.weaken (by simp))

theorem Rel.put (h : Rel B F H L s a w) {dst : Option Nat} {v : Value} {p : PV} (hd : ∀ d, dst = some d → d < a.tmps.size) (hv : Rep H L v p) : Rel B F H L (s.put dst p) (a.put dst v) w := by
  refine { h with env := fun i => ?_, sto := ?_ }
  · cases dst with
    | none => exact h.env i
    | some d =>
      rw [Act.put_get a d i v (hd d rfl)]
      show Rep H L _ (if i = d then p else s.env.get i)
      split
      · exact hv
      · exact h.env i
  · intro k g e he
    refine h.sto k g e ?_
    cases dst <;> exact he

/-- A key is laid (anew): its stamp is fresh. -/
theorem Rel.setNew (h : Rel B F H L s a w) {k : Nat} {sl : Slot} {e : Ent} {H' : Imm} {w' : World} (hg : F sl.gen)
    (hH : Grow H H') (hA : Agree H' w') (hn : ∀ b c, H' b = some c → H b = some c ∨ w.heap.size ≤ b)
    (hs : w.heap.size ≤ w'.heap.size) (hold : ∀ b, b < w.heap.size → sl.block ≠ some b → w'.heap[b]? = w.heap[b]?)
    (ho : w'.output = w.output) (hos : w'.os = w.os) (ht : w'.tape = w.tape)
    (hb : ∀ b, sl.block = some b → b < w'.heap.size ∧ ((B.w0.heap.size ≤ b ∧ ∀ j x, L.at_ j = some x → x.block ≠ some b) ∨ ∃ o, L.at_ k = some o ∧ o.block = some b))
    (he : EntRep H' ⟨fun g => L.used g ∨ g = sl.gen, fun j => if j = k then some sl else L.at_ j⟩ w' sl e) :
    Rel B (fun g => F g ∧ g ≠ sl.gen) H' ⟨fun g => L.used g ∨ g = sl.gen, fun j => if j = k then some sl else L.at_ j⟩ (s.set k sl.gen e) a w' := by
  have hL : LayLe L ⟨fun g => L.used g ∨ g = sl.gen, fun j => if j = k then some sl else L.at_ j⟩ := by
    refine ⟨fun g hg => .inl hg, fun j x hx hu => ?_⟩
    by_cases hj : j = k
    · simp only [hj, if_true, Option.some.injEq] at hx
      subst hx
      exact (h.free _ hg hu).elim
    · simpa [hj] using hx
  have other : ∀ j x b, j ≠ k → L.at_ j = some x → x.block = some b → sl.block ≠ some b := by
    intro j x b hj hx hxb hslb
    rcases (hb b hslb).2 with h1 | ⟨o, h1, h2⟩
    · exact h1.2 j x hx hxb
    · exact hj (h.sep j k x o b hx h1 hxb h2)
  have mayno : ∀ b, sl.block = some b → B.w0.heap.size ≤ b ∨ (1000 ≤ k ∧ ∃ o, B.ss[k - 1000]? = some o ∧ o.block = some b) := by
    intro b hslb
    rcases (hb b hslb).2 with h1 | ⟨o, h1, h2⟩
    · exact .inl h1.1
    · exact h.mine k o b h1 h2
  refine
    { env := fun i => (h.env i).mono hH hL
      agree := hA
      sto := ?_, sep := ?_, low := ?_, used := ?_, free := ?_, mine := ?_, zero := .inl h.zero, ext0 := ?_
      grow := h.grow.trans hH
      imm := ?_, ext := ?_ }
  · intro j g x hx
    by_cases hj : j = k
    · subst hj
      have : some (sl.gen, e) = some (g, x) := by rw [← hx]; exact (Sto.find_upd_same _ _ _ _).symm
      simp only [Option.some.injEq, Prod.mk.injEq] at this
      obtain ⟨rfl, rfl⟩ := this
      exact ⟨sl, by simp, rfl, he⟩
    · have hx' : s.sto.find j = some (g, x) := by rw [← hx]; exact (Sto.find_upd_other _ _ _ _ _ hj).symm
      obtain ⟨o, h1, h2, h3⟩ := h.sto j g x hx'
      refine ⟨o, by simpa [hj] using h1, h2, h3.keep hH hL fun b hob => ⟨hold b (h.low j o b h1 hob) (other j o b hj h1 hob), fun hnone => ?_⟩⟩
      cases hc : H' b with
      | none => rfl
      | some c =>
        rcases hn b c hc with h4 | h4
        · rw [hnone] at h4; cases h4
        · have := h.low j o b h1 hob; omega
  · intro j j' x x' b hx hx' hxb hxb'
    dsimp only at hx hx'
    split at hx <;> split at hx'
    · simp_all
    · rename_i h1 h2
      simp only [Option.some.injEq] at hx
      subst hx
      exact (other j' x' b h2 hx' hxb' hxb).elim
    · rename_i h1 h2
      simp only [Option.some.injEq] at hx'
      subst hx'
      exact (other j x b h1 hx hxb hxb').elim
    · exact h.sep j j' x x' b hx hx' hxb hxb'
  · intro j x b hx hxb
    dsimp only at hx
    split at hx
    · simp only [Option.some.injEq] at hx
      subst hx
      exact (hb b hxb).1
    · exact Nat.lt_of_lt_of_le (h.low j x b hx hxb) hs
  · intro j x hx
    dsimp only at hx ⊢
    split at hx
    · simp only [Option.some.injEq] at hx
      subst hx
      exact .inr rfl
    · exact .inl (h.used j x hx)
  · rintro g ⟨hg1, hg2⟩ hu
    rcases hu with hu | hu
    · exact h.free g hg1 hu
    · exact hg2 hu
  · intro j x b hx hxb
    dsimp only at hx
    split at hx
    · rename_i hjk
      simp only [Option.some.injEq] at hx
      subst hx
      subst hjk
      exact mayno b hxb
    · exact h.mine j x b hx hxb
  · intro j x hj hx hx0
    dsimp only at hx
    split at hx
    · simp only [Option.some.injEq] at hx
      subst hx
      exact (h.free _ hg (by rw [hx0]; exact h.zero)).elim
    · exact h.ext0 j x hj hx hx0
  · intro b c hc
    rcases hn b c hc with h4 | h4
    · exact h.imm b c h4
    · exact .inr (Nat.le_trans h.ext.size h4)
  · refine ⟨Nat.le_trans h.ext.size hs, fun b hb1 hb2 => ?_, ho.trans h.ext.out, hos.trans h.ext.os, ht.trans h.ext.tape⟩
    have hlt : b < w.heap.size := Nat.lt_of_lt_of_le hb1 h.ext.size
    refine (hold b hlt fun hslb => ?_).trans (h.ext.old b hb1 hb2)
    rcases mayno b hslb with h6 | ⟨_, o, h6, h7⟩
    · omega
    · exact hb2 ⟨o, List.mem_of_getElem? h6, h7⟩

/-- A key keeps its place and its stamp; what lies there is another thing. -/
theorem Rel.setOld (h : Rel B F H L s a w) {k : Nat} {sl : Slot} {e : Ent} {H' : Imm} {w' : World} (hk : L.at_ k = some sl)
    (hH : Grow H H') (hA : Agree H' w') (hn : ∀ b c, H' b = some c → H b = some c ∨ w.heap.size ≤ b ∨ (sl.block = some b ∧ k < 1000))
    (hs : w.heap.size ≤ w'.heap.size) (hold : ∀ b, b < w.heap.size → sl.block ≠ some b → w'.heap[b]? = w.heap[b]?)
    (ho : w'.output = w.output) (hos : w'.os = w.os) (ht : w'.tape = w.tape)
    (he : EntRep H' L w' sl e) : Rel B F H' L (s.set k sl.gen e) a w' := by
  refine
    { env := fun i => (h.env i).mono hH (.refl _)
      agree := hA
      sto := ?_, sep := h.sep, low := fun j x b hx hxb => Nat.lt_of_lt_of_le (h.low j x b hx hxb) hs, used := h.used, free := h.free, mine := h.mine, zero := h.zero, ext0 := h.ext0
      grow := h.grow.trans hH
      imm := ?_, ext := ?_ }
  · intro j g x hx
    by_cases hj : j = k
    · subst hj
      have : some (sl.gen, e) = some (g, x) := by rw [← hx]; exact (Sto.find_upd_same _ _ _ _).symm
      simp only [Option.some.injEq, Prod.mk.injEq] at this
      obtain ⟨rfl, rfl⟩ := this
      exact ⟨sl, hk, rfl, he⟩
    · have hx' : s.sto.find j = some (g, x) := by rw [← hx]; exact (Sto.find_upd_other _ _ _ _ _ hj).symm
      obtain ⟨o, h1, h2, h3⟩ := h.sto j g x hx'
      refine ⟨o, h1, h2, h3.keep hH (.refl _) fun b hob => ?_⟩
      have hne : sl.block ≠ some b := fun hslb => hj (h.sep j k o sl b h1 hk hob hslb)
      refine ⟨hold b (h.low j o b h1 hob) hne, fun hnone => ?_⟩
      cases hc : H' b with
      | none => rfl
      | some c =>
        rcases hn b c hc with h4 | h4 | h4
        · rw [hnone] at h4; cases h4
        · have := h.low j o b h1 hob; omega
        · exact (hne h4.1).elim
  · intro b c hc
    rcases hn b c hc with h4 | h4 | ⟨h4, h5⟩
    · exact h.imm b c h4
    · exact .inr (Nat.le_trans h.ext.size h4)
    · rcases h.mine k sl b hk h4 with h6 | h6
      · exact .inr h6
      · omega
  · refine ⟨Nat.le_trans h.ext.size hs, fun b hb1 hb2 => ?_, ho.trans h.ext.out, hos.trans h.ext.os, ht.trans h.ext.tape⟩
    have hlt : b < w.heap.size := Nat.lt_of_lt_of_le hb1 h.ext.size
    refine (hold b hlt fun hslb => ?_).trans (h.ext.old b hb1 hb2)
    rcases h.mine k sl b hk hslb with h6 | ⟨_, o, h6, h7⟩
    · omega
    · exact hb2 ⟨o, List.mem_of_getElem? h6, h7⟩

end
end Go.Proofs.YtlgjbmgmoaphjaaDoor
