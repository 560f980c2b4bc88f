/- Texts of the proof of diffChainCard -/
import Derived.Test.YtclohbgnaopjfaaDoorAgLib
import Derived.Shelf.Spec.SlicesGrow
namespace Go.Proofs.YtclohbgnaopjfaaDoor
set_option linter.unusedSimpArgs false
set_option linter.unusedVariables false
open Go Go.RowKit Go.Shelf
theorem arM (cs : Array Value) (n : Nat) : (Builtin.zeroCells cs n).size = n * cs.size := by simp [Builtin.zeroCells]
theorem asZ {P : Program} {ρ : Ren} (L : Lays8.n4 P ρ) {f el sz bt : Nat} {kd : Kd} {ag fl : Bool} {zs : List PV} (hρ : ρ.f 4 = f ∧ ρ.t 25 = el) (hc : Wn P f) (ht : zH P el = ⟨kd, ag, sz, bt, some zs, fl⟩)
  (hb : (decide (0 < bt) && decide (0 < sz) && decide (zs.length = sz)) = true) (n : Int) (h1 : 0 ≤ n) (h2 : n * bt ≤ 140737488355328) : PC P f [.kS, .int .i64 n] (.own sz []) := by
 rw [Bool.and_eq_true, Bool.and_eq_true] at hb
 obtain ⟨⟨hb1, hb2⟩, hb3⟩ := hb
 replace hb1 := of_decide_eq_true hb1
 replace hb2 := of_decide_eq_true hb2
 replace hb3 := of_decide_eq_true hb3
 refine ⟨hc, ⟨rfl, by simp⟩, fun H w ss vs hA hG hl _ _ _ hr => ?_⟩
 have hss : ss = [] := List.eq_nil_of_length_eq_zero (by simpa using hl)
 subst hss
 obtain ⟨v, u, rfl, r1, r2⟩ := ai0 hr
 cases r1
 cases r2
 obtain ⟨m, rfl⟩ : ∃ m : Nat, n = (m : Int) := ⟨n.toNat, by omega⟩
 have h2' : m * bt ≤ 140737488355328 := by rw [← Int.natCast_mul] at h2; omega
 have hm : m ≤ 140737488355328 := Nat.le_trans (Nat.le_mul_of_pos_right m hb1) h2'
 obtain ⟨i0, hi0, hsz, hbt, z, hz, hzl⟩ : ∃ i0, P.info? (ρ.t 25) = some i0 ∧ i0.size = sz ∧ i0.bytes = bt ∧ ∃ z, i0.zero = some z ∧ z.cells.size = sz := by
  rw [hρ.2]
  unfold zH at ht
  split at ht
  ·rename_i i d e1 e2
   simp only [Ty.mk.injEq] at ht
   obtain ⟨_, _, e3, e4, e5, _⟩ := ht
   cases hzz : i.zero with
   | none => rw [hzz] at e5; cases e5
   | some z =>
    rw [hzz] at e5
    simp only [Option.map_some, Option.some.injEq] at e5
    refine ⟨i, e1, e3, e4, z, hzz, ?_⟩
    rw [← hb3, ← e5]
    simp
  ·simp only [Ty.mk.injEq] at ht
   obtain ⟨_, _, _, _, e5, _⟩ := ht
   cases e5
 rw [← hρ.1]
 by_cases h0 : m = 0
 ·subst h0
  refine (Any8.slices_Grow_room L none 0 0 0 w (by omega) (by omega) (by omega) (by omega)).mono ?_
  rintro e w' ⟨rfl, rfl⟩
  exact ⟨_, H, [], rfl, .refl _, hA, fun b c hc => .inl hc, ⟨Nat.le_refl _, fun _ _ _ => rfl, rfl, rfl, rfl⟩, ⟨rfl, by simp, by simp, fun i j si sj b h => by simp at h, by simp⟩, by simp, by simp, .inl ⟨rfl, rfl⟩⟩
 ·refine (Any8.slices_Grow_grow L i0 z hi0 hz (by omega) none 0 0 m [] w (by omega) (by omega) (by rw [hbt, Nat.zero_add]; exact h2') (by omega) (by simp) (fun _ => rfl) (by simp)).mono ?_
  rintro e w' ⟨rfl, rfl⟩
  have hlow : H w.heap.size = none := by
   cases hn : H w.heap.size with
   | none => rfl
   | some c =>
    obtain ⟨t, fr, ht'⟩ := hA _ _ hn
    have := (Array.getElem?_eq_some_iff.1 ht').1
    omega
  obtain ⟨G, hGe⟩ : ∃ G, G = grownCap w (0 + m) 0 (ρ.t 25) := ⟨_, rfl⟩
  have hG : 0 + m ≤ G := hGe ▸ grownCap_ge w _ _ _
  rw [← hGe]
  generalize hX : (([] : List Value).toArray ++ Builtin.zeroCells z.cells (0 + m - 0) ++ Builtin.zeroCells z.cells (G - (0 + m))) = X
  have hXs : X.size = G * sz := by
   rw [← hX]
   simp only [Array.size_append, arM, hzl, List.toArray, List.size_toArray, List.length_nil]
   rw [Nat.zero_add, Nat.zero_add, Nat.sub_zero, ← Nat.add_mul, Nat.add_sub_cancel' (by omega)]
  have hq : Ext (fun _ => False) w (w.drew.alloc (.cells X (ρ.t 25))) := Ext.trans (Quiet.drew w) (Quiet.alloc _ _)
  refine ⟨_, H, [], rfl, .refl _, hA.quiet hq, fun b c hc => .inl hc, hq.weaken fun b hb => hb.elim, ⟨rfl, by simp, by simp, fun i j si sj b h => by simp at h, by simp⟩, by simp, by simp, .inr ⟨w.heap.size, G, [], X.toList, ρ.t 25, Nat.le_refl _, hlow, rfl, ?_, by simp, .nil _, ?_, by simp⟩⟩
  ·show ((w.drew.heap.push (.cells X (ρ.t 25)))[w.heap.size]?) = _
   have : w.drew.heap.size = w.heap.size := rfl
   rw [← this, Array.getElem?_push_size]
   simp
  ·simp only [Array.length_toList, hXs, List.length_nil, Nat.sub_zero]
end Go.Proofs.YtclohbgnaopjfaaDoor
