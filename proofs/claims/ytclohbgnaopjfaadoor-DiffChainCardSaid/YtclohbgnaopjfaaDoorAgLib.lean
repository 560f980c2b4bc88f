/- Texts of the proof of diffChainCard -/
import Derived.Test.YtclohbgnaopjfaaDoorAg0
import Derived.Below
import Derived.Lib.Join
import Derived.Lib.Replace
import Derived.Lib.ValidU
import Derived.Lib.SlTrimSet
namespace Go.Proofs.YtclohbgnaopjfaaDoor
set_option linter.unusedSimpArgs false
set_option linter.unusedVariables false
open Go Go.RowKit
abbrev ba (s : Str) : ByteArray := ⟨s.toArray⟩
theorem amr (s : Str) : (ba s).size = s.length := by simp [ByteArray.size]
theorem KF {H : Imm} {w w' : World} (h : Agree H w) (hb : Below w.heap.size w w') : Agree H w' := fun b c hc => by
 obtain ⟨t, fr, ht⟩ := h b c hc
 have := (Array.getElem?_eq_some_iff.1 ht).1
 exact ⟨t, fr, (hb.block b this).trans ht⟩
theorem agm {P : Program} {f : Nat} {args : List PV} {r : PV} (hc : Wn P f) (hres : ∀ (H : Imm) (w : World) (n : Nat) (v : Value), Rep H Lay.none v r → acV H w n v r)
  (h : ∀ (H : Imm) (w : World) (vs : List Value), Agree H w → GW w → zI H (jV []) vs args → ∃ v, Rep H Lay.none v r ∧ Calls P f vs.toArray w fun e w' => e = .returned v ∧ Below w.heap.size w w') : PC P f args r := by
 refine ⟨hc, ⟨rfl, by simp⟩, fun H w ss vs hA hG hl hb hd he hr => ?_⟩
 have hss : ss = [] := List.eq_nil_of_length_eq_zero (by simpa using hl)
 subst hss
 obtain ⟨v, h1, h2⟩ := h H w vs hA (hG w hA) hr
 refine h2.mono ?_
 rintro e w' ⟨rfl, hbw⟩
 exact ⟨v, H, [], rfl, fun _ _ h => h, KF hA hbw, fun b c hc => .inl hc, ⟨hbw.size, fun b hb _ => hbw.block b hb, hbw.output, hbw.os, hbw.tape⟩, ⟨rfl, by simp, by simp, fun i j si sj b h => by simp at h, by simp⟩, by simp, hres H w' _ v h1⟩
theorem aa6 {H : Imm} {L : Lay} {v : Value} {s : Str} (h : Rep H L v (.str s)) : v = .string (ba s) := by cases h; rfl
theorem aoB {H : Imm} {L : Lay} {vs : List Value} {p : PV} (h : zI H L vs [p]) : ∃ v, vs = [v] ∧ Rep H L v p := by
 cases h with
 | cons _ v _ vs _ h t => cases t; exact ⟨v, rfl, h⟩
theorem ai0 {H : Imm} {L : Lay} {vs : List Value} {p q : PV} (h : zI H L vs [p, q]) : ∃ v u, vs = [v, u] ∧ Rep H L v p ∧ Rep H L u q := by
 cases h with
 | cons _ v _ vs _ h t => obtain ⟨u, rfl, g⟩ := aoB t; exact ⟨v, u, rfl, h, g⟩
theorem anw (l : List Str) : (l.map PV.str).flatMap PV.cells = l.map PV.str := by
 induction l with
 | nil => rfl
 | cons s l ih => simp only [List.map_cons, List.flatMap_cons, ih]; rfl
theorem ast {H : Imm} {L : Lay} {l : List Str} : ∀ {vs : List Value}, zI H L vs (l.map PV.str) → vs = l.map fun s => .string (ba s) := by
 induction l with
 | nil => intro vs h; cases h; rfl
 | cons s l ih =>
  intro vs h
  cases h with
  | cons _ v _ vs _ h t =>
   rw [aa6 h, ih t]
   rfl
theorem amY {H : Imm} {w : World} {L : Lay} {v : Value} {l : List Str} (hA : Agree H w) (h : Rep H L v (.list 1 (l.map PV.str))) :
  (l = [] ∧ ∃ a c, v = .slice a 0 c) ∨ ∃ b o c, v = .slice (some ⟨b, o, none⟩) (l.map ba).length c ∧ b < w.heap.size ∧ (l.map ba).length ≤ c ∧ ∀ (j : Nat) x, (l.map ba)[j]? = some x → w.cell? ⟨b, o + j, none⟩ = some (.string x) := by
 generalize hp : l.map PV.str = xs at h
 cases h with
 | wN _ a c sz => exact .inl ⟨by simpa using hp, a, c, rfl⟩
 | list _ b off len cap sz c vs xs hH hlen hcap hsz h1 hv hr =>
  right
  subst hp
  rw [anw] at hr
  have := ast hr
  subst this
  obtain ⟨t, fr, ht⟩ := hA b c hH
  simp only [List.length_map] at hlen
  subst hlen
  refine ⟨b, off, cap, by simp, (Array.getElem?_eq_some_iff.1 ht).1, by simpa using hcap, fun j x hj => ?_⟩
  have hjl : j < l.length := by
   have := (List.getElem?_eq_some_iff.1 hj).1
   simpa using this
  have := hv j (by simpa using hjl)
  simp only [World.cell?, ht]
  simp only [List.getElem?_map, Option.map_eq_some_iff] at hj this
  obtain ⟨s, e1, rfl⟩ := hj
  rw [e1] at this
  simpa using this
theorem agV {P : Program} {f : Nat} (hc : Wn P f)
  (c1 : ∀ (s : ByteArray) (w : World) (_ : s.size ≤ 9223372036854775807) (_ : GW w), Calls P f #[.string s] w fun e w' => e = .returned (.bool (Lib.validD s.data.toList)) ∧ Below w.heap.size w w')
  (s : Str) (R : Bool) (hh : chk (s.length ≤ 9223372036854775807) (some (Lib.validD s)) = some R) : PC P f [.str s] (.bool R) := by
 obtain ⟨h1, hR⟩ := qf hh
 cases hR
 refine agm hc (fun _ _ _ _ h => h) fun H w vs hA hG hr => ?_
 obtain ⟨v, rfl, g1⟩ := aoB hr
 obtain rfl := aa6 g1
 exact ⟨.bool (Lib.validD s), .bool _ _, c1 (ba s) w (by rw [amr]; exact h1) hG⟩
theorem auK {P : Program} {f : Nat} {tr : Str → Str → Str} (hc : Wn P f)
  (c1 : ∀ (s cut : ByteArray) (w : World) (_ : s.size ≤ 9223372036854775807) (_ : cut.size < 4294967281) (_ : ∀ (j : Nat) b, cut.data.toList[j]? = some b → b.toNat < 128),
   Calls P f #[.string s, .string cut] w fun e w' => e = .returned (.string ⟨(tr s.data.toList cut.data.toList).toArray⟩) ∧ Below w.heap.size w w')
  (s cut R : Str) (hh : chk (s.length ≤ 9223372036854775807 ∧ cut.length < 4294967281 ∧ cut.all (fun b => decide (b.toNat < 128)) = true) (some (tr s cut)) = some R) : PC P f [.str s, .str cut] (.str R) := by
 obtain ⟨⟨h1, h2, h3⟩, hR⟩ := qf hh
 cases hR
 refine agm hc (fun _ _ _ _ h => h) fun H w vs hA hG hr => ?_
 obtain ⟨v, u, rfl, g1, g2⟩ := ai0 hr
 obtain rfl := aa6 g1
 obtain rfl := aa6 g2
 exact ⟨.string (ba (tr s cut)), .str _ _, c1 (ba s) (ba cut) w (by rw [amr]; exact h1) (by rw [amr]; exact h2) fun j b hb => by
  have := List.all_eq_true.1 h3 b (List.mem_of_getElem? hb)
  simpa using this⟩
theorem anA {w : World} {b i : Nat} {c : Array Value} {t : Nat} {fz : Nat × Nat} (h : w.heap[b]? = some (.cells c t fz)) (v : Value) : (w.setCell ⟨b, i, none⟩ v).heap[b]? = some (.cells (c.setIfInBounds i v) t fz) := by
 simp [World.setCell, Array.getElem?_modify, h]
end Go.Proofs.YtclohbgnaopjfaaDoor
