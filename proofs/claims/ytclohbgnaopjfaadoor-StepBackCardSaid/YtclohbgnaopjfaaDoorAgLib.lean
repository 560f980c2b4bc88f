/- Texts of the proof of stepBackCard -/
import Derived.Test.YtclohbgnaopjfaaDoorAg0
import Derived.Below
import Derived.Lib.Join
import Derived.Lib.Replace
import Derived.Lib.ValidU
import Derived.Lib.SlTrimSet
namespace Go.Proofs.YtclohbgnaopjfaaDoor
set_option linter.unusedSimpArgs false
set_option linter.unusedVariables false
open Go Go.RowKit
abbrev ba (s : Str) : ByteArray := ⟨s.toArray⟩
theorem ak4 (s : Str) : (ba s).size = s.length := by simp [ByteArray.size]
theorem Kj {H : Imm} {w w' : World} (h : Agree H w) (hb : Below w.heap.size w w') : Agree H w' := fun b c hc => by
 obtain ⟨t, fr, ht⟩ := h b c hc
 have := (Array.getElem?_eq_some_iff.1 ht).1
 exact ⟨t, fr, (hb.block b this).trans ht⟩
theorem afA {P : Program} {f : Nat} {args : List PV} {r : PV} (hc : yO P f) (hres : ∀ (H : Imm) (w : World) (n : Nat) (v : Value), Rep H Lay.none v r → Yu H w n v r)
  (h : ∀ (H : Imm) (w : World) (vs : List Value), Agree H w → GW w → zH H (kE []) vs args → ∃ v, Rep H Lay.none v r ∧ Calls P f vs.toArray w fun e w' => e = .returned v ∧ Below w.heap.size w w') : PC P f args r := by
 refine ⟨hc, ⟨rfl, by simp⟩, fun H w ss vs hA hG hl hb hd he hr => ?_⟩
 have hss : ss = [] := List.eq_nil_of_length_eq_zero (by simpa using hl)
 subst hss
 obtain ⟨v, h1, h2⟩ := h H w vs hA (hG w hA) hr
 refine h2.mono ?_
 rintro e w' ⟨rfl, hbw⟩
 exact ⟨v, H, [], rfl, fun _ _ h => h, Kj hA hbw, fun b c hc => .inl hc, ⟨hbw.size, fun b hb _ => hbw.block b hb, hbw.output, hbw.os, hbw.tape⟩, ⟨rfl, by simp, by simp, fun i j si sj b h => by simp at h, by simp⟩, by simp, hres H w' _ v h1⟩
theorem aaD {H : Imm} {L : Lay} {v : Value} {s : Str} (h : Rep H L v (.str s)) : v = .string (ba s) := by cases h; rfl
theorem acV {H : Imm} {L : Lay} {vs : List Value} {p : PV} (h : zH H L vs [p]) : ∃ v, vs = [v] ∧ Rep H L v p := by
 cases h with
 | cons _ v _ vs _ h t => cases t; exact ⟨v, rfl, h⟩
theorem ag0 {H : Imm} {L : Lay} {vs : List Value} {p q : PV} (h : zH H L vs [p, q]) : ∃ v u, vs = [v, u] ∧ Rep H L v p ∧ Rep H L u q := by
 cases h with
 | cons _ v _ vs _ h t => obtain ⟨u, rfl, g⟩ := acV t; exact ⟨v, u, rfl, h, g⟩
theorem amU (l : List Str) : (l.map PV.str).flatMap PV.cells = l.map PV.str := by
 induction l with
 | nil => rfl
 | cons s l ih => simp only [List.map_cons, List.flatMap_cons, ih]; rfl
theorem aq7 {H : Imm} {L : Lay} {l : List Str} : ∀ {vs : List Value}, zH H L vs (l.map PV.str) → vs = l.map fun s => .string (ba s) := by
 induction l with
 | nil => intro vs h; cases h; rfl
 | cons s l ih =>
  intro vs h
  cases h with
  | cons _ v _ vs _ h t =>
   rw [aaD h, ih t]
   rfl
theorem amK {H : Imm} {w : World} {L : Lay} {v : Value} {l : List Str} (hA : Agree H w) (h : Rep H L v (.list 1 (l.map PV.str))) :
  (l = [] ∧ ∃ a c, v = .slice a 0 c) ∨ ∃ b o c, v = .slice (some ⟨b, o, none⟩) (l.map ba).length c ∧ b < w.heap.size ∧ (l.map ba).length ≤ c ∧ ∀ (j : Nat) x, (l.map ba)[j]? = some x → w.cell? ⟨b, o + j, none⟩ = some (.string x) := by
 generalize hp : l.map PV.str = xs at h
 cases h with
 | wK _ a c sz => exact .inl ⟨by simpa using hp, a, c, rfl⟩
 | list _ b off len cap sz c vs xs hH hlen hcap hsz h1 hv hr =>
  right
  subst hp
  rw [amU] at hr
  have := aq7 hr
  subst this
  obtain ⟨t, fr, ht⟩ := hA b c hH
  simp only [List.length_map] at hlen
  subst hlen
  refine ⟨b, off, cap, by simp, (Array.getElem?_eq_some_iff.1 ht).1, by simpa using hcap, fun j x hj => ?_⟩
  have hjl : j < l.length := by
   have := (List.getElem?_eq_some_iff.1 hj).1
   simpa using this
  have := hv j (by simpa using hjl)
  simp only [World.cell?, ht]
  simp only [List.getElem?_map, Option.map_eq_some_iff] at hj this
  obtain ⟨s, e1, rfl⟩ := hj
  rw [e1] at this
  simpa using this
theorem af5 {P : Program} {f : Nat} (hc : yO P f)
  (c1 : ∀ (s : ByteArray) (w : World) (_ : s.size ≤ 9223372036854775807) (_ : GW w), Calls P f #[.string s] w fun e w' => e = .returned (.bool (Lib.validD s.data.toList)) ∧ Below w.heap.size w w')
  (s : Str) (R : Bool) (hh : chk (s.length ≤ 9223372036854775807) (some (Lib.validD s)) = some R) : PC P f [.str s] (.bool R) := by
 obtain ⟨h1, hR⟩ := z8 hh
 cases hR
 refine afA hc (fun _ _ _ _ h => h) fun H w vs hA hG hr => ?_
 obtain ⟨v, rfl, g1⟩ := acV hr
 obtain rfl := aaD g1
 exact ⟨.bool (Lib.validD s), .bool _ _, c1 (ba s) w (by rw [ak4]; exact h1) hG⟩
theorem ar8 {P : Program} {f : Nat} {tr : Str → Str → Str} (hc : yO P f)
  (c1 : ∀ (s cut : ByteArray) (w : World) (_ : s.size ≤ 9223372036854775807) (_ : cut.size < 4294967281) (_ : ∀ (j : Nat) b, cut.data.toList[j]? = some b → b.toNat < 128),
   Calls P f #[.string s, .string cut] w fun e w' => e = .returned (.string ⟨(tr s.data.toList cut.data.toList).toArray⟩) ∧ Below w.heap.size w w')
  (s cut R : Str) (hh : chk (s.length ≤ 9223372036854775807 ∧ cut.length < 4294967281 ∧ cut.all (fun b => decide (b.toNat < 128)) = true) (some (tr s cut)) = some R) : PC P f [.str s, .str cut] (.str R) := by
 obtain ⟨⟨h1, h2, h3⟩, hR⟩ := z8 hh
 cases hR
 refine afA hc (fun _ _ _ _ h => h) fun H w vs hA hG hr => ?_
 obtain ⟨v, u, rfl, g1, g2⟩ := ag0 hr
 obtain rfl := aaD g1
 obtain rfl := aaD g2
 exact ⟨.string (ba (tr s cut)), .str _ _, c1 (ba s) (ba cut) w (by rw [ak4]; exact h1) (by rw [ak4]; exact h2) fun j b hb => by
  have := List.all_eq_true.1 h3 b (List.mem_of_getElem? hb)
  simpa using this⟩
theorem abW {n0 : Nat} {w' : World} {es' : List Ent} {ss : List Slot} (hg : ∀ s ∈ ss, s.gen = 0 ∧ ∀ b, s.block = some b → b < w'.heap.size) (hs : auB ss) : afE n0 w' es' ss ss :=
 ⟨rfl, fun s h => (hg s h).1, fun s h => (hg s h).2, hs, fun i s s' e h1 h2 h3 => by rw [h1] at h2; cases h2; exact .inl rfl⟩
theorem afO {w : World} {b i : Nat} {c : Array Value} {t : Nat} {fz : Nat × Nat} (h : w.heap[b]? = some (.cells c t fz)) (v : Value) : (w.setCell ⟨b, i, none⟩ v).heap[b]? = some (.cells (c.setIfInBounds i v) t fz) := by
 simp [World.setCell, Array.getElem?_modify, h]
theorem JI {w : World} {b i j : Nat} (v : Value) (h : j ≠ b) : (w.setCell ⟨b, i, none⟩ v).heap[j]? = w.heap[j]? := by
 simp only [World.setCell, Array.getElem?_modify]
 rw [if_neg (fun e => h e.symm)]
theorem acK {w : World} {a : Addr} (v : Value) : (w.setCell a v).heap.size = w.heap.size := by
 simp [World.setCell]
theorem avS : ∀ (ss : List Slot), ss.length = 2 → ∃ s0 s1, ss = [s0, s1]
 | [s0, s1], _ => ⟨s0, s1, rfl⟩
theorem ao9 {H : Imm} {w : World} {ss : List Slot} {vs : List Value} {T bt : Nat} {l : Str} (hl : ss.length = 2) (hg : ∀ s ∈ ss, s.gen = 0)
  (hents : ∀ (i : Nat) (s : Slot) (e : Ent), ss[i]? = some s → [Ent.var T [.wF 1000 0, .row 1001 0 l.length], .bytes bt l][i]? = some e → qU H (kE ss) w s e) (hr : zH H (kE ss) vs [.box 1000 0 0]) :
  ∃ s0 s1 b v0 v1, ss = [s0, s1] ∧ s0.block = some b ∧ H b = none ∧ w.heap[b]? = some (.cells #[v0, v1] T (0, 0)) ∧ vs = [.pointer (some ⟨b, 0, none⟩)] ∧ (v0 = .pointer none ∨ v0 = .pointer (some ⟨b, 0, none⟩)) ∧
   v1 = .slice (s1.block.map fun b => (⟨b, 0, none⟩ : Addr)) l.length s1.cap ∧ Rep H (kE ss) v1 (.row 1001 0 l.length) ∧ qU H (kE ss) w s1 (.bytes bt l) := by
 obtain ⟨s0, s1, rfl⟩ := avS ss hl
 have a0 : (kE [s0, s1]).at_ 1000 = some s0 := by simp [kE]
 have a1 : (kE [s0, s1]).at_ 1001 = some s1 := by simp [kE]
 have g0 := hg s0 (by simp)
 have g1 := hg s1 (by simp)
 ·clear hg hl
  obtain ⟨b, us, _, h1, h2, h3, h4⟩ := hents 0 s0 _ rfl rfl
  cases h4 with
  | cons _ v0 _ us _ h5 h6 =>
   obtain ⟨v1, rfl, h7⟩ := acV h6
   obtain ⟨v, rfl, h8⟩ := acV hr
   refine ⟨s0, s1, b, v0, v1, rfl, h1, h2, h3, ?_, ?_, ?_, h7, hents 1 s1 _ rfl rfl⟩
   ·cases h8 with
    | box _ _ _ _ _ hu hs hx => rw [hx s0 b a0 g0 h1]
   ·cases h5 with
    | wF _ _ _ _ hu hs hx => exact hx.imp id fun hx => hx s0 b a0 g0 h1
   ·cases h7 with
    | row _ _ _ _ _ hu hs hx => exact hx s1 a1 g1
theorem aiY {P : Program} {f T bt : Nat} (hc : yO P f)
  (c0 : ∀ (b : Nat) (w : World) (_ : w.cell? ⟨b, 0, none⟩ = some (.pointer none)) (_ : w.shape? b = some (T, 2)) (_ : w.frozen? ⟨b, 0, none⟩ = false),
   Calls P f #[.pointer (some ⟨b, 0, none⟩)] w fun e w' => e = .returned (.tuple #[]) ∧ w' = w.setCell ⟨b, 0, none⟩ (.pointer (some ⟨b, 0, none⟩)))
  (c1 : ∀ (b : Nat) (w : World) (_ : w.cell? ⟨b, 0, none⟩ = some (.pointer (some ⟨b, 0, none⟩))),
   Calls P f #[.pointer (some ⟨b, 0, none⟩)] w fun e w' => e = .returned (.tuple #[]) ∧ w' = w)
  (l R : Str) (hh : some l = some R) : BC P f [.box 1000 0 0] [.var T [.wF 1000 0, .row 1001 0 l.length], .bytes bt l] (.tup []) [.var T [.wF 1000 0, .row 1001 0 R.length], .bytes bt R] := by
 cases hh
 refine ⟨hc, ⟨rfl, by simp [Ent.wu, jO, PV.wu]⟩, fun H w ss vs hA hG hl hss hsep hents hr => ?_⟩
 obtain ⟨s0, s1, b, v0, v1, rfl, h1, h2, h3, rfl, h4, h5, h6, h7⟩ := ao9 (by simpa using hl) (fun s hs => (hss s hs).1) hents hr
 have hcell : w.cell? ⟨b, 0, none⟩ = some v0 := by simp [World.cell?, h3]
 rcases h4 with rfl | rfl
 ·refine (c0 b w hcell (by simp [World.shape?, h3]) (by simp [World.frozen?, h3])).mono ?_
  rintro e w' ⟨rfl, rfl⟩
  have hget := afO (i := 0) h3 (.pointer (some ⟨b, 0, none⟩))
  have hset : ∀ (a b c : Value), (#[a, b] : Array Value).setIfInBounds 0 c = #[c, b] := fun _ _ _ => rfl
  rw [hset] at hget
  have hne : ∀ c vs, H c = some vs → c ≠ b := fun c vs hc e => by rw [e, h2] at hc; cases hc
  have hg : ∀ s ∈ [s0, s1], s.gen = 0 ∧ ∀ c, s.block = some c → c < (w.setCell ⟨b, 0, none⟩ (.pointer (some ⟨b, 0, none⟩))).heap.size := fun s hs => by rw [acK]; exact hss s hs
  refine ⟨_, H, [s0, s1], rfl, fun _ _ h => h, fun c vs hc => ?_, fun c vs hc => .inl hc, ⟨by rw [acK]; exact Nat.le_refl _, fun c hc hn => ?_, rfl, rfl, rfl⟩, abW hg hsep, fun i s e hs he => ?_, .tup _ [] [] (.nil _)⟩
  ·obtain ⟨t, fr, ht⟩ := hA c vs hc
   exact ⟨t, fr, (JI _ (hne c vs hc)).trans ht⟩
  ·exact JI _ fun e => hn ⟨s0, by simp, by rw [e]; exact h1⟩
  ·match i, hs, he with
   | 0, hs, he =>
    cases hs
    cases he
    exact ⟨b, [_, v1], 0, h1, h2, hget, .cons _ _ _ _ _ (.wF _ _ _ _ rfl ⟨_, rfl⟩ (.inr fun s c hs _ hc => by
     have : s = s0 := by simpa [kE] using hs.symm
     subst this
     rw [h1] at hc
     cases hc
     rfl)) (.cons _ _ _ _ _ h6 (.nil _))⟩
   | 1, hs, he =>
    cases hs
    cases he
    exact h7.keep (fun _ _ h => h) (.refl _) fun c hc => ⟨JI _ fun e => by have := hsep 0 1 _ _ b rfl rfl h1 (by rw [← e]; exact hc); omega, fun h => h⟩
   | i + 2, hs, he => simp at hs
 ·refine (c1 b w hcell).mono ?_
  rintro e w' ⟨rfl, rfl⟩
  exact ⟨_, H, [s0, s1], rfl, fun _ _ h => h, hA, fun c vs hc => .inl hc, ⟨Nat.le_refl _, fun _ _ _ => rfl, rfl, rfl, rfl⟩, abW hss hsep, hents, .tup _ [] [] (.nil _)⟩
end Go.Proofs.YtclohbgnaopjfaaDoor
