/- Texts of the proof of stepBackCard -/
import Derived.Test.YtclohbgnaopjfaaDoorAgLib
import Derived.Shelf.Strings.Builder1
set_option linter.unusedVariables false
namespace Go.Proofs.YtclohbgnaopjfaaDoor
set_option linter.unusedSimpArgs false
set_option linter.unusedVariables false
open Go Go.RowKit Go.Shelf
section
variable {P : Program} {ρ : Ren}
set_option maxHeartbeats 1000000
set_option maxRecDepth 100000
theorem aja (L : Lays.n169 P ρ) (X : Builder.Extra P ρ) (b g cap : Nat) (p : Value) (cur : Array Value) (l : Str) (w : World) (h0 : l ≠ []) (hmax : l.length ≤ 9223372036854775807)
  (hbk : w.heap[b]? = some (.cells #[p, .slice (some ⟨g, 0, none⟩) l.length cap] (ρ.t 72) (0, 0))) (hg : w.heap[g]? = some (.cells cur (ρ.t 5) (0, 0))) (hle : l.length ≤ cap) (hcs : l.length ≤ cur.size)
  (hcell : ∀ (j : Nat) x, l[j]? = some x → cur[j]? = some (.int .u8 x.toNat)) :
  Calls P (ρ.f 169) #[.pointer (some ⟨b, 0, none⟩)] w fun e w' => e = .returned (.string ⟨l.toArray⟩) ∧ w' = w.drew.freeze ⟨g, 0, none⟩ l.length := by
 have hpos : 0 < l.length := List.length_pos_iff.2 h0
 have c1 : w.drew.cell? ⟨b, 1, none⟩ = some (.slice (some ⟨g, 0, none⟩) l.length cap) := by
  have : w.drew.heap[b]? = some (.cells #[p, .slice (some ⟨g, 0, none⟩) l.length cap] (ρ.t 72) (0, 0)) := hbk
  rw [Lib.cell_of_heap this]; rfl
 have hg' : w.drew.heap[g]? = some (.cells cur (ρ.t 5) (0, 0)) := hg
 have hSD : (Builtin.unsafeSliceData_ #[(ρ.t 37)] (ρ.t 127) #[.slice (some ⟨g, 0, none⟩) l.length cap]).run P w.drew = .ok (.pointer (some ⟨g, 0, none⟩)) w.drew :=
  Lib.run_unsafeSliceData_row _ _ _ _ _ _ (by omega)
 have hUS : (Builtin.unsafeString_ #[(ρ.t 127), (ρ.t 3)] (ρ.t 9) #[.pointer (some ⟨g, 0, none⟩), .int .i64 l.length]).run P w.drew = .ok (.string ⟨l.toArray⟩) (w.drew.freeze ⟨g, 0, none⟩ l.length) :=
  Lib.run_unsafeString_row w.drew (ρ.t 127) (ρ.t 3) (ρ.t 9) (ρ.t 5) L.t127 X.cellsByte g cur.size (by simp [World.shape?, hg']) l h0 hcs hmax (fun j x hx => by
   rw [addr_add, Nat.zero_add]
   simp only [World.cell?, hg']
   exact hcell j x hx)
 have mixed := L.mixed
 have t72 := L.t72; have a72 := L.a72; have z72 := L.z72; have v72 := L.v72; have u72 := run_underlying L.t72
 have t70 := L.t70; have a70 := L.a70; have z70 := L.z70; have v70 := L.v70; have u70 := run_underlying L.t70
 have t37 := L.t37; have a37 := L.a37; have z37 := L.z37; have v37 := L.v37; have u37 := run_underlying L.t37
 have t127 := L.t127; have a127 := L.a127; have z127 := L.z127; have v127 := L.v127; have u127 := run_underlying L.t127
 have t3 := L.t3; have a3 := L.a3; have z3 := L.z3; have v3 := L.v3; have u3 := run_underlying L.t3
 have t9 := L.t9; have a9 := L.a9; have z9 := L.z9; have v9 := L.v9; have u9 := run_underlying L.t9
 have t5 := X.t5; have a5 := X.a5; have z5 := X.z5; have v5 := X.v5; have u5 := run_underlying X.t5
 go_enter L.f169, Body.n169_ntmps ρ
 go_wp2
 go_region_o
 all_goals (go_wp2; go_ret; exact ⟨rfl, rfl⟩)
theorem als (L : Lays.n169 P ρ) (X : Builder.Extra P ρ) (b : Nat) (p : Value) (w : World) (hbk : w.heap[b]? = some (.cells #[p, .slice none 0 0] (ρ.t 72) (0, 0))) :
  Calls P (ρ.f 169) #[.pointer (some ⟨b, 0, none⟩)] w fun e w' => e = .returned (.string ⟨#[]⟩) ∧ w' = w.drew := by
 have hUS := fun (W : World) (q : Option Addr) => Lib.run_unsafeString_none (P := P) W (ρ.t 127) (ρ.t 3) (ρ.t 9) q
 have c1 : w.drew.cell? ⟨b, 1, none⟩ = some (.slice none 0 0) := by
  have : w.drew.heap[b]? = some (.cells #[p, .slice none 0 0] (ρ.t 72) (0, 0)) := hbk
  rw [Lib.cell_of_heap this]; rfl
 have hSD : (Builtin.unsafeSliceData_ #[(ρ.t 37)] (ρ.t 127) #[.slice none 0 0]).run P w.drew = .ok (.pointer none) w.drew := rfl
 have mixed := L.mixed
 have t72 := L.t72; have a72 := L.a72; have z72 := L.z72; have v72 := L.v72; have u72 := run_underlying L.t72
 have t70 := L.t70; have a70 := L.a70; have z70 := L.z70; have v70 := L.v70; have u70 := run_underlying L.t70
 have t37 := L.t37; have a37 := L.a37; have z37 := L.z37; have v37 := L.v37; have u37 := run_underlying L.t37
 have t127 := L.t127; have a127 := L.a127; have z127 := L.z127; have v127 := L.v127; have u127 := run_underlying L.t127
 have t3 := L.t3; have a3 := L.a3; have z3 := L.z3; have v3 := L.v3; have u3 := run_underlying L.t3
 have t9 := L.t9; have a9 := L.a9; have z9 := L.z9; have v9 := L.v9; have u9 := run_underlying L.t9
 have t5 := X.t5; have a5 := X.a5; have z5 := X.z5; have v5 := X.v5; have u5 := run_underlying X.t5
 go_enter L.f169, Body.n169_ntmps ρ
 go_wp2
 go_region_o
 all_goals (go_wp2; go_ret; exact ⟨rfl, rfl⟩)
theorem aiP (L : Lays.n169 P ρ) (X : Builder.Extra P ρ) (b g cap : Nat) (p : Value) (w : World) (hc0 : cap ≠ 0) (hbk : w.heap[b]? = some (.cells #[p, .slice (some ⟨g, 0, none⟩) 0 cap] (ρ.t 72) (0, 0))) :
  Calls P (ρ.f 169) #[.pointer (some ⟨b, 0, none⟩)] w fun e w' => e = .returned (.string ⟨#[]⟩) ∧ w' = w.drew := by
 have hUS := fun (W : World) (q : Option Addr) => Lib.run_unsafeString_none (P := P) W (ρ.t 127) (ρ.t 3) (ρ.t 9) q
 have c1 : w.drew.cell? ⟨b, 1, none⟩ = some (.slice (some ⟨g, 0, none⟩) 0 cap) := by
  have : w.drew.heap[b]? = some (.cells #[p, .slice (some ⟨g, 0, none⟩) 0 cap] (ρ.t 72) (0, 0)) := hbk
  rw [Lib.cell_of_heap this]; rfl
 have hSD : (Builtin.unsafeSliceData_ #[(ρ.t 37)] (ρ.t 127) #[.slice (some ⟨g, 0, none⟩) 0 cap]).run P w.drew = .ok (.pointer (some ⟨g, 0, none⟩)) w.drew :=
  Lib.run_unsafeSliceData_row _ _ _ _ _ _ hc0
 have mixed := L.mixed
 have t72 := L.t72; have a72 := L.a72; have z72 := L.z72; have v72 := L.v72; have u72 := run_underlying L.t72
 have t70 := L.t70; have a70 := L.a70; have z70 := L.z70; have v70 := L.v70; have u70 := run_underlying L.t70
 have t37 := L.t37; have a37 := L.a37; have z37 := L.z37; have v37 := L.v37; have u37 := run_underlying L.t37
 have t127 := L.t127; have a127 := L.a127; have z127 := L.z127; have v127 := L.v127; have u127 := run_underlying L.t127
 have t3 := L.t3; have a3 := L.a3; have z3 := L.z3; have v3 := L.v3; have u3 := run_underlying L.t3
 have t9 := L.t9; have a9 := L.a9; have z9 := L.z9; have v9 := L.v9; have u9 := run_underlying L.t9
 have t5 := X.t5; have a5 := X.a5; have z5 := X.z5; have v5 := X.v5; have u5 := run_underlying X.t5
 go_enter L.f169, Body.n169_ntmps ρ
 go_wp2
 go_region_o
 all_goals (go_wp2; go_ret; exact ⟨rfl, rfl⟩)
theorem agj (L : Lays.n169 P ρ) (X : Builder.Extra P ρ) (b g : Nat) (p : Value) (cur : Array Value) (e : Nat) (w : World) (hbk : w.heap[b]? = some (.cells #[p, .slice (some ⟨g, 0, none⟩) 0 0] (ρ.t 72) (0, 0))) (hg : w.heap[g]? = some (.cells cur e (0, 0))) :
  Calls P (ρ.f 169) #[.pointer (some ⟨b, 0, none⟩)] w fun e w' => e = .returned (.string ⟨#[]⟩) ∧ w' = w.drew.alloc (.view ⟨g, 0, none⟩ (ρ.t 5)) := by
 have hUS := fun (W : World) (q : Option Addr) => Lib.run_unsafeString_none (P := P) W (ρ.t 127) (ρ.t 3) (ρ.t 9) q
 have hlt : b < w.heap.size := (Array.getElem?_eq_some_iff.1 hbk).1
 have c1 : w.drew.cell? ⟨b, 1, none⟩ = some (.slice (some ⟨g, 0, none⟩) 0 0) := by
  have : w.drew.heap[b]? = some (.cells #[p, .slice (some ⟨g, 0, none⟩) 0 0] (ρ.t 72) (0, 0)) := hbk
  rw [Lib.cell_of_heap this]; rfl
 have hg' : w.drew.heap[g]? = some (.cells cur e (0, 0)) := hg
 have hSD : (Builtin.unsafeSliceData_ #[(ρ.t 37)] (ρ.t 127) #[.slice (some ⟨g, 0, none⟩) 0 0]).run P w.drew = .ok (.pointer (some ⟨w.drew.heap.size, 0, none⟩)) (w.drew.alloc (.view ⟨g, 0, none⟩ (ρ.t 5))) :=
  Lib.run_unsafeSliceData_zero w.drew _ _ (ρ.t 5) L.t127 ⟨g, 0, none⟩ 0 (e, cur.size) (by simp [World.shape?, hg'])
 have c2 : (w.drew.alloc (.view ⟨g, 0, none⟩ (ρ.t 5))).cell? ⟨b, 1, none⟩ = some (.slice (some ⟨g, 0, none⟩) 0 0) := by
  have : (w.drew.alloc (.view ⟨g, 0, none⟩ (ρ.t 5))).heap[b]? = _ := (Lib.alloc_old w.drew _ b hlt).trans hbk
  rw [Lib.cell_of_heap this]; rfl
 have c3 : (w.alloc (.view ⟨g, 0, none⟩ (ρ.t 5))).drew.cell? ⟨b, 1, none⟩ = some (.slice (some ⟨g, 0, none⟩) 0 0) := c2
 have c0 : w.cell? ⟨b, 1, none⟩ = some (.slice (some ⟨g, 0, none⟩) 0 0) := c1
 have mixed := L.mixed
 have t72 := L.t72; have a72 := L.a72; have z72 := L.z72; have v72 := L.v72; have u72 := run_underlying L.t72
 have t70 := L.t70; have a70 := L.a70; have z70 := L.z70; have v70 := L.v70; have u70 := run_underlying L.t70
 have t37 := L.t37; have a37 := L.a37; have z37 := L.z37; have v37 := L.v37; have u37 := run_underlying L.t37
 have t127 := L.t127; have a127 := L.a127; have z127 := L.z127; have v127 := L.v127; have u127 := run_underlying L.t127
 have t3 := L.t3; have a3 := L.a3; have z3 := L.z3; have v3 := L.v3; have u3 := run_underlying L.t3
 have t9 := L.t9; have a9 := L.a9; have z9 := L.z9; have v9 := L.v9; have u9 := run_underlying L.t9
 have t5 := X.t5; have a5 := X.a5; have z5 := X.z5; have v5 := X.v5; have u5 := run_underlying X.t5
 go_enter L.f169, Body.n169_ntmps ρ
 go_wp2
 go_region_o
 all_goals (go_wp2; go_ret; exact ⟨rfl, rfl⟩)
theorem akU {w : World} {a : Addr} {n j : Nat} (h : j ≠ a.block) : (w.freeze a n).heap[j]? = w.heap[j]? := by
 unfold World.freeze
 split
 ·rfl
 ·simp only [Array.getElem?_modify]
  rw [if_neg (fun e => h e.symm)]
theorem amf {w : World} {a : Addr} {n : Nat} : (w.freeze a n).heap.size = w.heap.size := by
 unfold World.freeze
 split
 ·rfl
 ·simp
theorem acA (L : Lays.n169 P ρ) (X : Builder.Extra P ρ) (hc : yO P (ρ.f 169)) (l : Str) (R : Str × Str) (hh : chk (l.length ≤ 9223372036854775807) (some (l, l)) = some R) :
  BC P (ρ.f 169) [.box 1000 0 0] [.var (ρ.t 72) [.wF 1000 0, .row 1001 0 l.length], .bytes (ρ.t 5) l] (.str R.1) [.var (ρ.t 72) [.wF 1000 0, .undef], .gone] := by
 obtain ⟨hmax, hR⟩ := z8 hh
 cases hR
 refine ⟨hc, ⟨rfl, by simp [Ent.wu, jO, PV.wu]⟩, fun H w ss vs hA hG hl hss hsep hents hr => ?_⟩
 obtain ⟨s0, s1, b, v0, v1, rfl, h1, h2, h3, rfl, h4, rfl, h6, h7⟩ := ao9 (by simpa using hl) (fun s hs => (hss s hs).1) hents hr
 have hblt : b < w.heap.size := (Array.getElem?_eq_some_iff.1 h3).1
 have fin : ∀ w' : World, w.heap.size ≤ w'.heap.size → (∀ c, c < w.heap.size → s1.block ≠ some c → w'.heap[c]? = w.heap[c]?) → w'.output = w.output → w'.os = w.os → w'.tape = w.tape →
   ∃ (v : Value) (H' : Imm) (ss' : List Slot), Ending.returned (.string ⟨l.toArray⟩) = .returned v ∧ Grow H H' ∧ Agree H' w' ∧ (∀ b c, H' b = some c → H b = some c ∨ w.heap.size ≤ b) ∧
    Ext (fun b => ∃ s ∈ [s0, s1], s.block = some b) w w' ∧ afE w.heap.size w' [.var (ρ.t 72) [.wF 1000 0, .undef], .gone] [s0, s1] ss' ∧
    (∀ (i : Nat) (s : Slot) (e : Ent), ss'[i]? = some s → [Ent.var (ρ.t 72) [.wF 1000 0, .undef], .gone][i]? = some e → qU H' (kE ss') w' s e) ∧ Yu H' w' w.heap.size v (.str l) := by
  intro w' f1 f2 f3 f4 f5
  have hne : s1.block ≠ some b := fun e => by have := hsep 0 1 _ _ b rfl rfl h1 e; omega
  have hH : ∀ c vs, H c = some vs → s1.block ≠ some c := by
   intro c vs hc e
   obtain ⟨_, _, h7⟩ := h7
   rcases h7 with ⟨h7, _⟩ | ⟨g, _, h7, h8, _⟩
   ·rw [h7] at e; cases e
   ·rw [h7] at e; cases e; rw [h8] at hc; cases hc
  refine ⟨_, H, [s0, s1], rfl, fun _ _ h => h, fun c vs hc => ?_, fun c vs hc => .inl hc, ⟨f1, fun c hc hn => f2 c hc fun e => hn ⟨s1, by simp, e⟩, f3, f4, f5⟩, abW (fun s hs => ⟨(hss s hs).1, fun c hc => Nat.lt_of_lt_of_le ((hss s hs).2 c hc) f1⟩) hsep, fun i s e hs he => ?_, .str _ l⟩
  ·obtain ⟨t, fr, ht⟩ := hA c vs hc
   exact ⟨t, fr, (f2 c (Array.getElem?_eq_some_iff.1 ht).1 (hH c vs hc)).trans ht⟩
  ·match i, hs, he with
   | 0, hs, he =>
    cases hs
    cases he
    exact ⟨b, [v0, _], 0, h1, h2, (f2 b hblt hne).trans h3, .cons _ _ _ _ _ (.wF _ _ _ _ rfl (by rcases h4 with rfl | rfl <;> exact ⟨_, rfl⟩) (h4.imp id fun h4 s c hs _ hc => by
     have : s = s0 := by simpa [kE] using hs.symm
     subst this
     rw [h1] at hc
     cases hc
     exact h4)) (.cons _ _ _ _ _ (.undef _ _) (.nil _))⟩
   | 1, hs, he =>
    cases he
    trivial
   | i + 2, hs, he => simp at hs
 obtain ⟨_, h8, h9⟩ := h7
 rcases h9 with ⟨q1, q2⟩ | ⟨g, rest, q1, q2, q3, q4⟩
 ·have hl0 : l = [] := List.eq_nil_of_length_eq_zero (by omega)
  subst hl0
  rw [q1, q2] at h3
  refine (als L X b v0 w h3).mono ?_
  rintro e w' ⟨rfl, rfl⟩
  exact fin _ (Nat.le_refl _) (fun _ _ _ => rfl) rfl rfl rfl
 ·rw [q1] at h3
  by_cases h0 : l = []
  ·subst h0
   by_cases hcap : s1.cap = 0
   ·rw [hcap] at h3
    refine (agj L X b g v0 _ _ w h3 q3).mono ?_
    rintro e w' ⟨rfl, rfl⟩
    exact fin _ (by show w.heap.size ≤ (w.heap.push _).size; rw [Array.size_push]; omega) (fun c hc _ => Lib.alloc_old w.drew _ c hc) rfl rfl rfl
   ·refine (aiP L X b g s1.cap v0 w hcap h3).mono ?_
    rintro e w' ⟨rfl, rfl⟩
    exact fin _ (Nat.le_refl _) (fun _ _ _ => rfl) rfl rfl rfl
  ·refine (aja L X b g s1.cap v0 _ l w h0 hmax h3 q3 h8 (by simp) (fun j x hx => ?_)).mono ?_
   ·have hj : j < (l.map fun c => Value.int .u8 c.toNat).length := by simpa using xV hx
    rw [show ((l.map fun c => Value.int .u8 c.toNat) ++ rest).toArray[j]? = ((l.map fun c => Value.int .u8 c.toNat) ++ rest)[j]? by simp, List.getElem?_append_left hj]
    simp [hx]
   ·rintro e w' ⟨rfl, rfl⟩
    refine fin _ (by rw [amf]; exact Nat.le_refl _) (fun c hc hn => akU fun e => hn (by rw [q1, e])) ?_ ?_ ?_ <;> (unfold World.freeze; split <;> rfl)
end
end Go.Proofs.YtclohbgnaopjfaaDoor
