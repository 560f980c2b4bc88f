/- Texts of the proof of diffChainCard -/
import Derived.Test.YtclohbgnaopjfaaDoorAgLib
import Derived.Shelf.Spec.SlicesInsert
import Derived.Shelf.Spec.SlicesInsertGrow
import Derived.Shelf.Slices.Delete
import Derived.Shelf.Spec.SearchS
import Derived.Shelf.Slices.Clone
namespace Go.Proofs.YtclohbgnaopjfaaDoor
set_option linter.unusedSimpArgs false
set_option linter.unusedVariables false
open Go Go.RowKit Go.Shelf
variable {P : Program} {ρ : Ren}
abbrev qP (s : Str) : Value := .string (ba s)
def Jh (w : World) (n0 : Nat) (v : Value) (l : List Str) : Prop :=
 (l = [] ∧ v = .slice none 0 0) ∨ ∃ b cap rest t, n0 ≤ b ∧ v = .slice (some ⟨b, 0, none⟩) l.length cap ∧ w.heap[b]? = some (.cells ((l.map qP ++ rest).toArray) t (0, 0)) ∧ rest.length = cap - l.length ∧ l.length ≤ cap ∧ cap ≤ 9223372036854775807
def VL (l : List Str) (i : Nat) (s : Str) : List Str := l.take i ++ s :: l.drop i
def aeq (l : List Str) (i : Nat) : List Str := l.take i ++ l.drop (i + 1)
theorem aiE (l : List Str) : ∀ v ∈ l.map qP, v.oneCell' = true := by
 intro v hv
 obtain ⟨s, _, rfl⟩ := List.mem_map.1 hv
 rfl
theorem aai {w : World} {b t : Nat} {fz : Nat × Nat} {cs : List Value} (h : w.heap[b]? = some (.cells cs.toArray t fz)) (j : Nat) : w.cell? ⟨b, j, none⟩ = cs[j]? := by
 simp only [World.cell?, h]
 simp
theorem VS {w : World} {b t : Nat} {cs : Array Value} (h : w.heap[b]? = some (.cells cs t (0, 0))) (j : Nat) : w.frozen? ⟨b, j, none⟩ = false := by
 simp [World.frozen?, h]
theorem akF (L : Lays2.n16 P ρ) {H : Imm} {w : World} {v : Value} {l : List Str} (hA : Agree H w) (h : Rep H Lay.none v (.list 1 (l.map PV.str))) (hb : l.length * 16 ≤ 140737488355328) :
  Calls P (ρ.f 16) #[v] w fun e w' => ∃ v', e = .returned v' ∧ Jh w' w.heap.size v' l ∧ Below w.heap.size w w' := by
 have own : ∀ {w' : World} {v' : Value} {n : Nat}, n = l.length → w'.ownsRow w.heap.size (ρ.t 9) 1 v' n (l.map qP) → Jh w' w.heap.size v' l := by
  rintro w' v' n rfl ⟨h1, h2⟩
  rcases h2 with ⟨rfl, h3⟩ | ⟨g, cap, cur, rfl, h4, h5, h6, h7, h8, h9⟩
  ·exact .inl ⟨List.eq_nil_of_length_eq_zero h3, rfl⟩
  ·refine .inr ⟨g, cap, cur.toList.drop l.length, ρ.t 9, h4, rfl, ?_, ?_, h6, by simpa [maxLen] using h7⟩
   ·rw [Nat.mul_one] at h9
    rw [← h9, List.take_append_drop]
    exact h5
   ·rw [List.length_drop, Array.length_toList, h8, Nat.mul_one]
 rcases amY hA h with ⟨rfl, a, c, rfl⟩ | ⟨b, o, c, rfl, k1, k2, k3⟩
 ·cases a with
  | none =>
   refine (Any.slices_Clone_string_nil L 0 c w).mono ?_
   rintro e w' ⟨rfl, rfl⟩
   exact ⟨_, rfl, .inl ⟨rfl, rfl⟩, .refl _ _⟩
  | some a =>
   refine (Any.slices_Clone_string_zero L a c w).mono ?_
   rintro e w' ⟨v', rfl, h1, _, h3⟩
   exact ⟨v', rfl, own rfl h1, h3⟩
 ·refine (Any.slices_Clone_string L b o (l.map ba).length c (l.map ba) w (Nat.le_refl _) (by simpa using hb) fun j hj => ?_).mono ?_
  ·have : (l.map ba)[j]? = some ((l.map ba).getD j ByteArray.empty) := by
    rw [List.getD_eq_getElem?_getD, List.getElem?_eq_getElem hj]
    rfl
   exact k3 j _ this
  ·rintro e w' ⟨v', rfl, h1, _, h3⟩
   refine ⟨v', rfl, own (n := (l.map ba).length) (List.length_map ..) ?_, h3⟩
   rw [List.take_length, List.map_map] at h1
   exact h1
def afi (c : Array Value) : Nat → List Value → Array Value
 | _, [] => c
 | o, v :: r => afi (c.setIfInBounds o v) (o + 1) r
theorem Vz : ∀ (vs : List Value) (c : Array Value) (o : Nat), o + vs.length ≤ c.size → (afi c o vs).toList = c.toList.take o ++ vs ++ c.toList.drop (o + vs.length)
 | [], c, o, _ => by simp [afi]
 | v :: r, c, o, h => by
  simp only [List.length_cons] at h
  rw [afi, Vz r _ _ (by simp; omega)]
  have hl : o < c.toList.length := by simp; omega
  rw [Array.toList_setIfInBounds, List.take_set, List.drop_set_of_lt (by omega)]
  have e1 : (List.take (o + 1) c.toList).set o v = c.toList.take o ++ [v] := by
   rw [List.take_add_one, List.getElem?_eq_getElem hl, List.set_append]
   simp [Nat.min_eq_left (Nat.le_of_lt (by simpa using hl))]
  rw [e1, List.length_cons]
  have e2 : o + 1 + r.length = o + (r.length + 1) := by omega
  rw [e2]
  simp
theorem yJ (b : Nat) : ∀ (vs : List Value) (o : Nat) (w : World) {c : Array Value} {t : Nat} {fz : Nat × Nat}, w.heap[b]? = some (.cells c t fz) → (w.setCells b o vs).heap[b]? = some (.cells (afi c o vs) t fz)
 | [], _, _, _, _, _, h => h
 | v :: r, o, w, c, t, fz, h => by
  rw [World.setCells, afi]
  exact yJ b r (o + 1) _ (anA h v)
theorem xX {n0 : Nat} (b : Nat) (hb : n0 ≤ b) : ∀ (vs : List Value) (o : Nat) {a w : World}, Below n0 a w → Below n0 a (w.setCells b o vs)
 | [], _, _, _, h => h
 | v :: r, o, _, _, h => xX b hb r (o + 1) (h.setCell hb v)
theorem apn (L : Lays2.n22 P ρ) {n0 : Nat} {w : World} {v : Value} {l : List Str} {s : Str} {i vb vc t2 : Nat} (hr : Jh w n0 v l) (hi : i ≤ l.length) (hb : (l.length + 1) * 16 ≤ 140737488355328) (hn0 : n0 ≤ w.heap.size)
  (hv : w.heap[vb]? = some (.cells #[qP s] t2 (0, 0))) (hne : ∀ a n c, v = .slice (some a) n c → a.block ≠ vb) :
  Calls P (ρ.f 22) #[v, .int .i64 i, .slice (some ⟨vb, 0, none⟩) 1 vc] w fun e w' => ∃ v', e = .returned v' ∧ Jh w' n0 v' (VL l i s) ∧ Below n0 w w' := by
 have hvs : ∀ (j : Nat) (u : Value), [qP s][j]? = some u → w.cell? ⟨vb, 0 + j, none⟩ = some u := fun j u hj => by
  have hv' : w.heap[vb]? = some (.cells [qP s].toArray t2 (0, 0)) := hv
  rw [Nat.zero_add, aai hv' j, hj]
 have h1v : ∀ u ∈ [qP s], u.oneCell' = true := by simp [Value.oneCell']
 have zs : ∀ n, (Builtin.zeroCells (Value.string ⟨#[]⟩).cells n).size = n := fun n => by simp [Builtin.zeroCells, Value.cells]
 have gle : ∀ (need old : Nat) (w : World), need ≤ 140737488355328 → grownCap w need old (ρ.t 9) ≤ 9223372036854775807 := fun need old w h => by
  have := grownCap_le_maxLen w need old (ρ.t 9) (by unfold maxLen; omega)
  simpa [maxLen] using this
 have new : ∀ {w' : World} {cs : List Value} {z : Array Value} {l' : List Str} {b cap t : Nat}, n0 ≤ b → w'.heap[b]? = some (.cells (cs.toArray ++ z) t (0, 0)) → cs = l'.map qP → z.size = cap - l'.length → l'.length ≤ cap → cap ≤ 9223372036854775807 → Jh w' n0 (.slice (some ⟨b, 0, none⟩) l'.length cap) l' := by
  intro w' cs z l' b cap t h0 h1 h2 h3 h4 h5
  refine .inr ⟨b, cap, z.toList, t, h0, rfl, ?_, by simpa using h3, h4, h5⟩
  rw [h1, h2]
  congr 2
  apply Array.ext'
  simp
 rcases hr with ⟨rfl, rfl⟩ | ⟨b, cap, rest, t, h1, rfl, h2, h3, h4, h5⟩
 ·have hi0 : i = 0 := by simpa using hi
  subst hi0
  refine (Any2.slices_Insert_string_end_grow L none 0 0 vb 0 1 vc [] [qP s] w (by omega) (by omega) (by omega) (by omega) rfl rfl (fun _ => rfl) (fun a ha => by cases ha) hvs h1v).mono ?_
  rintro e w' ⟨rfl, rfl⟩
  have hg := grownCap_ge w (0 + 1) 0 (ρ.t 9)
  refine ⟨_, rfl, ?_, ((Below.refl n0 w).drew).alloc (show n0 ≤ w.drew.heap.size from hn0) _⟩
  refine new (l' := VL [] 0 s) (cs := [qP s]) (b := w.heap.size) (t := ρ.t 9) hn0 ?_ rfl (zs _) (by simpa [VL] using hg) (gle _ _ _ (by omega))
  show (w.drew.heap.push _)[w.heap.size]? = _
  have : w.drew.heap.size = w.heap.size := rfl
  rw [← this, Array.getElem?_push_size]
  simp
  rfl
 ·have hcs : ∀ (j : Nat) (u : Value), (l.map qP)[j]? = some u → w.cell? ⟨b, 0 + j, none⟩ = some u := fun j u hj => by
   rw [Nat.zero_add, aai h2 j, List.getElem?_append_left ((List.getElem?_eq_some_iff.1 hj).1), hj]
  have hvb : vb ≠ b := fun e => hne _ _ _ rfl e.symm
  have hcl : (l.map qP).length = l.length := by simp
  by_cases hroom : l.length + 1 ≤ cap
  ·have hsp : ∀ j, j < l.length + 1 → (w.cell? ⟨b, 0 + j, none⟩).isSome = true := fun j hj => by
    rw [Nat.zero_add, aai h2 j, List.getElem?_eq_getElem (by simp; omega)]
    rfl
   have hfz : ∀ j, j < l.length + 1 → w.frozen? ⟨b, 0 + j, none⟩ = false := fun j _ => VS h2 _
   by_cases hin : i < l.length
   ·refine (Any2.slices_Insert_string_shift L b 0 l.length cap i vb 0 1 vc (l.map qP) [qP s] w hin (by omega) hroom h5 hvb hcl rfl hcs hsp hfz hvs (aiE l) h1v t2 t 1 (l.map qP ++ rest).length (by simp [World.shape?, hv]) (by simp [World.shape?, h2]) (by rw [List.length_append, List.length_map]; omega) (VS hv _) (VS hv _)).mono ?_
    rintro e w' ⟨rfl, rfl⟩
    have g1 := yJ b ((l.map qP).drop i) (0 + (i + 1)) w.drew (c := (l.map qP ++ rest).toArray) h2
    have g2 := yJ b [qP s] (0 + i) _ g1
    refine ⟨_, rfl, ?_, xX b h1 _ _ (xX b h1 _ _ (Below.refl n0 w).drew)⟩
    have hl' : l.length + 1 = (VL l i s).length := by simp [VL]; omega
    rw [hl']
    refine .inr ⟨b, cap, rest.drop 1, t, h1, rfl, ?_, by rw [← hl']; simp [h3]; omega, by rw [← hl']; omega, h5⟩
    rw [g2]
    congr 2
    apply Array.ext'
    have sz1 : 0 + (i + 1) + ((l.map qP).drop i).length ≤ (l.map qP ++ rest).toArray.size := by simp; omega
    have q1 := Vz ((l.map qP).drop i) (l.map qP ++ rest).toArray (0 + (i + 1)) sz1
    have szp : (afi (l.map qP ++ rest).toArray (0 + (i + 1)) ((l.map qP).drop i)).toList.length = (l.map qP ++ rest).length := by
     rw [q1]; simp; omega
    rw [Vz [qP s] _ (0 + i) (by rw [← Array.length_toList, szp]; simp; omega), q1]
    have e1 : 0 + (i + 1) + ((l.map qP).drop i).length = (l.map qP).length + 1 := by simp; omega
    have e2 : (List.take (0 + (i + 1)) (l.map qP ++ rest).toArray.toList) = (l.map qP).take i ++ ((l.map qP).drop i).take 1 := by
     rw [List.take_append_of_le_length (by simp; omega)]
     have := List.take_add (l := l.map qP) (i := i) (j := 1)
     simpa using this
    rw [e1, e2]
    have e3 : ((l.map qP).take i).length = i := by simp; omega
    have e4 : (((l.map qP).drop i).take 1).length = 1 := by simp; omega
    simp only [List.append_assoc, Nat.zero_add, List.length_cons, List.length_nil]
    rw [List.take_append_of_le_length (by omega), List.take_of_length_le (by omega)]
    rw [show i + 1 = ((l.map qP).take i).length + (((l.map qP).drop i).take 1).length by omega, ← List.drop_drop, List.drop_left, List.drop_left]
    simp [VL, List.drop_append, List.drop_eq_nil_of_le]
   ·have hie : i = l.length := by omega
    subst hie
    refine (Any2.slices_Insert_string_end_room L b 0 l.length cap vb 0 1 vc [qP s] w (by omega) hroom h5 rfl (fun j hj => by
     have := hsp (l.length + j) (by omega)
     rwa [show (0 + (l.length + j)) = 0 + l.length + j by omega] at this) (fun j hj => VS h2 _) hvs h1v).mono ?_
    rintro e w' ⟨rfl, rfl⟩
    have g1 := yJ b [qP s] (0 + l.length) w (c := (l.map qP ++ rest).toArray) h2
    refine ⟨_, rfl, ?_, xX b h1 _ _ (Below.refl n0 w)⟩
    have hl' : l.length + 1 = (VL l l.length s).length := by simp [VL]
    rw [hl']
    refine .inr ⟨b, cap, rest.drop 1, t, h1, rfl, ?_, by rw [← hl']; simp [h3]; omega, by rw [← hl']; omega, h5⟩
    rw [g1]
    congr 2
    apply Array.ext'
    rw [Vz [qP s] _ (0 + l.length) (by simp; omega)]
    simp [VL, List.drop_append, List.drop_eq_nil_of_le]
  ·have hl' : l.length + 1 = (VL l i s).length := by simp [VL]; omega
   have hg := grownCap_ge w (l.length + 1) cap (ρ.t 9)
   by_cases hin : i < l.length
   ·refine (Any2.slices_Insert_string_grow L b 0 l.length cap i vb 0 1 vc (l.map qP) [qP s] w hin (by omega) h4 (by omega) hb hcl rfl hcs hvs (aiE l) h1v).mono ?_
    rintro e w' ⟨rfl, rfl⟩
    obtain ⟨G, hG⟩ : ∃ G, grownCap w (l.length + 1) cap (ρ.t 9) = G := ⟨_, rfl⟩
    have hGl := gle (l.length + 1) cap w (by omega)
    rw [hG] at hg hGl ⊢
    obtain ⟨c0, hc0⟩ : ∃ c0, ((l.map qP).take i).toArray ++ Builtin.zeroCells (Value.string ⟨#[]⟩).cells (l.length + 1 - i) ++ Builtin.zeroCells (Value.string ⟨#[]⟩).cells (G - (l.length + 1)) = c0 := ⟨_, rfl⟩
    rw [hc0]
    have hc0l : c0.toList = (l.map qP).take i ++ (Builtin.zeroCells (Value.string ⟨#[]⟩).cells (l.length + 1 - i)).toList ++ (Builtin.zeroCells (Value.string ⟨#[]⟩).cells (G - (l.length + 1))).toList := by rw [← hc0]; simp
    have zl : ∀ n, (Builtin.zeroCells (Value.string ⟨#[]⟩).cells n).toList.length = n := fun n => by rw [Array.length_toList, zs]
    have hc0s : c0.size = G := by rw [← Array.length_toList, hc0l]; simp only [List.length_append, List.length_take, List.length_map, zl]; omega
    have g0 : (w.alloc (.cells c0 (ρ.t 9))).drew.heap[w.heap.size]? = some (.cells c0 (ρ.t 9) (0, 0)) := by
     show (w.heap.push _)[w.heap.size]? = _
     rw [Array.getElem?_push_size]
    have g1 := yJ w.heap.size [qP s] i _ g0
    have g2 := yJ w.heap.size ((l.map qP).drop i) (i + 1) (((w.alloc (.cells c0 (ρ.t 9))).drew.setCells w.heap.size i [qP s]).drew) g1
    refine ⟨_, rfl, ?_, xX _ hn0 _ _ ((xX _ hn0 _ _ ((Below.refl n0 w).alloc hn0 _).drew).drew)⟩
    rw [hl']
    have p1 := Vz [qP s] c0 i (by simp; omega)
    have szp : (afi c0 i [qP s]).size = G := by rw [← Array.length_toList, p1]; simp [hc0s]; omega
    have p2 := Vz ((l.map qP).drop i) (afi c0 i [qP s]) (i + 1) (by rw [szp]; simp; omega)
    refine .inr ⟨w.heap.size, G, (afi (afi c0 i [qP s]) (i + 1) ((l.map qP).drop i)).toList.drop (l.length + 1), ρ.t 9, hn0, rfl, ?_, ?_, by omega, hGl⟩
    ·rw [g2]
     congr 2
     apply Array.ext'
     have e : (VL l i s).map qP = (afi (afi c0 i [qP s]) (i + 1) ((l.map qP).drop i)).toList.take (l.length + 1) := by
      rw [p2, p1, hc0l]
      have e3 : ((l.map qP).take i).length = i := by simp; omega
      have t1 : List.take i ((l.map qP).take i ++ (Builtin.zeroCells (Value.string ⟨#[]⟩).cells (l.length + 1 - i)).toList ++ (Builtin.zeroCells (Value.string ⟨#[]⟩).cells (G - (l.length + 1))).toList) = (l.map qP).take i := by
       rw [List.append_assoc, List.take_append_of_le_length (by omega), List.take_of_length_le (by omega)]
      rw [t1]
      have t2 : List.take (i + 1) ((l.map qP).take i ++ [qP s] ++ List.drop (i + [qP s].length) ((l.map qP).take i ++ (Builtin.zeroCells (Value.string ⟨#[]⟩).cells (l.length + 1 - i)).toList ++ (Builtin.zeroCells (Value.string ⟨#[]⟩).cells (G - (l.length + 1))).toList)) = (l.map qP).take i ++ [qP s] := by
       rw [List.take_append_of_le_length (by simp; omega), List.take_of_length_le (by simp; omega)]
      rw [t2, List.take_append_of_le_length (by simp; omega), List.take_of_length_le (by simp; omega)]
      simp [VL]
     rw [e]
     simp [List.take_append_drop]
    ·rw [List.length_drop, p2, List.length_append, List.length_append, List.length_take, List.length_drop, Array.length_toList, szp, ← hl']
     simp; omega
   ·have hie : i = l.length := by omega
    subst hie
    refine (Any2.slices_Insert_string_end_grow L (some ⟨b, 0, none⟩) l.length cap vb 0 1 vc (l.map qP) [qP s] w (by omega) h4 (by omega) hb hcl rfl (fun h => by cases h) (fun a ha j u hj => by
     cases ha
     rw [Addr.add_lit]
     exact hcs j u hj) hvs h1v).mono ?_
    rintro e w' ⟨rfl, rfl⟩
    refine ⟨_, rfl, ?_, ((Below.refl n0 w).drew).alloc (show n0 ≤ w.drew.heap.size from hn0) _⟩
    rw [hl']
    refine new (cs := l.map qP ++ [qP s]) (b := w.heap.size) (t := ρ.t 9) hn0 ?_ (by simp [VL]) (by rw [zs, ← hl']) (by rw [← hl']; exact hg) (gle _ _ _ (by omega))
    show (w.drew.heap.push _)[w.heap.size]? = _
    have : w.drew.heap.size = w.heap.size := rfl
    rw [← this, Array.getElem?_push_size, hl']
theorem ajD (d : Array (List UInt8)) (c : Array Value) (h : d.size ≤ c.size) : (Sort.putCells encStr 0 d c).toList = d.toList.map encStr ++ c.toList.drop d.size := by
 apply List.ext_getElem?
 intro k
 unfold Sort.putCells
 rw [Array.getElem?_toList, Array.getElem?_mapIdx]
 by_cases hk : k < d.size
 ·rw [List.getElem?_append_left (by simpa using hk), List.getElem?_map, Array.getElem?_toList, Array.getElem?_eq_getElem (show k < c.size by omega), Array.getElem?_eq_getElem hk]
  simp [hk]
 ·rw [List.getElem?_append_right (by simpa using hk), List.getElem?_drop, Array.getElem?_toList]
  have e : d.size + (k - (d.toList.map encStr).length) = k := by simp; omega
  rw [e]
  cases c[k]? with
  | none => rfl
  | some x => simp [hk]
theorem apy (L : Lays2.n24 P ρ) {n0 : Nat} {w : World} {v : Value} {l : List Str} {i : Nat} (hr : Jh w n0 v l) (hi : i < l.length) :
  Calls P (ρ.f 24) #[v, .int .i64 i, .int .i64 ((i + 1 : Nat) : Int)] w fun e w' => ∃ v', e = .returned v' ∧ Jh w' n0 v' (aeq l i) ∧ Below n0 w w' := by
 rcases hr with ⟨rfl, rfl⟩ | ⟨b, cap, rest, t, h1, rfl, h2, h3, h4, h5⟩
 ·simp at hi
 ·have hH : Sort.Holds encStr w b 0 l.toArray := by
   intro j hj
   have hj' : j < l.length := by simpa using hj
   refine ⟨?_, VS h2 _⟩
   rw [Nat.zero_add, aai h2 j, List.getElem?_append_left (by simpa using hj'), List.getElem?_map, List.getElem?_eq_getElem hj']
   simp [hj']
  refine (Any.slices_Delete_string L b 0 cap i (i + 1) l w hH h4 h5 (by omega) (by omega)).mono ?_
  rintro e w' ⟨rfl, q, rfl⟩
  have hd : (aeq l i).length = l.length - 1 := by simp [aeq]; omega
  have el : l.length - (i + 1 - i) = (aeq l i).length := by rw [hd]; omega
  have en : i + 1 - i = 1 := by omega
  rw [el, en]
  obtain ⟨d, hde⟩ : ∃ d, (l.take i ++ l.drop (i + 1) ++ List.replicate 1 ([] : List UInt8)).toArray = d := ⟨_, rfl⟩
  have hds : d.toList = aeq l i ++ [[]] := by rw [← hde]; rfl
  have hdz : d.size = l.length := by rw [← Array.length_toList, hds]; simp [hd]; omega
  rw [hde]
  have hh : (Sort.putRow encStr (Sort.ahead w q) b 0 d).heap[b]? = some (.cells (Sort.putCells encStr 0 d (l.map qP ++ rest).toArray) t (0, 0)) := by
   show ((Sort.ahead w q).heap.modify b _)[b]? = _
   rw [Array.getElem?_modify, if_pos rfl]
   show Option.map _ (w.heap[b]?) = _
   rw [h2]
   rfl
  refine ⟨_, rfl, .inr ⟨b, cap, qP [] :: rest, t, h1, rfl, ?_, ?_, by omega, h5⟩, ⟨rfl, rfl, rfl, ?_, fun k hk => ?_⟩⟩
  ·rw [hh]
   congr 2
   apply Array.ext'
   rw [ajD d _ (by rw [hdz]; simp), hds, hdz]
   simp [List.drop_append, List.drop_eq_nil_of_le]
  ·rw [List.length_cons, h3, hd]; omega
  ·show w.heap.size ≤ ((Sort.ahead w q).heap.modify b _).size
   rw [Array.size_modify]
   exact Nat.le_refl _
  ·show ((Sort.ahead w q).heap.modify b _)[k]? = _
   rw [Array.getElem?_modify, if_neg (by omega)]
   rfl
def bsI (l : List Str) (x : Str) : Nat := Lib.bsGo (fun t => Op.bytesLess (l.getD t []) x) l.length 0 l.length
theorem acP (L : Lays2.n26 P ρ) {H : Imm} {w : World} {v : Value} {l : List Str} {x : Str} (hA : Agree H w) (h : Rep H Lay.none v (.list 1 (l.map PV.str))) (hb : l.length < 4611686018427387904) :
  Calls P (ρ.f 26) #[v, qP x] w fun e w' => e = .returned (.tuple #[.int .i64 (bsI l x : Nat), .bool (decide (bsI l x < l.length ∧ l.getD (bsI l x) [] = x))]) ∧ ∃ q, w' = w.drewN q := by
 rcases amY hA h with ⟨rfl, a, c, rfl⟩ | ⟨b, o, c, rfl, k1, k2, k3⟩
 ·refine (Any2.slices_BinarySearch_string_empty L a c (ba x) w).mono ?_
  rintro e w' ⟨rfl, rfl⟩
  exact ⟨rfl, 0, rfl⟩
 ·have hlen : (l.map ba).length = l.length := List.length_map ..
  rw [hlen] at *
  refine (Any2.slices_BinarySearch_string L b o l.length c (fun t => ba (l.getD t [])) (ba x) w hb fun j hj => ?_).mono ?_
  ·refine k3 j _ ?_
   rw [List.getElem?_map, List.getElem?_eq_getElem hj, List.getD_eq_getElem?_getD, List.getElem?_eq_getElem hj]
   rfl
  ·rintro e w' ⟨rfl, q, rfl⟩
   refine ⟨?_, q, rfl⟩
   have e1 : ∀ s : Str, (ba s).toList = s := fun s => by simp [ByteArray.toList_eq]
   have e2 : ∀ s t : Str, (ba s = ba t) = (s = t) := fun s t => propext ⟨fun h => by have := congrArg (fun x : ByteArray => x.data.toList) h; simpa using this, fun h => by rw [h]⟩
   unfold bsI
   simp only [e1, e2]
end Go.Proofs.YtclohbgnaopjfaaDoor
