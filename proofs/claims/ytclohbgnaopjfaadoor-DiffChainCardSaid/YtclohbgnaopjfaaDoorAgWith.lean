/- Texts of the proof of diffChainCard -/
import Derived.Test.YtclohbgnaopjfaaDoorAgRows
import Derived.Test.YtclohbgnaopjfaaDoorAgL
import Derived.Test.YtclohbgnaopjfaaDoorAgT
namespace Go.Proofs.YtclohbgnaopjfaaDoor
set_option linter.unusedSimpArgs false
set_option linter.unusedVariables false
open Go Go.RowKit Go.Shelf
set_option maxRecDepth 100000
def QM (kind : Int) (name : Str) (marks : List Str) : List Str × Bool :=
 if decide (bsI marks name < marks.length ∧ marks.getD (bsI marks name) [] = name) = decide (kind = 109) then (marks, false)
 else if decide (bsI marks name < marks.length ∧ marks.getD (bsI marks name) [] = name) = true then (aeq marks (bsI marks name), true)
 else (VL marks (bsI marks name) name, true)
theorem Qt {H : Imm} {w : World} (h : Agree H w) (o : Obj) : Agree H (w.alloc o) := h.quiet (Quiet.alloc _ _)
theorem Qp {w : World} (o : Obj) (q : Nat) : Below w.heap.size w ((w.alloc o).drewN q) :=
 have h := (Below.refl w.heap.size w).alloc (Nat.le_refl _) o
 ⟨h.os, h.tape, h.output, h.size, h.block⟩
theorem Jh.low {w : World} {n m : Nat} {v : Value} {l : List Str} (h : Jh w n v l) (hm : m ≤ n) : Jh w m v l := by
 rcases h with h | ⟨b, cap, rest, t, h1, h2⟩
 ·exact .inl h
 ·exact .inr ⟨b, cap, rest, t, by omega, h2⟩
theorem alE (less : Nat → Bool) (n : Nat) : ∀ (f lo hi : Nat), lo ≤ n → hi ≤ n → Lib.bsGo less f lo hi ≤ n
 | 0, lo, hi, h, _ => by rw [Lib.bsGo]; exact h
 | f + 1, lo, hi, h, h2 => by
  rw [Lib.bsGo]
  split
  ·split
   ·exact alE less n f _ _ (by omega) (by omega)
   ·exact alE less n f _ _ (by omega) (by omega)
  ·exact h
theorem axv (l : List Str) (x : Str) : bsI l x ≤ l.length := alE _ _ _ _ _ (by omega) (by omega)
structure axa (n0 : Nat) (w V : World) (v : Value) (l : List Str) (vb : Nat) (x : Value) : Prop where
 row : Jh V n0 v l
 hv : ∃ t2, V.heap[vb]? = some (.cells #[x] t2 (0, 0))
 ne : ∀ a n c, v = .slice (some a) n c → a.block ≠ vb
 sz : n0 ≤ V.heap.size
 below : Below n0 w V
theorem azu {n0 t : Nat} {w V w2 : World} {v : Value} {l : List Str} {x : Value} (hB : Below n0 w V) (hs : n0 ≤ V.heap.size) (hr : Jh w2 V.heap.size v l) (hb : Below V.heap.size V w2) : axa n0 w (w2.alloc (.cells #[x] t)) v l w2.heap.size x := by
 have h1 := hb.size
 have h2 : Below n0 w w2 := hB.trans (hb.mono hs)
 refine ⟨?_, ⟨t, ?_⟩, ?_, ?_, h2.alloc (by omega) _⟩
 ·rcases hr with h | ⟨b, cap, rest, t, h3, h4, h5, h6⟩
  ·exact .inl h
  ·refine .inr ⟨b, cap, rest, t, by omega, h4, ?_, h6⟩
   have : b < w2.heap.size := (Array.getElem?_eq_some_iff.1 h5).1
   show (w2.heap.push _)[b]? = _
   rw [Array.getElem?_push, if_neg (by omega)]
   exact h5
 ·show (w2.heap.push _)[w2.heap.size]? = _
  rw [Array.getElem?_push_size]
 ·rcases hr with ⟨_, h⟩ | ⟨b, cap, rest, t, h3, h4, h5, h6⟩
  ·intro a n c e
   rw [h] at e
   cases e
  ·intro a n c e
   rw [h4] at e
   cases e
   have : b < w2.heap.size := (Array.getElem?_eq_some_iff.1 h5).1
   show b ≠ w2.heap.size
   omega
 ·show n0 ≤ (w2.heap.push _).size
  rw [Array.size_push]; omega
theorem azr {n0 t vb : Nat} {w V w2 : World} {v : Value} {l : List Str} {x : Value} (hB : Below n0 w V) (hs : n0 ≤ V.heap.size) (hr : Jh w2 (V.alloc (.cells #[x] t)).heap.size v l) (hb : Below (V.alloc (.cells #[x] t)).heap.size (V.alloc (.cells #[x] t)) w2) (hvb : vb = V.heap.size) : axa n0 w w2 v l vb x := by
 have e : (V.alloc (.cells #[x] t)).heap.size = V.heap.size + 1 := by show (V.heap.push _).size = _; simp
 have h1 := hb.size
 refine ⟨?_, ⟨t, ?_⟩, ?_, by omega, (hB.alloc hs _).trans (hb.mono (by omega))⟩
 ·exact Jh.low hr (by omega)
 ·rw [hb.block vb (by omega), hvb]
  show (V.heap.push _)[V.heap.size]? = _
  rw [Array.getElem?_push_size]
 ·rcases hr with ⟨_, h⟩ | ⟨b, cap, rest, t, h3, h4, h5, h6⟩
  ·intro a n c e
   rw [h] at e
   cases e
  ·intro a n c e'
   rw [h4] at e'
   cases e'
   show b ≠ vb
   omega
theorem axh {n0 vb i : Nat} {w V : World} {v : Value} {l : List Str} {s : Str} (hg : axa n0 w V v l vb (qP s)) (hi : i ≤ l.length) (hb : l.length ≤ 1099511627776) :
  Calls Tryd.prog 129 #[v, .int .i64 i, .slice (some ⟨vb, 0, none⟩) 1 1] V fun e w' => ∃ v', e = .returned v' ∧ Jh w' n0 v' (VL l i s) ∧ Below n0 w w' := by
 obtain ⟨t2, hv⟩ := hg.hv
 refine (apn Tryd.arx hg.row hi (by omega) hg.sz hv hg.ne).mono ?_
 rintro e w3 ⟨v3, rfl, h1, h2⟩
 exact ⟨v3, rfl, h1, hg.below.trans h2⟩
structure Jo (H : Imm) (n : Nat) (x : Value) (V : World) : Prop where
 a : Agree H V
 c : V.cell? ⟨n, 4, none⟩ = some x
 s : n < V.heap.size
theorem Jo.drew {H : Imm} {n : Nat} {x : Value} {V : World} (h : Jo H n x V) : Jo H n x V.drew := ⟨h.a, h.c, h.s⟩
theorem Jo.drewN {H : Imm} {n : Nat} {x : Value} {V : World} (h : Jo H n x V) (q : Nat) : Jo H n x (V.drewN q) := ⟨h.a, h.c, h.s⟩
theorem apx {V : World} {n j : Nat} {x : Value} (h : V.cell? ⟨n, j, none⟩ = some x) (hs : n < V.heap.size) (o : Obj) : (V.alloc o).cell? ⟨n, j, none⟩ = some x := by
 rw [World.cell?_of_block (w := V) (by
  show (V.heap.push o)[n]? = _
  rw [Array.getElem?_push, if_neg (by omega)])]
 exact h
theorem Jo.alloc {H : Imm} {n : Nat} {x : Value} {V : World} (h : Jo H n x V) (o : Obj) : Jo H n x (V.alloc o) := ⟨Qt h.a o, apx h.c h.s o, by
 have := h.s
 show n < (V.heap.push o).size
 simp; omega⟩
theorem atD {H : Imm} {V : World} {B : Nat} {mv x : Value} {marks : List Str} (hm : Rep H Lay.none mv (.list 1 (marks.map PV.str))) (hb : marks.length ≤ 1099511627776) (hg : Jo H B x V) :
  Calls Tryd.prog 69 #[mv] V fun e w' => ∃ v', e = .returned v' ∧ Jh w' V.heap.size v' marks ∧ Below V.heap.size V w' ∧ w'.cell? ⟨B, 4, none⟩ = some x := by
 refine (akF Tryd.akP hg.a hm (by omega)).mono ?_
 rintro e w2 ⟨v2, rfl, hr2, hb2⟩
 exact ⟨v2, rfl, hr2, hb2, (hb2.cell hg.s).trans hg.c⟩
theorem akZ {H : Imm} {w : World} (hA : Agree H w) (k f t : Int) (nv mv : Value) (name value : Str) (marks : List Str) (hm : Rep H Lay.none mv (.list 1 (marks.map PV.str))) (hb : marks.length ≤ 1099511627776)
  (b : Bool) (hd : decide (bsI marks name < marks.length ∧ marks.getD (bsI marks name) [] = name) = b) (hk : (k == 109) = b) :
  Calls Tryd.prog 112 #[.agg #[.int .u8 k, .int .i64 f, .int .i64 t, nv, qP name, qP value], mv] w fun e w' => e = .returned (.tuple #[mv, .bool false]) ∧ Below w.heap.size w w' := by
 have hs := fun (w' : World) (hA' : Agree H w') => acP Tryd.afu (x := name) hA' hm (by omega)
 rw [hd] at hs
 have hs' : ∀ w' : World, Agree H w' → Calls Tryd.prog 127 #[mv, qP name] w' fun e w'' => e = .returned (.tuple #[.int .i64 (bsI marks name : Nat), .bool b]) ∧ ∃ q, w'' = w'.drewN q := hs
 clear hs hd
 generalize bsI marks name = i at hs'
 have hl := fun o => Qt hA o
 go_enter Tryd.func112, Tryd.ntmps112
 go_wp2_with fail
 refine (hs' _ (hl _)).mono ?_
 clear hs' hl
 rintro e w1 ⟨rfl, q, rfl⟩
 go_wp2_with fail
 go_ret2
 refine ⟨rfl, ?_⟩
 exact Qp _ q
theorem avn {H : Imm} {w : World} (hA : Agree H w) (k f t : Int) (nv mv : Value) (name value : Str) (marks : List Str) (hm : Rep H Lay.none mv (.list 1 (marks.map PV.str))) (hb : marks.length ≤ 1099511627776)
  (hd : decide (bsI marks name < marks.length ∧ marks.getD (bsI marks name) [] = name) = true) (hk : (k == 109) = false) :
  Calls Tryd.prog 112 #[.agg #[.int .u8 k, .int .i64 f, .int .i64 t, nv, qP name, qP value], mv] w fun e w' => (∃ v', e = .returned (.tuple #[v', .bool true]) ∧ Jh w' w.heap.size v' (aeq marks (bsI marks name))) ∧ Below w.heap.size w w' := by
 have hs := fun (w' : World) (hA' : Agree H w') => acP Tryd.afu (x := name) hA' hm (by omega)
 rw [hd] at hs
 have hs' : ∀ w' : World, Agree H w' → Calls Tryd.prog 127 #[mv, qP name] w' fun e w'' => e = .returned (.tuple #[.int .i64 (bsI marks name : Nat), .bool true]) ∧ ∃ q, w'' = w'.drewN q := hs
 clear hs
 have hi : bsI marks name < marks.length := (of_decide_eq_true hd).1
 clear hd
 generalize bsI marks name = i at hs' hi
 have hl := fun o => Qt hA o
 go_enter Tryd.func112, Tryd.ntmps112
 go_wp2_with fail
 refine (hs' _ (hl _)).mono ?_
 clear hs' hl
 rintro e w1 ⟨rfl, q, rfl⟩
 go_wp2_with fail
 refine (akF Tryd.akP (w := (w.alloc _).drewN q) (Qt hA _) hm (by omega)).mono ?_
 rintro e w2 ⟨v2, rfl, hr2, hb2⟩
 have hb3 := (Qp _ q).trans (hb2.mono (Qp _ q).size)
 have hr3 := Jh.low hr2 (Qp _ q).size
 clear hb2 hr2 hA hm
 have hD := apy Tryd.asi hr3 hi
 rw [show ((i + 1 : Nat) : Int) = (i : Int) + 1 from by omega] at hD
 have hD' : Calls Tryd.prog 128 #[v2, .int .i64 i, .int .i64 ((i : Int) + 1)] w2 fun e w' => ∃ v', e = .returned v' ∧ Jh w' w.heap.size v' (aeq marks i) ∧ Below w.heap.size w2 w' := hD
 clear hD
 go_wp2_with fail
 refine hD'.mono ?_
 clear hD' hr3
 rintro e w3 ⟨v3, rfl, hr4, hb4⟩
 have hb5 := hb3.trans hb4
 clear hb3 hb4
 go_wp2_with fail
 go_ret2
 exact ⟨⟨v3, rfl, hr4⟩, hb5⟩
set_option maxHeartbeats 2000000 in
theorem auN {H : Imm} {w : World} (hA : Agree H w) (k f t : Int) (nv mv : Value) (name value : Str) (marks : List Str) (hm : Rep H Lay.none mv (.list 1 (marks.map PV.str))) (hb : marks.length ≤ 1099511627776)
  (hd : decide (bsI marks name < marks.length ∧ marks.getD (bsI marks name) [] = name) = false) (hk : (k == 109) = true) :
  Calls Tryd.prog 112 #[.agg #[.int .u8 k, .int .i64 f, .int .i64 t, nv, qP name, qP value], mv] w fun e w' => (∃ v', e = .returned (.tuple #[v', .bool true]) ∧ Jh w' w.heap.size v' (VL marks (bsI marks name) name)) ∧ Below w.heap.size w w' := by
 have hs := fun (w' : World) (hA' : Agree H w') => acP Tryd.afu (x := name) hA' hm (by omega)
 rw [hd] at hs
 have hs' : ∀ w' : World, Agree H w' → Calls Tryd.prog 127 #[mv, qP name] w' fun e w'' => e = .returned (.tuple #[.int .i64 (bsI marks name : Nat), .bool false]) ∧ ∃ q, w'' = w'.drewN q := hs
 clear hs
 have hi : bsI marks name ≤ marks.length := axv marks name
 clear hd
 generalize bsI marks name = i at hs' hi
 have hl := fun o => Qt hA o
 go_enter Tryd.func112, Tryd.ntmps112
 go_wp2_with fail
 refine (hs' _ (hl _)).mono ?_
 clear hs' hl
 rintro e w1 ⟨rfl, q, rfl⟩
 have hG : ∀ q : Nat, Jo H w.heap.size (qP name) ((w.alloc (.cells #[.int .u8 k, .int .i64 f, .int .i64 t, nv, qP name, qP value] 39)).drewN q) := by
  intro q
  have hb : (w.alloc (.cells #[.int .u8 k, .int .i64 f, .int .i64 t, nv, qP name, qP value] 39)).heap[w.heap.size]? = some (.cells [.int .u8 k, .int .i64 f, .int .i64 t, nv, qP name, qP value].toArray 39 (0, 0)) := by
   show (w.heap.push _)[w.heap.size]? = _
   rw [Array.getElem?_push_size]
  refine Jo.drewN ⟨Qt hA _, (aai hb 4).trans rfl, ?_⟩ q
  show w.heap.size < (w.heap.push _).size
  simp
 clear hA
 go_wp2_with fail
 go_region_with (first | (go_at_call 69; refine (atD (B := w.heap.size) (x := qP name) hm hb ?_).mono ?_; (repeat (first | exact hG _ | apply Jo.drew | apply Jo.alloc)); rintro e w2 ⟨v2, rfl, hr2, hb2, hc2⟩) | (go_at_call 129; go_must (refine (axh (n0 := w.heap.size) (w := w) (s := name) ?_ hi hb).mono ?_); (first | exact azu (Qp _ _) (Qp _ _).size hr2 hb2 | exact azr (Qp _ _) (Qp _ _).size hr2 hb2 (by first | rfl | simp)); rintro e w3 ⟨v3, rfl, hr3, hb3⟩))
 all_goals (clear hr2 hb2 hc2 hG hm hb; go_wp2_with fail; go_ret2; exact ⟨⟨v3, rfl, hr3⟩, hb3⟩)
theorem asz {H : Imm} {L : Lay} {v : Value} {sz : Nat} {xs : List PV} (h : Rep H L v (.list sz xs)) : Rep H Lay.none v (.list sz xs) := by
 cases h with
 | wN _ a c sz => exact .wN _ a c sz
 | list _ b off len cap sz c vs xs hH hlen hcap hsz h1 hv hr => exact .list _ b off len cap sz c vs xs hH hlen hcap hsz h1 hv hr
theorem akR (H : Imm) (L : Lay) : ∀ l : List Str, zI H L (l.map qP) (l.map PV.str)
 | [] => .nil _
 | x :: l => .cons _ _ _ _ _ (.str _ _) (akR H L l)
theorem avm {H : Imm} {w w' : World} {v : Value} {l : List Str} (hA : Agree H w) (hr : Jh w' w.heap.size v l) (hb : Below w.heap.size w w') :
  ∃ H' : Imm, Grow H H' ∧ Agree H' w' ∧ (∀ b c, H' b = some c → H b = some c ∨ w.heap.size ≤ b) ∧ Rep H' Lay.none v (.list 1 (l.map PV.str)) := by
 rcases hr with ⟨rfl, rfl⟩ | ⟨b, cap, rest, t, h1, rfl, h2, h3, h4, h5⟩
 ·exact ⟨H, fun _ _ h => h, KF hA hb, fun b c h => .inl h, .wN _ _ _ _⟩
 ·have hn : H b = none := by
   cases hH : H b with
   | none => rfl
   | some c =>
    obtain ⟨t', fr, ht'⟩ := hA _ _ hH
    have := (Array.getElem?_eq_some_iff.1 ht').1
    omega
  refine ⟨fun x => if x = b then some (l.map qP ++ rest).toArray else H x, fun x c h => ?_, fun x c h => ?_, fun x c h => ?_, ?_⟩
  ·show (if x = b then _ else H x) = _
   rw [if_neg (fun e => by rw [e, hn] at h; cases h)]
   exact h
  ·by_cases e : x = b
   ·subst e
    simp only [if_true, Option.some.injEq] at h
    subst h
    exact ⟨t, (0, 0), h2⟩
   ·simp only [e, if_false] at h
    exact KF hA hb x c h
  ·by_cases e : x = b
   ·exact .inr (by omega)
   ·simp only [e, if_false] at h
    exact .inl h
  ·refine .list _ b 0 l.length cap 1 (l.map qP ++ rest).toArray (l.map qP) _ (by simp) (by simp) h4 (fun x hx => ?_) (aiE l) (fun i hi => ?_) ?_
   ·obtain ⟨y, _, rfl⟩ := List.mem_map.1 hx
    rfl
   ·rw [Nat.zero_add, List.getElem?_toArray, List.getElem?_append_left hi]
   ·rw [anw]
    exact akR _ _ l
theorem atr (s : zo) (marks : List Str) (R : List Str × Bool) (hh : chk (marks.length ≤ 1099511627776) (some (QM s.Kind s.Name marks)) = some R) :
  PC Tryd.prog 112 [.agg [.int .u8 s.Kind, .int .i64 s.From, .int .i64 s.To, .list 5 (s.kF.map za.pv), .str s.Name, .str s.Value], .list 1 (marks.map PV.str)] (.tup [.list 1 (R.1.map PV.str), .bool R.2]) := by
 obtain ⟨hb, hR⟩ := qf hh
 cases hR
 refine ⟨⟨Tryd.f112, by kernel_rfl, by kernel_rfl, by kernel_rfl⟩, ⟨rfl, by simp⟩, fun H w ss vs hA hG hl _ _ _ hr => ?_⟩
 have hss : ss = [] := List.eq_nil_of_length_eq_zero (by simpa using hl)
 subst hss
 obtain ⟨v, u, rfl, g1, g2⟩ := ai0 hr
 have g2 := asz g2
 obtain ⟨nv, rfl⟩ : ∃ nv, v = .agg #[.int .u8 s.Kind, .int .i64 s.From, .int .i64 s.To, nv, qP s.Name, qP s.Value] := by
  cases g1 with
  | agg _ vs ps h =>
   cases h with
   | cons _ v1 _ vs1 _ p1 t1 =>
    cases t1 with
    | cons _ v2 _ vs2 _ p2 t2 =>
     cases t2 with
     | cons _ v3 _ vs3 _ p3 t3 =>
      cases t3 with
      | cons _ v4 _ vs4 _ p4 t4 =>
       cases t4 with
       | cons _ v5 _ vs5 _ p5 t5 =>
        cases t5 with
        | cons _ v6 _ vs6 _ p6 t6 =>
         cases t6
         cases p1
         cases p2
         cases p3
         obtain rfl := aa6 p5
         obtain rfl := aa6 p6
         exact ⟨v4, rfl⟩
 have fin : ∀ {w' : World} {v' : Value} {l : List Str}, Jh w' w.heap.size v' l → Below w.heap.size w w' → ∃ v H' ss', (Ending.returned (.tuple #[v', .bool true]) : Ending) = .returned v ∧ Grow H H' ∧ Agree H' w' ∧ (∀ b c, H' b = some c → H b = some c ∨ w.heap.size ≤ b) ∧
   Ext (fun b => ∃ s ∈ ([] : List Slot), s.block = some b) w w' ∧ ajK w.heap.size w' [] [] ss' ∧ (∀ (i : Nat) (s : Slot) (e : Ent), ss'[i]? = some s → ([] : List Ent)[i]? = some e → wL H' (jV ss') w' s e) ∧
   acV H' w' w.heap.size v (.tup [.list 1 (l.map PV.str), .bool true]) := by
  intro w' v' l h1 h2
  obtain ⟨H', k1, k2, k3, k4⟩ := avm hA h1 h2
  exact ⟨_, H', [], rfl, k1, k2, k3, ⟨h2.size, fun b hb _ => h2.block b hb, h2.output, h2.os, h2.tape⟩, ⟨rfl, by simp, by simp, fun i j si sj b h => by simp at h, by simp⟩, by simp, .tup _ [v', .bool true] _ (.cons _ _ _ _ _ k4 (.cons _ _ _ _ _ (.bool _ _) (.nil _)))⟩
 cases hd : decide (bsI marks s.Name < marks.length ∧ marks.getD (bsI marks s.Name) [] = s.Name) with
 | true =>
  by_cases hk : s.Kind = 109
  ·have e : QM s.Kind s.Name marks = (marks, false) := by unfold QM; rw [hd, if_pos (by simp [hk])]
   rw [e]
   refine (akZ hA _ _ _ nv u s.Name s.Value marks g2 hb true hd (by simp [hk])).mono ?_
   rintro e w' ⟨rfl, hbw⟩
   exact ⟨_, H, [], rfl, fun _ _ h => h, KF hA hbw, fun b c hc => .inl hc, ⟨hbw.size, fun b hb _ => hbw.block b hb, hbw.output, hbw.os, hbw.tape⟩, ⟨rfl, by simp, by simp, fun i j si sj b h => by simp at h, by simp⟩, by simp, .tup _ [u, .bool false] _ (.cons _ _ _ _ _ g2 (.cons _ _ _ _ _ (.bool _ _) (.nil _)))⟩
  ·have e : QM s.Kind s.Name marks = (aeq marks (bsI marks s.Name), true) := by unfold QM; rw [hd, if_neg (by simp [hk]), if_pos rfl]
   rw [e]
   refine (avn hA _ _ _ nv u s.Name s.Value marks g2 hb hd (by simpa using hk)).mono ?_
   rintro e w' ⟨⟨v', rfl, h1⟩, h2⟩
   exact fin h1 h2
 | false =>
  by_cases hk : s.Kind = 109
  ·have e : QM s.Kind s.Name marks = (VL marks (bsI marks s.Name) s.Name, true) := by unfold QM; rw [hd, if_neg (by simp [hk]), if_neg (by simp)]
   rw [e]
   refine (auN hA _ _ _ nv u s.Name s.Value marks g2 hb hd (by simp [hk])).mono ?_
   rintro e w' ⟨⟨v', rfl, h1⟩, h2⟩
   exact fin h1 h2
  ·have e : QM s.Kind s.Name marks = (marks, false) := by unfold QM; rw [hd, if_pos (by simp [hk])]
   rw [e]
   refine (akZ hA _ _ _ nv u s.Name s.Value marks g2 hb false hd (by simpa using hk)).mono ?_
   rintro e w' ⟨rfl, hbw⟩
   exact ⟨_, H, [], rfl, fun _ _ h => h, KF hA hbw, fun b c hc => .inl hc, ⟨hbw.size, fun b hb _ => hbw.block b hb, hbw.output, hbw.os, hbw.tape⟩, ⟨rfl, by simp, by simp, fun i j si sj b h => by simp at h, by simp⟩, by simp, .tup _ [u, .bool false] _ (.cons _ _ _ _ _ g2 (.cons _ _ _ _ _ (.bool _ _) (.nil _)))⟩
end Go.Proofs.YtclohbgnaopjfaaDoor
