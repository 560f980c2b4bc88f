/- Texts of the proof of diffChainCard -/
import Derived.Test.YtclohbgnaopjfaaDoorAw9
namespace Go.Proofs.YtclohbgnaopjfaaDoor
set_option linter.unusedSimpArgs false
set_option linter.unusedVariables false
open Go
section
variable {P : Program} {B : Base} {F : Nat → Prop} {H : Imm} {L : Lay} {s : St} {a : Act} {w : World} {q : Bool} {dst : Option Nat} {k g : Nat} {K : St → Prop}
def SrcOf (w : World) (v : Value) (vs : List Value) (n size : Nat) : Prop :=
 (∃ c, v = .slice none n c ∧ vs = [] ∧ n = 0) ∨ (∃ b c, v = .slice (some b) n c ∧ vs.length = n * size ∧ ∀ j u, vs[j]? = some u → w.cell? (b.add j) = some u)
theorem yL {α : Type} {l : List α} {i : Nat} {x : α} (h : l[i]? = some x) : i < l.length := by
 rcases Nat.lt_or_ge i l.length with h' | h'
 ·exact h'
 ·rw [List.getElem?_eq_none h'] at h; cases h
theorem afp (hR : Rel B F H L s a w) {v : Value} {x : PV} {byt : Bool} {size : Nat} {xs : List PV} (hx : Rep H L v x) (h : elems s.sto.find byt size x = some xs) :
  (∃ b, x = .str b ∧ v = .string ⟨b.toArray⟩ ∧ xs = b.map (fun c => .int .u8 c.toNat) ∧ size = 1 ∧ byt = true) ∨
  (∃ vs, SrcOf w v vs xs.length size ∧ zI H Lay.none vs (xs.flatMap PV.cells) ∧ (∀ x ∈ xs, x.cells.length = size) ∧ (∀ v ∈ vs, v.oneCell' = true) ∧ ∃ ad c, v = .slice ad xs.length c) := by
 unfold elems at h
 split at h
 ·simp only [Option.some.injEq] at h
  subst h
  cases hx
  exact .inr ⟨[], .inl ⟨_, rfl, rfl, rfl⟩, .nil _, by simp, by simp, _, _, rfl⟩
 ·rename_i sz ys
  split at h
  ·rename_i hsz
   simp only [Option.some.injEq] at h
   subst h
   subst hsz
   cases hx with
   | wN _ ad c =>
    refine .inr ⟨[], ?_, .nil _, by simp, by simp, _, _, rfl⟩
    cases ad with
    | none => exact .inl ⟨_, rfl, rfl, rfl⟩
    | some b => exact .inr ⟨b, c, rfl, by simp, by simp⟩
   | list _ b off len cap _ c vs _ hH hlen hcap hs1 h1 hv hr =>
    subst hlen
    obtain ⟨et, fr, hb⟩ := hR.agree b c hH
    have hl := hr.length
    rw [vY _ hs1] at hl
    refine .inr ⟨vs, .inr ⟨⟨b, off, none⟩, cap, rfl, hl, fun j u hj => ?_⟩, hr, hs1, h1, _, _, rfl⟩
    rw [addr_add, XQ w b _ c et fr hb, hv j (yL hj), hj]
  ·simp at h
 ·rename_i k' g' n
  split at h
  ·rename_i g'' f sz ys hf
   split at h
   ·rename_i hc
    obtain ⟨rfl, rfl, hn⟩ := hc
    simp only [Option.some.injEq] at h
    subst h
    obtain ⟨sl, e1, e2, e3⟩ := hR.sto k' g' _ hf
    cases hx with
    | row _ _ _ _ _ hu' hs hx =>
     have hv := hx sl e1 e2
     subst hv
     have hlen : (ys.take n).length = n := by simp; omega
     rw [hlen]
     by_cases hy : ys = []
     ·subst hy
      have hn0 : n = 0 := by simpa using hn
      subst hn0
      refine .inr ⟨[], ?_, by simpa using zI.nil _, by simp, by simp, _, _, rfl⟩
      cases sl.block with
      | none => exact .inl ⟨_, rfl, rfl, rfl⟩
      | some b => exact .inr ⟨_, _, rfl, by simp, by simp⟩
     ·obtain ⟨h4, h5, b, c, vs, et, fr, h6, h7, h8, h9, h10⟩ := abd hR.agree e3 hy
      have hl := h10.length
      rw [vY _ h5] at hl
      have hmul : n * sz ≤ ys.length * sz := Nat.mul_le_mul_right _ hn
      rw [h6]
      refine .inr ⟨vs.take (n * sz), .inr ⟨⟨b, 0, none⟩, sl.cap, rfl, by simp; omega, fun j u hj => ?_⟩, ?_, fun x hx => h5 x (List.mem_of_mem_take hx), fun v hv => h9 v (List.mem_of_mem_take hv), _, _, rfl⟩
      ·have hjl := yL hj
       simp only [List.length_take] at hjl
       rw [List.getElem?_take] at hj
       split at hj
       ·rw [addr_add, XQ w b _ c et fr h7, Nat.zero_add, h8 j (by omega), hj]
       ·cases hj
      ·rw [aaV _ _ h5]
       exact h10.take _
   ·simp at h
  ·simp at h
 ·rename_i b
  split at h
  ·rename_i hc
   simp only [Option.some.injEq] at h
   subst h
   cases hx
   exact .inl ⟨b, rfl, rfl, rfl, hc.2, hc.1⟩
  ·simp at h
 ·simp at h
theorem ah6 {v : Value} {vs : List Value} {n size : Nat} (h : SrcOf w v vs n size) : (Builtin.firstCells size n v).run P w = .ok vs.toArray w := by
 rcases h with ⟨c, rfl, rfl, rfl⟩ | ⟨b, c, rfl, h1, h2⟩
 ·simp [Builtin.firstCells]
 ·exact run_firstCells_some w size n b n c vs h1 h2
theorem af5 {b : Addr} {vs : List Value} {n : Nat} (h1 : vs.length = n) (h2 : ∀ j u, vs[j]? = some u → w.cell? (b.add j) = some u) : (loadCells b n).run P w = .ok vs.toArray w := by
 subst h1
 exact run_loadCells_list w b vs h2
theorem ahq (f : Value → ByteArray → Sem (ForInStep ByteArray)) (hf : ∀ n r, f (.int .i32 n) r = pure (.yield (r ++ Utf8.encode n))) : ∀ (vs : List Value) (xs : List PV) (out : List UInt8) (s0 : ByteArray), zI H Lay.none vs (xs.flatMap PV.cells) → Qh xs = some out →
  (forIn vs s0 f : Sem ByteArray).run P w = .ok (s0 ++ ⟨out.toArray⟩) w
 | vs, [], out, s0, hr, ho => by
  simp only [Qh, Option.some.injEq] at ho
  subst ho
  cases hr
  simp only [List.forIn_nil, Sem.run_pure]
  congr 1
  apply ByteArray.ext
  simp
 | vs, x :: xs, out, s0, hr, ho => by
  unfold Qh at ho
  split at ho
  ·cases ‹_ :: _ = []›
  ·rename_i n r heq
   simp only [List.cons.injEq] at heq
   obtain ⟨rfl, rfl⟩ := heq
   split at ho
   ·rename_i o hor
    simp only [Option.some.injEq] at ho
    subst ho
    simp only [List.flatMap_cons, PV.cells, List.cons_append, List.nil_append] at hr
    cases hr with
    | cons _ u _ us _ hu ht =>
     cases hu
     simp only [List.forIn_cons, hf, Sem.run_bind, Sem.run_pure, Result.andThen_ok]
     rw [ahq f hf us _ o _ ht hor]
     congr 1
     apply ByteArray.ext
     apply Array.ext'
     simp
   ·cases ho
  ·cases ho
theorem aiG (f : Value → ByteArray → Sem (ForInStep ByteArray)) (hf : ∀ n r, f (.int .u8 n) r = pure (.yield (r.push (UInt8.ofNat n.toNat)))) : ∀ (vs : List Value) (xs : List PV) (out : List UInt8) (s0 : ByteArray), zI H Lay.none vs (xs.flatMap PV.cells) → Qy xs = some out →
  (forIn vs s0 f : Sem ByteArray).run P w = .ok (s0 ++ ⟨out.toArray⟩) w
 | vs, [], out, s0, hr, ho => by
  simp only [Qy, Option.some.injEq] at ho
  subst ho
  cases hr
  simp only [List.forIn_nil, Sem.run_pure]
  congr 1
  apply ByteArray.ext
  simp
 | vs, x :: xs, out, s0, hr, ho => by
  unfold Qy at ho
  split at ho
  ·cases ‹_ :: _ = []›
  ·rename_i n r heq
   simp only [List.cons.injEq] at heq
   obtain ⟨rfl, rfl⟩ := heq
   split at ho
   ·rename_i o hor
    simp only [Option.some.injEq] at ho
    subst ho
    simp only [List.flatMap_cons, PV.cells, List.cons_append, List.nil_append] at hr
    cases hr with
    | cons _ u _ us _ hu ht =>
     cases hu
     simp only [List.forIn_cons, hf, Sem.run_bind, Sem.run_pure, Result.andThen_ok]
     rw [aiG f hf us _ o _ ht hor]
     congr 1
     apply ByteArray.ext
     apply Array.ext'
     simp
   ·cases ho
  ·cases ho
theorem aaI (b : ByteArray) : ∀ (n i : Nat) (acc : Array Value), (∀ v ∈ acc.toList, ∃ m : Int, v = .int .i32 m) → ∀ v ∈ (Conv.runesFrom b n i acc).toList, ∃ m : Int, v = .int .i32 m
 | 0, i, acc, h => by simpa [Conv.runesFrom] using h
 | n + 1, i, acc, h => by
  simp only [Conv.runesFrom]
  split
  ·exact aaI b n _ _ (fun v hv => by
    simp only [Array.toList_push, List.mem_append, List.mem_singleton] at hv
    rcases hv with hv | rfl
    ·exact h v hv
    ·exact ⟨_, rfl⟩)
  ·exact h
theorem afW : ∀ (vs : List Value), (∀ v ∈ vs, ∃ m : Int, v = .int .i32 m) → (vs.map Wh).flatMap PV.cells = vs.map Wh ∧ (∀ x ∈ vs.map Wh, x.cells.length = 1) ∧ ∀ v ∈ vs, v.oneCell' = true
 | [], _ => by simp
 | v :: vs, h => by
  obtain ⟨m, rfl⟩ := h v (by simp)
  obtain ⟨h1, h2, h3⟩ := afW vs (fun u hu => h u (by simp [hu]))
  refine ⟨by simp only [List.map_cons, List.flatMap_cons, h1]; rfl, ?_, ?_⟩
  ·intro x hx
   simp only [List.map_cons, List.mem_cons] at hx
   rcases hx with rfl | hx
   ·rfl
   ·exact h2 x hx
  ·intro x hx
   simp only [List.mem_cons] at hx
   rcases hx with rfl | hx
   ·rfl
   ·exact h3 x hx
theorem ajI (hR : Rel B F H L s a w) (hd : ∀ d, dst = some d → d < a.tmps.size) (src dt : Nat) (x : Operand)
  (h : (jq P s.sto.find src dt (s.ev x)).wp P q s dst k g K) : Good P B F a dst g K (convert src dt (a.eval x)) w := by
 have hx := hR.eval x
 generalize s.ev x = p at h hx
 generalize a.eval x = v at hx
 unfold jq at h
 split at h
 ·rename_i j1 j2 j3 n hk1 hk2
  simp only [Res.wp] at h
  cases hx
  refine V3 hR hd _ _ ?_ h
  simp [convert, run_underlying (Ya hk1), run_underlying (Ya hk2), Conv.intToInt]
 ·rename_i j1 j3 n hk1 hk2
  simp only [Res.wp] at h
  cases hx
  refine zP hR hd (v := .string (Utf8.encode n)) ?_ (by simpa using Rep.str (H := H) L (Utf8.encode n).data.toList) h
  simp [convert, run_underlying (Ya hk1), run_underlying (QK hk2), Conv.intToString]
 ·rename_i b hk1 hk2
  simp only [Res.wp] at h
  cases hx
  refine zP hR hd (v := .string ⟨b.toArray⟩) ?_ (.str _ _) h
  simp [convert, run_underlying (QK hk1), run_underlying (QK hk2)]
 ·rename_i e b hk1 hk2
  split at h
  ·rename_i hk3
   simp only [Res.wp] at h
   cases hx
   have hu1 := run_underlying (QK hk1)
   have hu2 := run_underlying (jR hk2)
   have hu3 := run_underlying (Ya hk3)
   have hs' : (ByteArray.mk b.toArray).size = b.length := by show b.toArray.size = _; simp
   generalize hel : Conv.runesFrom ⟨b.toArray⟩ b.length 0 #[] = el
   have hints : ∀ v ∈ el.toList, ∃ m : Int, v = .int .i32 m := by
    rw [← hel]; exact aaI _ _ _ _ (by simp)
   obtain ⟨f1, f2, f3⟩ := afW el.toList hints
   have hcut : el.size ≤ grownCap w el.size 0 e := grownCap_ge w el.size 0 e
   have hrun : (convert src dt (.string ⟨b.toArray⟩)).run P w = .ok (.slice (some ⟨w.heap.size, 0, none⟩) el.size (grownCap w el.size 0 e)) (w.drew.alloc (.cells (el ++ Array.replicate (grownCap w el.size 0 e - el.size) (.int .i32 0)) e)) := by
    simp only [convert, Sem.run_bind, hu1, hu2, hu3, Result.andThen_ok, Conv.stringToRunes, hs', hel, run_choose, Question.forced, Bool.false_eq_true, if_false, newRow, run_newObj, Sem.run_pure]
    rfl
   have hq : Quiet w (w.drew.alloc (.cells (el ++ Array.replicate (grownCap w el.size 0 e - el.size) (.int .i32 0)) e)) := (Quiet.drew w).trans (Quiet.alloc _ _)
   have hnone : H w.heap.size = none := by
    cases hc : H w.heap.size with
    | none => rfl
    | some c =>
     obtain ⟨t, fr, ht⟩ := hR.agree _ _ hc
     have := (Array.getElem?_eq_some_iff.1 ht).1
     omega
   have hG : Grow H (fun x => if x = w.heap.size then some (el ++ Array.replicate (grownCap w el.size 0 e - el.size) (.int .i32 0)) else H x) := by
    intro x c hc
    by_cases hx : x = w.heap.size
    ·subst hx; rw [hnone] at hc; cases hc
    ·simpa [hx] using hc
   have hR' := hR.quiet hG (w' := w.drew.alloc (.cells (el ++ Array.replicate (grownCap w el.size 0 e - el.size) (.int .i32 0)) e))
    (fun x c hc => by
     by_cases hx : x = w.heap.size
     ·subst hx
      simp only [if_true, Option.some.injEq] at hc
      subst hc
      exact ⟨e, (0, 0), by show (w.heap.push _)[w.heap.size]? = _; simp⟩
     ·simp only [hx, if_false] at hc
      exact (hR.agree.quiet hq) x c hc)
    (fun x c hc => by
     by_cases hx : x = w.heap.size
     ·subst hx; exact .inr (Nat.le_refl _)
     ·simp only [hx, if_false] at hc
      exact .inl hc) hq
   refine ⟨_, _, _, L, _, hrun, (hR'.put (dst := dst) (p := .list 1 (adO b)) hd ?_).less (fun _ h => h.1), h⟩
   unfold adO
   rw [hel]
   refine .list _ _ 0 _ _ 1 _ el.toList _ (if_pos rfl) (by simp) hcut f2 f3 (fun i hi => ?_) (by rw [f1]; exact zI.WY _)
   rw [Nat.zero_add, Array.getElem?_append_left (by simpa using hi)]
   simp
  ·simp [Res.wp] at h
 ·rename_i e x hk1 hk2
  have hu1 := run_underlying (jR hk1)
  have hu2 := run_underlying (QK hk2)
  split at h
  ·rename_i hk3
   have hu3 := run_underlying (Ya hk3)
   split at h
   ·rename_i xs hxs
    unfold strOf at h
    split at h
    ·rename_i out hout
     simp only [Res.wp] at h
     rcases afp hR hx hxs with ⟨b, _, _, _, _, hb⟩ | ⟨vs, hs, hr, hs1, h1, ad, c, rfl⟩
     ·cases hb
     ·refine zP hR hd (v := .string ⟨out.toArray⟩) ?_ (.str _ _) h
      simp only [convert, Sem.run_bind, hu1, hu2, Result.andThen_ok, hu3, Conv.runesToString]
      rcases hs with ⟨c', he, rfl, hn⟩ | ⟨b, c', he, hl, hcells⟩
      ·simp only [Value.slice.injEq] at he
       obtain ⟨rfl, _, rfl⟩ := he
       have : xs = [] := List.eq_nil_of_length_eq_zero hn
       subst this
       simp only [Qh, Option.some.injEq] at hout
       subst hout
       simp
       rfl
      ·simp only [Value.slice.injEq] at he
       obtain ⟨rfl, _, rfl⟩ := he
       have hload := af5 (P := P) (w := w) (n := xs.length) (by simpa using hl) hcells
       simp only [Sem.run_bind, hload, Result.andThen_ok, ← Array.forIn_toList, Sem.run_pure]
       rw [ahq _ (by intro n r; rfl) vs xs out ByteArray.empty hr hout]
       simp
    ·simp [Res.wp] at h
   ·simp [Res.wp] at h
  ·rename_i hk3
   have hu3 := run_underlying (Ya hk3)
   split at h
   ·rename_i xs hxs
    unfold strOf at h
    split at h
    ·rename_i out hout
     simp only [Res.wp] at h
     rcases afp hR hx hxs with ⟨b, _, _, _, _, hb⟩ | ⟨vs, hs, hr, hs1, h1, ad, c, rfl⟩
     ·cases hb
     ·refine zP hR hd (v := .string ⟨out.toArray⟩) ?_ (.str _ _) h
      simp only [convert, Sem.run_bind, hu1, hu2, Result.andThen_ok, hu3, Conv.bytesToString]
      rcases hs with ⟨c', he, rfl, hn⟩ | ⟨b, c', he, hl, hcells⟩
      ·simp only [Value.slice.injEq] at he
       obtain ⟨rfl, _, rfl⟩ := he
       have : xs = [] := List.eq_nil_of_length_eq_zero hn
       subst this
       simp only [Qy, Option.some.injEq] at hout
       subst hout
       simp
       rfl
      ·simp only [Value.slice.injEq] at he
       obtain ⟨rfl, _, rfl⟩ := he
       have hload := af5 (P := P) (w := w) (n := xs.length) (by simpa using hl) hcells
       simp only [Sem.run_bind, hload, Result.andThen_ok, ← Array.forIn_toList, Sem.run_pure]
       rw [aiG _ (by intro n r; rfl) vs xs out ByteArray.empty hr hout]
       simp
    ·simp [Res.wp] at h
   ·simp [Res.wp] at h
  ·simp [Res.wp] at h
 ·simp [Res.wp] at h
end
end Go.Proofs.YtclohbgnaopjfaaDoor
namespace Go.Proofs.YtclohbgnaopjfaaDoor
set_option linter.unusedSimpArgs false
set_option linter.unusedVariables false
open Go
section
variable {P : Program} {B : Base} {F : Nat → Prop} {H : Imm} {L : Lay} {s : St} {a : Act} {w : World} {q : Bool} {dst : Option Nat} {k g : Nat} {K : St → Prop}
theorem asX {u v : Value} {x y z : PV} (hu : Rep H L u x) (hv : Rep H L v y) (h : J5 x y = .val z) : ∃ r, (Builtin.min2 u v).run P w = .ok r w ∧ Rep H L r z := by
 unfold J5 at h
 split at h
 ·cases hu; cases hv
  simp only [Res.val.injEq] at h
  subst h
  exact ⟨_, by simp [Builtin.min2], .int _ _ _⟩
 ·cases h
theorem avg {u v : Value} {x y z : PV} (hu : Rep H L u x) (hv : Rep H L v y) (h : JZ x y = .val z) : ∃ r, (Builtin.max2 u v).run P w = .ok r w ∧ Rep H L r z := by
 unfold JZ at h
 split at h
 ·cases hu; cases hv
  simp only [Res.val.injEq] at h
  subst h
  exact ⟨_, by simp [Builtin.max2], .int _ _ _⟩
 ·cases h
theorem apF (x y : PV) : (∃ z, J5 x y = .val z) ∨ J5 x y = .bad := by
 unfold J5
 split
 ·exact .inl ⟨_, rfl⟩
 ·exact .inr rfl
theorem apr (x y : PV) : (∃ z, JZ x y = .val z) ∨ JZ x y = .bad := by
 unfold JZ
 split
 ·exact .inl ⟨_, rfl⟩
 ·exact .inr rfl
theorem aiI (hR : Rel B F H L s a w) (hd : ∀ d, dst = some d → d < a.tmps.size) (f : PV → PV → Res) (f2 : Value → Value → Sem Value) (hval : ∀ x y, (∃ z, f x y = .val z) ∨ f x y = .bad)
  (hf : ∀ (u v : Value) (x y z : PV), Rep H L u x → Rep H L v y → f x y = .val z → ∃ r, (f2 u v).run P w = .ok r w ∧ Rep H L r z)
  (xs : List Operand) (h : (QT f (xs.map s.ev)).wp P q s dst k g K) (sem : Sem Value) (hsem : ∀ u rest, xs.map a.eval = u :: rest → sem = rest.foldlM f2 u) : Good P B F a dst g K sem w := by
 match xs, h, hsem with
 | [], h, _ => simp [QT, Res.wp] at h
 | [x], h, _ => simp [QT, Res.wp] at h
 | [x, y], h, hsem =>
  simp only [List.map_cons, List.map_nil, QT] at h
  rcases hval (s.ev x) (s.ev y) with ⟨z, hz⟩ | hb
  ·rw [hz] at h
   obtain ⟨r, h1, h2⟩ := hf _ _ _ _ z (hR.eval x) (hR.eval y) hz
   exact zP hR hd (by rw [hsem _ _ rfl]; simp [List.foldlM_cons, h1]) h2 h
  ·rw [hb] at h; exact h.elim
 | [x, y, t], h, hsem =>
  simp only [List.map_cons, List.map_nil, QT] at h
  rcases hval (s.ev x) (s.ev y) with ⟨z, hz⟩ | hb
  ·rw [hz] at h
   simp only at h
   obtain ⟨r, h1, h2⟩ := hf _ _ _ _ z (hR.eval x) (hR.eval y) hz
   rcases hval z (s.ev t) with ⟨z', hz'⟩ | hb
   ·rw [hz'] at h
    obtain ⟨r', h1', h2'⟩ := hf _ _ _ _ z' h2 (hR.eval t) hz'
    exact zP hR hd (by rw [hsem _ _ rfl]; simp [List.foldlM_cons, h1, h1']) h2' h
   ·rw [hb] at h; exact h.elim
  ·rw [hb] at h; exact h.elim
 | _ :: _ :: _ :: _ :: _, h, _ => simp [QT, Res.wp] at h
theorem foldl_set (off : Nat) : ∀ (vs : List Value) (j : Nat) (cs : Array Value), off + j + vs.length ≤ cs.size →
  ((vs.zipIdx j).foldl (fun (cs : Array Value) (x : Value × Nat) => cs.setIfInBounds (off + x.2) x.1) cs).toList = cs.toList.take (off + j) ++ vs ++ cs.toList.drop (off + j + vs.length)
 | [], j, cs, _ => by simp
 | v :: vs, j, cs, h => by
  simp only [List.length_cons] at h
  rw [List.zipIdx_cons, List.foldl_cons, foldl_set off vs (j + 1) _ (by simp; omega)]
  simp only [Array.toList_setIfInBounds, List.length_cons]
  have hlt : off + j < cs.toList.length := by simp; omega
  rw [show off + (j + 1) = off + j + 1 by omega, List.take_set, List.take_succ_eq_append_getElem hlt, List.set_append_right _ _ (by simp; omega), List.drop_set_of_lt (by omega)]
  simp only [List.length_take, Nat.min_eq_left (Nat.le_of_lt hlt), Nat.sub_self, List.set_cons_zero]
  simp only [List.append_assoc, List.singleton_append]
  congr 3
  omega
theorem agU (cs : List PV) (off : Nat) (vs : List PV) (h : off + vs.length ≤ cs.length) : (setCells cs off vs).length = cs.length := by
 simp [setCells]; omega
theorem Km {vs us : List Value} {cs ds : List PV} (h : zI H L vs cs) (h' : zI H L us ds) (off : Nat) : zI H L (vs.take off ++ us ++ vs.drop (off + us.length)) (setCells cs off ds) := by
 unfold setCells
 rw [h'.length]
 exact ((h.take off).append h').append (h.drop _)
theorem aiF (place : Nat → Option (Nat × Nat)) : ∀ (ps : List (Nat × Value)) (qs : List (Nat × PV)) (cells : Array Value) (cs out : List PV),
  zI H L cells.toList cs → ps.map (·.1) = qs.map (·.1) → (∀ (i : Nat) (x : Nat × Value) (y : Nat × PV), ps[i]? = some x → qs[i]? = some y → Rep H L x.2 y.2) → ajX place cs qs = some out →
  ∃ r : Array Value, Instr.fill place cells ps = some r ∧ zI H L r.toList out
 | [], qs, cells, cs, out, hc, hm, _, h => by
  cases qs with
  | nil => simp only [ajX, Option.some.injEq] at h; subst h; exact ⟨cells, rfl, hc⟩
  | cons _ _ => simp at hm
 | (i, v) :: ps, qs, cells, cs, out, hc, hm, hv, h => by
  cases qs with
  | nil => simp at hm
  | cons y qs =>
   obtain ⟨i', p⟩ := y
   simp only [List.map_cons, List.cons.injEq] at hm
   obtain ⟨rfl, hm⟩ := hm
   simp only [ajX] at h
   cases hp : place i with
   | none => simp [hp] at h
   | some os =>
    obtain ⟨off, size⟩ := os
    simp only [hp] at h
    split at h
    ·rename_i hcond
     obtain ⟨c1, c2, c3⟩ := hcond
     have h0 := (hv 0 (i, v) (i, p) rfl rfl).cells c1
     have hl0 := h0.length
     have hlc := hc.length
     simp only [Array.length_toList] at hl0 hlc
     have hnot : ¬ ((v.cells.size ≠ size || off + v.cells.size > cells.size) = true) := by simp; omega
     simp only [Instr.fill, hp, hnot]
     refine aiF place ps qs _ _ out ?_ hm (fun j x y hx hy => hv (j + 1) x y (by simpa using hx) (by simpa using hy)) h
     have he : (v.cells.zipIdx.foldl (fun (cs : Array Value) (x : Value × Nat) => cs.setIfInBounds (off + x.2) x.1) cells).toList = cells.toList.take off ++ v.cells.toList ++ cells.toList.drop (off + v.cells.toList.length) := by
      rw [← Array.foldl_toList, Array.toList_zipIdx]
      simpa using foldl_set off v.cells.toList 0 cells (by simp; omega)
     have := Km hc h0 off
     rw [← he] at this
     exact this
    ·simp at h
theorem aki : ∀ (fs : List Field), (fs.all fun f => (zH P f.type).size != 0) = true →
  fs.mapM (fun f => (P.info? f.type).map fun i => (f.offset, i.size)) = some (fs.map fun f => (f.offset, (zH P f.type).size))
 | [], _ => rfl
 | f :: fs, h => by
  simp only [List.all_cons, Bool.and_eq_true, bne_iff_ne] at h
  obtain ⟨i, d, h1, h2, h3⟩ := Qg (yB rfl h.1)
  have hs : (zH P f.type).size = i.size := by rw [h3]
  simp [List.mapM_cons, h1, aki fs h.2, hs]
theorem ak7 : ∀ {z : List PV} {vs : List Value} (off sz : Nat), zI H L vs z → z[off]? = some .kS → zI H L vs (z.set off (.list sz []))
 | [], vs, off, sz, h, hz => by simp at hz
 | p :: ps, vs, 0, sz, h, hz => by
  simp only [List.getElem?_cons_zero, Option.some.injEq] at hz
  subst hz
  cases h with
  | cons _ v _ vs _ hv ht =>
   cases hv
   exact .cons _ _ _ _ _ (.wN _ _ _ _) ht
 | p :: ps, vs, off + 1, sz, h, hz => by
  simp only [List.getElem?_cons_succ] at hz
  cases h with
  | cons _ v _ vs _ hv ht => exact .cons _ _ _ _ _ hv (ak7 off sz ht hz)
theorem akO {vs : List Value} {z : List PV} (off sz : Nat) (h : zI H L vs z) : zI H L vs (anb z off sz) := by
 unfold anb
 split
 ·rename_i hz
  exact ak7 off sz h hz
 ·exact h
theorem aiJ (P : Program) (b : Nat) {vs : List Value} : ∀ (fs : List (Nat × Nat)) {z : List PV}, zI H L vs z → zI H L vs (ahz P b fs z)
 | [], z, h => h
 | (ft, off) :: fs, z, h => by
  unfold ahz
  refine aiJ P b fs ?_
  split
  ·exact akO _ _ h
  ·exact h
theorem akv (P : Program) {vs : List Value} : ∀ (fs : List (Nat × Nat)) {z : List PV}, zI H L vs z → zI H L vs (anJ P fs z)
 | [], z, h => h
 | (ft, off) :: fs, z, h => by
  unfold anJ
  refine akv P fs ?_
  split
  ·exact akO _ _ h
  ·exact aiJ P _ _ h
  ·exact h
theorem asP (P : Program) (b : Bool) (fs : List (Nat × Nat)) {vs : List Value} {z : List PV} (h : zI H L vs z) : zI H L vs (amT P b fs z) := by
 unfold amT
 split
 ·exact akv P fs h
 ·exact h
theorem aoC (hR : Rel B F H L s a w) (hd : ∀ d, dst = some d → d < a.tmps.size) (t : Nat) (parts : Array (Nat × Operand))
  (b : Bool) (h : (Xv P b t (parts.toList.map fun p => (p.1, s.ev p.2))).wp P q s dst k g K) : Good P B F a dst g K (Instr.build t (parts.map fun (i, x) => (i, a.eval x))) w := by
 unfold Xv at h
 simp only at h
 split at h
 ·rename_i fs z hkd hz
  simp only [Res.wp] at h
  obtain ⟨hall, h⟩ := h
  split at h
  ·rename_i cs hcs
   simp only [Res.wp] at h
   obtain ⟨it, d, e1, e2, e3, e4, e5, e6, e7, e8⟩ := y7 hkd (by simp)
   obtain ⟨xs, rfl, hfs⟩ := aaH e3
   rw [e7] at hz
   cases hzz : it.zero with
   | none => simp [hzz] at hz
   | some zv =>
    simp only [hzz, Option.map_some, Option.some.injEq] at hz
    have hmapM := aki (P := P) xs.toList (by rw [hfs] at hall; simpa [List.all_map] using hall)
    have hzero : zI H L zv.cells.toList z := by rw [← hz]; exact zI.WY _
    have hplace : (fun i => (xs.toList.map fun f => (f.offset, (zH P f.type).size)).toArray[i]?) = fun (i : Nat) => (fs[i]?).map fun (f : Nat × Nat) => (f.2, (zH P f.1).size) := by
     funext i
     rw [hfs]
     simp [List.getElem?_map]
     cases xs[i]? <;> rfl
    obtain ⟨r, hr1, hr2⟩ := aiF (H := H) (L := L) (fun i => (fs[i]?).map fun f => (f.2, (zH P f.1).size)) (parts.map fun x => (x.1, a.eval x.2)).toList (parts.toList.map fun p => (p.1, s.ev p.2)) zv.cells (amT P b fs z) cs (asP P b fs hzero)
     (by simp) (fun i x y hx hy => by
      simp only [Array.toList_map, List.getElem?_map] at hx hy
      cases hp : parts.toList[i]? with
      | none => simp [hp] at hx
      | some pr =>
       simp only [hp, Option.map_some, Option.some.injEq] at hx hy
       subst hx; subst hy
       exact hR.eval _) hcs
    have hbuilt : P.built t (parts.map fun x => (x.1, a.eval x.2)).toList = some r := by
     simp only [Program.built, e1, e2, hzz, hmapM, hplace, hr1]
    refine zP hR hd (v := .agg r) (run_build w t _ r hbuilt) ?_ h
    simpa using Rep.agg (H := H) L r.toList _ hr2
  ·simp [Res.wp] at h
 ·simp [Res.wp] at h
theorem Kh (hA : Agree H w) : H w.heap.size = none := by
 cases hc : H w.heap.size with
 | none => rfl
 | some c =>
  obtain ⟨t, fr, ht⟩ := hA _ _ hc
  have := (Array.getElem?_eq_some_iff.1 ht).1
  omega
theorem Xn (w : World) (o : Obj) : (w.alloc o).heap[w.heap.size]? = some o := by
 show (w.heap.push o)[w.heap.size]? = _; simp
theorem arU (w : World) (o : Obj) : (w.alloc o).heap.size = w.heap.size + 1 := by
 show (w.heap.push o).size = _; simp
theorem Xw (hR : Rel B F H L s a w) (hF : F g) (hd : ∀ d, dst = some d → d < a.tmps.size) {sem : Sem Value} {v : Value} {o : Obj} {e : Ent} {p : PV} {w1 : World} {cap sz : Nat}
  (hq : Quiet w w1) (hw1 : w1.heap.size = w.heap.size) (hr : sem.run P w = .ok v (w1.alloc o))
  (he : ∀ L', Vg L L' → L'.used g → (∀ s', L'.at_ k = some s' → s' = ⟨g, some w.heap.size, cap, sz⟩) → wL H L' (w1.alloc o) ⟨g, some w.heap.size, cap, sz⟩ e ∧ Rep H L' v p)
  (hK : K ((s.put dst p).set k g e)) : Good P B F a dst g K sem w := by
 have hq2 : Quiet w (w1.alloc o) := hq.trans (Quiet.alloc w1 o)
 let sl : Slot := ⟨g, some w.heap.size, cap, sz⟩
 let L' : Lay := ⟨fun x => L.used x ∨ x = sl.gen, fun j => if j = k then some sl else L.at_ j⟩
 have hL : Vg L L' := by
  refine ⟨fun g hg => .inl hg, fun j x hx hu => ?_⟩
  by_cases hj : j = k
  ·simp only [L', hj, if_true, Option.some.injEq] at hx
   subst hx
   exact (hR.free _ hF hu).elim
  ·simpa [L', hj] using hx
 obtain ⟨he1, he2⟩ := he L' hL (.inr rfl) (fun s' hs' => by simpa [L'] using hs'.symm)
 have hset := hR.VX (sl := sl) (e := e) (H' := H) (w' := w1.alloc o) hF (.refl _) (hR.agree.quiet hq2) (fun b c hc => .inl hc) hq2.size (fun b hb _ => hq2.old b hb (by simp)) hq2.out hq2.os hq2.tape
  (fun b hb => by
   simp only [sl, Option.some.injEq] at hb
   subst hb
   exact ⟨by rw [arU]; omega, .inl ⟨hR.ext.size, fun j x hx hxb => by have := hR.low j x _ hx hxb; omega⟩⟩) he1
 refine ⟨v, _, H, _, _, hr, hset.put (dst := dst) hd he2, ?_⟩
 cases dst <;> exact hK
theorem anx (hR : Rel B F H L s a w) (hF : F g) (hk : k < 1000) (hd : ∀ d, dst = some d → d < a.tmps.size) (t : Nat)
  (h : ((match (zH P t).zero with | some z => .eff (.box k g 0) k g (.var t z) | none => .bad : Res)).wp P q s dst k g K) : Good P B F a dst g K (Instr.alloc t true (.tuple #[])) w := by
 split at h
 ·rename_i z hz
  simp only [Res.wp] at h
  have hkd : (zH P t).kd ≠ .none := by
   intro hn
   unfold zH at hz hn
   split at hz
   ·rename_i i d h1 h2
    simp only [h1, h2] at hn
    cases d <;> simp [YF] at hn
   ·simp at hz
  obtain ⟨i, d, h1, h2, h3⟩ := Qg hkd
  rw [h3] at hz
  cases hzz : i.zero with
  | none => simp [hzz] at hz
  | some zv =>
   simp only [hzz, Option.map_some, Option.some.injEq] at hz
   refine Xw hR hF hd (cap := 0) (sz := 0) (w1 := w) (o := .cells zv.cells t) (v := .pointer (some ⟨w.heap.size, 0, none⟩)) (.refl w) rfl ?_ (fun L' hL hu hat => ⟨?_, ?_⟩) h
   ·simp [Instr.alloc, zeroValue, typeInfo, h1, hzz, newVar, newRow]
   ·exact ⟨w.heap.size, zv.cells.toList, t, rfl, Kh hR.agree, by simpa using Xn w _, by rw [← hz]; exact zI.WY _⟩
   ·refine .box _ _ _ _ _ hu ⟨_, rfl⟩ fun s' b hs' _ hb => ?_
    rw [hat s' hs'] at hb
    simp only [Option.some.injEq] at hb
    subst hb; rfl
 ·simp [Res.wp] at h
theorem ar7 (hR : Rel B F H L s a w) (hF : F g) (hk : k < 1000) (hd : ∀ d, dst = some d → d < a.tmps.size) (t : Nat) (x : Operand)
  (h : (Res.need ((s.ev x).lies = true) (.eff (.box k g 0) k g (.var t (s.ev x).cells))).wp P q s dst k g K) : Good P B F a dst g K (Instr.box t (a.eval x)) w := by
 simp only [Res.wp] at h
 obtain ⟨h1, h⟩ := h
 refine Xw hR hF hd (cap := 0) (sz := 0) (w1 := w) (o := .cells (a.eval x).cells t) (v := .pointer (some ⟨w.heap.size, 0, none⟩)) (.refl w) rfl ?_ (fun L' hL hu hat => ⟨?_, ?_⟩) h
 ·simp [Instr.box, newVar, newRow]
 ·exact ⟨w.heap.size, (a.eval x).cells.toList, t, rfl, Kh hR.agree, by simpa using Xn w _, ((hR.eval x).cells h1).mono (.refl _) hL⟩
 ·refine .box _ _ _ _ _ hu ⟨_, rfl⟩ fun s' b hs' _ hb => ?_
  rw [hat s' hs'] at hb
  simp only [Option.some.injEq] at hb
  subst hb; rfl
theorem anT (hR : Rel B F H L s a w) (hF : F g) (hk : k < 1000) (hd : ∀ d, dst = some d → d < a.tmps.size) (t : Nat) (x : Operand)
  (h : ((match (zH P t).kd, s.ev x with | .str, .str b => .eff (.box k g 0) k g (.iter b 0) | _, _ => .bad : Res)).wp P q s dst k g K) : Good P B F a dst g K (Instr.range t (a.eval x)) w := by
 have hx := hR.eval x
 generalize s.ev x = p at h hx
 generalize a.eval x = v at hx
 split at h
 ·rename_i b hkd
  simp only [Res.wp] at h
  cases hx
  refine Xw hR hF hd (cap := 0) (sz := 0) (w1 := w) (o := .stringIter ⟨b.toArray⟩ 0) (v := .pointer (some ⟨w.heap.size, 0, none⟩)) (.refl w) rfl ?_ (fun L' hL hu hat => ⟨?_, ?_⟩) h
  ·simp [Instr.range, run_underlying (QK hkd)]
  ·exact ⟨w.heap.size, rfl, Kh hR.agree, Xn w _⟩
  ·refine .box _ _ _ _ _ hu ⟨_, rfl⟩ fun s' b hs' _ hb => ?_
   rw [hat s' hs'] at hb
   simp only [Option.some.injEq] at hb
   subst hb; rfl
 ·simp [Res.wp] at h
end
end Go.Proofs.YtclohbgnaopjfaaDoor
namespace Go.Proofs.YtclohbgnaopjfaaDoor
set_option linter.unusedSimpArgs false
set_option linter.unusedVariables false
open Go
section
variable {P : Program} {B : Base} {F : Nat → Prop} {H : Imm} {L : Lay} {s : St} {a : Act} {w : World} {q : Bool} {dst : Option Nat} {k g : Nat} {K : St → Prop}
theorem ao1 (hR : Rel B F H L s a w) (hd : ∀ d, dst = some d → d < a.tmps.size) (ty : Nat) (x : Operand)
  (h : (Vk s.sto.find (s.ev x)).wp P q s dst k g K) : Good P B F a dst g K (Instr.next (a.eval x) true ty) w := by
 have hx := hR.eval x
 generalize s.ev x = p at h hx
 generalize a.eval x = v at hx
 unfold Vk at h
 split at h
 ·rename_i k' g'
  split at h
  ·rename_i g'' b pos hf
   simp only [Res.wp] at h
   obtain ⟨rfl, h⟩ := h
   obtain ⟨sl, e1, e2, bl, e3, e4, e5⟩ := hR.sto k' g' _ hf
   cases hx with
   | box _ _ _ _ _ hu hs hx =>
    have hv := hx sl bl e1 e2 e3
    subst hv
    have hget : (getObj bl).run P w = .ok (.stringIter ⟨b.toArray⟩ pos) w := by simp [getObj, Sem.run, e5]
    have hsz : (ByteArray.mk b.toArray).size = b.length := by show b.toArray.size = _; simp
    split at h
    ·rename_i hlt
     simp only [Res.wp] at h
     let w' : World := { w with heap := w.heap.setIfInBounds bl (.stringIter ⟨b.toArray⟩ (pos + (Utf8.decode ⟨b.toArray⟩ pos).2)) }
     have hset : (setObj bl (.stringIter ⟨b.toArray⟩ (pos + (Utf8.decode ⟨b.toArray⟩ pos).2))).run P w = .ok () w' := by simp [setObj, Sem.run, e5, w']
     have hblt : bl < w.heap.size := hR.low k' sl bl e1 e3
     have hold : ∀ c, c ≠ bl → w'.heap[c]? = w.heap[c]? := by
      intro c hc
      show (w.heap.setIfInBounds bl _)[c]? = _
      rw [Array.getElem?_setIfInBounds]
      simp [Ne.symm hc]
     have hnew : w'.heap[bl]? = some (.stringIter ⟨b.toArray⟩ (pos + (Utf8.decode ⟨b.toArray⟩ pos).2)) := by
      show (w.heap.setIfInBounds bl _)[bl]? = _
      simp [hblt]
     have hA : Agree H w' := by
      intro c d hc
      obtain ⟨t, fr, ht⟩ := hR.agree c d hc
      refine ⟨t, fr, ?_⟩
      rw [hold c (fun e => by subst e; rw [e4] at hc; cases hc)]
      exact ht
     have hs' := hR.VQ (e := .iter b (pos + (Utf8.decode ⟨b.toArray⟩ pos).2)) (H' := H) (w' := w') e1 (.refl _) hA (fun _ _ hc => .inl hc) (by show w.heap.size ≤ (w.heap.setIfInBounds bl _).size; simp)
      (fun c _ hc => hold c (fun e => hc (by rw [e3, e]))) rfl rfl rfl ⟨bl, e3, e4, hnew⟩
     rw [e2] at hs'
     refine ⟨.tuple #[.bool true, goInt pos, .int .i32 ((Utf8.decode ⟨b.toArray⟩ pos).1 : Nat)], w', H, L, _, ?_, (hs'.put (dst := dst) (p := .tup [.bool true, .int .i64 pos, .int .i32 (Utf8.decode ⟨b.toArray⟩ pos).1]) hd ?_).less (fun _ h => h.1), ?_⟩
     ·simp only [Instr.next, Sem.run_bind, hget, Result.andThen_ok, hsz, hlt, if_true, hset, Sem.run_pure]
     ·exact Rep.tup (H := H) L [_, _, _] _ (.cons _ _ _ _ _ (.bool _ _) (.cons _ _ _ _ _ (.int _ _ _) (.cons _ _ _ _ _ (.int _ _ _) (.nil _))))
     ·cases dst <;> exact h
    ·rename_i hlt
     simp only [Res.wp] at h
     refine zP hR hd (v := .tuple #[.bool false]) ?_ (Rep.tup (H := H) L [_] _ (.cons _ _ _ _ _ (.bool _ _) (.nil _))) h
     simp only [Instr.next, Sem.run_bind, hget, Result.andThen_ok, hsz, hlt, if_false, Sem.run_pure]
  ·simp [Res.wp] at h
 ·simp [Res.wp] at h
def awG (P : Program) (B : Base) (F : Nat → Prop) (a : Act) (dst : Option Nat) (g : Nat) (K : St → Prop) (sem : Sem Unit) (w : World) : Prop :=
 ∃ w' H' L' s', sem.run P w = .ok () w' ∧ Rel B (fun x => F x ∧ x ≠ g) H' L' s' (a.put dst undef) w' ∧ K s'
theorem Yw {t : Nat} (hk : (zH P t).kd ≠ .none) (b o : Nat) (cur : Array Value) (et : TypeId) (hb : w.heap[b]? = some (.cells cur et (0, 0))) (v : Value) (hl : v.cells.size = (zH P t).size)
  (ho : o + v.cells.size ≤ cur.size) (h1 : ∀ u ∈ v.cells.toList, u.oneCell' = true) :
  (storeVar t ⟨b, o, none⟩ v).run P w = .ok () (w.setRow b (cur.toList.take o ++ v.cells.toList ++ cur.toList.drop (o + v.cells.toList.length)).toArray) := by
 have := run_storeCells_at P b o et v.cells.toList 0 cur w hb (by simpa using ho) h1
 simp only [Nat.add_zero] at this
 simp only [storeVar, Sem.run_bind, jN hk, Result.andThen_ok, hl, ne_eq, not_true_eq_false, if_false, this]
theorem Q8 (w : World) (b : Nat) (cur cs : Array Value) (et : TypeId) (hb : w.heap[b]? = some (.cells cur et (0, 0))) :
  (w.setRow b cs).heap[b]? = some (.cells cs et (0, 0)) ∧ (∀ c, c ≠ b → (w.setRow b cs).heap[c]? = w.heap[c]?) :=
 ⟨setRow_heap w b cur cs et _ hb, fun c hc => setRow_other w b c cs hc⟩
theorem QO (hA : Agree H w) {b : Nat} (hn : H b = none) (cs : Array Value) : Agree H (w.setRow b cs) := by
 intro c d hc
 obtain ⟨t, fr, ht⟩ := hA c d hc
 refine ⟨t, fr, ?_⟩
 rw [setRow_other w b c cs (fun e => by subst e; rw [hn] at hc; cases hc)]
 exact ht
theorem ail {sz off : Nat} {us : List PV} {x' : PV} : ∀ (xs : List PV) (i : Nat), (∀ x ∈ xs, x.cells.length = sz) → i < xs.length → x'.cells = setCells (xs.getD i .undef).cells off us → off + us.length ≤ sz →
  (xs.set i x').flatMap PV.cells = setCells (xs.flatMap PV.cells) (i * sz + off) us
 | [], i, _, h, _, _ => by simp at h
 | x :: xs, 0, hs, _, hx, ho => by
  have h0 := hs x (by simp)
  simp only [List.getD_cons_zero] at hx
  simp only [List.set_cons_zero, List.flatMap_cons, hx, setCells, Nat.zero_mul, Nat.zero_add]
  rw [List.take_append_of_le_length (by omega), List.drop_append_of_le_length (by omega)]
  simp [List.append_assoc]
 | x :: xs, i + 1, hs, h, hx, ho => by
  have h0 := hs x (by simp)
  have ih := ail xs i (fun y hy => hs y (by simp [hy])) (by simpa using h) (by simpa using hx) ho
  simp only [List.set_cons_succ, List.flatMap_cons, ih, setCells]
  have e1 : (i + 1) * sz + off - x.cells.length = i * sz + off := by rw [h0, Nat.succ_mul]; omega
  have e2 : (i + 1) * sz + off + us.length - x.cells.length = i * sz + off + us.length := by rw [h0, Nat.succ_mul]; omega
  have e3 : x.cells.length ≤ (i + 1) * sz + off := by rw [h0, Nat.succ_mul]; omega
  rw [List.take_append, List.drop_append, e1, e2, List.take_of_length_le e3, List.drop_eq_nil_of_le (Nat.le_trans e3 (Nat.le_add_right _ _))]
  simp [List.append_assoc]
theorem am8 (hR : Rel B F H L s a w) (hd : ∀ d, dst = some d → d < a.tmps.size) (t : Nat) (x y : Operand)
  (h : (Zc P s.sto.find t (s.ev x) (s.ev y)).wp P q s dst k g K) : awG P B F a dst g K (Instr.storeAt t (a.eval x) (a.eval y)) w := by
 have hx := hR.eval x
 have hy := hR.eval y
 generalize s.ev x = p at h hx
 generalize s.ev y = r at h hy
 generalize a.eval x = u at hx
 generalize a.eval y = v at hy
 unfold Zc at h
 split at h
 ·simp [Res.wp] at h
 ·rename_i hkd
  have hk : (zH P t).kd ≠ .none := hkd
  simp only [Res.wp] at h
  obtain ⟨⟨hl, hlen⟩, h⟩ := h
  have hc := hy.cells hl
  have ho := hy.ones hl
  have hcl := hc.length
  simp only [Array.length_toList] at hcl
  split at h
  ·rename_i k' g' off
   split at h
   ·rename_i g'' tv cs hf
    simp only [Res.wp] at h
    obtain ⟨⟨rfl, hoff⟩, h⟩ := h
    obtain ⟨sl, e1, e2, b, vs, _, e3, e4, e5, e6⟩ := hR.sto k' g' _ hf
    have hvl := e6.length
    cases hx with
    | box _ _ _ _ _ hu hs hx =>
     have hv := hx sl b e1 e2 e3
     subst hv
     have hrun := Yw (P := P) hk b off vs.toArray tv e5 v (by omega) (by simp; omega) ho
     obtain ⟨f1, f2⟩ := Q8 w b vs.toArray (vs.take off ++ v.cells.toList ++ vs.drop (off + v.cells.toList.length)).toArray tv e5
     have hs' := hR.VQ (e := .var tv (setCells cs off r.cells)) (H' := H) (w' := w.setRow b (vs.take off ++ v.cells.toList ++ vs.drop (off + v.cells.toList.length)).toArray) e1 (.refl _) (QO hR.agree e4 _) (fun _ _ hc => .inl hc) (by simp)
      (fun c _ hc => f2 c (fun e => hc (by rw [e3, e]))) (by simp) (by simp) (by simp) ⟨b, _, tv, e3, e4, f1, Km e6 hc off⟩
     rw [e2] at hs'
     refine ⟨_, H, L, _, by simpa [Instr.storeAt, Instr.sureAddr] using hrun, (hs'.put (dst := dst) hd (.undef _ _)).less (fun _ h => h.1), ?_⟩
     cases dst <;> exact h
   ·simp [Res.wp] at h
  ·rename_i k' g' i off
   split at h
   ·rename_i g'' sz xs hf
    simp only [Res.wp] at h
    obtain ⟨⟨rfl, hi, hpu⟩, h⟩ := h
    obtain ⟨sl, e1, e2, e3, e4, e5, e6⟩ := hR.sto k' g' _ hf
    rcases e6 with ⟨_, e7⟩ | ⟨b, vs, rest, et, g1, g2, g3, g4, g5, g6⟩
    ·omega
    ·cases hx with
     | elt _ _ _ _ _ _ hu hs hx =>
      have hv := hx sl b e1 e2 g1
      subst hv
      rw [e3]
      have hvl := g5.length
      rw [vY _ e4] at hvl
      have hmul : (i + 1) * sz ≤ xs.length * sz := Nat.mul_le_mul_right _ hi
      rw [Nat.succ_mul] at hmul
      have key : ∀ x' : PV, x'.cells.length = sz → x'.cells = setCells (xs.getD i .undef).cells off r.cells → off + r.cells.length ≤ sz → K ((s.put dst .undef).set k' g' (.row false sz (xs.set i x'))) →
        awG P B F a dst g K (Instr.storeAt t (.pointer (some ⟨b, i * sz + off, none⟩)) v) w := by
       intro x' hx1 hx2 hoff hK
       have hrun := Yw (P := P) hk b (i * sz + off) (vs ++ rest).toArray et g3 v (by omega) (by simp; omega) ho
       have hcur : ((vs ++ rest).toArray.toList.take (i * sz + off) ++ v.cells.toList ++ (vs ++ rest).toArray.toList.drop (i * sz + off + v.cells.toList.length)) =
         (vs.take (i * sz + off) ++ v.cells.toList ++ vs.drop (i * sz + off + v.cells.toList.length)) ++ rest := by
        simp only [Array.length_toList]
        rw [List.take_append_of_le_length (by omega), List.drop_append_of_le_length (by omega)]
        simp [List.append_assoc]
       rw [hcur] at hrun
       obtain ⟨f1, f2⟩ := Q8 w b (vs ++ rest).toArray ((vs.take (i * sz + off) ++ v.cells.toList ++ vs.drop (i * sz + off + v.cells.toList.length)) ++ rest).toArray et g3
       have hs' := hR.VQ (e := .row false sz (xs.set i x')) (H' := H) (w' := w.setRow b ((vs.take (i * sz + off) ++ v.cells.toList ++ vs.drop (i * sz + off + v.cells.toList.length)) ++ rest).toArray) e1 (.refl _) (QO hR.agree g2 _) (fun _ _ hc => .inl hc) (by simp)
        (fun c _ hc => f2 c (fun e => hc (by rw [g1, e]))) (by simp) (by simp) (by simp)
        ⟨e3, fun z hz => by
         rcases List.mem_or_eq_of_mem_set hz with hz | rfl
         ·exact e4 z hz
         ·exact hx1, by simpa using e5, .inr ⟨b, _, rest, et, g1, g2, f1, fun z hz => by
          simp only [List.mem_append] at hz
          rcases hz with (hz | hz) | hz
          ·exact g4 z (List.mem_of_mem_take hz)
          ·exact ho z hz
          ·exact g4 z (List.mem_of_mem_drop hz), by
          rw [ail xs i e4 hi hx2 hoff]
          exact Km g5 (hc.pure (by cases r <;> simp_all [PV.pure, PV.cells, yj])) _, by simpa using g6⟩⟩
       rw [e2] at hs'
       refine ⟨_, H, L, _, by simpa [Instr.storeAt, Instr.sureAddr] using hrun, (hs'.put (dst := dst) hd (.undef _ _)).less (fun _ h => h.1), ?_⟩
       cases dst <;> exact hK
      have hxi : (xs.getD i .undef).cells.length = sz := by
       have : xs.getD i .undef ∈ xs := by
        rw [List.getD_eq_getElem?_getD, List.getElem?_eq_getElem hi]
        exact List.getElem_mem hi
       exact e4 _ this
      split at h
      ·rename_i ds hds
       simp only [Res.wp] at h
       rw [hds] at hxi
       have hxi' : ds.length = sz := hxi
       have h1 := h.1
       exact key (.agg (setCells ds off r.cells)) (show (setCells ds off r.cells).length = sz by rw [agU _ _ _ (by omega)]; exact hxi') (by rw [hds]; rfl) h.1 h.2
      ·simp only [Res.wp] at h
       obtain ⟨⟨rfl, hsz⟩, h⟩ := h
       refine key _ hsz ?_ (by omega) h
       unfold setCells
       simp only [List.take_zero, List.nil_append, Nat.zero_add]
       rw [List.drop_eq_nil_of_le (by omega), List.append_nil]
   ·simp [Res.wp] at h
  ·simp [Res.wp] at h
end
end Go.Proofs.YtclohbgnaopjfaaDoor
namespace Go.Proofs.YtclohbgnaopjfaaDoor
set_option linter.unusedSimpArgs false
set_option linter.unusedVariables false
open Go
section
variable {P : Program} {B : Base} {F : Nat → Prop} {H : Imm} {L : Lay} {s : St} {a : Act} {w : World} {q : Bool} {dst : Option Nat} {k g : Nat} {K : St → Prop}
theorem afN {size : Nat} (place : Nat → Option (Nat × Nat)) (hpl : ∀ i, place i = some (i * size, size)) : ∀ (ps : List (Nat × Value)) (qs : List (Nat × PV)) (cells : Array Value) (xs out : List PV),
  (∀ x ∈ xs, x.cells.length = size) → (∀ v ∈ cells.toList, v.oneCell' = true) → zI H Lay.none cells.toList (xs.flatMap PV.cells) → ps.map (·.1) = qs.map (·.1) →
  (∀ (i : Nat) (x : Nat × Value) (y : Nat × PV), ps[i]? = some x → qs[i]? = some y → Rep H L x.2 y.2) → aj3 size xs qs = some out →
  ∃ r : Array Value, Instr.fill place cells ps = some r ∧ (∀ x ∈ out, x.cells.length = size) ∧ (∀ v ∈ r.toList, v.oneCell' = true) ∧ zI H Lay.none r.toList (out.flatMap PV.cells) ∧ out.length = xs.length
 | [], qs, cells, xs, out, hx, ho, hc, hm, _, h => by
  cases qs with
  | nil => simp only [aj3, Option.some.injEq] at h; subst h; exact ⟨cells, rfl, hx, ho, hc, rfl⟩
  | cons _ _ => simp at hm
 | (i, v) :: ps, qs, cells, xs, out, hx, ho, hc, hm, hv, h => by
  cases qs with
  | nil => simp at hm
  | cons y qs =>
   obtain ⟨i', p⟩ := y
   simp only [List.map_cons, List.cons.injEq] at hm
   obtain ⟨rfl, hm⟩ := hm
   simp only [aj3] at h
   split at h
   ·rename_i hcond
    obtain ⟨c1, c0, c2, c3⟩ := hcond
    have hp := hv 0 (i, v) (i, p) rfl rfl
    have h0 : zI H Lay.none v.cells.toList p.cells := (hp.pure c0).cells c1
    have h1 := hp.ones c1
    have hl0 := h0.length
    have hlc := hc.length
    rw [vY _ hx] at hlc
    simp only [Array.length_toList] at hl0 hlc
    have hmul : (i + 1) * size ≤ xs.length * size := Nat.mul_le_mul_right _ c3
    rw [Nat.succ_mul] at hmul
    have hnot : ¬ ((v.cells.size ≠ size || i * size + v.cells.size > cells.size) = true) := by simp; omega
    simp only [Instr.fill, hpl, hnot]
    have he : (v.cells.zipIdx.foldl (fun (cs : Array Value) (x : Value × Nat) => cs.setIfInBounds (i * size + x.2) x.1) cells).toList = cells.toList.take (i * size) ++ v.cells.toList ++ cells.toList.drop (i * size + v.cells.toList.length) := by
     rw [← Array.foldl_toList, Array.toList_zipIdx]
     simpa using foldl_set (i * size) v.cells.toList 0 cells (by simp; omega)
    have hset := Km hc h0 (i * size)
    rw [← he] at hset
    have hxi : (xs.getD i .undef).cells.length = size := by
     have : xs.getD i .undef ∈ xs := by
      rw [List.getD_eq_getElem?_getD, List.getElem?_eq_getElem c3]
      exact List.getElem_mem c3
     exact hx _ this
    have hfs := ail (off := 0) (us := p.cells) (x' := p) xs i hx c3 (by
     unfold setCells
     simp only [List.take_zero, List.nil_append, Nat.zero_add]
     rw [List.drop_eq_nil_of_le (by omega), List.append_nil]) (by omega)
    rw [Nat.add_zero] at hfs
    rw [← hfs] at hset
    obtain ⟨r, r1, r2, r3, r4, r5⟩ := afN place hpl ps qs _ (xs.set i p) out (fun z hz => by
      rcases List.mem_or_eq_of_mem_set hz with hz | rfl
      ·exact hx z hz
      ·exact c2) (fun z hz => by
      rw [he] at hz
      simp only [List.mem_append] at hz
      rcases hz with (hz | hz) | hz
      ·exact ho z (List.mem_of_mem_take hz)
      ·exact h1 z hz
      ·exact ho z (List.mem_of_mem_drop hz)) hset hm (fun j x y hx hy => hv (j + 1) x y (by simpa using hx) (by simpa using hy)) h
    exact ⟨r, r1, r2, r3, r4, by rw [r5]; simp⟩
   ·simp at h
theorem ali {ty : Ty} {z : List PV} (h : zOk ty z = true) : (ai4 ty z).cells = z := by
 simp only [zOk, Bool.and_eq_true, beq_iff_eq, bne_iff_ne, Bool.or_eq_true] at h
 unfold ai4
 cases ha : ty.agg with
 | true => rfl
 | false =>
  rcases h.2 with h1 | h1
  ·rw [ha] at h1; cases h1
  ·match z, h1, h.1.2 with
   | [p], _, hl =>
    simp only [List.all_cons, List.all_nil, Bool.and_true] at hl
    simp only [List.headD_cons]
    cases p <;> simp_all [PV.leaf, PV.cells]
theorem aat {x : PV} {z : List PV} (h : x.cells = z) : ∀ n, (List.replicate n x).flatMap PV.cells = (List.replicate n z).flatten
 | 0 => rfl
 | n + 1 => by simp only [List.replicate_succ, List.flatMap_cons, h, List.flatten_cons, aat h n]
theorem akH (z : Array Value) (hz : z.size ≠ 0) : ∀ n, ((Array.range (n * z.size)).map fun i => z[i % z.size]!).toList = (List.replicate n z.toList).flatten
 | 0 => by simp
 | n + 1 => by
  have ih := akH z hz n
  simp only [Array.toList_map, Array.toList_range] at ih ⊢
  rw [Nat.succ_mul, List.range_add, List.map_append, ih, List.replicate_succ', List.flatten_append]
  congr 1
  simp only [List.map_map, List.flatten_cons, List.flatten_nil, List.append_nil]
  apply List.ext_getElem
  ·simp
  ·intro i h1 h2
   simp only [List.length_map, List.length_range] at h1
   simp only [List.getElem_map, List.getElem_range, Function.comp, Nat.mul_add_mod_self_right, Nat.mod_eq_of_lt h1, Array.getElem_toList]
   simp [h1]
theorem zI.flatten {vs : List Value} {ps : List PV} (h : zI H L vs ps) : ∀ n, zI H L (List.replicate n vs).flatten (List.replicate n ps).flatten
 | 0 => .nil _
 | n + 1 => by simpa [List.replicate_succ] using h.append (h.flatten n)
theorem afj (hR : Rel B F H L s a w) (hF : F g) (hk : k < 1000) (hd : ∀ d, dst = some d → d < a.tmps.size) (t len : Nat) (parts : Array (Nat × Operand))
  (h : (Z5 P k g t len (parts.toList.map fun p => (p.1, s.ev p.2))).wp P q s dst k g K) : Good P B F a dst g K (Instr.buildSlice t len (parts.map fun (i, x) => (i, a.eval x))) w := by
 unfold Z5 at h
 split at h
 ·rename_i e hkd
  have hu := run_underlying (jR hkd)
  split at h
  ·rename_i z hz
   simp only [Res.wp] at h
   obtain ⟨⟨h1, h2⟩, h⟩ := h
   split at h
   ·rename_i xs hxs
    simp only [Res.wp] at h
    have h2' := h2
    simp only [zOk, Bool.and_eq_true, beq_iff_eq, bne_iff_ne, Bool.or_eq_true] at h2'
    obtain ⟨⟨⟨hz1, hz2⟩, hz3⟩, hz4⟩ := h2'
    have hke := yB (P := P) (t := e) rfl hz2
    obtain ⟨i, d, e1, e2, e3⟩ := Qg hke
    have hsize : (zH P e).size = i.size := by rw [e3]
    have hzero : (zH P e).zero = i.zero.map fun z => z.cells.toList.map Wh := by rw [e3]
    rw [hzero] at hz
    cases hzz : i.zero with
    | none => simp [hzz] at hz
    | some zv =>
     simp only [hzz, Option.map_some, Option.some.injEq] at hz
     have hzl : zv.cells.size = (zH P e).size := by
      have := congrArg List.length hz
      simp only [List.length_map, Array.length_toList] at this
      omega
     have hzr : zI H Lay.none zv.cells.toList z := by rw [← hz]; exact zI.WY _
     have hzc := ali h2
     let init : Array Value := (Array.range (len * zv.cells.size)).map fun i => zv.cells[i % zv.cells.size]!
     have hinit : init.toList = (List.replicate len zv.cells.toList).flatten := akH zv.cells (by omega) len
     obtain ⟨r, r1, r2, r3, r4, r5⟩ := afN (H := H) (size := (zH P e).size) (fun i => some (i * (zH P e).size, (zH P e).size)) (fun _ => rfl) (parts.map fun x => (x.1, a.eval x.2)).toList (parts.toList.map fun p => (p.1, s.ev p.2)) init
      (List.replicate len (ai4 (zH P e) z)) xs
      (fun x hx => by rw [List.eq_of_mem_replicate hx, hzc, hz1])
      (fun v hv => by
       rw [hinit] at hv
       obtain ⟨l, hl, hvl⟩ := List.mem_flatten.1 hv
       rw [List.eq_of_mem_replicate hl] at hvl
       exact hzr.one hz3 v hvl)
      (by rw [hinit, aat hzc]; exact hzr.flatten len)
      (by simp) (fun i x y hx hy => by
       simp only [Array.toList_map, List.getElem?_map] at hx hy
       cases hp : parts.toList[i]? with
       | none => simp [hp] at hx
       | some pr =>
        simp only [hp, Option.map_some, Option.some.injEq] at hx hy
        subst hx; subst hy
        exact (hR.eval _)) hxs
     have hxl : xs.length = len := by rw [r5]; simp
     have hinit' : (Array.map (fun i => (if len * (zH P e).size = 0 then (#[] : Array Value) else zv.cells)[i % (if len * (zH P e).size = 0 then (#[] : Array Value) else zv.cells).size]!) (Array.range (len * (zH P e).size))) = init := by
      by_cases h0 : len * (zH P e).size = 0
      ·simp only [h0, if_true, init, hzl]
       simp
      ·simp only [h0, if_false, init, hzl]
     have hnot : ¬ (len * (zH P e).size > 2 ^ 24) := by omega
     have hrun : (Instr.buildSlice t len (parts.map fun x => (x.1, a.eval x.2))).run P w = .ok (.slice (some ⟨w.heap.size, 0, none⟩) len len) (w.alloc (.cells r e)) := by
      by_cases h0 : len * (zH P e).size = 0
      ·simp only [h0, if_true] at hinit'
       rw [h0] at hnot
       simp only [Instr.buildSlice, Sem.run_bind, hu, Result.andThen_ok, jN hke, hnot, if_false, Sem.run_pure, h0, if_true, hinit', r1, newRow, run_newObj]
       rfl
      ·simp only [h0, if_false] at hinit'
       have hzv : (zeroValue e).run P w = .ok zv w := by simp [zeroValue, typeInfo, e1, hzz]
       simp only [Instr.buildSlice, Sem.run_bind, hu, Result.andThen_ok, jN hke, hnot, if_false, Sem.run_pure, h0, hzv, hinit', r1, newRow, run_newObj]
       rfl
     refine Xw hR hF hd (cap := len) (sz := (zH P e).size) (w1 := w) (o := .cells r e) (.refl w) rfl hrun (fun L' hL hu' hat => ⟨?_, ?_⟩) h
     ·refine ⟨rfl, r2, by simp [hxl], .inr ⟨w.heap.size, r.toList, [], e, rfl, Kh hR.agree, ?_, r3, r4, by simp [hxl]⟩⟩
      simpa using Xn w (.cells r e)
     ·refine .row _ _ _ _ _ hu' ⟨_, _, rfl⟩ fun s' hs' _ => ?_
      rw [hat s' hs']
      rfl
   ·simp [Res.wp] at h
  ·simp [Res.wp] at h
 ·simp [Res.wp] at h
structure Src (P : Program) (w : World) (v : Value) (us : List Value) (m size : Nat) : Prop where
 len : ∀ w', (Builtin.lenOf v).run P w' = .ok m w'
 cells : ∀ w' : World, w'.heap = w.heap → (Builtin.firstCells size m v).run P w' = .ok us.toArray w'
 count : us.length = m * size
theorem SrcOf.same {w w' : World} {v : Value} {vs : List Value} {n size : Nat} (h : SrcOf w v vs n size) (hw : w'.heap = w.heap) : SrcOf w' v vs n size := by
 rcases h with h | ⟨b, c, h1, h2, h3⟩
 ·exact .inl h
 ·exact .inr ⟨b, c, h1, h2, fun j u hj => by rw [← h3 j u hj]; simp [World.cell?, hw]⟩
theorem asA (hR : Rel B F H L s a w) {v : Value} {x : PV} {byt : Bool} {size : Nat} {xs : List PV} (hx : Rep H L v x) (h : elems s.sto.find byt size x = some xs) :
  ∃ us, Src P w v us xs.length size ∧ zI H Lay.none us (xs.flatMap PV.cells) ∧ (∀ x ∈ xs, x.cells.length = size) ∧ (∀ v ∈ us, v.oneCell' = true) := by
 rcases afp hR hx h with ⟨b, rfl, rfl, rfl, rfl, rfl⟩ | ⟨vs, h1, h2, h3, h4, ad, c, rfl⟩
 ·have hfl : ∀ l : List UInt8, (l.map fun c => PV.int .u8 c.toNat).flatMap PV.cells = l.map fun c => PV.int .u8 c.toNat := by
   intro l
   induction l with
   | nil => rfl
   | cons c l ih => simp only [List.map_cons, List.flatMap_cons, ih]; rfl
  have hrl : ∀ l : List UInt8, zI H Lay.none (l.map fun c => Value.int .u8 c.toNat) (l.map fun c => PV.int .u8 c.toNat) := by
   intro l
   induction l with
   | nil => exact .nil _
   | cons c l ih => exact .cons _ _ _ _ _ (.int _ _ _) ih
  refine ⟨b.map fun c => Value.int .u8 c.toNat, ⟨fun w' => ?_, fun w' hw => ?_, by simp⟩, by rw [hfl]; exact hrl b, ?_, ?_⟩
  ·have : (ByteArray.mk b.toArray).size = b.length := by show b.toArray.size = _; simp
   simp [Builtin.lenOf, this]
  ·simp only [Builtin.firstCells, Sem.run_pure]
   congr 1
   apply Array.ext'
   simp
  ·intro x hx
   obtain ⟨c, _, rfl⟩ := List.mem_map.1 hx
   rfl
  ·intro x hx
   obtain ⟨c, _, rfl⟩ := List.mem_map.1 hx
   rfl
 ·refine ⟨vs, ⟨fun w' => by simp [Builtin.lenOf], fun w' hw => ah6 (h1.same hw), ?_⟩, h2, h3, h4⟩
  rw [h2.length, vY _ h3]
theorem yf {t t' e ty : Nat} (hu : P.underlying t = some (.slice e)) (hk : (zH P e).kd ≠ .none) (hu' : ∃ d, P.underlying t' = some d ∧ ∀ j, d ≠ .int j) (v x : Value) (ad : Option Addr) (n cap m : Nat) (us : List Value)
  (hv : v = .slice ad n cap) (hsrc : Src P w x us m (zH P e).size) (hroom : n + m ≤ cap) (w' : World)
  (hst : (match ad with | some b => (storeCells (b.add (n * (zH P e).size)) us).run P w | none => .ok () w) = .ok () w') :
  (Builtin.append_ #[t, t'] ty #[v, x]).run P w = .ok (.slice ad (n + m) cap) w' := by
 obtain ⟨d, hd1, hd2⟩ := hu'
 subst hv
 have hz : ((match d with | .int _ => true | _ => false) : Bool) = false := by
  cases d <;> first
   | rfl
   | exact (hd2 _ rfl).elim
 have hc := hsrc.cells w rfl
 cases ad with
 | none =>
  simp only at hst
  cases hst
  simp [Builtin.append_, run_underlying hu, run_underlying hd1, jN hk, hsrc.len, hroom, hc]
 | some b =>
  simp only at hst
  simp [Builtin.append_, run_underlying hu, run_underlying hd1, jN hk, hsrc.len, hroom, hc, hst]
theorem agb {t t' e ty : Nat} (hu : P.underlying t = some (.slice e)) (hk : (zH P e).kd ≠ .none) (hu' : ∃ d, P.underlying t' = some d ∧ ∀ j, d ≠ .int j) (v x : Value) (ad : Option Addr) (n cap m : Nat) (us olds : List Value)
  (hv : v = .slice ad n cap) (hsrc : Src P w x us m (zH P e).size) (hroom : cap < n + m) (hb : (n + m) * (zH P e).bytes ≤ 140737488355328) (hb0 : (zH P e).bytes ≠ 0)
  (hold : ∀ w' : World, w'.heap = w.heap → (Builtin.firstCells (zH P e).size n v).run P w' = .ok olds.toArray w') (i : TypeInfo) (z : Value) (hi : P.info? e = some i) (hz : i.zero = some z) (hby : i.bytes = (zH P e).bytes) :
  (Builtin.append_ #[t, t'] ty #[v, x]).run P w = .ok (.slice (some ⟨w.heap.size, 0, none⟩) (n + m) (grownCap w (n + m) cap e))
   (w.drew.alloc (.cells (olds.toArray ++ us.toArray ++ Builtin.zeroCells z.cells (grownCap w (n + m) cap e - (n + m))) e)) := by
 obtain ⟨d, hd1, hd2⟩ := hu'
 subst hv
 have hz' : ((match d with | .int _ => true | _ => false) : Bool) = false := by
  cases d <;> first
   | rfl
   | exact (hd2 _ rfl).elim
 have hc := hsrc.cells w.drew rfl
 have ho := hold w.drew rfl
 have hn : ¬ (n + m ≤ cap) := by omega
 have hle : n + m ≤ 140737488355328 := by
  have : n + m ≤ (n + m) * (zH P e).bytes := Nat.le_mul_of_pos_right _ (by omega)
  omega
 have h63 : ¬ (9223372036854775807 < ((n : Int) + (m : Int))) := by omega
 have h48 : ¬ (281474976710656 < Builtin.nextslicecap (n + m) cap * i.bytes) := by
  have := growslice_fits (need := n + m) (old := cap) (bytes := (zH P e).bytes) hroom hb
  rw [hby]; omega
 simp [Builtin.append_, run_underlying hu, run_underlying hd1, jN hk, hsrc.len, hn, h63, h48, typeInfo, zeroValue, hi, hz, Question.forced, hc, ho, newRow, grownCap]
 congr 2
 apply Array.ext'
 simp
end
end Go.Proofs.YtclohbgnaopjfaaDoor
namespace Go.Proofs.YtclohbgnaopjfaaDoor
set_option linter.unusedSimpArgs false
set_option linter.unusedVariables false
open Go
section
variable {P : Program} {B : Base} {F : Nat → Prop} {H : Imm} {L : Lay} {s : St} {a : Act} {w : World} {q : Bool} {dst : Option Nat} {k g : Nat} {K : St → Prop}
theorem ahg {H : Imm} {L : Lay} : ∀ (str : List UInt8) {us : List Value}, zI H L us ((str.map fun c => PV.int .u8 c.toNat).flatMap PV.cells) → us = str.map fun c => Value.int .u8 c.toNat
 | [], us, h => by cases h; rfl
 | c :: str, us, h => by
  simp only [List.map_cons, List.flatMap_cons, PV.cells, List.singleton_append] at h
  cases h with
  | cons _ v _ vs _ h t =>
   cases h
   rw [ahg str t]
   rfl
theorem adE (hR : Rel B F H L s a w) (hF : F g) (hk : k < 1000) (hd : ∀ d, dst = some d → d < a.tmps.size) (t t' ty : Nat) (x y : Operand)
    (ht' : match (zH P t').kd with | .slice _ | .str => True | _ => False)
    (h : (Zi P s.sto.find k g t (s.ev x) (s.ev y)).wp P q s dst k g K) : Good P B F a dst g K (Builtin.append_ #[t, t'] ty #[a.eval x, a.eval y]) w := by
  have hu' : ∃ d, P.underlying t' = some d ∧ ∀ j, d ≠ .int j := by
    split at ht'
    · rename_i e hkd; exact ⟨_, jR hkd, fun j hj => by cases hj⟩
    · rename_i hkd; exact ⟨_, QK hkd, fun j hj => by cases hj⟩
    · exact ht'.elim
  have hx := hR.eval x
  have hy := hR.eval y
  generalize s.ev x = p at h hx
  generalize s.ev y = r at h hy
  generalize a.eval x = u at hx
  generalize a.eval y = v at hy
  unfold Zi at h
  split at h
  · rename_i e hkd
    have hu := jR hkd
    simp only at h
    split at h
    · simp [Res.wp] at h
    · rename_i ys hys
      simp only [Res.wp] at h
      obtain ⟨hgt, h⟩ := h
      simp only [apM, Bool.and_eq_true, bne_iff_ne, ne_eq] at hgt
      obtain ⟨⟨hz1, hz2⟩, hz3⟩ := hgt
      have hke := yB (P := P) (t := e) rfl hz1
      obtain ⟨i, d, e1, e2, e3⟩ := Qg hke
      have hby : i.bytes = (zH P e).bytes := by rw [e3]
      have hzero : (zH P e).zero = i.zero.map fun z => z.cells.toList.map Wh := by rw [e3]
      obtain ⟨z, hzz, hzl⟩ : ∃ z, i.zero = some z ∧ z.cells.size = (zH P e).size := by
        rw [hzero] at hz3
        cases hzz : i.zero with
        | none => simp [hzz] at hz3
        | some z => exact ⟨z, rfl, by simpa [hzz] using hz3⟩
      obtain ⟨us, hsrc, hus1, hus2, hus3⟩ := asA hR hy hys
      have hfl := vY ys hus2
      have hul := hus1.length
      have grown : ∀ (ad : Option Addr) (n cap : Nat) (xs : List PV) (olds : List Value) (k' : Nat), u = .slice ad n cap → cap < n + ys.length → (n + ys.length) * (zH P e).bytes ≤ adR → n = xs.length →
          (∀ x ∈ xs, x.cells.length = (zH P e).size) → (∀ v ∈ olds, v.oneCell' = true) → zI H Lay.none olds (xs.flatMap PV.cells) →
          (∀ w' : World, w'.heap = w.heap → (Builtin.firstCells (zH P e).size n u).run P w' = .ok olds.toArray w') →
          K ((s.put dst (.row k' g (n + ys.length))).set k' g (.row false (zH P e).size (xs ++ ys))) → Good P B F a dst g K (Builtin.append_ #[t, t'] ty #[u, v]) w := by
        intro ad n cap xs olds k' hv hroom hb hn ho1 ho2 ho3 ho4 hK
        have hrun := agb (ty := ty) hu hke hu' u v ad n cap ys.length us olds hv hsrc hroom hb hz2 ho4 i z e1 hzz hby
        have hge := grownCap_ge w (n + ys.length) cap e
        refine Xw (g := g) hR hF hd (cap := grownCap w (n + ys.length) cap e) (sz := (zH P e).size) (w1 := w.drew) (.drew w) rfl hrun (fun L' hL hu'' hat => ⟨?_, ?_⟩) hK
        · refine ⟨rfl, fun x hx => ?_, by simp; omega, .inr ⟨w.heap.size, olds ++ us, (Builtin.zeroCells z.cells (grownCap w (n + ys.length) cap e - (n + ys.length))).toList, e, rfl, Kh hR.agree, ?_, fun x hx => ?_, ?_, ?_⟩⟩
          · rcases List.mem_append.1 hx with hx | hx
            · exact ho1 x hx
            · exact hus2 x hx
          · have := Xn w.drew (.cells (olds.toArray ++ us.toArray ++ Builtin.zeroCells z.cells (grownCap w (n + ys.length) cap e - (n + ys.length))) e)
            rw [show w.drew.heap.size = w.heap.size from rfl] at this
            rw [this]
            congr 2
            apply Array.ext'
            simp
          · rcases List.mem_append.1 hx with hx | hx
            · exact ho2 x hx
            · exact hus3 x hx
          · rw [List.flatMap_append]
            exact ho3.append hus1
          · rw [Array.length_toList, size_zeroCells, hzl, List.length_append, ← hn]
        · refine .row _ _ _ _ _ hu'' ⟨_, _, rfl⟩ fun s' hs' _ => ?_
          rw [hat s' hs']
          rfl
      split at h
      ·
        simp only [Res.wp] at h
        obtain ⟨hb, h⟩ := h
        cases hx
        by_cases hy0 : ys = []
        · subst hy0
          have hrun := yf (P := P) (w := w) (ty := ty) hu hke hu' (.slice none 0 0) v none 0 0 0 us rfl hsrc (Nat.le_refl _) w rfl
          let sl : Slot := ⟨g, none, 0, (zH P e).size⟩
          have hset := hR.VX (sl := sl) (k := k) (e := .row false (zH P e).size []) (H' := H) (w' := w) hF (.refl _) hR.agree (fun b c hc => .inl hc) (Nat.le_refl _) (fun _ _ _ => rfl) rfl rfl rfl (by simp [sl])
            ⟨rfl, by simp, by simp, .inl ⟨rfl, rfl⟩⟩
          refine ⟨_, w, H, _, _, hrun, hset.put (dst := dst) (p := .row k g 0) hd (.row _ _ _ _ _ (.inr rfl) ⟨_, _, rfl⟩ fun s' hs' _ => ?_), ?_⟩
          · simp only [if_true, Option.some.injEq] at hs'
            subst hs'
            rfl
          · cases dst <;> exact h
        · have hpos : 0 < ys.length := List.length_pos_iff.2 hy0
          refine grown none 0 0 [] [] k rfl (by omega) (by simpa using hb) rfl (by simp) (by simp) (.nil _) (fun w' _ => by simp [Builtin.firstCells]) ?_
          simpa using h
      ·
        rename_i k' g' n
        split at h
        · rename_i g'' sz xs hf
          simp only [Res.wp] at h
          obtain ⟨⟨rfl, rfl⟩, h⟩ := h
          obtain ⟨sl, f1, f2, f3, f4, f5, f6⟩ := hR.sto k' g' _ hf
          cases hx with
          | row _ _ _ _ _ hu'' hs hx =>
            have hv := hx sl f1 f2
            split at h
            · rename_i hn
              simp only [Res.wp] at h
              obtain ⟨hb, h⟩ := h
              rcases f6 with ⟨f6, f7⟩ | ⟨b, vs, rest, et, g1, g2, g3, g4, g5, g6⟩
              · have hx0 : xs = [] := List.eq_nil_of_length_eq_zero (by omega)
                subst hx0
                simp only [List.length_nil] at hn
                subst hn
                rw [f6, f7] at hv
                by_cases hy0 : ys = []
                · subst hy0
                  have hrun := yf (P := P) (w := w) (ty := ty) hu hke hu' u v none 0 0 0 us hv hsrc (Nat.le_refl _) w rfl
                  let sl' : Slot := ⟨g, none, 0, (zH P e).size⟩
                  have hset := hR.VX (sl := sl') (k := k') (e := .row false (zH P e).size []) (H' := H) (w' := w) hF (.refl _) hR.agree (fun b c hc => .inl hc) (Nat.le_refl _) (fun _ _ _ => rfl) rfl rfl rfl (by simp [sl'])
                    ⟨rfl, by simp, by simp, .inl ⟨rfl, rfl⟩⟩
                  refine ⟨_, w, H, _, _, hrun, hset.put (dst := dst) (p := .row k' g 0) hd (.row _ _ _ _ _ (.inr rfl) ⟨_, _, rfl⟩ fun s' hs' _ => ?_), ?_⟩
                  · simp only [if_true, Option.some.injEq] at hs'
                    subst hs'
                    rfl
                  · cases dst <;> exact h
                · have hpos : 0 < ys.length := List.length_pos_iff.2 hy0
                  refine grown none 0 0 [] [] k' hv (by omega) (by simpa using hb) rfl (by simp) (by simp) (.nil _) (fun w' _ => by rw [hv]; simp [Builtin.firstCells]) ?_
                  simpa using h
              · rw [g1] at hv
                simp only [Option.map_some] at hv
                have hvl := g5.length
                rw [vY _ f4] at hvl
                by_cases hroom : n + ys.length ≤ sl.cap
                ·
                  have hblt : b < w.heap.size := hR.low k' sl b f1 g1
                  have hrl : us.length ≤ rest.length := by
                    rw [g6, hul, hfl]
                    exact Nat.mul_le_mul_right _ (by omega)
                  have hst := run_storeCells_at P b (n * (zH P e).size) et us 0 (vs ++ rest).toArray w g3 (by simp; rw [hn]; omega) hus3
                  simp only [Nat.add_zero] at hst
                  have hcur : (vs ++ rest).toArray.toList.take (n * (zH P e).size) ++ us ++ (vs ++ rest).toArray.toList.drop (n * (zH P e).size + us.length) = (vs ++ us) ++ rest.drop us.length := by
                    have e1 : n * (zH P e).size = vs.length := by rw [hn]; exact hvl.symm
                    rw [e1]
                    simp only [List.take_left, List.drop_append, List.drop_eq_nil_of_le (show vs.length ≤ vs.length + us.length by omega), List.nil_append, Nat.add_sub_cancel_left]
                  rw [hcur] at hst
                  have hrun := yf (P := P) (w := w) (ty := ty) hu hke hu' u v (some ⟨b, 0, none⟩) n sl.cap ys.length us hv hsrc hroom _ (by simp only [addr_add, Nat.zero_add]; exact hst)
                  obtain ⟨q1, q2⟩ := Q8 w b (vs ++ rest).toArray ((vs ++ us) ++ rest.drop us.length).toArray et g3
                  let sl' : Slot := ⟨g, some b, sl.cap, (zH P e).size⟩
                  have hset := hR.VX (sl := sl') (k := k') (e := .row false (zH P e).size (xs ++ ys)) (H' := H) (w' := w.setRow b ((vs ++ us) ++ rest.drop us.length).toArray) hF (.refl _) (QO hR.agree g2 _) (fun b c hc => .inl hc) (by simp)
                    (fun c _ hc => q2 c (fun e => hc (by simp [sl', e]))) (by simp) (by simp) (by simp) (fun c hc => by
                      simp only [sl', Option.some.injEq] at hc
                      subst hc
                      exact ⟨by simpa using hblt, .inr ⟨sl, f1, g1⟩⟩)
                    ⟨rfl, fun x hx => by
                      rcases List.mem_append.1 hx with hx | hx
                      · exact f4 x hx
                      · exact hus2 x hx, by simp [sl']; omega, .inr ⟨b, vs ++ us, rest.drop us.length, et, rfl, g2, q1, fun x hx => by
                      rcases List.mem_append.1 hx with hx | hx
                      · exact g4 x hx
                      · exact hus3 x hx, by rw [List.flatMap_append]; exact g5.append hus1, by
                      rw [List.length_drop, g6, hul, hfl, ← Nat.mul_sub_right_distrib, List.length_append]
                      congr 1
                      show _ = sl.cap - _
                      omega⟩⟩
                  refine ⟨_, _, H, _, _, hrun, hset.put (dst := dst) (p := .row k' g (n + ys.length)) hd (.row _ _ _ _ _ (.inr rfl) ⟨_, _, rfl⟩ fun s' hs' _ => ?_), ?_⟩
                  · simp only [if_true, Option.some.injEq] at hs'
                    subst hs'
                    rfl
                  · cases dst <;> exact h
                · refine grown (some ⟨b, 0, none⟩) n sl.cap xs vs k' hv (by omega) hb hn f4 g4 g5 (fun w' hw' => ?_) h
                  rw [hv]
                  refine run_firstCells_some w' _ n ⟨b, 0, none⟩ n sl.cap vs (by rw [hn]; exact hvl) fun j x hj => ?_
                  rw [addr_add, Nat.zero_add, XQ w' b j (vs ++ rest).toArray et (0, 0) (by rw [hw']; exact g3)]
                  simpa [List.getElem?_append_left (yL hj)] using hj
            ·
              rename_i hn
              simp only [Res.wp] at h
              obtain ⟨hle, h⟩ := h
              rcases f6 with ⟨f6, f7⟩ | ⟨b, vs, rest, et, g1, g2, g3, g4, g5, g6⟩
              · omega
              · rw [g1] at hv
                simp only [Option.map_some] at hv
                have hvl := g5.length
                rw [vY _ f4] at hvl
                have hmul : (n + ys.length) * (zH P e).size ≤ xs.length * (zH P e).size := Nat.mul_le_mul_right _ hle
                rw [Nat.add_mul] at hmul
                have hst := run_storeCells_at P b (n * (zH P e).size) et us 0 (vs ++ rest).toArray w g3 (by simp; omega) hus3
                simp only [Nat.add_zero] at hst
                have hcur : (vs ++ rest).toArray.toList.take (n * (zH P e).size) ++ us ++ (vs ++ rest).toArray.toList.drop (n * (zH P e).size + us.length) = (vs.take (n * (zH P e).size) ++ us ++ vs.drop (n * (zH P e).size + us.length)) ++ rest := by
                  rw [List.take_append_of_le_length (by omega), List.drop_append_of_le_length (by omega)]
                  simp [List.append_assoc]
                rw [hcur] at hst
                have hrun := yf (P := P) (w := w) (ty := ty) hu hke hu' u v (some ⟨b, 0, none⟩) n sl.cap ys.length us hv hsrc (by omega) _ (by simp only [addr_add, Nat.zero_add]; exact hst)
                obtain ⟨q1, q2⟩ := Q8 w b (vs ++ rest).toArray ((vs.take (n * (zH P e).size) ++ us ++ vs.drop (n * (zH P e).size + us.length)) ++ rest).toArray et g3
                have hset := hR.VQ (e := .row false (zH P e).size (xs.take n ++ ys ++ xs.drop (n + ys.length))) (H' := H) (w' := w.setRow b ((vs.take (n * (zH P e).size) ++ us ++ vs.drop (n * (zH P e).size + us.length)) ++ rest).toArray) f1 (.refl _) (QO hR.agree g2 _) (fun b c hc => .inl hc) (by simp)
                    (fun c _ hc => q2 c (fun e => hc (by rw [g1, e]))) (by simp) (by simp) (by simp)
                    ⟨f3, fun x hx => by
                      simp only [List.mem_append] at hx
                      rcases hx with (hx | hx) | hx
                      · exact f4 x (List.mem_of_mem_take hx)
                      · exact hus2 x hx
                      · exact f4 x (List.mem_of_mem_drop hx), by simp; omega, .inr ⟨b, _, rest, et, g1, g2, q1, fun x hx => by
                      simp only [List.mem_append] at hx
                      rcases hx with (hx | hx) | hx
                      · exact g4 x (List.mem_of_mem_take hx)
                      · exact hus3 x hx
                      · exact g4 x (List.mem_of_mem_drop hx), by
                      rw [List.flatMap_append, List.flatMap_append, aaV _ _ f4, aeW _ _ f4, Nat.add_mul, ← hfl, ← hul]
                      exact ((g5.take _).append hus1).append (g5.drop _), by
                      rw [g6]
                      congr 1
                      simp
                      omega⟩⟩
                rw [f2] at hset
                refine ⟨_, _, H, _, _, hrun, (hset.put (dst := dst) (p := .row k' g' (n + ys.length)) hd (.row _ _ _ _ _ hu'' ⟨_, _, rfl⟩ fun s' hs' _ => ?_)).less (fun _ h => h.1), ?_⟩
                · rw [f1] at hs'
                  cases hs'
                  rw [g1]
                  rfl
                · cases dst <;> exact h
        ·
          rename_i g'' bt bs hf
          split at h
          · rename_i str
            simp only [Res.wp] at h
            obtain ⟨⟨rfl, hn, rfl, hsz, hb⟩, h⟩ := h
            have hysb : ys = str.map fun c => PV.int .u8 c.toNat := by
              simp only [elems] at hys
              split at hys <;> split at hys <;> first
                | exact (Option.some.inj hys).symm
                | cases hys
            have hyl : ys.length = str.length := by rw [hysb]; simp
            have husb : us = str.map fun c => Value.int .u8 c.toNat := by
              rw [hysb] at hus1
              exact ahg str hus1
            have hul' : us.length = str.length := by rw [husb]; simp
            obtain ⟨sl, f1, f2, f3, f5, f6⟩ := hR.sto k' g' _ hf
            rw [hsz] at hsrc
            cases hx with
            | row _ _ _ _ _ hu'' hs hx =>
              have hv := hx sl f1 f2
              have grownB : ∀ (ad : Option Addr) (cap : Nat), u = .slice ad n cap → cap < n + str.length →
                  (∀ w' : World, w'.heap = w.heap → (Builtin.firstCells (zH P bt).size n u).run P w' = .ok (bs.map fun c => Value.int .u8 c.toNat).toArray w') → Good P B F a dst g K (Builtin.append_ #[t, t'] ty #[u, v]) w := by
                intro ad cap hv hroom ho4
                have hrun := agb (ty := ty) hu hke hu' u v ad n cap str.length us (bs.map fun c => Value.int .u8 c.toNat) hv (by rw [hsz, ← hyl]; exact hsrc) hroom hb hz2 ho4 i z e1 hzz hby
                have hge := grownCap_ge w (n + str.length) cap bt
                refine Xw (g := g) (k := k') hR hF hd (cap := grownCap w (n + str.length) cap bt) (sz := 1) (w1 := w.drew) (.drew w) rfl hrun (fun L' hL hu'' hat => ⟨?_, ?_⟩) h
                · refine ⟨rfl, by simp; omega, .inr ⟨w.heap.size, (Builtin.zeroCells z.cells (grownCap w (n + str.length) cap bt - (n + str.length))).toList, rfl, Kh hR.agree, ?_, ?_⟩⟩
                  · have := Xn w.drew (.cells ((bs.map fun c => Value.int .u8 c.toNat).toArray ++ us.toArray ++ Builtin.zeroCells z.cells (grownCap w (n + str.length) cap bt - (n + str.length))) bt)
                    rw [show w.drew.heap.size = w.heap.size from rfl] at this
                    rw [this, husb]
                    congr 2
                    apply Array.ext'
                    simp
                  · rw [Array.length_toList, size_zeroCells, hzl, hsz, Nat.mul_one, List.length_append, ← hn]
                · refine .row _ _ _ _ _ hu'' ⟨_, _, rfl⟩ fun s' hs' _ => ?_
                  rw [hat s' hs']
                  rfl
              rcases f6 with ⟨f6, f7⟩ | ⟨b, rest, g1, g2, g3, g6⟩
              · have hb0 : bs = [] := List.eq_nil_of_length_eq_zero (by omega)
                subst hb0
                simp only [List.length_nil] at hn
                subst hn
                rw [f6, f7] at hv
                by_cases hs0 : str = []
                · subst hs0
                  have hrun := yf (P := P) (w := w) (ty := ty) hu hke hu' u v none 0 0 0 us hv (by rw [hsz]; simpa [hyl] using hsrc) (Nat.le_refl _) w rfl
                  let sl' : Slot := ⟨g, none, 0, 1⟩
                  have hset := hR.VX (sl := sl') (k := k') (e := .bytes bt []) (H' := H) (w' := w) hF (.refl _) hR.agree (fun b c hc => .inl hc) (Nat.le_refl _) (fun _ _ _ => rfl) rfl rfl rfl (by simp [sl'])
                    ⟨rfl, by simp, .inl ⟨rfl, rfl⟩⟩
                  refine ⟨_, w, H, _, _, hrun, hset.put (dst := dst) (p := .row k' g 0) hd (.row _ _ _ _ _ (.inr rfl) ⟨_, _, rfl⟩ fun s' hs' _ => ?_), ?_⟩
                  · simp only [if_true, Option.some.injEq] at hs'
                    subst hs'
                    rfl
                  · cases dst <;> exact h
                · have hpos : 0 < str.length := List.length_pos_iff.2 hs0
                  exact grownB none 0 hv (by omega) (fun w' _ => by rw [hv]; simp [Builtin.firstCells])
              · rw [g1] at hv
                simp only [Option.map_some] at hv
                by_cases hroom : n + str.length ≤ sl.cap
                ·
                  have hblt : b < w.heap.size := hR.low k' sl b f1 g1
                  have hst := run_storeCells_at P b n bt us 0 ((bs.map fun c => Value.int .u8 c.toNat) ++ rest).toArray w g3 (by simp; omega) hus3
                  simp only [Nat.add_zero] at hst
                  have hcur : ((bs.map fun c => Value.int .u8 c.toNat) ++ rest).toArray.toList.take n ++ us ++ ((bs.map fun c => Value.int .u8 c.toNat) ++ rest).toArray.toList.drop (n + us.length) = ((bs ++ str).map fun c => Value.int .u8 c.toNat) ++ rest.drop us.length := by
                    have e1 : n = (bs.map fun c => Value.int .u8 c.toNat).length := by rw [hn]; simp
                    rw [e1]
                    rw [husb, List.map_append]
                    simp only [List.take_left, List.drop_append, List.drop_eq_nil_of_le (Nat.le_add_right _ _), List.nil_append, Nat.add_sub_cancel_left]
                  rw [hcur] at hst
                  have hrun := yf (P := P) (w := w) (ty := ty) hu hke hu' u v (some ⟨b, 0, none⟩) n sl.cap str.length us hv (by rw [hsz, ← hyl]; exact hsrc) hroom _ (by simp only [addr_add, Nat.zero_add, hsz, Nat.mul_one]; exact hst)
                  obtain ⟨q1, q2⟩ := Q8 w b ((bs.map fun c => Value.int .u8 c.toNat) ++ rest).toArray (((bs ++ str).map fun c => Value.int .u8 c.toNat) ++ rest.drop us.length).toArray bt g3
                  let sl' : Slot := ⟨g, some b, sl.cap, 1⟩
                  have hset := hR.VX (sl := sl') (k := k') (e := .bytes bt (bs ++ str)) (H' := H) (w' := w.setRow b (((bs ++ str).map fun c => Value.int .u8 c.toNat) ++ rest.drop us.length).toArray) hF (.refl _) (QO hR.agree g2 _) (fun b c hc => .inl hc) (by simp)
                    (fun c _ hc => q2 c (fun e => hc (by simp [sl', e]))) (by simp) (by simp) (by simp) (fun c hc => by
                      simp only [sl', Option.some.injEq] at hc
                      subst hc
                      exact ⟨by simpa using hblt, .inr ⟨sl, f1, g1⟩⟩)
                    ⟨rfl, by simp [sl']; omega, .inr ⟨b, rest.drop us.length, rfl, g2, q1, by
                      rw [List.length_drop, g6, hul', List.length_append]
                      show _ = sl.cap - _
                      omega⟩⟩
                  refine ⟨_, _, H, _, _, hrun, hset.put (dst := dst) (p := .row k' g (n + str.length)) hd (.row _ _ _ _ _ (.inr rfl) ⟨_, _, rfl⟩ fun s' hs' _ => ?_), ?_⟩
                  · simp only [if_true, Option.some.injEq] at hs'
                    subst hs'
                    rfl
                  · cases dst <;> exact h
                · refine grownB (some ⟨b, 0, none⟩) sl.cap hv (by omega) (fun w' hw' => ?_)
                  rw [hv]
                  rw [hsz]
                  refine run_firstCells_some w' 1 n ⟨b, 0, none⟩ n sl.cap (bs.map fun c => Value.int .u8 c.toNat) (by rw [hn]; simp) fun j x hj => ?_
                  rw [addr_add, Nat.zero_add, XQ w' b j ((bs.map fun c => Value.int .u8 c.toNat) ++ rest).toArray bt (0, 0) (by rw [hw']; exact g3)]
                  have hj2 : j < (bs.map fun c => Value.int .u8 c.toNat).length := yL hj
                  rw [show ((bs.map fun c => Value.int .u8 c.toNat) ++ rest).toArray[j]? = ((bs.map fun c => Value.int .u8 c.toNat) ++ rest)[j]? by simp, List.getElem?_append_left hj2]
                  exact hj
          · simp [Res.wp] at h
        · simp [Res.wp] at h
      ·
        rename_i sz xs
        simp only [Res.wp] at h
        obtain ⟨rfl, h⟩ := h
        have hus0 : us = [] := List.eq_nil_of_length_eq_zero (by rw [hul, hfl]; simp)
        subst hus0
        have hx' := hx
        cases hx with
        | wN _ ad c =>
          have hrun := yf (P := P) (w := w) (ty := ty) hu hke hu' (.slice ad 0 c) v ad 0 c 0 [] rfl hsrc (Nat.zero_le _) w (by cases ad <;> simp [storeCells])
          exact zP hR hd hrun (by simpa using hx') h
        | list _ b off len cap _ c vs _ hH hlen hcap hs1 h1 hv hr =>
          have hrun := yf (P := P) (w := w) (ty := ty) hu hke hu' _ v (some ⟨b, off, none⟩) len cap 0 [] rfl hsrc (by simpa using hcap) w (by simp [storeCells])
          exact zP hR hd hrun (by simpa using hx') h
      · simp [Res.wp] at h
  · simp [Res.wp] at h
end
end Go.Proofs.YtclohbgnaopjfaaDoor
namespace Go.Proofs.YtclohbgnaopjfaaDoor
set_option linter.unusedSimpArgs false
set_option linter.unusedVariables false
open Go
section
variable {P : Program} {B : Base} {F : Nat → Prop} {H : Imm} {L : Lay} {s : St} {a : Act} {w : World} {q : Bool} {dst : Option Nat} {k g : Nat} {K : St → Prop}
theorem ase (sto : Sto) (k j : Nat) : (sto.amb k).find j = match sto.find j with
  | some (g, .row f sz xs) => if j = k ∧ k < 1000 then some (g, .row true sz xs) else some (g, .row f sz xs)
  | o => o := by
 unfold Sto.amb
 cases hk : sto.find k with
 | none =>
  simp only
  cases hj : sto.find j with
  | none => rfl
  | some x =>
   obtain ⟨g, e⟩ := x
   cases e with
   | row f sz xs =>
    have : j ≠ k := fun e => by rw [e, hk] at hj; cases hj
    simp [this]
   | _ => rfl
 | some x =>
  obtain ⟨g, e⟩ := x
  cases e with
  | row f sz xs =>
   simp only
   by_cases hlt : k < 1000
   ·simp only [hlt, if_true, and_true]
    by_cases hj : j = k
    ·subst hj
     rw [Sto.kI, hk]
     simp
    ·rw [Sto.qC _ _ _ _ _ hj]
     cases hj' : sto.find j with
     | none => rfl
     | some x => obtain ⟨g', e'⟩ := x; cases e' <;> simp [hj]
   ·simp only [hlt, if_false, and_false]
    cases hj' : sto.find j with
    | none => rfl
    | some x => obtain ⟨g', e'⟩ := x; cases e' <;> rfl
  | var cs =>
   simp only
   cases hj : sto.find j with
   | none => rfl
   | some x =>
    obtain ⟨g', e'⟩ := x
    cases e' with
    | row f sz xs =>
     have : j ≠ k := fun e => by rw [e, hk] at hj; cases hj
     simp [this]
    | _ => rfl
  | iter b p =>
   simp only
   cases hj : sto.find j with
   | none => rfl
   | some x =>
    obtain ⟨g', e'⟩ := x
    cases e' with
    | row f sz xs =>
     have : j ≠ k := fun e => by rw [e, hk] at hj; cases hj
     simp [this]
    | _ => rfl
  | gone =>
   simp only
   cases hj : sto.find j with
   | none => rfl
   | some x =>
    obtain ⟨g', e'⟩ := x
    cases e' with
    | row f sz xs =>
     have : j ≠ k := fun e => by rw [e, hk] at hj; cases hj
     simp [this]
    | _ => rfl
  | moved sz xs =>
   simp only
   cases hj : sto.find j with
   | none => rfl
   | some x =>
    obtain ⟨g', e'⟩ := x
    cases e' with
    | row f sz xs =>
     have : j ≠ k := fun e => by rw [e, hk] at hj; cases hj
     simp [this]
    | _ => rfl
  | bytes bt bs =>
   simp only
   cases hj : sto.find j with
   | none => rfl
   | some x =>
    obtain ⟨g', e'⟩ := x
    cases e' with
    | row f sz xs =>
     have : j ≠ k := fun e => by rw [e, hk] at hj; cases hj
     simp [this]
    | _ => rfl
  | XX bt bs =>
   simp only
   cases hj : sto.find j with
   | none => rfl
   | some x =>
    obtain ⟨g', e'⟩ := x
    cases e' with
    | row f sz xs =>
     have : j ≠ k := fun e => by rw [e, hk] at hj; cases hj
     simp [this]
    | _ => rfl
theorem adW : ∀ (ks : List Nat) (sto : Sto) (j : Nat), (Sto.frz ks sto).find j = match sto.find j with
  | some (g, .row f sz xs) => if j ∈ ks ∧ j < 1000 then some (g, .row true sz xs) else some (g, .row f sz xs)
  | o => o
 | [], sto, j => by
  simp only [Sto.frz]
  cases sto.find j with
  | none => rfl
  | some x => obtain ⟨g, e⟩ := x; cases e <;> simp
 | k :: ks, sto, j => by
  simp only [Sto.frz]
  rw [adW ks, ase]
  cases sto.find j with
  | none => rfl
  | some x =>
   obtain ⟨g, e⟩ := x
   cases e with
   | row f sz xs =>
    simp only [List.mem_cons]
    by_cases h1 : j = k
    ·subst h1
     by_cases h2 : j < 1000
     ·simp [h2]
     ·simp [h2]
    ·simp only [h1, false_and, if_false, false_or]
   | _ => rfl
theorem Rel.amb (h : Rel B F H L s a w) (k : Nat) : ∃ H', Rel B F H' L { s with sto := s.sto.amb k } a w ∧ Grow H H' := by
 unfold Sto.amb
 split
 ·rename_i g f sz xs hf
  split
  ·rename_i hk
   obtain ⟨H', h1, h2, _⟩ := h.freeze hk hf
   exact ⟨H', h1, h2⟩
  ·exact ⟨H, h, .refl _⟩
 ·exact ⟨H, h, .refl _⟩
theorem Rel.frz : ∀ (ks : List Nat) {H : Imm} {s : St}, Rel B F H L s a w → ∃ H', Rel B F H' L { s with sto := Sto.frz ks s.sto } a w ∧ Grow H H'
 | [], H, s, h => ⟨H, h, .refl _⟩
 | k :: ks, H, s, h => by
  obtain ⟨H1, h1, g1⟩ := h.amb k
  obtain ⟨H2, h2, g2⟩ := Rel.frz ks h1
  exact ⟨H2, h2, g1.trans g2⟩
theorem acy (h : Rel B F H L s a w) {fnd : Nat → Option (Nat × Ent)} {ks : List Nat} (hfr : ∀ j g f sz xs, fnd j = some (g, .row f sz xs) → j ∈ ks → j < 1000 → s.sto.find j = some (g, .row true sz xs))
  {v : Value} {p : PV} (hv : Rep H L v p) (hk : ∀ j ∈ amy p, j ∈ ks) (hp : (abm fnd p).pure = true) : Rep H Lay.none v (abm fnd p) := by
 unfold abm at hp ⊢
 split at hp
 ·rename_i k' g' n
  simp only [amy, List.mem_singleton, forall_eq] at hk
  split at hp
  ·rename_i g'' f sz xs hf
   split at hp
   ·rename_i hc
    obtain ⟨rfl, hn, hlt⟩ := hc
    have hf' := hfr k' g' f sz xs hf hk hlt
    obtain ⟨sl, e1, e2, e3⟩ := h.sto k' g' _ hf'
    cases hv with
    | row _ _ _ _ _ hu hs hx =>
     have hv := hx sl e1 e2
     subst hv
     have := ahG (L := Lay.none) (n := n) e3 0 n (Nat.zero_le _) (Nat.le_refl _) hn
     simp only [hn, hlt, and_self, if_true]
     have hval : (if sl.cap = 0 then sl.block.map (fun b => (⟨b, 0, none⟩ : Addr)) else (sl.block.map fun b => (⟨b, 0, none⟩ : Addr)).map (·.add (0 * sz))) = sl.block.map fun b => (⟨b, 0, none⟩ : Addr) := by
      split
      ·rfl
      ·cases sl.block <;> simp [Addr.add]
     rw [hval] at this
     simpa using this
   ·simp [PV.pure] at hp
  ·simp [PV.pure] at hp
 ·exact hv.pure hp
theorem akM (h : Rel B F H L s a w) {fnd : Nat → Option (Nat × Ent)} {ks : List Nat} (hfr : ∀ j g f sz xs, fnd j = some (g, .row f sz xs) → j ∈ ks → j < 1000 → s.sto.find j = some (g, .row true sz xs)) :
  ∀ {vs : List Value} {ps : List PV}, zI H L vs ps → (∀ j ∈ ps.flatMap amy, j ∈ ks) → yj (ps.map (abm fnd)) = true → zI H Lay.none vs (ps.map (abm fnd))
 | _, _, .nil _, _, _ => .nil _
 | _, _, .cons _ v p vs ps hv ht, hk, hp => by
  simp only [List.map_cons, yj, Bool.and_eq_true] at hp
  simp only [List.flatMap_cons, List.mem_append] at hk
  exact .cons _ _ _ _ _ (acy h hfr hv (fun j hj => hk j (.inl hj)) hp.1) (akM h hfr ht (fun j hj => hk j (.inr hj)) hp.2)
theorem ah7 (h : Rel B F H L s a w) {fnd : Nat → Option (Nat × Ent)} {ks : List Nat} (hfr : ∀ j g f sz xs, fnd j = some (g, .row f sz xs) → j ∈ ks → j < 1000 → s.sto.find j = some (g, .row true sz xs))
  {v : Value} {p : PV} (hv : Rep H L v p) (hk : ∀ j ∈ aas p, j ∈ ks) (hp : (YI fnd p).pure = true) : Rep H Lay.none v (YI fnd p) := by
 unfold YI at hp ⊢
 split at hp
 ·rename_i cs
  cases hv with
  | agg _ vs _ hr => exact .agg _ _ _ (akM h hfr hr (by simpa [aas] using hk) (by simpa [PV.pure] using hp))
 ·rename_i hne
  refine acy h hfr hv (fun j hj => hk j ?_) hp
  cases p <;> first
   | exact hj
   | exact (hne _ rfl).elim
theorem ae3 (h : Rel B F H L s a w) {fnd : Nat → Option (Nat × Ent)} {ks : List Nat} (hfr : ∀ j g f sz xs, fnd j = some (g, .row f sz xs) → j ∈ ks → j < 1000 → s.sto.find j = some (g, .row true sz xs)) :
  ∀ {vs : List Value} {ps : List PV}, zI H L vs ps → (∀ j ∈ ps.flatMap aas, j ∈ ks) → yj (ps.map (YI fnd)) = true → zI H Lay.none vs (ps.map (YI fnd))
 | _, _, .nil _, _, _ => .nil _
 | _, _, .cons _ v p vs ps hv ht, hk, hp => by
  simp only [List.map_cons, yj, Bool.and_eq_true] at hp
  simp only [List.flatMap_cons, List.mem_append] at hk
  exact .cons _ _ _ _ _ (ah7 h hfr hv (fun j hj => hk j (.inl hj)) hp.1) (ae3 h hfr ht (fun j hj => hk j (.inr hj)) hp.2)
theorem Xl (sto : Sto) (ks : List Nat) : ∀ j g f sz xs, sto.find j = some (g, .row f sz xs) → j ∈ ks → j < 1000 → (Sto.frz ks sto).find j = some (g, .row true sz xs) := by
 intro j g f sz xs h1 h2 h3
 rw [adW, h1]
 simp [h2, h3]
theorem ahu (hR : Rel B F H L s a w) (hF : F g) (hk : k < 1000) (hd : ∀ d, dst = some d → d < a.tmps.size) {n0 : Nat} (hn0 : B.w0.heap.size ≤ n0) (hlow : ∀ j x b, L.at_ j = some x → x.block = some b → b < n0)
  {v : Value} {r : PV} (hr : acV H w n0 v r) : ∃ L', Rel B (fun x => F x ∧ x ≠ g) H L' (s.back dst k g r) (a.put dst v) w := by
 have plain : Rep H Lay.none v r → (s.back dst k g r) = s.put dst r → ∃ L', Rel B (fun x => F x ∧ x ≠ g) H L' (s.back dst k g r) (a.put dst v) w := by
  intro hv he
  rw [he]
  exact ⟨L, (hR.put hd hv.none).less (fun _ h => h.1)⟩
 by_cases hownV : ∃ ty pre sz xs post, r = .adx ty pre sz xs post
 ·obtain ⟨ty, pre, sz, xs, post, rfl⟩ := hownV
  obtain ⟨b, vs, us, u, o1, o2, rfl, o3, o4, o5, ⟨h1, h2⟩, o7⟩ := hr
  have hck : k ≠ ck k ∧ ck k < 1000 := by unfold ck; split <;> omega
  have hbk : (s.back dst k g (.adx ty pre sz xs post)) = ((s.set (ck k) g (.row false sz xs)).set k g (.var ty (pre ++ .row (ck k) g xs.length :: post))).put dst (.box k g 0) := by cases dst <;> rfl
  rw [hbk]
  have vlow : ∀ c, n0 ≤ c → ∀ j x, L.at_ j = some x → x.block ≠ some c := fun c hc j x hx hxb => by have := hlow j x _ hx hxb; omega
  have fin : ∀ (sl' : Slot), sl'.gen = g → (∀ c, sl'.block = some c → c < w.heap.size ∧ n0 ≤ c ∧ c ≠ b) → wL H L w sl' (.row false sz xs) → u = .slice (sl'.block.map fun c => ⟨c, 0, none⟩) xs.length sl'.cap →
    ∃ L', Rel B (fun x => F x ∧ x ≠ g) H L' (((s.set (ck k) g (.row false sz xs)).set k g (.var ty (pre ++ .row (ck k) g xs.length :: post))).put dst (.box k g 0)) (a.put dst (.pointer (some ⟨b, 0, none⟩))) w := by
   intro sl' hg' hbl hent hu
   let sl : Slot := ⟨g, some b, 0, 0⟩
   have hset := hR.awq (sl := sl) (sl' := sl') (k := k) (k' := ck k) (e := .var ty (pre ++ .row (ck k) g xs.length :: post)) (e' := .row false sz xs) hck.1 hk hck.2 hF hg'
    (fun c hc => by
     simp only [sl, Option.some.injEq] at hc
     subst hc
     exact ⟨(Array.getElem?_eq_some_iff.1 o3).1, Nat.le_trans hn0 o1, vlow _ o1⟩)
    (fun c hc => ⟨(hbl c hc).1, Nat.le_trans hn0 (hbl c hc).2.1, vlow _ (hbl c hc).2.1⟩)
    (fun c hc hc' => by
     simp only [sl, Option.some.injEq] at hc
     subst hc
     exact (hbl _ hc').2.2 rfl)
    ⟨b, vs ++ u :: us, 0, rfl, o2, o3, o4.none.append (.cons _ _ _ _ _ (.row _ _ _ _ _ (.inr rfl) ⟨_, _, hu⟩ fun s' hs' _ => by
     have : s' = sl' := by
      simp only [if_neg (Ne.symm hck.1), if_true, Option.some.injEq] at hs'
      exact hs'.symm
     rw [this]
     exact hu) o5.none)⟩
    hent
   have hput := hset.put (dst := dst) (v := .pointer (some ⟨b, 0, none⟩)) (p := .box k g 0) hd (.box _ _ _ _ _ (.inr rfl) ⟨_, rfl⟩ fun s' c hs' _ hc => by
    simp only [if_true, Option.some.injEq] at hs'
    subst hs'
    simp only [sl, Option.some.injEq] at hc
    subst hc
    rfl)
   exact ⟨_, hput⟩
  rcases h2 with ⟨rfl, rfl⟩ | ⟨c, cap, vs', rest, t, g1, g2, rfl, g3, g4, g5, g6, g7⟩
  ·exact fin ⟨g, none, 0, sz⟩ rfl (fun c hc => by cases hc) ⟨rfl, by simp, by simp, .inl ⟨rfl, rfl⟩⟩ rfl
  ·refine fin ⟨g, some c, cap, sz⟩ rfl (fun d hd => ?_) ⟨rfl, h1, g7, .inr ⟨c, vs', rest, t, rfl, g2, g3, g4, g5, g6⟩⟩ rfl
   simp only [Option.some.injEq] at hd
   subst hd
   exact ⟨(Array.getElem?_eq_some_iff.1 g3).1, g1, o7 _ _ _ rfl⟩
 by_cases hown : ∃ sz xs, r = .own sz xs
 ·obtain ⟨sz, xs, rfl⟩ := hown
  obtain ⟨h1, h2⟩ := hr
  rcases h2 with ⟨rfl, rfl⟩ | ⟨b, cap, vs, rest, t, g1, g2, rfl, g3, g4, g5, g6, g7⟩
  ·let sl : Slot := ⟨g, none, 0, sz⟩
   have hset := hR.VX (sl := sl) (k := k) (e := .row false sz []) (H' := H) (w' := w) hF (.refl _) hR.agree (fun b c hc => .inl hc) (Nat.le_refl _) (fun _ _ _ => rfl) rfl rfl rfl (by simp [sl])
    ⟨rfl, by simp, by simp, .inl ⟨rfl, rfl⟩⟩
   have hput := hset.put (dst := dst) (v := .slice none 0 0) (p := .row k g 0) hd (.row _ _ _ _ _ (.inr rfl) ⟨_, _, rfl⟩ fun s' hs' _ => by
    simp only [if_true, Option.some.injEq] at hs'
    subst hs'
    rfl)
   refine ⟨⟨fun x => L.used x ∨ x = sl.gen, fun j => if j = k then some sl else L.at_ j⟩, ?_⟩
   have : (s.back dst k g (.own sz [])) = (s.set k g (.row false sz [])).put dst (.row k g 0) := by cases dst <;> rfl
   rw [this]
   exact hput
  ·let sl : Slot := ⟨g, some b, cap, sz⟩
   have hset := hR.VX (sl := sl) (k := k) (e := .row false sz xs) (H' := H) (w' := w) hF (.refl _) hR.agree (fun b c hc => .inl hc) (Nat.le_refl _) (fun _ _ _ => rfl) rfl rfl rfl (fun c hc => by
     simp only [sl, Option.some.injEq] at hc
     subst hc
     exact ⟨(Array.getElem?_eq_some_iff.1 g3).1, .inl ⟨Nat.le_trans hn0 g1, fun j x hx hxb => by have := hlow j x _ hx hxb; omega⟩⟩)
    ⟨rfl, h1, g7, .inr ⟨b, vs, rest, t, rfl, g2, g3, g4, g5, g6⟩⟩
   have hput := hset.put (dst := dst) (v := .slice (some ⟨b, 0, none⟩) xs.length cap) (p := .row k g xs.length) hd (.row _ _ _ _ _ (.inr rfl) ⟨_, _, rfl⟩ fun s' hs' _ => by
    simp only [if_true, Option.some.injEq] at hs'
    subst hs'
    rfl)
   refine ⟨⟨fun x => L.used x ∨ x = sl.gen, fun j => if j = k then some sl else L.at_ j⟩, ?_⟩
   have : (s.back dst k g (.own sz xs)) = (s.set k g (.row false sz xs)).put dst (.row k g xs.length) := by cases dst <;> rfl
   rw [this]
   exact hput
 ·refine plain ?_ ?_
  ·cases r <;> first
    | exact hr
    | exact (hown ⟨_, _, rfl⟩).elim
    | exact (hownV ⟨_, _, _, _, _, rfl⟩).elim
  ·cases r <;> first
    | rfl
    | exact (hown ⟨_, _, rfl⟩).elim
    | exact (hownV ⟨_, _, _, _, _, rfl⟩).elim
theorem aeE {f : Nat} (hc : Wn P f) (args : Array Value) : (callFunc f args).run P w = .ok (.enter f args) w := by
 obtain ⟨fn, h1, h2, h3⟩ := hc
 simp only [callFunc, Sem.run_bind, run_program, Result.andThen_ok, h1, h3, h2, Bool.false_eq_true, if_false, Sem.run_pure]
theorem Agree.low {H : Imm} {w : World} (h : Agree H w) {b : Nat} {c : Array Value} (hc : H b = some c) : b < w.heap.size := by
 obtain ⟨t, fr, ht⟩ := h b c hc
 exact (Array.getElem?_eq_some_iff.1 ht).1
theorem atS (hR : Rel B F H L s a w) (hF : F g) (hk : k < 1000) (hd : ∀ d, dst = some d → d < a.tmps.size) (f : Nat) (args : List PV) (vs : List Value) (hvs : zI H L vs args)
  {args' : List PV} {r : PV} (hp : yj (args.map (YI s.sto.find)) = true) (hw : WkL (args.map (YI s.sto.find)) args') (hc : PC P f args' r)
  (hK : K (({ s with sto := Sto.frz (args.flatMap aas) s.sto } : St).back dst k g r)) (R : Ending → World → Prop)
  (hnext : ∀ v w' H' L' s', Rel B (fun x => F x ∧ x ≠ g) H' L' s' (a.put dst v) w' → K s' → R (.returned v) w') : Calls P f vs.toArray w R := by
 obtain ⟨H1, h1, g1⟩ := hR.frz (args.flatMap aas)
 have hvs1 : zI H1 L vs args := hvs.mono g1 (.refl _)
 have hpur := (ae3 h1 (fnd := s.sto.find) (ks := args.flatMap aas) (Xl s.sto _) hvs1 (fun j hj => hj) hp).wk hw
 obtain ⟨_, _, hcall⟩ := hc
 refine (hcall H1 w [] vs h1.agree (akX h1.grow B.ayO) rfl (by simp) (by simp [aw6]) (by simp) (hpur.mono (.refl _) (.none _))).mono ?_
 rintro e w' ⟨v, H2, ss', rfl, q1, q2, q3, q4, _, q5, q6⟩
 have hq : Quiet w w' := q4.weaken (by simp)
 have h2 := h1.quiet q1 q2 q3 hq
 obtain ⟨L', h3⟩ := ahu h2 hF hk hd (n0 := w.heap.size) hR.ext.size hR.low q6
 exact hnext v w' H2 L' _ h3 hK
theorem X4 : ∀ (ks : List (Nat × Nat)) (es : List Ent) (sto : Sto) (j : Nat), j ∉ ks.map (·.1) → (kN sto ks es).find j = sto.find j
 | [], es, sto, j, _ => by cases es <;> rfl
 | (k, g) :: ks, [], sto, j, _ => rfl
 | (k, g) :: ks, e :: es, sto, j, h => by
  simp only [List.map_cons, List.mem_cons, not_or] at h
  simp only [kN]
  rw [X4 ks es _ j h.2, Sto.qC _ _ _ _ _ h.1]
theorem ajM : ∀ (ks : List (Nat × Nat)) (es : List Ent) (sto : Sto), (ks.map (·.1)).Nodup → ∀ (i k g : Nat) (e : Ent), ks[i]? = some (k, g) → es[i]? = some e → (kN sto ks es).find k = some (g, e)
 | [], es, sto, _, i, k, g, e, h, _ => by simp at h
 | (k', g') :: ks, [], sto, _, i, k, g, e, _, h => by simp at h
 | (k', g') :: ks, e' :: es, sto, hn, 0, k, g, e, h1, h2 => by
  simp only [List.getElem?_cons_zero, Option.some.injEq, Prod.mk.injEq] at h1 h2
  obtain ⟨rfl, rfl⟩ := h1
  subst h2
  simp only [List.map_cons, List.nodup_cons] at hn
  simp only [kN]
  rw [X4 ks es _ _ hn.1, Sto.kI]
 | (k', g') :: ks, e' :: es, sto, hn, i + 1, k, g, e, h1, h2 => by
  simp only [List.map_cons, List.nodup_cons] at hn
  simp only [kN]
  exact ajM ks es _ hn.2 i k g e (by simpa using h1) (by simpa using h2)
theorem Kc (g : Nat) : ∀ (ks : List (Nat × Nat)) (es : List Ent), (zZ g ks es).map (·.1) = ks.map (·.1)
 | [], _ => by simp [zZ]
 | (k, g0) :: ks, [] => by simp [zZ]
 | (k, g0) :: ks, e :: es => by simp [zZ, Kc g ks es]
theorem arF (g : Nat) (ks : List (Nat × Nat)) (es : List Ent) : (zZ g ks es).length = ks.length := by
 have := congrArg List.length (Kc g ks es)
 simpa using this
theorem ahE (g : Nat) : ∀ (ks : List (Nat × Nat)) (es : List Ent) (i k g0 : Nat) (e : Ent), ks[i]? = some (k, g0) → es[i]? = some e → (zZ g ks es)[i]? = some (k, if e.moves = true then g else g0)
 | [], _, i, _, _, _, h, _ => by simp at h
 | (k', g') :: ks, [], i, _, _, _, _, h => by simp at h
 | (k', g') :: ks, e' :: es, 0, k, g0, e, h1, h2 => by
  simp only [List.getElem?_cons_zero, Option.some.injEq, Prod.mk.injEq] at h1 h2
  obtain ⟨rfl, rfl⟩ := h1
  subst h2
  simp [zZ]
 | (k', g') :: ks, e' :: es, i + 1, k, g0, e, h1, h2 => by
  simp only [zZ, List.getElem?_cons_succ] at h1 h2 ⊢
  exact ahE g ks es i k g0 e h1 h2
theorem Zn : ∀ {es : List Ent} {e : Ent}, e ∈ es → e.moves = true → qQ es = true
 | x :: es, e, h, hm => by
  simp only [qQ, Bool.or_eq_true]
  rcases List.mem_cons.1 h with rfl | h
  ·exact .inl hm
  ·exact .inr (Zn h hm)
def layAll (at_ : Nat → Option Slot) : List (Nat × Nat) → List Slot → Nat → Option Slot
 | (k, g) :: ks, s :: ss, j => if j = k then some { s with gen := g } else layAll at_ ks ss j
 | _, _, j => at_ j
theorem Vo (at_ : Nat → Option Slot) : ∀ (ks : List (Nat × Nat)) (ss : List Slot) (j : Nat), j ∉ ks.map (·.1) → layAll at_ ks ss j = at_ j
 | [], _, _, _ => by simp [layAll]
 | (k, g) :: ks, [], _, _ => by simp [layAll]
 | (k, g) :: ks, s :: ss, j, h => by
  simp only [List.map_cons, List.mem_cons, not_or] at h
  rw [layAll, if_neg h.1, Vo at_ ks ss j h.2]
theorem Xg (at_ : Nat → Option Slot) : ∀ (ks : List (Nat × Nat)) (ss : List Slot), (ks.map (·.1)).Nodup → ∀ (i k g : Nat) (s : Slot), ks[i]? = some (k, g) → ss[i]? = some s → layAll at_ ks ss k = some { s with gen := g }
 | [], ss, _, i, k, g, s, h, _ => by simp at h
 | (k', g') :: ks, [], _, i, k, g, s, _, h => by simp at h
 | (k', g') :: ks, s' :: ss, hn, 0, k, g, s, h1, h2 => by
  simp only [List.getElem?_cons_zero, Option.some.injEq, Prod.mk.injEq] at h1 h2
  obtain ⟨rfl, rfl⟩ := h1
  subst h2
  simp [layAll]
 | (k', g') :: ks, s' :: ss, hn, i + 1, k, g, s, h1, h2 => by
  simp only [List.map_cons, List.nodup_cons] at hn
  simp only [List.getElem?_cons_succ] at h1 h2
  have hne : k ≠ k' := fun e => hn.1 (List.mem_map.2 ⟨(k, g), List.mem_of_getElem? h1, e⟩)
  rw [layAll, if_neg hne]
  exact Xg at_ ks ss hn.2 i k g s h1 h2
theorem Rel.ayo (h : Rel B F H L s a w) {g : Nat} (ks : List (Nat × Nat)) (es : List Ent) (hF : qQ es = true → F g) (ss ss' : List Slot) (hlen : es.length = ks.length) (hsl : ss.length = ks.length) (hnd : (ks.map (·.1)).Nodup)
    (hss : ∀ (i k g : Nat) (x : Slot), ks[i]? = some (k, g) → ss[i]? = some x → ∃ sl, L.at_ k = some sl ∧ sl.gen = g ∧ x = { sl with gen := 0 })
    {H' : Imm} {w' : World} (hH : Grow H H') (hA : Agree H' w') (hn : ∀ b c, H' b = some c → H b = some c ∨ w.heap.size ≤ b)
    (he : Ext (fun b => ∃ s ∈ ss, s.block = some b) w w') (hm : ajK w.heap.size w' es ss ss')
    (hes : ∀ (i k' g' : Nat) (x : Slot) (e : Ent), (zZ g ks es)[i]? = some (k', g') → ss'[i]? = some x → es[i]? = some e → wL H' ⟨fun x => L.used x ∨ (qQ es = true ∧ x = g), layAll L.at_ (zZ g ks es) ss'⟩ w' { x with gen := g' } (e.inst (qV (zZ g ks es)))) :
    Rel B (fun x => F x ∧ (qQ es = true → x ≠ g)) H' ⟨fun x => L.used x ∨ (qQ es = true ∧ x = g), layAll L.at_ (zZ g ks es) ss'⟩ { s with sto := kN s.sto (zZ g ks es) (es.map (Ent.inst (qV (zZ g ks es)))) } a w' := by
  have hnd' : ((zZ g ks es).map (·.1)).Nodup := by rw [Kc]; exact hnd
  have hg0 : qQ es = true → ¬ L.used g := fun h1 => h.free g (hF h1)
  have one : ∀ j, j ∈ ks.map (·.1) → ∃ (i g0 : Nat) (e : Ent) (x x' sl : Slot), ks[i]? = some (j, g0) ∧ es[i]? = some e ∧ ss[i]? = some x ∧ ss'[i]? = some x' ∧ L.at_ j = some sl ∧ sl.gen = g0 ∧ x = { sl with gen := 0 } ∧ (zZ g ks es)[i]? = some (j, if e.moves = true then g else g0) ∧ layAll L.at_ (zZ g ks es) ss' j = some { x' with gen := if e.moves = true then g else g0 } := by
    intro j hj
    obtain ⟨⟨k, g0⟩, hmem, rfl⟩ := List.mem_map.1 hj
    obtain ⟨i, hi⟩ := List.mem_iff_getElem?.1 hmem
    have hlt := yL hi
    have h1 : es[i]? = some (es[i]'(by omega)) := List.getElem?_eq_getElem (by omega)
    have h2 : ss[i]? = some (ss[i]'(by omega)) := List.getElem?_eq_getElem (by omega)
    have h3 : ss'[i]? = some (ss'[i]'(by rw [hm.len]; omega)) := List.getElem?_eq_getElem (by rw [hm.len]; omega)
    obtain ⟨sl, q1, q2, q3⟩ := hss i k g0 _ hi h2
    have h4 := ahE g ks es i k g0 _ hi h1
    exact ⟨i, g0, _, _, _, sl, hi, h1, h2, h3, q1, q2, q3, h4, Xg L.at_ _ ss' hnd' i k _ _ h4 h3⟩
  have other : ∀ j, j ∉ ks.map (·.1) → layAll L.at_ (zZ g ks es) ss' j = L.at_ j := fun j hj => Vo _ _ _ _ (by rw [Kc]; exact hj)
  have hL : Vg L ⟨fun x => L.used x ∨ (qQ es = true ∧ x = g), layAll L.at_ (zZ g ks es) ss'⟩ := by
    refine ⟨fun x hx => .inl hx, fun j x hx hu => ?_⟩
    by_cases hj : j ∈ ks.map (·.1)
    · obtain ⟨i, g0, e, x0, x', sl, q1, q2, q3, q4, q5, q6, q7, q8, q9⟩ := one j hj
      have hx0 : layAll L.at_ (zZ g ks es) ss' j = some x := hx
      rw [q9] at hx0
      simp only [Option.some.injEq] at hx0
      subst hx0
      by_cases hmv : e.moves = true
      · simp only [hmv, if_true] at hu
        exact (hg0 (Zn (List.mem_of_getElem? q2) hmv) hu).elim
      · rcases hm.at_ i x0 x' e q3 q4 q2 with r | ⟨r, _⟩
        · subst r
          rw [q7]
          simp only [hmv, Bool.false_eq_true, if_false, ← q6]
          exact q5
        · exact (hmv r).elim
    · have hx0 : layAll L.at_ (zZ g ks es) ss' j = some x := hx
      rw [other j hj] at hx0
      exact hx0
  have place : ∀ j, j ∈ ks.map (·.1) → ∀ x b, layAll L.at_ (zZ g ks es) ss' j = some x → x.block = some b → b < w'.heap.size ∧ ((∃ sl, L.at_ j = some sl ∧ sl.block = some b) ∨ w.heap.size ≤ b) := by
    intro j hj x b hx hb
    obtain ⟨i, g0, e, x0, x', sl, q1, q2, q3, q4, q5, q6, q7, q8, q9⟩ := one j hj
    rw [q9] at hx
    simp only [Option.some.injEq] at hx
    subst hx
    have hb' : x'.block = some b := hb
    refine ⟨hm.low x' (List.mem_of_getElem? q4) b hb', ?_⟩
    rcases hm.at_ i x0 x' e q3 q4 q2 with r | ⟨_, r⟩
    · subst r
      rw [q7] at hb'
      exact .inl ⟨sl, q5, hb'⟩
    · rcases r b hb' with r | r
      · rw [q7] at r
        exact .inl ⟨sl, q5, r⟩
      · exact .inr r
  have notmay : ∀ j, j ∉ ks.map (·.1) → ∀ o b, L.at_ j = some o → o.block = some b → ¬ ∃ s ∈ ss, s.block = some b := by
    rintro j hj o b ho hob ⟨x, hx, hxb⟩
    obtain ⟨i, hi⟩ := List.mem_iff_getElem?.1 hx
    have hlt : i < ks.length := by rw [← hsl]; exact yL hi
    have hk : ks[i]? = some (ks[i].1, ks[i].2) := by simp [List.getElem?_eq_getElem hlt]
    obtain ⟨sl, q1, q2, q3⟩ := hss i _ _ x hk hi
    rw [q3] at hxb
    have := h.sep j _ o sl b ho q1 hob hxb
    subst this
    exact hj (List.mem_map.2 ⟨_, List.mem_of_getElem? hk, rfl⟩)
  refine
    { env := fun i => (h.env i).mono hH hL
      agree := hA
      sto := ?_, sep := ?_, low := ?_, used := ?_, free := ?_, mine := ?_, zero := .inl h.zero, Xk := ?_
      grow := h.grow.trans hH
      imm := ?_, ext := ?_ }
  · intro j gj x hx
    by_cases hj : j ∈ ks.map (·.1)
    · obtain ⟨i, g0, e, x0, x', sl, q1, q2, q3, q4, q5, q6, q7, q8, q9⟩ := one j hj
      have hat := ajM (zZ g ks es) (es.map (Ent.inst (qV (zZ g ks es)))) s.sto hnd' i j _ (e.inst (qV (zZ g ks es))) q8 (by simp [q2])
      have hx' : (kN s.sto (zZ g ks es) (es.map (Ent.inst (qV (zZ g ks es))))).find j = some (gj, x) := hx
      rw [hat] at hx'
      simp only [Option.some.injEq, Prod.mk.injEq] at hx'
      obtain ⟨rfl, rfl⟩ := hx'
      exact ⟨_, q9, rfl, hes i j _ x' e q8 q4 q2⟩
    · have hx' : (kN s.sto (zZ g ks es) (es.map (Ent.inst (qV (zZ g ks es))))).find j = some (gj, x) := hx
      rw [X4 _ _ s.sto j (by rw [Kc]; exact hj)] at hx'
      obtain ⟨o, h1, h2, h3⟩ := h.sto j gj x hx'
      refine ⟨o, by rw [← other j hj] at h1; exact h1, h2, h3.keep hH hL fun b hob => ?_⟩
      have hlt := h.low j o b h1 hob
      refine ⟨he.old b hlt (notmay j hj o b h1 hob), fun hnone => ?_⟩
      cases hc : H' b with
      | none => rfl
      | some c =>
        rcases hn b c hc with h4 | h4
        · rw [hnone] at h4; cases h4
        · omega
  · intro j j' x x' b hx hx' hxb hxb'
    by_cases hj : j ∈ ks.map (·.1) <;> by_cases hj' : j' ∈ ks.map (·.1)
    · obtain ⟨i, g0, e, x0, y, sl, q1, q2, q3, q4, q5, q6, q7, q8, q9⟩ := one j hj
      obtain ⟨i', g0', e', x0', y', sl', q1', q2', q3', q4', q5', q6', q7', q8', q9'⟩ := one j' hj'
      have hx1 : layAll L.at_ (zZ g ks es) ss' j = some x := hx
      have hx2 : layAll L.at_ (zZ g ks es) ss' j' = some x' := hx'
      rw [q9] at hx1
      rw [q9'] at hx2
      simp only [Option.some.injEq] at hx1 hx2
      subst hx1 hx2
      have := hm.sep i i' y y' b q4 q4' hxb hxb'
      subst this
      rw [q1] at q1'
      simp only [Option.some.injEq, Prod.mk.injEq] at q1'
      exact q1'.1
    · have hx2 : L.at_ j' = some x' := by rw [← other j' hj']; exact hx'
      obtain ⟨_, h1⟩ := place j hj x b hx hxb
      rcases h1 with ⟨sl, r1, r2⟩ | h1
      · exact h.sep j j' sl x' b r1 hx2 r2 hxb'
      · have := h.low j' x' b hx2 hxb'; omega
    · have hx1 : L.at_ j = some x := by rw [← other j hj]; exact hx
      obtain ⟨_, h1⟩ := place j' hj' x' b hx' hxb'
      rcases h1 with ⟨sl, r1, r2⟩ | h1
      · exact h.sep j j' x sl b hx1 r1 hxb r2
      · have := h.low j x b hx1 hxb; omega
    · exact h.sep j j' x x' b (by rw [← other j hj]; exact hx) (by rw [← other j' hj']; exact hx') hxb hxb'
  · intro j x b hx hxb
    by_cases hj : j ∈ ks.map (·.1)
    · exact (place j hj x b hx hxb).1
    · exact Nat.lt_of_lt_of_le (h.low j x b (by rw [← other j hj]; exact hx) hxb) he.size
  · intro j x hx
    by_cases hj : j ∈ ks.map (·.1)
    · obtain ⟨i, g0, e, x0, y, sl, q1, q2, q3, q4, q5, q6, q7, q8, q9⟩ := one j hj
      have hx1 : layAll L.at_ (zZ g ks es) ss' j = some x := hx
      rw [q9] at hx1
      simp only [Option.some.injEq] at hx1
      subst hx1
      by_cases hmv : e.moves = true
      · exact .inr ⟨Zn (List.mem_of_getElem? q2) hmv, by simp [hmv]⟩
      · exact .inl (by simp only [hmv, Bool.false_eq_true, if_false]; rw [← q6]; exact h.used j sl q5)
    · exact .inl (h.used j x (by rw [← other j hj]; exact hx))
  · rintro x ⟨hx1, hx2⟩ hu
    rcases hu with hu | hu
    · exact h.free x hx1 hu
    · exact hx2 hu.1 hu.2
  · intro j x b hx hxb
    by_cases hj : j ∈ ks.map (·.1)
    · rcases (place j hj x b hx hxb).2 with ⟨sl, r1, r2⟩ | r
      · exact h.mine j sl b r1 r2
      · exact .inl (Nat.le_trans h.ext.size r)
    · exact h.mine j x b (by rw [← other j hj]; exact hx) hxb
  · intro j x hjk hx hx0
    by_cases hj : j ∈ ks.map (·.1)
    · obtain ⟨i, g0, e, x0, y, sl, q1, q2, q3, q4, q5, q6, q7, q8, q9⟩ := one j hj
      have hx1 : layAll L.at_ (zZ g ks es) ss' j = some x := hx
      rw [q9] at hx1
      simp only [Option.some.injEq] at hx1
      subst hx1
      by_cases hmv : e.moves = true
      · simp only [hmv, if_true] at hx0
        exact (hg0 (Zn (List.mem_of_getElem? q2) hmv) (by rw [hx0]; exact h.zero)).elim
      · rcases hm.at_ i x0 y e q3 q4 q2 with r | ⟨r, _⟩
        · subst r
          simp only [hmv, Bool.false_eq_true, if_false] at hx0 ⊢
          have := h.Xk j sl hjk q5 (by rw [q6]; exact hx0)
          rw [this, q7, ← q6]
        · exact (hmv r).elim
    · exact h.Xk j x hjk (by rw [← other j hj]; exact hx) hx0
  · intro b c hc
    rcases hn b c hc with h4 | h4
    · exact h.imm b c h4
    · exact .inr (Nat.le_trans h.ext.size h4)
  · refine ⟨Nat.le_trans h.ext.size he.size, fun b hb1 hb2 => ?_, he.out.trans h.ext.out, he.os.trans h.ext.os, he.tape.trans h.ext.tape⟩
    have hlt : b < w.heap.size := Nat.lt_of_lt_of_le hb1 h.ext.size
    refine (he.old b hlt ?_).trans (h.ext.old b hb1 hb2)
    rintro ⟨x, hx, hxb⟩
    obtain ⟨i, hi⟩ := List.mem_iff_getElem?.1 hx
    have hlk : i < ks.length := by rw [← hsl]; exact yL hi
    have hk : ks[i]? = some (ks[i].1, ks[i].2) := by simp [List.getElem?_eq_getElem hlk]
    obtain ⟨sl, q1, q2, q3⟩ := hss i _ _ x hk hi
    rw [q3] at hxb
    rcases h.mine _ sl b q1 hxb with h6 | ⟨_, o, h6, h7⟩
    · omega
    · exact hb2 ⟨o, List.mem_of_getElem? h6, h7⟩
theorem ai6 {m : Nat → Nat × Nat} {n : Nat} : ∀ (ks : List (Nat × Nat)) (es : List Ent) (sto : Sto), findAll m n sto ks es → es.length = ks.length ∧ ∀ (i k g : Nat) (e : Ent), ks[i]? = some (k, g) → es[i]? = some e → sto.find k = some (g, e.inst m) ∧ e.wY n = true
 | [], [], sto, _ => ⟨rfl, fun i k g e h => by simp at h⟩
 | [], _ :: _, sto, h => h.elim
 | (k, g) :: ks, [], sto, h => h.elim
 | (k, g) :: ks, e :: es, sto, h => by
  obtain ⟨h1, h2, h3⟩ := h
  obtain ⟨h4, h5⟩ := ai6 ks es sto h3
  refine ⟨by simp [h4], fun i k' g' e' q1 q2 => ?_⟩
  cases i with
  | zero =>
   simp only [List.getElem?_cons_zero, Option.some.injEq, Prod.mk.injEq] at q1 q2
   obtain ⟨rfl, rfl⟩ := q1
   subst q2
   exact ⟨h1, h2⟩
  | succ i => exact h5 i k' g' e' (by simpa using q1) (by simpa using q2)
def ait (L : Lay) (ks : List (Nat × Nat)) (ss : List Slot) : Prop :=
 ss.length = ks.length ∧ ∀ (i k g : Nat) (s : Slot), ks[i]? = some (k, g) → ss[i]? = some s → ∃ sl, L.at_ k = some sl ∧ sl.gen = g ∧ s = { sl with gen := 0 }
theorem ait.look {L : Lay} {ks : List (Nat × Nat)} {ss : List Slot} (ht : ait L ks ss) {k : Nat} (h1 : 1000 ≤ k) (h2 : k < 1000 + ks.length) :
  ∃ s sl, (jV ss).at_ k = some s ∧ L.at_ (qV ks k).1 = some sl ∧ sl.gen = (qV ks k).2 ∧ s = { sl with gen := 0 } := by
 have hlt : k - 1000 < ks.length := by omega
 have hk : ks[k - 1000]? = some ((qV ks k).1, (qV ks k).2) := by
  simp [qV, List.getD, List.getElem?_eq_getElem hlt]
 have hs : ss[k - 1000]? = some (ss[k - 1000]'(by rw [ht.1]; exact hlt)) := List.getElem?_eq_getElem (by rw [ht.1]; exact hlt)
 obtain ⟨sl, e1, e2, e3⟩ := ht.2 _ _ _ _ hk hs
 refine ⟨_, sl, ?_, e1, e2, e3⟩
 simp only [jV, h1, if_true]
 exact hs
mutual
theorem Rep.Yt {L : Lay} {ks : List (Nat × Nat)} {ss : List Slot} (ht : ait L ks ss) : ∀ (p : PV) {v : Value}, p.wY ks.length = true → Rep H L v (p.inst (qV ks)) → Rep H (jV ss) v p
 | .row k g n, v, hp, hv => by
  simp only [PV.wY, Bool.and_eq_true, decide_eq_true_eq] at hp
  obtain ⟨⟨h1, h2⟩, rfl⟩ := hp
  obtain ⟨s, sl, e0, e1, e2, e3⟩ := ht.look h1 h2
  subst e3
  simp only [PV.inst] at hv
  cases hv with
  | row _ _ _ _ _ hu hs hx =>
   refine .row _ _ _ _ _ rfl hs fun s' q1 q2 => ?_
   rw [e0] at q1; cases q1
   exact hx sl e1 e2
 | .box k g off, v, hp, hv => by
  simp only [PV.wY, Bool.and_eq_true, decide_eq_true_eq] at hp
  obtain ⟨⟨h1, h2⟩, rfl⟩ := hp
  obtain ⟨s, sl, e0, e1, e2, e3⟩ := ht.look h1 h2
  subst e3
  simp only [PV.inst] at hv
  cases hv with
  | box _ _ _ _ _ hu hs hx =>
   refine .box _ _ _ _ _ rfl hs fun s' b q1 q2 q3 => ?_
   rw [e0] at q1; cases q1
   exact hx sl b e1 e2 q3
 | .elt k g i off, v, hp, hv => by
  simp only [PV.wY, Bool.and_eq_true, decide_eq_true_eq] at hp
  obtain ⟨⟨h1, h2⟩, rfl⟩ := hp
  obtain ⟨s, sl, e0, e1, e2, e3⟩ := ht.look h1 h2
  subst e3
  simp only [PV.inst] at hv
  cases hv with
  | elt _ _ _ _ _ _ hu hs hx =>
   refine .elt _ _ _ _ _ _ rfl hs fun s' b q1 q2 q3 => ?_
   rw [e0] at q1; cases q1
   exact hx sl b e1 e2 q3
 | .jP k g, v, hp, hv => by
  simp only [PV.wY, Bool.and_eq_true, decide_eq_true_eq] at hp
  obtain ⟨⟨h1, h2⟩, rfl⟩ := hp
  obtain ⟨s, sl, e0, e1, e2, e3⟩ := ht.look h1 h2
  subst e3
  simp only [PV.inst] at hv
  cases hv with
  | jP _ _ _ _ hu hs hx =>
   refine .jP _ _ _ _ rfl hs (hx.imp id fun hx s' b q1 q2 q3 => ?_)
   rw [e0] at q1; cases q1
   exact hx sl b e1 e2 q3
 | .agg cs, v, hp, hv => by
  simp only [PV.inst] at hv
  cases hv with
  | agg _ vs _ hr => exact .agg _ _ _ (zI.Yt ht cs (by simpa [PV.wY] using hp) hr)
 | .tup cs, v, hp, hv => by
  simp only [PV.inst] at hv
  cases hv with
  | tup _ vs _ hr => exact .tup _ _ _ (zI.Yt ht cs (by simpa [PV.wY] using hp) hr)
 | .fn f cs, v, hp, hv => by
  simp only [PV.inst] at hv
  cases hv with
  | fn _ _ vs _ hr => exact .fn _ _ _ _ (zI.Yt ht cs (by simpa [PV.wY] using hp) hr)
 | .iface t p, v, hp, hv => by
  simp only [PV.inst] at hv
  cases hv with
  | iface _ _ v _ hr => exact .iface _ _ _ _ (Rep.Yt ht p (by simpa [PV.wY] using hp) hr)
 | .own _ _, v, hp, _ => by simp [PV.wY] at hp
 | .adx _ _ _ _ _, v, hp, _ => by simp [PV.wY] at hp
 | .undef, _, _, hv => hv.pure rfl
 | .bool _, _, _, hv => hv.pure rfl
 | .int _ _, _, _, hv => hv.pure rfl
 | .str _, _, _, hv => hv.pure rfl
 | .kS, _, _, hv => hv.pure rfl
 | .list _ _, _, _, hv => hv.pure rfl
 | .ref _, _, _, hv => hv.pure rfl
 | .aaQ, _, _, hv => hv.pure rfl
 | .aaE, _, _, hv => hv.pure rfl
 | .YQ, _, _, hv => hv.pure rfl
theorem zI.Yt {L : Lay} {ks : List (Nat × Nat)} {ss : List Slot} (ht : ait L ks ss) : ∀ (ps : List PV) {vs : List Value}, xK ks.length ps = true → zI H L vs (Z7 (qV ks) ps) → zI H (jV ss) vs ps
 | [], _, _, h => by cases h; exact .nil _
 | p :: ps, _, hp, h => by
  simp only [xK, Bool.and_eq_true] at hp
  simp only [Z7] at h
  cases h with
  | cons _ v _ vs _ h t => exact .cons _ _ _ _ _ (Rep.Yt ht p hp.1 h) (zI.Yt ht ps hp.2 t)
end
mutual
theorem Rep.abJ {L : Lay} {ks : List (Nat × Nat)} {ss : List Slot} (ht : ait L ks ss) (hu : ∀ k sl, L.at_ k = some sl → L.used sl.gen) : ∀ (p : PV) {v : Value}, p.wY ks.length = true → Rep H (jV ss) v p → Rep H L v (p.inst (qV ks))
 | .row k g n, v, hp, hv => by
  simp only [PV.wY, Bool.and_eq_true, decide_eq_true_eq] at hp
  obtain ⟨⟨h1, h2⟩, rfl⟩ := hp
  obtain ⟨s, sl, e0, e1, e2, e3⟩ := ht.look h1 h2
  subst e3
  cases hv with
  | row _ _ _ _ _ _ hs hx =>
   simp only [PV.inst]
   refine .row _ _ _ _ _ (by rw [← e2]; exact hu _ _ e1) hs fun s' q1 q2 => ?_
   rw [e1] at q1; cases q1
   have q5 := hx _ e0 rfl
   exact q5
 | .box k g off, v, hp, hv => by
  simp only [PV.wY, Bool.and_eq_true, decide_eq_true_eq] at hp
  obtain ⟨⟨h1, h2⟩, rfl⟩ := hp
  obtain ⟨s, sl, e0, e1, e2, e3⟩ := ht.look h1 h2
  subst e3
  cases hv with
  | box _ _ _ _ _ _ hs hx =>
   simp only [PV.inst]
   refine .box _ _ _ _ _ (by rw [← e2]; exact hu _ _ e1) hs fun s' b q1 q2 q3 => ?_
   rw [e1] at q1; cases q1
   have q5 := hx _ b e0 rfl q3
   exact q5
 | .elt k g i off, v, hp, hv => by
  simp only [PV.wY, Bool.and_eq_true, decide_eq_true_eq] at hp
  obtain ⟨⟨h1, h2⟩, rfl⟩ := hp
  obtain ⟨s, sl, e0, e1, e2, e3⟩ := ht.look h1 h2
  subst e3
  cases hv with
  | elt _ _ _ _ _ _ _ hs hx =>
   simp only [PV.inst]
   refine .elt _ _ _ _ _ _ (by rw [← e2]; exact hu _ _ e1) hs fun s' b q1 q2 q3 => ?_
   rw [e1] at q1; cases q1
   have q5 := hx _ b e0 rfl q3
   exact q5
 | .jP k g, v, hp, hv => by
  simp only [PV.wY, Bool.and_eq_true, decide_eq_true_eq] at hp
  obtain ⟨⟨h1, h2⟩, rfl⟩ := hp
  obtain ⟨s, sl, e0, e1, e2, e3⟩ := ht.look h1 h2
  subst e3
  cases hv with
  | jP _ _ _ _ _ hs hx =>
   simp only [PV.inst]
   refine .jP _ _ _ _ (by rw [← e2]; exact hu _ _ e1) hs (hx.imp id fun hx s' b q1 q2 q3 => ?_)
   rw [e1] at q1; cases q1
   have q5 := hx _ b e0 rfl q3
   exact q5
 | .agg cs, v, hp, hv => by
  simp only [PV.inst]
  cases hv with
  | agg _ vs _ hr => exact .agg _ _ _ (zI.abJ ht hu cs (by simpa [PV.wY] using hp) hr)
 | .tup cs, v, hp, hv => by
  simp only [PV.inst]
  cases hv with
  | tup _ vs _ hr => exact .tup _ _ _ (zI.abJ ht hu cs (by simpa [PV.wY] using hp) hr)
 | .fn f cs, v, hp, hv => by
  simp only [PV.inst]
  cases hv with
  | fn _ _ vs _ hr => exact .fn _ _ _ _ (zI.abJ ht hu cs (by simpa [PV.wY] using hp) hr)
 | .iface t p, v, hp, hv => by
  simp only [PV.inst]
  cases hv with
  | iface _ _ v _ hr => exact .iface _ _ _ _ (Rep.abJ ht hu p (by simpa [PV.wY] using hp) hr)
 | .own _ _, v, hp, _ => by simp [PV.wY] at hp
 | .adx _ _ _ _ _, v, hp, _ => by simp [PV.wY] at hp
 | .undef, _, _, hv => hv.pure rfl
 | .bool _, _, _, hv => hv.pure rfl
 | .int _ _, _, _, hv => hv.pure rfl
 | .str _, _, _, hv => hv.pure rfl
 | .kS, _, _, hv => hv.pure rfl
 | .list _ _, _, _, hv => hv.pure rfl
 | .ref _, _, _, hv => hv.pure rfl
 | .aaQ, _, _, hv => hv.pure rfl
 | .aaE, _, _, hv => hv.pure rfl
 | .YQ, _, _, hv => hv.pure rfl
theorem zI.abJ {L : Lay} {ks : List (Nat × Nat)} {ss : List Slot} (ht : ait L ks ss) (hu : ∀ k sl, L.at_ k = some sl → L.used sl.gen) : ∀ (ps : List PV) {vs : List Value}, xK ks.length ps = true → zI H (jV ss) vs ps → zI H L vs (Z7 (qV ks) ps)
 | [], _, _, h => by cases h; exact .nil _
 | p :: ps, _, hp, h => by
  simp only [xK, Bool.and_eq_true] at hp
  simp only [Z7]
  cases h with
  | cons _ v _ vs _ h t => exact .cons _ _ _ _ _ (Rep.abJ ht hu p hp.1 h) (zI.abJ ht hu ps hp.2 t)
end
theorem wL.Yt {L : Lay} {ks : List (Nat × Nat)} {ss : List Slot} (ht : ait L ks ss) {e : Ent} {sl : Slot} (hp : e.wY ks.length = true) (h : wL H L w sl (e.inst (qV ks))) : wL H (jV ss) w { sl with gen := 0 } e := by
 cases e with
 | var tv cs =>
  obtain ⟨b, vs, t, h1, h2, h3, h4⟩ := h
  exact ⟨b, vs, t, h1, h2, h3, zI.Yt ht cs hp h4⟩
 | row f sz xs =>
  cases f with
  | true => simp [Ent.wY] at hp
  | false => exact h
 | iter s pos => exact h
 | moved sz xs => exact h
 | bytes bt bs => exact h
 | XX bt bs => exact h
 | gone => trivial
theorem wL.abJ {L : Lay} {ks : List (Nat × Nat)} {ss : List Slot} (ht : ait L ks ss) (hu : ∀ k sl, L.at_ k = some sl → L.used sl.gen) {e : Ent} {sl : Slot} {g : Nat} (hp : e.wY ks.length = true) (h : wL H (jV ss) w sl e) : wL H L w { sl with gen := g } (e.inst (qV ks)) := by
 cases e with
 | var tv cs =>
  obtain ⟨b, vs, t, h1, h2, h3, h4⟩ := h
  exact ⟨b, vs, t, h1, h2, h3, zI.abJ ht hu cs hp h4⟩
 | row f sz xs =>
  cases f with
  | true => simp [Ent.wY] at hp
  | false => exact h
 | iter s pos => exact h
 | moved sz xs => exact h
 | bytes bt bs => exact h
 | XX bt bs => exact h
 | gone => trivial
theorem akw {C : Array Value → World → (Ending → World → Prop) → Prop} (hmono : ∀ (vs : Array Value) (w : World) (R R' : Ending → World → Prop), C vs w R → (∀ e w', R e w' → R' e w') → C vs w R') (hR : Rel B F H L s a w) (hF : F g) (hk : k < 1000) (hd : ∀ d, dst = some d → d < a.tmps.size) (args : List PV) (vs : List Value) (hvs : zI H L vs args)
  {ks : List (Nat × Nat)} {es es' : List Ent} {args' : List PV} {r : PV} (hfind : findAll (qV ks) ks.length s.sto ks es) (hnd : (ks.map (·.1)).Nodup) (hext : xK ks.length args' = true)
  (hw : WkL args (Z7 (qV ks) args')) (hc : (es'.length = es.length ∧ ∀ e ∈ es', e.wY es.length = true) ∧ BCG C args' es r es') (hno : (xk r || !qQ es') = true)
  (hK : K (({ s with sto := kN s.sto (zZ g ks es') (es'.map (Ent.inst (qV (zZ g ks es')))) } : St).back dst k g r)) (R : Ending → World → Prop)
  (hnext : ∀ v w' H' L' s', Rel B (fun x => F x ∧ x ≠ g) H' L' s' (a.put dst v) w' → K s' → R (.returned v) w') : C vs.toArray w R := by
 obtain ⟨hlen, hall⟩ := ai6 ks es s.sto hfind
 obtain ⟨⟨hlen', hext'⟩, hcall⟩ := hc
 have hslot : ∀ (i k g : Nat), ks[i]? = some (k, g) → ∃ sl, L.at_ k = some sl ∧ sl.gen = g := by
  intro i k g hi
  have hie : i < es.length := by rw [hlen]; exact yL hi
  obtain ⟨h1, _⟩ := hall i k g es[i] hi (by simp [List.getElem?_eq_getElem hie])
  obtain ⟨sl, e1, e2, _⟩ := hR.sto k g _ h1
  exact ⟨sl, e1, e2⟩
 let ss : List Slot := ks.map fun x => match L.at_ x.1 with | some sl => { sl with gen := 0 } | none => ⟨0, none, 0, 0⟩
 have hss : ss.length = ks.length := by simp [ss]
 have htied : ait L ks ss := by
  refine ⟨hss, fun i k g x hi hx => ?_⟩
  obtain ⟨sl, e1, e2⟩ := hslot i k g hi
  simp only [ss, List.getElem?_map, hi, Option.map_some, e1, Option.some.injEq] at hx
  subst hx
  exact ⟨sl, e1, e2, rfl⟩
 have hsskey : ∀ (i : Nat) (x : Slot), ss[i]? = some x → ∃ k g, ks[i]? = some (k, g) := by
  intro i x hx
  have : i < ks.length := by rw [← hss]; exact yL hx
  exact ⟨ks[i].1, ks[i].2, by simp [List.getElem?_eq_getElem this]⟩
 have hssgen : ∀ x ∈ ss, x.gen = 0 := by
  intro x hx
  obtain ⟨y, _, rfl⟩ := List.mem_map.1 hx
  split <;> rfl
 refine hmono _ _ _ _ (hcall H w ss vs hR.agree (akX hR.grow B.ayO) (by rw [hss, hlen]) (fun x hx => ⟨hssgen x hx, fun b hb => ?_⟩) ?_ ?_ (zI.Yt htied args' hext (hvs.wk hw))) ?_
 ·obtain ⟨i, hi⟩ := List.mem_iff_getElem?.1 hx
  obtain ⟨k', g', hkk⟩ := hsskey i x hi
  obtain ⟨sl, e1, e2, e3⟩ := htied.2 i k' g' x hkk hi
  exact hR.low k' sl b e1 (by rw [e3] at hb; exact hb)
 ·intro i j si sj b h1 h2 h3 h4
  obtain ⟨k1, g1, q1⟩ := hsskey i si h1
  obtain ⟨k2, g2, q2⟩ := hsskey j sj h2
  obtain ⟨sl1, e1, _, e3⟩ := htied.2 i k1 g1 si q1 h1
  obtain ⟨sl2, e1', _, e3'⟩ := htied.2 j k2 g2 sj q2 h2
  have hkk := hR.sep k1 k2 sl1 sl2 b e1 e1' (by rw [e3] at h3; exact h3) (by rw [e3'] at h4; exact h4)
  subst hkk
  have hi' : i < (ks.map (·.1)).length := by simpa using yL q1
  have hj' : j < (ks.map (·.1)).length := by simpa using yL q2
  exact (List.getElem_inj hnd (h₀ := hi') (h₁ := hj')).1 (by
   have a1 : (ks.map (·.1))[i]? = some k1 := by simp [q1]
   have a2 : (ks.map (·.1))[j]? = some k1 := by simp [q2]
   rw [List.getElem?_eq_getElem hi'] at a1
   rw [List.getElem?_eq_getElem hj'] at a2
   simp only [Option.some.injEq] at a1 a2
   rw [a1, a2])
 ·intro i x e hx he
  obtain ⟨k', g', hkk⟩ := hsskey i x hx
  obtain ⟨h1, h2⟩ := hall i k' g' e hkk he
  obtain ⟨sl, e1, e2, e3⟩ := hR.sto k' g' _ h1
  obtain ⟨sl', f1, f2, f3⟩ := htied.2 i k' g' x hkk hx
  rw [e1] at f1
  cases f1
  rw [f3]
  exact e3.Yt htied h2
 ·rintro e w' ⟨v, H2, ss', rfl, q1, q2, q3, q4, q7, q5, q6⟩
  let L2 : Lay := ⟨fun x => L.used x ∨ (qQ es' = true ∧ x = g), layAll L.at_ (zZ g ks es') ss'⟩
  have hnl : (zZ g ks es').length = ks.length := arF _ _ _
  have hnd2 : ((zZ g ks es').map (·.1)).Nodup := by rw [Kc]; exact hnd
  have htied2 : ait L2 (zZ g ks es') ss' := by
   refine ⟨by rw [q7.len, hss, hnl], fun i k' g' x hi hx => ?_⟩
   refine ⟨{ x with gen := g' }, Xg _ _ _ hnd2 i k' g' x hi hx, rfl, ?_⟩
   have := q7.gen x (List.mem_of_getElem? hx)
   cases x
   simp_all
  have hu2 : ∀ j sl, L2.at_ j = some sl → L2.used sl.gen := by
   intro j sl hj
   by_cases hm : j ∈ (zZ g ks es').map (·.1)
   ·obtain ⟨⟨k', g'⟩, hmem, rfl⟩ := List.mem_map.1 hm
    obtain ⟨i, hi⟩ := List.mem_iff_getElem?.1 hmem
    have hlt : i < ss'.length := by rw [q7.len, hss, ← hnl]; exact yL hi
    have hx : ss'[i]? = some ss'[i] := List.getElem?_eq_getElem hlt
    have hj' : layAll L.at_ (zZ g ks es') ss' k' = some sl := hj
    rw [Xg _ _ _ hnd2 i k' g' _ hi hx] at hj'
    cases hj'
    have hlk : i < ks.length := by rw [← hnl]; exact yL hi
    have hke : ks[i]? = some (ks[i].1, ks[i].2) := by simp [List.getElem?_eq_getElem hlk]
    have hee : es'[i]? = some (es'[i]'(by omega)) := List.getElem?_eq_getElem (by omega)
    have hn := ahE g ks es' i _ _ _ hke hee
    rw [hi] at hn
    simp only [Option.some.injEq, Prod.mk.injEq] at hn
    show L.used g' ∨ (qQ es' = true ∧ g' = g)
    rw [hn.2]
    split
    ·rename_i hmv
     exact .inr ⟨Zn (List.mem_of_getElem? hee) hmv, rfl⟩
    ·obtain ⟨sl0, e1, e2⟩ := hslot i _ _ hke
     rw [← e2]
     exact .inl (hR.used _ _ e1)
   ·have hj' : layAll L.at_ (zZ g ks es') ss' j = some sl := hj
    rw [Vo _ _ _ _ hm] at hj'
    exact .inl (hR.used j sl hj')
  have h2 := hR.ayo (g := g) ks es' (fun _ => hF) ss ss' (by omega) hss hnd htied.2 q1 q2 q3 q4 q7 (by
   intro i k' g' x e hi hx he
   exact (q5 i x e hx he).abJ htied2 hu2 (by rw [hnl, ← hlen]; exact hext' e (List.mem_of_getElem? he)))
  by_cases hown : xk r = true
  ·have hb : (({ s with sto := kN s.sto (zZ g ks es') (es'.map (Ent.inst (qV (zZ g ks es')))) } : St).back dst k g r) = ({ s with sto := kN s.sto (zZ g ks es') (es'.map (Ent.inst (qV (zZ g ks es')))) } : St).put dst r := by
    cases r <;> first
     | rfl
     | simp [xk] at hown
   rw [hb] at hK
   have hv : Rep H2 Lay.none v r := by
    cases r <;> first
     | exact q6
     | simp [xk] at hown
   exact hnext v w' H2 _ _ ((h2.put hd hv.none).less fun x hx => ⟨hx.1, fun _ => hx.2⟩) hK
  ·have hno2 : qQ es' = false := by
    have : xk r = false := by simpa using hown
    rw [this] at hno
    simpa using hno
   have h3 : Rel B F H2 L2 { s with sto := kN s.sto (zZ g ks es') (es'.map (Ent.inst (qV (zZ g ks es')))) } a w' := h2.less fun x hx => ⟨hx, fun h => by rw [hno2] at h; cases h⟩
   obtain ⟨L3, h4⟩ := ahu h3 hF hk hd (n0 := w.heap.size) hR.ext.size (fun j x b hx hxb => by
    by_cases hm : j ∈ (zZ g ks es').map (·.1)
    ·obtain ⟨⟨k', g'⟩, hmem, rfl⟩ := List.mem_map.1 hm
     obtain ⟨i, hi⟩ := List.mem_iff_getElem?.1 hmem
     have hlt : i < ss'.length := by rw [q7.len, hss, ← hnl]; exact yL hi
     have hx1 : ss'[i]? = some ss'[i] := List.getElem?_eq_getElem hlt
     have hj' : layAll L.at_ (zZ g ks es') ss' k' = some x := hx
     rw [Xg _ _ _ hnd2 i k' g' _ hi hx1] at hj'
     cases hj'
     have hlk : i < ks.length := by rw [← hnl]; exact yL hi
     have hke : ks[i]? = some (ks[i].1, ks[i].2) := by simp [List.getElem?_eq_getElem hlk]
     have hee : es'[i]? = some (es'[i]'(by omega)) := List.getElem?_eq_getElem (by omega)
     have hs0 : ss[i]? = some (ss[i]'(by omega)) := List.getElem?_eq_getElem (by omega)
     rcases q7.at_ i _ _ _ hs0 hx1 hee with r | ⟨r, _⟩
     ·obtain ⟨sl, e1, e2, e3⟩ := htied.2 i _ _ _ hke hs0
      have hxb' : ss'[i].block = some b := hxb
      rw [r, e3] at hxb'
      exact hR.low _ sl b e1 hxb'
     ·rw [Zn (List.mem_of_getElem? hee) r] at hno2
      cases hno2
    ·have hj' : layAll L.at_ (zZ g ks es') ss' j = some x := hx
     rw [Vo _ _ _ _ hm] at hj'
     exact hR.low j x b hj' hxb) q6
   exact hnext v w' H2 L3 _ h4 hK
theorem att (hR : Rel B F H L s a w) (hF : F g) (hk : k < 1000) (hd : ∀ d, dst = some d → d < a.tmps.size) (f : Nat) (args : List PV) (vs : List Value) (hvs : zI H L vs args)
  {ks : List (Nat × Nat)} {es es' : List Ent} {args' : List PV} {r : PV} (hfind : findAll (qV ks) ks.length s.sto ks es) (hnd : (ks.map (·.1)).Nodup) (hext : xK ks.length args' = true)
  (hw : WkL args (Z7 (qV ks) args')) (hc : BC P f args' es r es') (hno : (xk r || !qQ es') = true)
  (hK : K (({ s with sto := kN s.sto (zZ g ks es') (es'.map (Ent.inst (qV (zZ g ks es')))) } : St).back dst k g r)) (R : Ending → World → Prop)
  (hnext : ∀ v w' H' L' s', Rel B (fun x => F x ∧ x ≠ g) H' L' s' (a.put dst v) w' → K s' → R (.returned v) w') : Calls P f vs.toArray w R :=
 akw (C := Calls P f) (fun _ _ _ _ h hm => h.mono hm) hR hF hk hd args vs hvs hfind hnd hext hw hc.2 hno hK R hnext
end
end Go.Proofs.YtclohbgnaopjfaaDoor
namespace Go.Proofs.YtclohbgnaopjfaaDoor
set_option linter.unusedSimpArgs false
set_option linter.unusedVariables false
open Go
section
variable {P : Program} {B : Base} {F : Nat → Prop} {H : Imm} {L : Lay} {s : St} {a : Act} {w : World} {q : Bool} {k g : Nat} {K : St → Prop}
theorem agE {α : Type} {x : Array α} {l : List α} (h : x.toList = l) : x = l.toArray := by
 rw [← h]
theorem ajG {dst : Option Nat} (hR : Rel B F H L s a w) (hF : F g) (hk : k < 1000) (hd : ∀ d, dst = some d → d < a.tmps.size) (b : Builtin) (ts : Array Nat) (args : Array Operand) (ty : Nat) (consts : Array Bool)
  (h : (yz P s.sto.find k g b ts.toList (args.toList.map s.ev)).wp P q s dst k g K) :
  ∃ sem : Sem Value, builtin b ts ty consts (args.map a.eval) = (do pure (Next.value (← sem))) ∧ Good P B F a dst g K sem w := by
 obtain ⟨ts⟩ := ts
 obtain ⟨args⟩ := args
 simp only at h
 unfold yz at h
 split at h
 ·split at h
  ·rename_i t ts'
   split at h
   ·rename_i x hargs
    match args, hargs with
    | [xo], ha =>
     simp only [List.map_cons, List.map_nil, List.cons.injEq, and_true] at ha
     subst ha
     exact ⟨_, rfl, by simpa using ar6 hR hd t ty ts' xo [] h⟩
   ·simp [Res.wp] at h
  ·simp [Res.wp] at h
 ·split at h
  ·rename_i t t'
   split at h
   ·rename_i x y hargs
    match args, hargs with
    | [xo, yo], ha =>
     simp only [List.map_cons, List.map_nil, List.cons.injEq, and_true] at ha
     obtain ⟨rfl, rfl⟩ := ha
     split at h
     ·rename_i e hkd
      exact ⟨_, rfl, by simpa using adE hR hF hk hd t t' ty xo yo (by rw [hkd]; trivial) h⟩
     ·rename_i hkd
      exact ⟨_, rfl, by simpa using adE hR hF hk hd t t' ty xo yo (by rw [hkd]; trivial) h⟩
     ·simp [Res.wp] at h
   ·simp [Res.wp] at h
  ·simp [Res.wp] at h
 ·refine ⟨_, rfl, aiI hR hd J5 Builtin.min2 apF (fun u v x y z hu hv hz => asX hu hv hz) args h _ fun u rest hl => ?_⟩
  unfold Builtin.min_
  simp only [List.map_toArray, hl]
 ·refine ⟨_, rfl, aiI hR hd JZ Builtin.max2 apr (fun u v x y z hu hv hz => avg hu hv hz) args h _ fun u rest hl => ?_⟩
  unfold Builtin.max_
  simp only [List.map_toArray, hl]
 ·simp [Res.wp] at h
theorem qY {o : Oper} {next : Act → World → Prop} {Q : Exit → Act → World → Prop} (sem : Sem Value) (he : execOp a.eval o = (do pure (Next.value (← sem)))) (hg : Good P B F a o.dst g K sem w)
  (hnext : ∀ a' w' H' L' s', Rel B (fun x => F x ∧ x ≠ g) H' L' s' a' w' → a'.defers = a.defers → a'.tmps.size = a.tmps.size → K s' → next a' w') : o.wp P a w next Q := by
 obtain ⟨v, w', H', L', s', h1, h2, h3⟩ := hg
 unfold Oper.wp
 rw [he]
 simp only [Sem.run_bind, h1, Result.andThen_ok, Sem.run_pure, Oper.upon]
 exact hnext _ _ _ _ _ h2 (Act.put_defers _ _ _) (Act.Y4 _ _ _) h3
theorem avd (hR : Rel B F H L s a w) (hF : F g) (hk : k < 1000) (o : Oper) (hd : ∀ d, o.dst = some d → d < a.tmps.size) (h : (vK P q s k g o.op).wp P q s o.dst k g K) (next : Act → World → Prop) (Q : Exit → Act → World → Prop)
  (hnext : ∀ a' w' H' L' s', Rel B (fun x => F x ∧ x ≠ g) H' L' s' a' w' → a'.defers = a.defers → a'.tmps.size = a.tmps.size → K s' → next a' w') : o.wp P a w next Q := by
 obtain ⟨dst, op, ty, pos, after, guard⟩ := o
 simp only at h hd
 cases op <;> simp only [vK, Res.wp] at h <;> try exact h.elim
 case move x => exact qY (pure (a.eval x)) (by rfl) (zP hR hd rfl (hR.eval x) h) hnext
 case assign x => exact qY (pure (a.eval x)) (by rfl) (zP hR hd rfl (hR.eval x) h) hnext
 case pick c x y => exact qY (do pure (if ← asBool (a.eval c) then a.eval x else a.eval y)) (by simp [execOp]) (aoU hR hd c x y h) hnext
 case alloc t => exact qY _ rfl (anx hR hF hk hd t h) hnext
 case box t x => exact qY _ rfl (ar7 (q := q) hR hF hk hd t x (by simpa [Res.wp] using h)) hnext
 case build t parts => exact qY _ rfl (aoC hR hd t parts _ h) hnext
 case buildSlice t len parts => exact qY _ rfl (afj hR hF hk hd t len parts h) hnext
 case load t x => exact qY _ rfl (apv hR hd t x h) hnext
 case store t x y =>
  obtain ⟨w', H', L', s', h1, h2, h3⟩ := am8 hR hd t x y h
  unfold Oper.wp
  simp only [execOp, Sem.run_bind, h1, Result.andThen_ok, Sem.run_pure, Oper.upon]
  exact hnext _ _ _ _ _ h2 (Act.put_defers _ _ _) (Act.Y4 _ _ _) h3
 case binOp op t x y yt => exact qY _ rfl (anq hR hd op t x y h) hnext
 case unOp op t x => exact qY _ rfl (ap0 hR hd op x h) hnext
 case convert src dt x => exact qY _ rfl (ajI hR hd src dt x h) hnext
 case slice t x lo hi mx => exact qY _ rfl (an0 hR hd t x lo hi mx h) hnext
 case fieldAddr t x f => exact qY _ rfl (agH hR hd t x f h) hnext
 case field t x f => exact qY _ rfl (anP hR hd t x f h) hnext
 case nilCheck x =>
  obtain ⟨b, h1, h2⟩ := ah5 (k := k) hR hd x h
  exact qY _ (by simp only [execOp, h1]; rfl) h2 hnext
 case indexAddr t x i => exact qY _ rfl (agD hR hd t x i h) hnext
 case index t x i => exact qY _ rfl (aim hR hd t x i h) hnext
 case extract x i => exact qY _ rfl (ajj hR hd x i h) hnext
 case range t x => exact qY _ rfl (anT hR hF hk hd t x h) hnext
 case next it isStr =>
  cases isStr with
  | true => exact qY _ rfl (ao1 hR hd ty it h) hnext
  | false => simp [Res.wp] at h
 case makeFunc fn first captured =>
  split at h
  ·rename_i f
   split at h
   ·rename_i hfirst
    simp only [Res.wp] at h
    have hfirst' : first = #[] := agE hfirst
    subst hfirst'
    have hargs : zI H L (captured.toList.map a.eval) (captured.toList.map s.ev) := by
     clear h
     generalize captured.toList = l
     induction l with
     | nil => exact .nil _
     | cons x l ih => exact .cons _ _ _ _ _ (hR.eval x) ih
    have hv := Rep.fn (H := H) L f _ _ hargs
    refine qY (pure (.func (.func f) #[] (captured.toList.map a.eval).toArray)) ?_ (zP hR hd rfl hv h) hnext
    have hcap : (captured.toList.map a.eval).toArray = captured.map a.eval := by apply Array.ext'; simp
    rw [hcap]
    simp [execOp, Instr.makeFunc]
   ·simp [Res.wp] at h
  ·simp [Res.wp] at h
 case call c =>
  obtain ⟨callee, args, ts⟩ := c
  simp only at h
  cases callee with
  | value f =>
   simp only at h
   have hf := hR.eval f
   split at h
   ·rename_i g' caps hfe
    rw [hfe] at hf
    simp only [Res.wp] at h
    generalize hfv : a.eval f = fv at hf
    cases hf with
    | fn _ _ cvs _ hcaps =>
     have hargs : zI H L (args.toList.map a.eval) (args.toList.map s.ev) := by
      clear h
      generalize args.toList = l
      induction l with
      | nil => exact .nil _
      | cons x l ih => exact .cons _ _ _ _ _ (hR.eval x) ih
     have hvs := hargs.append hcaps
     have hexec : ∀ hc : Wn P g', (execOp a.eval { dst, op := .call { callee := .value f, args, argTypes := ts }, type := ty, pos, after, guard }).run P w = .ok (.enter g' ((args.toList.map a.eval) ++ cvs).toArray) w := by
      intro hc
      simp only [execOp, Sem.run_bind, resolve, hfv, Deferred.ofValue, Sem.run_pure, Result.andThen_ok, invoke]
      rw [aeE hc]
      congr 2
      apply Array.ext'
      simp
     have fin : Wn P g' → Calls P g' ((args.toList.map a.eval) ++ cvs).toArray w (fun
       | .returned v, w'' => next (a.put dst v) w''
       | .panicked chain, w'' => Q (.panic chain) a w''
       | .outgrown, _ => LetsOut Q) → Oper.wp P { dst, op := .call { callee := .value f, args, argTypes := ts }, type := ty, pos, after, guard } a w next Q := by
      intro hc hcalls
      unfold Oper.wp
      rw [hexec hc]
      exact hcalls
     rcases h with ⟨args', r, _, hp, hw, hc, hK⟩ | ⟨_, ks, es, args', r, es', hfind, hnd, hext, hw, hc, hno, hK⟩
     ·exact fin hc.1 (atS hR hF hk hd g' _ _ hvs hp hw hc hK _ fun v w' H' L' s' h1 h2 => hnext _ _ _ _ _ h1 (Act.put_defers _ _ _) (Act.Y4 _ _ _) h2)
     ·exact fin hc.1 (att hR hF hk hd g' _ _ hvs hfind hnd hext hw hc hno hK _ fun v w' H' L' s' h1 h2 => hnext _ _ _ _ _ h1 (Act.put_defers _ _ _) (Act.Y4 _ _ _) h2)
   ·simp [Res.wp] at h
  | invoke r name => simp [Res.wp] at h
  | builtin b =>
   simp only at h
   obtain ⟨sem, h1, h2⟩ := ajG hR hF hk hd b ts args ty (args.map fun | .const _ => true | _ => false) h
   refine qY sem ?_ h2 hnext
   simp only [execOp, resolve, invoke, pure_bind]
   exact h1
end
end Go.Proofs.YtclohbgnaopjfaaDoor
namespace Go.Proofs.YtclohbgnaopjfaaDoor
set_option linter.unusedSimpArgs false
set_option linter.unusedVariables false
open Go
section
variable {P : Program} {B : Base} {H : Imm} {L : Lay} {a : Act} {w : World} {q : Bool} {nm : Names}
section
variable {F : Nat → Prop} {s : St}
theorem ahF (h : Rel B F H L s a w) {fnd : Nat → Option (Nat × Ent)} {ks : List Nat} (hfr : ∀ j g f sz xs, fnd j = some (g, .row f sz xs) → j ∈ ks → j < 1000 → s.sto.find j = some (g, .row true sz xs))
  (x : Option Nat) {v : Value} {p : PV} (hv : Rep H L v p) (hk : ∀ j ∈ arv x p, j ∈ ks) : Rep H L v (atK fnd x p) := by
 cases x with
 | none => cases p <;> exact hv
 | some sz =>
  cases p with
  | kS => cases hv; exact .wN _ _ _ _
  | row k g n =>
   show Rep H L v (abm fnd (.row k g n))
   by_cases hp : (abm fnd (.row k g n)).pure = true
   ·exact (acy h hfr hv (by simpa [amy, arv] using hk) hp).none
   ·have : abm fnd (.row k g n) = .row k g n := by
     unfold abm at hp ⊢
     simp only at hp ⊢
     split
     ·rename_i hf
      simp only [hf] at hp
      split
      ·rename_i hc; rw [if_pos hc] at hp; simp [PV.pure] at hp
      ·rfl
     ·rfl
    rw [this]; exact hv
  | _ => exact hv
theorem acT (h : Rel B F H L s a w) {fnd : Nat → Option (Nat × Ent)} {ks : List Nat} (hfr : ∀ j g f sz xs, fnd j = some (g, .row f sz xs) → j ∈ ks → j < 1000 → s.sto.find j = some (g, .row true sz xs)) :
  ∀ (l : Nf) (vs : List Value) (ps : List PV), zI H L vs ps → (∀ j ∈ amQ l ps, j ∈ ks) → zI H L vs (auQ fnd l ps)
 | [], vs, ps, hv, _ => by cases ps <;> exact hv
 | x :: l, vs, [], hv, _ => hv
 | x :: l, _, p :: ps, hv, hk => by
  cases hv with
  | cons _ v _ vs _ h1 h2 =>
   simp only [amQ, List.mem_append] at hk
   exact .cons _ _ _ _ _ (ahF h hfr x h1 fun j hj => hk j (.inl hj)) (acT h hfr l vs ps h2 fun j hj => hk j (.inr hj))
theorem api (h : Rel B F H L s a w) {fnd : Nat → Option (Nat × Ent)} {ks : List Nat} (hfr : ∀ j g f sz xs, fnd j = some (g, .row f sz xs) → j ∈ ks → j < 1000 → s.sto.find j = some (g, .row true sz xs))
  (l : Nf) {v : Value} {p : PV} (hv : Rep H L v p) (hk : ∀ j ∈ apG l p, j ∈ ks) : Rep H L v (asu fnd l p) := by
 unfold asu
 split
 ·rename_i cs
  cases hv with
  | agg _ vs _ hr => exact .agg _ _ _ (acT h hfr l vs cs hr (by simpa [apG] using hk))
 ·rename_i hne
  refine ahF h hfr _ hv fun j hj => hk j ?_
  unfold apG
  split
  ·exact (hne _ rfl).elim
  ·exact hj
theorem Rel.aeu (h : Rel B F H L s a w) (d : Nat) (l : Nf) : ∃ H', Rel B F H' L (s.aeu d l) a w := by
 unfold St.aeu
 split
 ·rename_i k g off hd
  split
  ·rename_i g' tv cs hf
   obtain ⟨H', h1, hG⟩ := h.frz (amQ l cs)
   have hf' : (Sto.frz (amQ l cs) s.sto).find k = some (g', .var tv cs) := by rw [adW, hf]
   obtain ⟨sl, e1, e2, b, vs, t, e3, e4, e5, e6⟩ := h1.sto k g' _ hf'
   subst e2
   refine ⟨H', h1.VQ (k := k) (sl := sl) (H' := H') e1 (.refl _) h1.agree (fun b c hc => .inl hc) (Nat.le_refl _) (fun _ _ _ => rfl) rfl rfl rfl ⟨b, vs, t, e3, e4, e5, ?_⟩⟩
   exact acT h1 (Xl s.sto _) l vs cs e6 fun j hj => hj
  ·exact ⟨H, h⟩
 ·obtain ⟨H', h1, hG⟩ := h.frz (apG l (s.env.get d))
  refine ⟨H', { h1 with env := fun i => ?_ }⟩
  show Rep H' L _ (if i = d then asu s.sto.find l (s.env.get d) else s.env.get i)
  split
  ·rename_i hi
   subst hi
   exact api h1 (Xl s.sto _) l (h1.env i) fun j hj => hj
  ·exact h1.env i
theorem Rel.Ws (h : Rel B F H L s a w) (nf : List (Nat × Nf)) (dst : Option Nat) : ∃ H', Rel B F H' L (s.Ws q nf dst) a w := by
 cases q with
 | true => exact ⟨H, h⟩
 | false =>
  cases dst with
  | none => exact ⟨H, h⟩
  | some d =>
   simp only [St.Ws, St.act]
   cases ajp nf d with
   | nil => exact ⟨H, h⟩
   | cons x l => exact h.aeu d _
end
theorem St.aa7 (s : St) (dst : Option Nat) (k g : Nat) (r : PV) : (s.back dst k g r).nx = s.nx := by
 cases r <;> cases dst <;> rfl
theorem St.avf (s : St) (fp : List Nat) (sto : Sto) : (s.quiet fp sto).nx = s.nx := by
 unfold St.quiet
 split <;> rfl
theorem afR (g : Nat) : ∀ (ks : List (Nat × Nat)) (es : List Ent), qQ es = false → zZ g ks es = ks
 | [], _, _ => by simp [zZ]
 | (k, g0) :: ks, [], _ => by simp [zZ]
 | (k, g0) :: ks, e :: es, h => by
  simp only [qQ, Bool.or_eq_false_iff] at h
  rw [zZ, afR g ks es h.2, h.1]
  simp
theorem aev {m : Nat → Nat × Nat} {n : Nat} {a b : Sto} (hab : a.find = b.find) : ∀ (ks : List (Nat × Nat)) (es : List Ent), findAll m n a ks es → findAll m n b ks es
 | [], [], h => trivial
 | [], _ :: _, h => h.elim
 | (_, _) :: _, [], h => h.elim
 | (k, g) :: ks, e :: es, h => ⟨by rw [← hab]; exact h.1, h.2.1, aev hab ks es h.2.2⟩
theorem ac3 {m : Nat → Nat × Nat} {n : Nat} : ∀ (ks : List (Nat × Nat)) (es : List Ent) (sto : Sto), findAll m n sto ks es → (kN sto ks (es.map (Ent.inst m))).find = sto.find
 | [], [], _, _ => rfl
 | [], _ :: _, _, h => h.elim
 | (_, _) :: _, [], _, h => h.elim
 | (k, g) :: ks, e :: es, sto, h => by
  have hf : (sto.upd k g (e.inst m)).find = sto.find := by
   funext j
   by_cases hj : j = k
   ·subst hj
    rw [Sto.kI]
    exact h.1.symm
   ·exact Sto.qC _ _ _ _ _ hj
  show (kN (sto.upd k g (e.inst m)) ks (es.map (Ent.inst m))).find = sto.find
  rw [ac3 ks es _ (aev hf.symm ks es h.2.2), hf]
theorem arw {a b : St} (he : a.env = b.env) (hf : a.sto.find = b.sto.find) (dst : Option Nat) (k g : Nat) (r : PV) : (a.back dst k g r).env = (b.back dst k g r).env ∧ (a.back dst k g r).sto.find = (b.back dst k g r).sto.find := by
 have pute : ∀ v, (a.put dst v).env = (b.put dst v).env ∧ (a.put dst v).sto.find = (b.put dst v).sto.find := fun v => by
  cases dst with
  | none => exact ⟨he, hf⟩
  | some d => exact ⟨by simp only [St.put, he], hf⟩
 have upd : ∀ {x y : Sto} (k g : Nat) (e : Ent), x.find = y.find → (x.upd k g e).find = (y.upd k g e).find := fun {x y} k g e h => by
  funext j
  by_cases hj : j = k
  ·subst hj
   rw [Sto.kI, Sto.kI]
  ·rw [Sto.qC _ _ _ _ _ hj, Sto.qC _ _ _ _ _ hj, h]
 cases r <;> first
  | exact pute _
  | exact ⟨(pute _).1, upd _ _ _ (pute _).2⟩
  | exact ⟨(pute _).1, upd _ _ _ (upd _ _ _ (pute _).2)⟩
theorem Res.wp_mono {s : St} {dst : Option Nat} {k g : Nat} {K K' : St → Prop} (h : ∀ s', s'.nx = s.nx → K s' → K' s') : ∀ (r : Res), r.wp P q s dst k g K → r.wp P q s dst k g K'
 | .val v, hr => h _ (by cases dst <;> rfl) hr
 | .eff v k' g' e, hr => h _ (by cases dst <;> rfl) hr
 | .call f args, hr => by
  rcases hr with ⟨args', r, h1, h2, h3, h4, h5⟩ | ⟨h0, ks, es, args', r, es', h1, h2, h3, h4, h5, h6, h7⟩
  ·exact .inl ⟨args', r, h1, h2, h3, h4, h _ (St.aa7 _ _ _ _ _) h5⟩
  ·exact .inr ⟨h0, ks, es, args', r, es', h1, h2, h3, h4, h5, h6, h _ (St.aa7 _ _ _ _ _) h7⟩
 | .need p r, hr => ⟨hr.1, Res.wp_mono h r hr.2⟩
 | .acF p b, hr => ⟨hr.1, fun hp => h _ (by cases dst <;> rfl) (hr.2.1 hp), h _ (by cases dst <;> rfl) hr.2.2⟩
 | .bad, hr => hr.elim
theorem St.aqV (s : St) (d : Nat) (l : Nf) : (s.aeu d l).nx = s.nx := by
 unfold St.aeu
 split
 ·split <;> rfl
 ·rfl
theorem St.aqf (s : St) (nf : List (Nat × Nf)) (dst : Option Nat) : (s.Ws q nf dst).nx = s.nx := by
 cases q with
 | true => rfl
 | false =>
  cases dst with
  | none => rfl
  | some d =>
   simp only [St.Ws, St.act]
   cases ajp nf d with
   | nil => rfl
   | cons x l => exact St.aqV s d _
theorem asR {fp : Option (List Nat)} {s : St} {dst : Option Nat} {k g : Nat} {r : Res} {K : St → Prop} (h : fp = none) : wpQ P q fp s dst k g r K = r.wp P q s dst k g K := by
 subst h; rfl
theorem auI {fp : List Nat} {s : St} {dst : Option Nat} {k g : Nat} {r : Res} {K : St → Prop} (h : wpQ P q (some fp) s dst k g r K) : r.wp P q s dst k g K ∨ ∃ f args, r = .call f args ∧ aqp P fp s dst k g f args K := by
 cases r <;> first
  | exact .inl h
  | exact .inr ⟨_, _, rfl, h⟩
theorem atj {fp : Option (List Nat)} {s : St} {dst : Option Nat} {k g : Nat} {r : Res} {K K' : St → Prop} (h : ∀ s', s'.nx = s.nx → K s' → K' s') (hr : wpQ P q fp s dst k g r K) : wpQ P q fp s dst k g r K' := by
 cases fp with
 | none => exact Res.wp_mono h _ hr
 | some fp =>
  cases r <;> first
   | exact Res.wp_mono h _ hr
   | (obtain ⟨ks, es, args', r, es', h1, h2, h3, h4, h5, h6, h7, hq, h8⟩ := hr; exact ⟨ks, es, args', r, es', h1, h2, h3, h4, h5, h6, h7, hq, h _ ((St.aa7 _ _ _ _ _).trans (St.avf _ _ _)) h8⟩)
theorem aif {op : Op} {dst : Option Nat} {fp : List Nat} (h : fOf q nm op dst = some fp) : q = true ∧ ∃ c f, op = .call c ∧ c.callee = .value f ∧ afC nm.fp dst = some fp := by
 cases q with
 | false => cases h
 | true =>
  refine ⟨rfl, ?_⟩
  simp only [fOf, XC] at h
  split at h
  ·rename_i c
   split at h
   ·rename_i f hc
    exact ⟨c, f, rfl, hc, h⟩
   ·cases h
  ·cases h
theorem aiA {l : Nf} {c : Call} {f : Operand} {r : Res} (hc : c.callee = .value f) : QD q l (.call c) r = r := by
 unfold QD
 have : XN (.call c) = false := by simp [XN, hc]
 rw [this]
 split <;> simp_all
theorem ahD {i : Nat} {o : Oper} {s : St} {K K' : St → Prop} (h : ∀ s', s'.nx = s.nx → K s' → K' s') (hr : aip P q nm i o s K) : aip P q nm i o s K' :=
 ⟨hr.1, hr.2.1, atj (fun s' hs' => h _ (by rw [St.aqf]; exact hs')) hr.2.2⟩
theorem asF {ops : List Oper} {i : Nat} {o : Oper} {s : St} {K K' : St → Prop} (h : ∀ s', s'.nx = s.nx → K s' → K' s') (hr : ajc P q nm ops i o s K) : ajc P q nm ops i o s K' := by
 unfold ajc at hr ⊢
 split at hr
 ·exact ahD h hr
 ·split at hr
  ·split at hr
   ·exact ahD h hr
   ·exact h _ (by cases o.dst <;> rfl) hr
   ·exact hr.elim
  ·exact hr.elim
theorem acu {ops : List Oper} : ∀ (l : List Oper) (i : Nat) (s : St) {K K' : St → Prop}, (∀ s', K s' → K' s') → jf P q nm ops l i s K → jf P q nm ops l i s K'
 | [], _, s, _, _, h, hr => h s hr
 | o :: l, i, s, _, _, h, hr => asF (fun s' _ hs' => acu l (i + 1) s' h hs') hr
theorem ajQ {a : Act} {d : Nat} {b : Bool} (h : a.tmps.getD d undef = .bool b) : a.tmps[d]? = some (.bool b) := by
 unfold Array.getD at h
 split at h
 ·rename_i hlt
  rw [Array.getElem?_eq_getElem hlt]
  exact congrArg some h
 ·cases h
theorem ar4 {want : Bool} {v : PV} (h : gate want v = some true) : v = .bool want := by
 unfold gate at h
 split at h
 ·simp at h; rw [h]
 ·cases h
 ·cases h
theorem apW {want : Bool} {v : PV} (h : gate want v = some false) : (∃ b, v = .bool b ∧ (b == want) = false) ∨ v = .tup [] := by
 unfold gate at h
 split at h
 ·rename_i b; exact .inl ⟨b, rfl, by simpa using h⟩
 ·exact .inr rfl
 ·cases h
def KS (K : St → Prop) (s : St) : Prop := ∃ t, K t ∧ t.nx = s.nx ∧ ∀ {B : Base} {F : Nat → Prop} {H : Imm} {L : Lay} {a : Act} {w : World}, Rel B F H L s a w → ∃ H', Rel B F H' L t a w
theorem KS.self {K : St → Prop} {s : St} (h : K s) : KS K s := ⟨s, h, rfl, fun hR => ⟨_, hR⟩⟩
theorem Rel.found {B : Base} {F : Nat → Prop} {H : Imm} {L : Lay} {s t : St} {a : Act} {w : World} (h : Rel B F H L s a w) (he : s.env = t.env) (hf : s.sto.find = t.sto.find) : Rel B F H L t a w :=
 { h with env := fun i => by rw [← he]; exact h.env i, sto := fun k g e hk => h.sto k g e (by rw [hf]; exact hk) }
theorem ap1 {s : St} {fp : List Nat} {ks : List (Nat × Nat)} {es es' : List Ent} {dst : Option Nat} {k g : Nat} {r : PV} {K : St → Prop} (hf : findAll (qV ks) ks.length s.sto ks es) (hq : KR fp = true → es' = es ∧ qQ es' = false)
  (h : K ((s.quiet fp (kN s.sto (zZ g ks es') (es'.map (Ent.inst (qV (zZ g ks es')))))).back dst k g r)) : KS K (({ s with sto := kN s.sto (zZ g ks es') (es'.map (Ent.inst (qV (zZ g ks es')))) } : St).back dst k g r) := by
 unfold St.quiet at h
 split at h
 ·rename_i q
  obtain ⟨rfl, hm⟩ := hq q
  rw [afR _ _ _ hm]
  have hs := ac3 _ _ _ hf
  obtain ⟨e1, e2⟩ := arw (a := { s with sto := kN s.sto ks (es'.map (Ent.inst (qV ks))) }) (b := s) rfl hs dst k g r
  exact ⟨_, h, by rw [St.aa7, St.aa7], fun hR => ⟨_, hR.found e1 e2⟩⟩
 ·exact .self h
theorem aox {s : St} {d k g : Nat} {K : St → Prop} {v : PV} {k' g' : Nat} {e : Ent} (h : (am9 v k' g' e).wp P q s (some d) k g K) : KS K ((s.put (some d) v).set k' g' e) := by
 unfold am9 at h
 split at h
 ·rename_i k1 g1 n sz xs
  simp only [Res.wp] at h
  obtain ⟨⟨rfl, rfl, hn, hk⟩, h⟩ := h
  refine ⟨_, h, rfl, fun hR => ?_⟩
  obtain ⟨H', h1⟩ := hR.aeu d [some sz]
  refine ⟨H', ?_⟩
  have hf : (s.sto.upd k1 g1 (.row false sz xs)).find k1 = some (g1, .row false sz xs) := Sto.kI _ _ _ _
  have hact : St.aeu ((s.put (some d) (.row k1 g1 n)).set k1 g1 (.row false sz xs)) d [some sz] = { env := (d, .list sz (xs.take n)) :: (d, .row k1 g1 n) :: s.env, sto := (s.sto.upd k1 g1 (.row false sz xs)).upd k1 g1 (.row true sz xs), nx := s.nx } := by
   simp only [St.aeu, St.put, St.set, Env.get, if_true, asu, List.headD_cons, atK, abm, hf, hn, hk, and_self, apG, arv, Sto.frz, Sto.amb]
  rw [hact] at h1
  refine { h1 with env := fun i => ?_, sto := fun j g e he => ?_ }
  ·have := h1.env i
   by_cases hi : i = d
   ·simpa [Env.get, hi, St.put, St.set] using this
   ·simpa [Env.get, hi, St.put, St.set] using this
  ·refine h1.sto j g e ?_
   simp only [St.put, St.set] at he
   by_cases hj : j = k1
   ·subst hj
    rw [Sto.kI] at he ⊢
    exact he
   ·rw [Sto.qC _ _ _ _ _ hj] at he
    rw [Sto.qC _ _ _ _ _ hj, Sto.qC _ _ _ _ _ hj]
    exact he
 ·exact h.elim
theorem ajd {s : St} {d k g : Nat} {K : St → Prop} : ∀ (r : Res), (r.shut).wp P q s (some d) k g K → r.wp P q s (some d) k g (KS K)
 | .val _, h => KS.self h
 | .eff _ _ _ _, h => aox h
 | .need _ r, h => ⟨h.1, ajd r h.2⟩
 | .call _ _, h => h.elim
 | .acF _ _, h => h.elim
 | .bad, h => h.elim
theorem aou {s : St} {dst : Option Nat} {k g : Nat} {K : St → Prop} {op : Op} {r : Res} (h : (QD q (nfD nm dst) op r).wp P q s dst k g K) : r.wp P q s dst k g (KS K) := by
 cases dst with
 | none =>
  have : QD q (nfD nm none) op r = r := by unfold QD; split <;> simp_all [nfD]
  rw [this] at h
  exact Res.wp_mono (fun _ _ h => KS.self h) _ h
 | some d =>
  unfold QD at h
  split at h
  ·exact ajd _ h
  ·exact Res.wp_mono (fun _ _ h => KS.self h) _ h
theorem aii {F : Nat → Prop} {s : St} {K : St → Prop} (hR : Rel B F H L s a w) {ops : Array Oper} {i : Nat} {o : Oper} (hF : F (s.nx + i)) (hk : keyOf nm o.dst < 1000) (hd : ∀ d, o.dst = some d → d < a.tmps.size)
  (h : ajc P q nm ops.toList i o s K) (next : Act → World → Prop) (Q : Exit → Act → World → Prop)
  (hnext : ∀ a' w' H' L' s', Rel B (fun x => F x ∧ x ≠ s.nx + i) H' L' s' a' w' → a'.defers = a.defers → a'.tmps.size = a.tmps.size → K s' → s'.nx = s.nx → next a' w') :
  if Region.wanted o (yielded ops a.tmps) then o.wp P a w next Q ∨ (o.asks P a w ∧ LetsOut Q) else next (a.put o.dst undef) w := by
 have run : aip P q nm i o s K → o.wp P a w next Q := by
  intro hr
  obtain ⟨q', hq'⟩ : ∃ q', (vK P q' s (keyOf nm o.dst) (s.nx + i) o.op).wp P q' s o.dst (keyOf nm o.dst) (s.nx + i) fun s' => KS (fun s' => K (s'.Ws q nm.nf o.dst)) s' ∧ s'.nx = s.nx := by
   have plain : (QD q (nfD nm o.dst) o.op (vK P q s (keyOf nm o.dst) (s.nx + i) o.op)).wp P q s o.dst (keyOf nm o.dst) (s.nx + i) (fun s' => K (s'.Ws q nm.nf o.dst)) →
     ∃ q', (vK P q' s (keyOf nm o.dst) (s.nx + i) o.op).wp P q' s o.dst (keyOf nm o.dst) (s.nx + i) fun s' => KS (fun s' => K (s'.Ws q nm.nf o.dst)) s' ∧ s'.nx = s.nx :=
    fun h2 => ⟨q, Res.wp_mono (fun s' h1 h2 => ⟨h2, h1⟩) _ (aou h2)⟩
   cases hF : fOf q nm o.op o.dst with
   | none =>
    have := hr.2.2
    rw [asR hF] at this
    exact plain this
   | some fp =>
    have h2 := hr.2.2
    rw [hF] at h2
    rcases auI h2 with h2 | ⟨f', args, h3, ks, es, args', r, es', _, g1, g2, g3, g4, g5, g6, gq, g7⟩
    ·exact plain h2
    ·obtain ⟨_, c, f, e1, e2, _⟩ := aif hF
     refine ⟨false, ?_⟩
     rw [e1, aiA e2] at h3
     have h4 : vK P false s (keyOf nm o.dst) (s.nx + i) o.op = .call f' args := by
      rw [e1, ← h3]
      simp only [vK, e2]
     rw [h4]
     exact .inr ⟨rfl, ks, es, args', r, es', g1, g2, g3, g4, g5, ((Bool.and_eq_true _ _).mp g6).1, ap1 g1 gq g7, St.aa7 _ _ _ _ _⟩
  exact avd (K := fun s' => KS (fun s' => K (s'.Ws q nm.nf o.dst)) s' ∧ s'.nx = s.nx) hR hF hk o hd hq' next Q (fun a' w' H' L' s' h1 h2 h3 h4 => by
   obtain ⟨⟨t, hK, hnx, hto⟩, hnx'⟩ := h4
   obtain ⟨H1, h1⟩ := hto h1
   obtain ⟨H2, h5⟩ := h1.Ws (q := q) nm.nf o.dst
   exact hnext a' w' H2 L' _ h5 h2 h3 hK (by rw [St.aqf, hnx]; exact hnx'))
 unfold ajc at h
 split at h
 ·rename_i hg
  have : Region.wanted o (yielded ops a.tmps) = true := by simp [Region.wanted, hg]
  rw [if_pos this]
  exact .inl (run h)
 ·rename_i j want hg
  split at h
  ·rename_i d hslot
   have hslot' : (ops[j]?).bind (·.dst) = some d := by
    unfold Qq at hslot
    rwa [Array.getElem?_toList] at hslot
   have henv := hR.env d
   have skip : Region.wanted o (yielded ops a.tmps) = false → K (s.put o.dst (.tup [])) → if Region.wanted o (yielded ops a.tmps) then o.wp P a w next Q ∨ (o.asks P a w ∧ LetsOut Q) else next (a.put o.dst undef) w := by
    intro hw hK
    rw [hw]
    exact hnext _ w H L _ ((hR.put (dst := o.dst) hd (.tup _ [] [] (.nil _))).less (fun _ h => h.1)) (Act.put_defers _ _ _) (Act.Y4 _ _ _) hK (by cases o.dst <;> rfl)
   split at h
   ·rename_i hget
    rw [ar4 hget] at henv
    generalize hv : a.tmps.getD d undef = v at henv
    cases henv
    have hy : yielded ops a.tmps j = some want := by
     unfold yielded
     rw [hslot']
     simp [ajQ hv]
    rw [if_pos (by simp [Region.wanted, hg, hy])]
    exact .inl (run h)
   ·rename_i hget
    refine skip ?_ h
    rcases apW hget with ⟨b, hb, hbw⟩ | hb
    ·rw [hb] at henv
     generalize hv : a.tmps.getD d undef = v at henv
     cases henv
     have hy : yielded ops a.tmps j = some b := by
      unfold yielded
      rw [hslot']
      simp [ajQ hv]
     simp only [Region.wanted, hg, hy]
     cases b <;> cases want <;> first | rfl | cases hbw
    ·rw [hb] at henv
     have hy : yielded ops a.tmps j = none := by
      unfold yielded
      rw [hslot']
      simp only [Option.bind_some]
      split
      ·rename_i b hb'
       have hv : a.tmps.getD d undef = .bool b := by
        unfold Array.getD
        obtain ⟨hlt, he⟩ := Array.getElem?_eq_some_iff.1 hb'
        rw [dif_pos hlt]
        exact he
       rw [hv] at henv
       cases henv
      ·rfl
     simp only [Region.wanted, hg, hy]
     rfl
   ·exact h.elim
  ·exact h.elim
def aod (nt : Nat) (nm : Names) (ops : List Oper) : Bool := ops.all fun o => match o.dst with
 | some d => decide (d < nt) && decide (nm d < 1000)
 | none => true
theorem aoF {nt : Nat} {ops : List Oper} (h : aod nt nm ops = true) {o : Oper} (ho : o ∈ ops) : keyOf nm o.dst < 1000 ∧ ∀ d, o.dst = some d → d < nt := by
 have := List.all_eq_true.1 h o ho
 cases hd : o.dst with
 | none => exact ⟨by simp [keyOf], by simp⟩
 | some d =>
  simp only [hd, Bool.and_eq_true, decide_eq_true_eq] at this
  exact ⟨this.2, fun d' hd' => by cases hd'; exact this.1⟩
theorem ajS {ops : Array Oper} {nt : Nat} (hok : aod nt nm ops.toList = true) {Q : Exit → Act → World → Prop} {K : St → Prop} {n0 : Nat} {df : List Deferred} : ∀ (l : List Oper) (i : Nat) (H : Imm) (L : Lay) (s : St) (a : Act) (w : World),
  (∀ o ∈ l, o ∈ ops.toList) → s.nx = n0 → a.tmps.size = nt → a.defers = df → Rel B (fun g => n0 + i ≤ g) H L s a w → jf P q nm ops.toList l i s K →
  (∀ a' w' H' L' s', Rel B (fun g => n0 + (i + l.length) ≤ g) H' L' s' a' w' → a'.defers = df → a'.tmps.size = nt → K s' → s'.nx = n0 → Q .normal a' w') → wpList P ops Q l a w
 | [], i, H, L, s, a, w, _, hn, ht, hdf, hR, h, hQ => hQ a w H L s (by simpa using hR) hdf ht h hn
 | o :: l, i, H, L, s, a, w, hm, hn, ht, hdf, hR, h, hQ => by
  obtain ⟨h1, h2⟩ := aoF hok (hm o (by simp))
  refine aii (q := q) (nm := nm) hR (ops := ops) (i := i) (o := o) (show n0 + i ≤ s.nx + i by omega) h1 (by rw [ht]; exact h2) h _ Q ?_
  intro a' w' H' L' s' hR' hd' hs' hK' hnx'
  refine ajS hok l (i + 1) H' L' s' a' w' (fun o ho => hm o (by simp [ho])) (by omega) (by omega) (by rw [hd', hdf]) (hR'.less ?_) hK' (fun a' w' H' L' s' h1 h2 h3 h4 h5 => hQ a' w' H' L' s' (h1.less ?_) h2 h3 h4 h5)
  ·intro g hg
   have hg' : n0 + (i + 1) ≤ g := hg
   exact ⟨show n0 + i ≤ g by omega, by omega⟩
  ·intro g hg
   have hg' : n0 + (i + (o :: l).length) ≤ g := hg
   simp only [List.length_cons] at hg'
   show n0 + (i + 1 + l.length) ≤ g
   omega
end
end Go.Proofs.YtclohbgnaopjfaaDoor
