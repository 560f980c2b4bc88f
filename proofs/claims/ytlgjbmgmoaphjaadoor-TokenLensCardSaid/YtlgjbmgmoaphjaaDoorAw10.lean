/- Each operation does in a frame and a world what it does in a state without memory: conversions, the least and the greatest, struct literals, function values. -/
import Derived.Test.YtlgjbmgmoaphjaaDoorAw9
namespace Go.Proofs.YtlgjbmgmoaphjaaDoor
set_option linter.unusedSimpArgs false
set_option linter.unusedVariables false
open Go

section
variable {P : Program} {B : Base} {F : Nat → Prop} {H : Imm} {L : Lay} {s : St} {a : Act} {w : World} {q : Bool} {dst : Option Nat} {k g : Nat} {K : St → Prop}

/-- A slice value and the cells that it leads to. -/
def SrcOf (w : World) (v : Value) (vs : List Value) (n size : Nat) : Prop :=
  (∃ c, v = .slice none n c ∧ vs = [] ∧ n = 0) ∨ (∃ b c, v = .slice (some b) n c ∧ vs.length = n * size ∧ ∀ j u, vs[j]? = some u → w.cell? (b.add j) = some u)

theorem get_lt {α : Type} {l : List α} {i : Nat} {x : α} (h : l[i]? = some x) : i < l.length := by
  rcases Nat.lt_or_ge i l.length with h' | h'
  · exact h'
  · rw [List.getElem?_eq_none h'] at h; cases h

theorem elems_src (hR : Rel B F H L s a w) {v : Value} {x : PV} {byt : Bool} {size : Nat} {xs : List PV} (hx : Rep H L v x) (h : elems s.sto.find byt size x = some xs) :
    (∃ b, x = .str b ∧ v = .string ⟨b.toArray⟩ ∧ xs = b.map (fun c => .int .u8 c.toNat) ∧ size = 1 ∧ byt = true) ∨
    (∃ vs, SrcOf w v vs xs.length size ∧ RepL H Lay.none vs (xs.flatMap PV.cells) ∧ (∀ x ∈ xs, x.cells.length = size) ∧ (∀ v ∈ vs, v.oneCell' = true) ∧ ∃ ad c, v = .slice ad xs.length c) := by
  unfold elems at h
  split at h
  · simp only [Option.some.injEq] at h
    subst h
    cases hx
    exact .inr ⟨[], .inl ⟨_, rfl, rfl, rfl⟩, .nil _, by simp, by simp, _, _, rfl⟩
  · rename_i sz ys
    split at h
    · rename_i hsz
      simp only [Option.some.injEq] at h
      subst h
      subst hsz
      cases hx with
      | listNil _ ad c =>
        refine .inr ⟨[], ?_, .nil _, by simp, by simp, _, _, rfl⟩
        cases ad with
        | none => exact .inl ⟨_, rfl, rfl, rfl⟩
        | some b => exact .inr ⟨b, c, rfl, by simp, by simp⟩
      | list _ b off len cap _ c vs _ hH hlen hcap hs1 h1 hv hr =>
        subst hlen
        obtain ⟨et, fr, hb⟩ := hR.agree b c hH
        have hl := hr.length
        rw [flat_length _ hs1] at hl
        refine .inr ⟨vs, .inr ⟨⟨b, off, none⟩, cap, rfl, hl, fun j u hj => ?_⟩, hr, hs1, h1, _, _, rfl⟩
        rw [addr_add, cell_at w b _ c et fr hb, hv j (get_lt hj), hj]
    · simp at h
  · rename_i k' g' n
    split at h
    · rename_i g'' f sz ys hf
      split at h
      · rename_i hc
        obtain ⟨rfl, rfl, hn⟩ := hc
        simp only [Option.some.injEq] at h
        subst h
        obtain ⟨sl, e1, e2, e3⟩ := hR.sto k' g' _ hf
        cases hx with
        | row _ _ _ _ _ hu' hs hx =>
          have hv := hx sl e1 e2
          subst hv
          have hlen : (ys.take n).length = n := by simp; omega
          rw [hlen]
          by_cases hy : ys = []
          · subst hy
            have hn0 : n = 0 := by simpa using hn
            subst hn0
            refine .inr ⟨[], ?_, by simpa using RepL.nil _, by simp, by simp, _, _, rfl⟩
            cases sl.block with
            | none => exact .inl ⟨_, rfl, rfl, rfl⟩
            | some b => exact .inr ⟨_, _, rfl, by simp, by simp⟩
          · obtain ⟨h4, h5, b, c, vs, et, fr, h6, h7, h8, h9, h10⟩ := row_cells hR.agree e3 hy
            have hl := h10.length
            rw [flat_length _ h5] at hl
            have hmul : n * sz ≤ ys.length * sz := Nat.mul_le_mul_right _ hn
            rw [h6]
            refine .inr ⟨vs.take (n * sz), .inr ⟨⟨b, 0, none⟩, sl.cap, rfl, by simp; omega, fun j u hj => ?_⟩, ?_, fun x hx => h5 x (List.mem_of_mem_take hx), fun v hv => h9 v (List.mem_of_mem_take hv), _, _, rfl⟩
            · have hjl := get_lt hj
              simp only [List.length_take] at hjl
              rw [List.getElem?_take] at hj
              split at hj
              · rw [addr_add, cell_at w b _ c et fr h7, Nat.zero_add, h8 j (by omega), hj]
              · cases hj
            · rw [flat_take _ _ h5]
              exact h10.take _
      · simp at h
    · simp at h
  · rename_i b
    split at h
    · rename_i hc
      simp only [Option.some.injEq] at h
      subst h
      cases hx
      exact .inl ⟨b, rfl, rfl, rfl, hc.2, hc.1⟩
    · simp at h
  · simp at h

theorem run_firstCells {v : Value} {vs : List Value} {n size : Nat} (h : SrcOf w v vs n size) : (Builtin.firstCells size n v).run P w = .ok vs.toArray w := by
  rcases h with ⟨c, rfl, rfl, rfl⟩ | ⟨b, c, rfl, h1, h2⟩
  · simp [Builtin.firstCells]
  · exact run_firstCells_some w size n b n c vs h1 h2

theorem run_loadSrc {b : Addr} {vs : List Value} {n : Nat} (h1 : vs.length = n) (h2 : ∀ j u, vs[j]? = some u → w.cell? (b.add j) = some u) : (loadCells b n).run P w = .ok vs.toArray w := by
  subst h1
  exact run_loadCells_list w b vs h2

theorem runes_loop (f : Value → ByteArray → Sem (ForInStep ByteArray)) (hf : ∀ n r, f (.int .i32 n) r = pure (.yield (r ++ Utf8.encode n))) : ∀ (vs : List Value) (xs : List PV) (out : List UInt8) (s0 : ByteArray), RepL H Lay.none vs (xs.flatMap PV.cells) → runeBytes xs = some out →
    (forIn vs s0 f : Sem ByteArray).run P w = .ok (s0 ++ ⟨out.toArray⟩) w
  | vs, [], out, s0, hr, ho => by
    simp only [runeBytes, Option.some.injEq] at ho
    subst ho
    cases hr
    simp only [List.forIn_nil, Sem.run_pure]
    congr 1
    apply ByteArray.ext
    simp
  | vs, x :: xs, out, s0, hr, ho => by
    unfold runeBytes at ho
    split at ho
    · cases ‹_ :: _ = []›
    · rename_i n r heq
      simp only [List.cons.injEq] at heq
      obtain ⟨rfl, rfl⟩ := heq
      split at ho
      · rename_i o hor
        simp only [Option.some.injEq] at ho
        subst ho
        simp only [List.flatMap_cons, PV.cells, List.cons_append, List.nil_append] at hr
        cases hr with
        | cons _ u _ us _ hu ht =>
          cases hu
          simp only [List.forIn_cons, hf, Sem.run_bind, Sem.run_pure, Result.andThen_ok]
          rw [runes_loop f hf us _ o _ ht hor]
          congr 1
          apply ByteArray.ext
          apply Array.ext'
          simp
      · cases ho
    · cases ho

theorem bytes_loop (f : Value → ByteArray → Sem (ForInStep ByteArray)) (hf : ∀ n r, f (.int .u8 n) r = pure (.yield (r.push (UInt8.ofNat n.toNat)))) : ∀ (vs : List Value) (xs : List PV) (out : List UInt8) (s0 : ByteArray), RepL H Lay.none vs (xs.flatMap PV.cells) → byteBytes xs = some out →
    (forIn vs s0 f : Sem ByteArray).run P w = .ok (s0 ++ ⟨out.toArray⟩) w
  | vs, [], out, s0, hr, ho => by
    simp only [byteBytes, Option.some.injEq] at ho
    subst ho
    cases hr
    simp only [List.forIn_nil, Sem.run_pure]
    congr 1
    apply ByteArray.ext
    simp
  | vs, x :: xs, out, s0, hr, ho => by
    unfold byteBytes at ho
    split at ho
    · cases ‹_ :: _ = []›
    · rename_i n r heq
      simp only [List.cons.injEq] at heq
      obtain ⟨rfl, rfl⟩ := heq
      split at ho
      · rename_i o hor
        simp only [Option.some.injEq] at ho
        subst ho
        simp only [List.flatMap_cons, PV.cells, List.cons_append, List.nil_append] at hr
        cases hr with
        | cons _ u _ us _ hu ht =>
          cases hu
          simp only [List.forIn_cons, hf, Sem.run_bind, Sem.run_pure, Result.andThen_ok]
          rw [bytes_loop f hf us _ o _ ht hor]
          congr 1
          apply ByteArray.ext
          apply Array.ext'
          simp
      · cases ho
    · cases ho

theorem runes_are_ints (b : ByteArray) : ∀ (n i : Nat) (acc : Array Value), (∀ v ∈ acc.toList, ∃ m : Int, v = .int .i32 m) → ∀ v ∈ (Conv.runesFrom b n i acc).toList, ∃ m : Int, v = .int .i32 m
  | 0, i, acc, h => by simpa [Conv.runesFrom] using h
  | n + 1, i, acc, h => by
    simp only [Conv.runesFrom]
    split
    · exact runes_are_ints b n _ _ (fun v hv => by
        simp only [Array.toList_push, List.mem_append, List.mem_singleton] at hv
        rcases hv with hv | rfl
        · exact h v hv
        · exact ⟨_, rfl⟩)
    · exact h

theorem flat_ofCell : ∀ (vs : List Value), (∀ v ∈ vs, ∃ m : Int, v = .int .i32 m) → (vs.map ofCell).flatMap PV.cells = vs.map ofCell ∧ (∀ x ∈ vs.map ofCell, x.cells.length = 1) ∧ ∀ v ∈ vs, v.oneCell' = true
  | [], _ => by simp
  | v :: vs, h => by
    obtain ⟨m, rfl⟩ := h v (by simp)
    obtain ⟨h1, h2, h3⟩ := flat_ofCell vs (fun u hu => h u (by simp [hu]))
    refine ⟨by simp only [List.map_cons, List.flatMap_cons, h1]; rfl, ?_, ?_⟩
    · intro x hx
      simp only [List.map_cons, List.mem_cons] at hx
      rcases hx with rfl | hx
      · rfl
      · exact h2 x hx
    · intro x hx
      simp only [List.mem_cons] at hx
      rcases hx with rfl | hx
      · rfl
      · exact h3 x hx

theorem convert_sound (hR : Rel B F H L s a w) (hd : ∀ d, dst = some d → d < a.tmps.size) (src dt : Nat) (x : Operand)
    (h : (convertRes P s.sto.find src dt (s.ev x)).wp P q s dst k g K) : Good P B F a dst g K (convert src dt (a.eval x)) w := by
  have hx := hR.eval x
  generalize s.ev x = p at h hx
  generalize a.eval x = v at hx
  unfold convertRes at h
  split at h
  · rename_i j1 j2 j3 n hk1 hk2
    simp only [Res.wp] at h
    cases hx
    refine good_int hR hd _ _ ?_ h
    simp [convert, run_underlying (und_int hk1), run_underlying (und_int hk2), Conv.intToInt]
  · rename_i j1 j3 n hk1 hk2
    simp only [Res.wp] at h
    cases hx
    refine good_val hR hd (v := .string (Utf8.encode n)) ?_ (by simpa using Rep.str (H := H) L (Utf8.encode n).data.toList) h
    simp [convert, run_underlying (und_int hk1), run_underlying (und_str hk2), Conv.intToString]
  · rename_i b hk1 hk2
    simp only [Res.wp] at h
    cases hx
    refine good_val hR hd (v := .string ⟨b.toArray⟩) ?_ (.str _ _) h
    simp [convert, run_underlying (und_str hk1), run_underlying (und_str hk2)]
  · rename_i e b hk1 hk2
    split at h
    · rename_i hk3
      simp only [Res.wp] at h
      cases hx
      have hu1 := run_underlying (und_str hk1)
      have hu2 := run_underlying (und_slice hk2)
      have hu3 := run_underlying (und_int hk3)
      have hs' : (ByteArray.mk b.toArray).size = b.length := by show b.toArray.size = _; simp
      generalize hel : Conv.runesFrom ⟨b.toArray⟩ b.length 0 #[] = el
      have hints : ∀ v ∈ el.toList, ∃ m : Int, v = .int .i32 m := by
        rw [← hel]; exact runes_are_ints _ _ _ _ (by simp)
      obtain ⟨f1, f2, f3⟩ := flat_ofCell el.toList hints
      have hcut : el.size ≤ grownCap w el.size 0 e := grownCap_ge w el.size 0 e
      have hrun : (convert src dt (.string ⟨b.toArray⟩)).run P w = .ok (.slice (some ⟨w.heap.size, 0, none⟩) el.size (grownCap w el.size 0 e)) (w.drew.alloc (.cells (el ++ Array.replicate (grownCap w el.size 0 e - el.size) (.int .i32 0)) e)) := by
        simp only [convert, Sem.run_bind, hu1, hu2, hu3, Result.andThen_ok, Conv.stringToRunes, hs', hel, run_choose, Question.forced, Bool.false_eq_true, if_false, newRow, run_newObj, Sem.run_pure]
        rfl
      have hq : Quiet w (w.drew.alloc (.cells (el ++ Array.replicate (grownCap w el.size 0 e - el.size) (.int .i32 0)) e)) := (Quiet.drew w).trans (Quiet.alloc _ _)
      have hnone : H w.heap.size = none := by
        cases hc : H w.heap.size with
        | none => rfl
        | some c =>
          obtain ⟨t, fr, ht⟩ := hR.agree _ _ hc
          have := (Array.getElem?_eq_some_iff.1 ht).1
          omega
      have hG : Grow H (fun x => if x = w.heap.size then some (el ++ Array.replicate (grownCap w el.size 0 e - el.size) (.int .i32 0)) else H x) := by
        intro x c hc
        by_cases hx : x = w.heap.size
        · subst hx; rw [hnone] at hc; cases hc
        · simpa [hx] using hc
      have hR' := hR.quiet hG (w' := w.drew.alloc (.cells (el ++ Array.replicate (grownCap w el.size 0 e - el.size) (.int .i32 0)) e))
        (fun x c hc => by
          by_cases hx : x = w.heap.size
          · subst hx
            simp only [if_true, Option.some.injEq] at hc
            subst hc
            exact ⟨e, (0, 0), by show (w.heap.push _)[w.heap.size]? = _; simp⟩
          · simp only [hx, if_false] at hc
            exact (hR.agree.quiet hq) x c hc)
        (fun x c hc => by
          by_cases hx : x = w.heap.size
          · subst hx; exact .inr (Nat.le_refl _)
          · simp only [hx, if_false] at hc
            exact .inl hc) hq
      refine ⟨_, _, _, L, _, hrun, (hR'.put (dst := dst) (p := .list 1 (runesOf b)) hd ?_).less (fun _ h => h.1), h⟩
      unfold runesOf
      rw [hel]
      refine .list _ _ 0 _ _ 1 _ el.toList _ (if_pos rfl) (by simp) hcut f2 f3 (fun i hi => ?_) (by rw [f1]; exact RepL.map_ofCell _)
      rw [Nat.zero_add, Array.getElem?_append_left (by simpa using hi)]
      simp
    · simp [Res.wp] at h
  · rename_i e x hk1 hk2
    have hu1 := run_underlying (und_slice hk1)
    have hu2 := run_underlying (und_str hk2)
    split at h
    · rename_i hk3
      have hu3 := run_underlying (und_int hk3)
      split at h
      · rename_i xs hxs
        unfold strOf at h
        split at h
        · rename_i out hout
          simp only [Res.wp] at h
          rcases elems_src hR hx hxs with ⟨b, _, _, _, _, hb⟩ | ⟨vs, hs, hr, hs1, h1, ad, c, rfl⟩
          · cases hb
          · refine good_val hR hd (v := .string ⟨out.toArray⟩) ?_ (.str _ _) h
            simp only [convert, Sem.run_bind, hu1, hu2, Result.andThen_ok, hu3, Conv.runesToString]
            rcases hs with ⟨c', he, rfl, hn⟩ | ⟨b, c', he, hl, hcells⟩
            · simp only [Value.slice.injEq] at he
              obtain ⟨rfl, _, rfl⟩ := he
              have : xs = [] := List.eq_nil_of_length_eq_zero hn
              subst this
              simp only [runeBytes, Option.some.injEq] at hout
              subst hout
              simp
              rfl
            · simp only [Value.slice.injEq] at he
              obtain ⟨rfl, _, rfl⟩ := he
              have hload := run_loadSrc (P := P) (w := w) (n := xs.length) (by simpa using hl) hcells
              simp only [Sem.run_bind, hload, Result.andThen_ok, ← Array.forIn_toList, Sem.run_pure]
              rw [runes_loop _ (by intro n r; rfl) vs xs out ByteArray.empty hr hout]
              simp
        · simp [Res.wp] at h
      · simp [Res.wp] at h
    · rename_i hk3
      have hu3 := run_underlying (und_int hk3)
      split at h
      · rename_i xs hxs
        unfold strOf at h
        split at h
        · rename_i out hout
          simp only [Res.wp] at h
          rcases elems_src hR hx hxs with ⟨b, _, _, _, _, hb⟩ | ⟨vs, hs, hr, hs1, h1, ad, c, rfl⟩
          · cases hb
          · refine good_val hR hd (v := .string ⟨out.toArray⟩) ?_ (.str _ _) h
            simp only [convert, Sem.run_bind, hu1, hu2, Result.andThen_ok, hu3, Conv.bytesToString]
            rcases hs with ⟨c', he, rfl, hn⟩ | ⟨b, c', he, hl, hcells⟩
            · simp only [Value.slice.injEq] at he
              obtain ⟨rfl, _, rfl⟩ := he
              have : xs = [] := List.eq_nil_of_length_eq_zero hn
              subst this
              simp only [byteBytes, Option.some.injEq] at hout
              subst hout
              simp
              rfl
            · simp only [Value.slice.injEq] at he
              obtain ⟨rfl, _, rfl⟩ := he
              have hload := run_loadSrc (P := P) (w := w) (n := xs.length) (by simpa using hl) hcells
              simp only [Sem.run_bind, hload, Result.andThen_ok, ← Array.forIn_toList, Sem.run_pure]
              rw [bytes_loop _ (by intro n r; rfl) vs xs out ByteArray.empty hr hout]
              simp
        · simp [Res.wp] at h
      · simp [Res.wp] at h
    · simp [Res.wp] at h
  · simp [Res.wp] at h

end
end Go.Proofs.YtlgjbmgmoaphjaaDoor
