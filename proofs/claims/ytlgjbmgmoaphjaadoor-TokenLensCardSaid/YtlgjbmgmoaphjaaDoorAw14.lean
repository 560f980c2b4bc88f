/- Each operation does in a frame and a world what it does in a state without memory: append. -/
import Derived.Test.YtlgjbmgmoaphjaaDoorAw13
namespace Go.Proofs.YtlgjbmgmoaphjaaDoor
set_option linter.unusedSimpArgs false
set_option linter.unusedVariables false
open Go

section
variable {P : Program} {B : Base} {F : Nat → Prop} {H : Imm} {L : Lay} {s : St} {a : Act} {w : World} {q : Bool} {dst : Option Nat} {k g : Nat} {K : St → Prop}

theorem repl_bytes {H : Imm} {L : Lay} : ∀ (str : List UInt8) {us : List Value}, RepL H L us ((str.map fun c => PV.int .u8 c.toNat).flatMap PV.cells) → us = str.map fun c => Value.int .u8 c.toNat
  | [], us, h => by cases h; rfl
  | c :: str, us, h => by
    simp only [List.map_cons, List.flatMap_cons, PV.cells, List.singleton_append] at h
    cases h with
    | cons _ v _ vs _ h t =>
      cases h
      rw [repl_bytes str t]
      rfl

theorem append_sound (hR : Rel B F H L s a w) (hF : F g) (hk : k < 1000) (hd : ∀ d, dst = some d → d < a.tmps.size) (t t' ty : Nat) (x y : Operand)
    (ht' : match (tyOf P t').kd with | .slice _ | .str => True | _ => False)
    (h : (appendRes P s.sto.find k g t (s.ev x) (s.ev y)).wp P q s dst k g K) : Good P B F a dst g K (Builtin.append_ #[t, t'] ty #[a.eval x, a.eval y]) w := by
  have hu' : ∃ d, P.underlying t' = some d ∧ ∀ j, d ≠ .int j := by
    split at ht'
    · rename_i e hkd; exact ⟨_, und_slice hkd, fun j hj => by cases hj⟩
    · rename_i hkd; exact ⟨_, und_str hkd, fun j hj => by cases hj⟩
    · exact ht'.elim
  have hx := hR.eval x
  have hy := hR.eval y
  generalize s.ev x = p at h hx
  generalize s.ev y = r at h hy
  generalize a.eval x = u at hx
  generalize a.eval y = v at hy
  unfold appendRes at h
  split at h
  · rename_i e hkd
    have hu := und_slice hkd
    simp only at h
    split at h
    · simp [Res.wp] at h
    · rename_i ys hys
      simp only [Res.wp] at h
      obtain ⟨hgt, h⟩ := h
      simp only [growTy, Bool.and_eq_true, bne_iff_ne, ne_eq] at hgt
      obtain ⟨⟨hz1, hz2⟩, hz3⟩ := hgt
      have hke := tyOf_known (P := P) (t := e) rfl hz1
      obtain ⟨i, d, e1, e2, e3⟩ := tyOf_facts hke
      have hby : i.bytes = (tyOf P e).bytes := by rw [e3]
      have hzero : (tyOf P e).zero = i.zero.map fun z => z.cells.toList.map ofCell := by rw [e3]
      obtain ⟨z, hzz, hzl⟩ : ∃ z, i.zero = some z ∧ z.cells.size = (tyOf P e).size := by
        rw [hzero] at hz3
        cases hzz : i.zero with
        | none => simp [hzz] at hz3
        | some z => exact ⟨z, rfl, by simpa [hzz] using hz3⟩
      obtain ⟨us, hsrc, hus1, hus2, hus3⟩ := src_elems hR hy hys
      have hfl := flat_length ys hus2
      have hul := hus1.length
      -- a row that grows, out of nothing or of a row
      have grown : ∀ (ad : Option Addr) (n cap : Nat) (xs : List PV) (olds : List Value) (k' : Nat), u = .slice ad n cap → cap < n + ys.length → (n + ys.length) * (tyOf P e).bytes ≤ maxRoom → n = xs.length →
          (∀ x ∈ xs, x.cells.length = (tyOf P e).size) → (∀ v ∈ olds, v.oneCell' = true) → RepL H Lay.none olds (xs.flatMap PV.cells) →
          (∀ w' : World, w'.heap = w.heap → (Builtin.firstCells (tyOf P e).size n u).run P w' = .ok olds.toArray w') →
          K ((s.put dst (.row k' g (n + ys.length))).set k' g (.row false (tyOf P e).size (xs ++ ys))) → Good P B F a dst g K (Builtin.append_ #[t, t'] ty #[u, v]) w := by
        intro ad n cap xs olds k' hv hroom hb hn ho1 ho2 ho3 ho4 hK
        have hrun := append_grow (ty := ty) hu hke hu' u v ad n cap ys.length us olds hv hsrc hroom hb hz2 ho4 i z e1 hzz hby
        have hge := grownCap_ge w (n + ys.length) cap e
        refine good_new (g := g) hR hF hd (cap := grownCap w (n + ys.length) cap e) (sz := (tyOf P e).size) (w1 := w.drew) (.drew w) rfl hrun (fun L' hL hu'' hat => ⟨?_, ?_⟩) hK
        · refine ⟨rfl, fun x hx => ?_, by simp; omega, .inr ⟨w.heap.size, olds ++ us, (Builtin.zeroCells z.cells (grownCap w (n + ys.length) cap e - (n + ys.length))).toList, e, rfl, fresh_none hR.agree, ?_, fun x hx => ?_, ?_, ?_⟩⟩
          · rcases List.mem_append.1 hx with hx | hx
            · exact ho1 x hx
            · exact hus2 x hx
          · have := push_get w.drew (.cells (olds.toArray ++ us.toArray ++ Builtin.zeroCells z.cells (grownCap w (n + ys.length) cap e - (n + ys.length))) e)
            rw [show w.drew.heap.size = w.heap.size from rfl] at this
            rw [this]
            congr 2
            apply Array.ext'
            simp
          · rcases List.mem_append.1 hx with hx | hx
            · exact ho2 x hx
            · exact hus3 x hx
          · rw [List.flatMap_append]
            exact ho3.append hus1
          · rw [Array.length_toList, size_zeroCells, hzl, List.length_append, ← hn]
        · refine .row _ _ _ _ _ hu'' ⟨_, _, rfl⟩ fun s' hs' _ => ?_
          rw [hat s' hs']
          rfl
      split at h
      · -- nothing yet
        simp only [Res.wp] at h
        obtain ⟨hb, h⟩ := h
        cases hx
        by_cases hy0 : ys = []
        · subst hy0
          have hrun := append_room (P := P) (w := w) (ty := ty) hu hke hu' (.slice none 0 0) v none 0 0 0 us rfl hsrc (Nat.le_refl _) w rfl
          let sl : Slot := ⟨g, none, 0, (tyOf P e).size⟩
          have hset := hR.setNew (sl := sl) (k := k) (e := .row false (tyOf P e).size []) (H' := H) (w' := w) hF (.refl _) hR.agree (fun b c hc => .inl hc) (Nat.le_refl _) (fun _ _ _ => rfl) rfl rfl rfl (by simp [sl])
            ⟨rfl, by simp, by simp, .inl ⟨rfl, rfl⟩⟩
          refine ⟨_, w, H, _, _, hrun, hset.put (dst := dst) (p := .row k g 0) hd (.row _ _ _ _ _ (.inr rfl) ⟨_, _, rfl⟩ fun s' hs' _ => ?_), ?_⟩
          · simp only [if_true, Option.some.injEq] at hs'
            subst hs'
            rfl
          · cases dst <;> exact h
        · have hpos : 0 < ys.length := List.length_pos_iff.2 hy0
          refine grown none 0 0 [] [] k rfl (by omega) (by simpa using hb) rfl (by simp) (by simp) (.nil _) (fun w' _ => by simp [Builtin.firstCells]) ?_
          simpa using h
      · -- a row
        rename_i k' g' n
        split at h
        · rename_i g'' sz xs hf
          simp only [Res.wp] at h
          obtain ⟨⟨rfl, rfl⟩, h⟩ := h
          obtain ⟨sl, f1, f2, f3, f4, f5, f6⟩ := hR.sto k' g' _ hf
          cases hx with
          | row _ _ _ _ _ hu'' hs hx =>
            have hv := hx sl f1 f2
            split at h
            · rename_i hn
              simp only [Res.wp] at h
              obtain ⟨hb, h⟩ := h
              rcases f6 with ⟨f6, f7⟩ | ⟨b, vs, rest, et, g1, g2, g3, g4, g5, g6⟩
              · have hx0 : xs = [] := List.eq_nil_of_length_eq_zero (by omega)
                subst hx0
                simp only [List.length_nil] at hn
                subst hn
                rw [f6, f7] at hv
                by_cases hy0 : ys = []
                · subst hy0
                  have hrun := append_room (P := P) (w := w) (ty := ty) hu hke hu' u v none 0 0 0 us hv hsrc (Nat.le_refl _) w rfl
                  let sl' : Slot := ⟨g, none, 0, (tyOf P e).size⟩
                  have hset := hR.setNew (sl := sl') (k := k') (e := .row false (tyOf P e).size []) (H' := H) (w' := w) hF (.refl _) hR.agree (fun b c hc => .inl hc) (Nat.le_refl _) (fun _ _ _ => rfl) rfl rfl rfl (by simp [sl'])
                    ⟨rfl, by simp, by simp, .inl ⟨rfl, rfl⟩⟩
                  refine ⟨_, w, H, _, _, hrun, hset.put (dst := dst) (p := .row k' g 0) hd (.row _ _ _ _ _ (.inr rfl) ⟨_, _, rfl⟩ fun s' hs' _ => ?_), ?_⟩
                  · simp only [if_true, Option.some.injEq] at hs'
                    subst hs'
                    rfl
                  · cases dst <;> exact h
                · have hpos : 0 < ys.length := List.length_pos_iff.2 hy0
                  refine grown none 0 0 [] [] k' hv (by omega) (by simpa using hb) rfl (by simp) (by simp) (.nil _) (fun w' _ => by rw [hv]; simp [Builtin.firstCells]) ?_
                  simpa using h
              · rw [g1] at hv
                simp only [Option.map_some] at hv
                have hvl := g5.length
                rw [flat_length _ f4] at hvl
                by_cases hroom : n + ys.length ≤ sl.cap
                · -- in its place
                  have hblt : b < w.heap.size := hR.low k' sl b f1 g1
                  have hrl : us.length ≤ rest.length := by
                    rw [g6, hul, hfl]
                    exact Nat.mul_le_mul_right _ (by omega)
                  have hst := run_storeCells_at P b (n * (tyOf P e).size) et us 0 (vs ++ rest).toArray w g3 (by simp; rw [hn]; omega) hus3
                  simp only [Nat.add_zero] at hst
                  have hcur : (vs ++ rest).toArray.toList.take (n * (tyOf P e).size) ++ us ++ (vs ++ rest).toArray.toList.drop (n * (tyOf P e).size + us.length) = (vs ++ us) ++ rest.drop us.length := by
                    have e1 : n * (tyOf P e).size = vs.length := by rw [hn]; exact hvl.symm
                    rw [e1]
                    simp only [List.take_left, List.drop_append, List.drop_eq_nil_of_le (show vs.length ≤ vs.length + us.length by omega), List.nil_append, Nat.add_sub_cancel_left]
                  rw [hcur] at hst
                  have hrun := append_room (P := P) (w := w) (ty := ty) hu hke hu' u v (some ⟨b, 0, none⟩) n sl.cap ys.length us hv hsrc hroom _ (by simp only [addr_add, Nat.zero_add]; exact hst)
                  obtain ⟨q1, q2⟩ := setRow_facts w b (vs ++ rest).toArray ((vs ++ us) ++ rest.drop us.length).toArray et g3
                  let sl' : Slot := ⟨g, some b, sl.cap, (tyOf P e).size⟩
                  have hset := hR.setNew (sl := sl') (k := k') (e := .row false (tyOf P e).size (xs ++ ys)) (H' := H) (w' := w.setRow b ((vs ++ us) ++ rest.drop us.length).toArray) hF (.refl _) (agree_setRow hR.agree g2 _) (fun b c hc => .inl hc) (by simp)
                    (fun c _ hc => q2 c (fun e => hc (by simp [sl', e]))) (by simp) (by simp) (by simp) (fun c hc => by
                      simp only [sl', Option.some.injEq] at hc
                      subst hc
                      exact ⟨by simpa using hblt, .inr ⟨sl, f1, g1⟩⟩)
                    ⟨rfl, fun x hx => by
                      rcases List.mem_append.1 hx with hx | hx
                      · exact f4 x hx
                      · exact hus2 x hx, by simp [sl']; omega, .inr ⟨b, vs ++ us, rest.drop us.length, et, rfl, g2, q1, fun x hx => by
                      rcases List.mem_append.1 hx with hx | hx
                      · exact g4 x hx
                      · exact hus3 x hx, by rw [List.flatMap_append]; exact g5.append hus1, by
                      rw [List.length_drop, g6, hul, hfl, ← Nat.mul_sub_right_distrib, List.length_append]
                      congr 1
                      show _ = sl.cap - _
                      omega⟩⟩
                  refine ⟨_, _, H, _, _, hrun, hset.put (dst := dst) (p := .row k' g (n + ys.length)) hd (.row _ _ _ _ _ (.inr rfl) ⟨_, _, rfl⟩ fun s' hs' _ => ?_), ?_⟩
                  · simp only [if_true, Option.some.injEq] at hs'
                    subst hs'
                    rfl
                  · cases dst <;> exact h
                · refine grown (some ⟨b, 0, none⟩) n sl.cap xs vs k' hv (by omega) hb hn f4 g4 g5 (fun w' hw' => ?_) h
                  rw [hv]
                  refine run_firstCells_some w' _ n ⟨b, 0, none⟩ n sl.cap vs (by rw [hn]; exact hvl) fun j x hj => ?_
                  rw [addr_add, Nat.zero_add, cell_at w' b j (vs ++ rest).toArray et (0, 0) (by rw [hw']; exact g3)]
                  simpa [List.getElem?_append_left (get_lt hj)] using hj
            · -- over what was there
              rename_i hn
              simp only [Res.wp] at h
              obtain ⟨hle, h⟩ := h
              rcases f6 with ⟨f6, f7⟩ | ⟨b, vs, rest, et, g1, g2, g3, g4, g5, g6⟩
              · omega
              · rw [g1] at hv
                simp only [Option.map_some] at hv
                have hvl := g5.length
                rw [flat_length _ f4] at hvl
                have hmul : (n + ys.length) * (tyOf P e).size ≤ xs.length * (tyOf P e).size := Nat.mul_le_mul_right _ hle
                rw [Nat.add_mul] at hmul
                have hst := run_storeCells_at P b (n * (tyOf P e).size) et us 0 (vs ++ rest).toArray w g3 (by simp; omega) hus3
                simp only [Nat.add_zero] at hst
                have hcur : (vs ++ rest).toArray.toList.take (n * (tyOf P e).size) ++ us ++ (vs ++ rest).toArray.toList.drop (n * (tyOf P e).size + us.length) = (vs.take (n * (tyOf P e).size) ++ us ++ vs.drop (n * (tyOf P e).size + us.length)) ++ rest := by
                  rw [List.take_append_of_le_length (by omega), List.drop_append_of_le_length (by omega)]
                  simp [List.append_assoc]
                rw [hcur] at hst
                have hrun := append_room (P := P) (w := w) (ty := ty) hu hke hu' u v (some ⟨b, 0, none⟩) n sl.cap ys.length us hv hsrc (by omega) _ (by simp only [addr_add, Nat.zero_add]; exact hst)
                obtain ⟨q1, q2⟩ := setRow_facts w b (vs ++ rest).toArray ((vs.take (n * (tyOf P e).size) ++ us ++ vs.drop (n * (tyOf P e).size + us.length)) ++ rest).toArray et g3
                have hset := hR.setOld (e := .row false (tyOf P e).size (xs.take n ++ ys ++ xs.drop (n + ys.length))) (H' := H) (w' := w.setRow b ((vs.take (n * (tyOf P e).size) ++ us ++ vs.drop (n * (tyOf P e).size + us.length)) ++ rest).toArray) f1 (.refl _) (agree_setRow hR.agree g2 _) (fun b c hc => .inl hc) (by simp)
                    (fun c _ hc => q2 c (fun e => hc (by rw [g1, e]))) (by simp) (by simp) (by simp)
                    ⟨f3, fun x hx => by
                      simp only [List.mem_append] at hx
                      rcases hx with (hx | hx) | hx
                      · exact f4 x (List.mem_of_mem_take hx)
                      · exact hus2 x hx
                      · exact f4 x (List.mem_of_mem_drop hx), by simp; omega, .inr ⟨b, _, rest, et, g1, g2, q1, fun x hx => by
                      simp only [List.mem_append] at hx
                      rcases hx with (hx | hx) | hx
                      · exact g4 x (List.mem_of_mem_take hx)
                      · exact hus3 x hx
                      · exact g4 x (List.mem_of_mem_drop hx), by
                      rw [List.flatMap_append, List.flatMap_append, flat_take _ _ f4, flat_drop _ _ f4, Nat.add_mul, ← hfl, ← hul]
                      exact ((g5.take _).append hus1).append (g5.drop _), by
                      rw [g6]
                      congr 1
                      simp
                      omega⟩⟩
                rw [f2] at hset
                refine ⟨_, _, H, _, _, hrun, (hset.put (dst := dst) (p := .row k' g' (n + ys.length)) hd (.row _ _ _ _ _ hu'' ⟨_, _, rfl⟩ fun s' hs' _ => ?_)).less (fun _ h => h.1), ?_⟩
                · rw [f1] at hs'
                  cases hs'
                  rw [g1]
                  rfl
                · cases dst <;> exact h
        · -- a row of bytes
          rename_i g'' bt bs hf
          split at h
          · rename_i str
            simp only [Res.wp] at h
            obtain ⟨⟨rfl, hn, rfl, hsz, hb⟩, h⟩ := h
            have hysb : ys = str.map fun c => PV.int .u8 c.toNat := by
              simp only [elems] at hys
              split at hys <;> split at hys <;> first
                | exact (Option.some.inj hys).symm
                | cases hys
            have hyl : ys.length = str.length := by rw [hysb]; simp
            have husb : us = str.map fun c => Value.int .u8 c.toNat := by
              rw [hysb] at hus1
              exact repl_bytes str hus1
            have hul' : us.length = str.length := by rw [husb]; simp
            obtain ⟨sl, f1, f2, f3, f5, f6⟩ := hR.sto k' g' _ hf
            rw [hsz] at hsrc
            cases hx with
            | row _ _ _ _ _ hu'' hs hx =>
              have hv := hx sl f1 f2
              have grownB : ∀ (ad : Option Addr) (cap : Nat), u = .slice ad n cap → cap < n + str.length →
                  (∀ w' : World, w'.heap = w.heap → (Builtin.firstCells (tyOf P bt).size n u).run P w' = .ok (bs.map fun c => Value.int .u8 c.toNat).toArray w') → Good P B F a dst g K (Builtin.append_ #[t, t'] ty #[u, v]) w := by
                intro ad cap hv hroom ho4
                have hrun := append_grow (ty := ty) hu hke hu' u v ad n cap str.length us (bs.map fun c => Value.int .u8 c.toNat) hv (by rw [hsz, ← hyl]; exact hsrc) hroom hb hz2 ho4 i z e1 hzz hby
                have hge := grownCap_ge w (n + str.length) cap bt
                refine good_new (g := g) (k := k') hR hF hd (cap := grownCap w (n + str.length) cap bt) (sz := 1) (w1 := w.drew) (.drew w) rfl hrun (fun L' hL hu'' hat => ⟨?_, ?_⟩) h
                · refine ⟨rfl, by simp; omega, .inr ⟨w.heap.size, (Builtin.zeroCells z.cells (grownCap w (n + str.length) cap bt - (n + str.length))).toList, rfl, fresh_none hR.agree, ?_, ?_⟩⟩
                  · have := push_get w.drew (.cells ((bs.map fun c => Value.int .u8 c.toNat).toArray ++ us.toArray ++ Builtin.zeroCells z.cells (grownCap w (n + str.length) cap bt - (n + str.length))) bt)
                    rw [show w.drew.heap.size = w.heap.size from rfl] at this
                    rw [this, husb]
                    congr 2
                    apply Array.ext'
                    simp
                  · rw [Array.length_toList, size_zeroCells, hzl, hsz, Nat.mul_one, List.length_append, ← hn]
                · refine .row _ _ _ _ _ hu'' ⟨_, _, rfl⟩ fun s' hs' _ => ?_
                  rw [hat s' hs']
                  rfl
              rcases f6 with ⟨f6, f7⟩ | ⟨b, rest, g1, g2, g3, g6⟩
              · have hb0 : bs = [] := List.eq_nil_of_length_eq_zero (by omega)
                subst hb0
                simp only [List.length_nil] at hn
                subst hn
                rw [f6, f7] at hv
                by_cases hs0 : str = []
                · subst hs0
                  have hrun := append_room (P := P) (w := w) (ty := ty) hu hke hu' u v none 0 0 0 us hv (by rw [hsz]; simpa [hyl] using hsrc) (Nat.le_refl _) w rfl
                  let sl' : Slot := ⟨g, none, 0, 1⟩
                  have hset := hR.setNew (sl := sl') (k := k') (e := .bytes bt []) (H' := H) (w' := w) hF (.refl _) hR.agree (fun b c hc => .inl hc) (Nat.le_refl _) (fun _ _ _ => rfl) rfl rfl rfl (by simp [sl'])
                    ⟨rfl, by simp, .inl ⟨rfl, rfl⟩⟩
                  refine ⟨_, w, H, _, _, hrun, hset.put (dst := dst) (p := .row k' g 0) hd (.row _ _ _ _ _ (.inr rfl) ⟨_, _, rfl⟩ fun s' hs' _ => ?_), ?_⟩
                  · simp only [if_true, Option.some.injEq] at hs'
                    subst hs'
                    rfl
                  · cases dst <;> exact h
                · have hpos : 0 < str.length := List.length_pos_iff.2 hs0
                  exact grownB none 0 hv (by omega) (fun w' _ => by rw [hv]; simp [Builtin.firstCells])
              · rw [g1] at hv
                simp only [Option.map_some] at hv
                by_cases hroom : n + str.length ≤ sl.cap
                · -- in its place
                  have hblt : b < w.heap.size := hR.low k' sl b f1 g1
                  have hst := run_storeCells_at P b n bt us 0 ((bs.map fun c => Value.int .u8 c.toNat) ++ rest).toArray w g3 (by simp; omega) hus3
                  simp only [Nat.add_zero] at hst
                  have hcur : ((bs.map fun c => Value.int .u8 c.toNat) ++ rest).toArray.toList.take n ++ us ++ ((bs.map fun c => Value.int .u8 c.toNat) ++ rest).toArray.toList.drop (n + us.length) = ((bs ++ str).map fun c => Value.int .u8 c.toNat) ++ rest.drop us.length := by
                    have e1 : n = (bs.map fun c => Value.int .u8 c.toNat).length := by rw [hn]; simp
                    rw [e1]
                    rw [husb, List.map_append]
                    simp only [List.take_left, List.drop_append, List.drop_eq_nil_of_le (Nat.le_add_right _ _), List.nil_append, Nat.add_sub_cancel_left]
                  rw [hcur] at hst
                  have hrun := append_room (P := P) (w := w) (ty := ty) hu hke hu' u v (some ⟨b, 0, none⟩) n sl.cap str.length us hv (by rw [hsz, ← hyl]; exact hsrc) hroom _ (by simp only [addr_add, Nat.zero_add, hsz, Nat.mul_one]; exact hst)
                  obtain ⟨q1, q2⟩ := setRow_facts w b ((bs.map fun c => Value.int .u8 c.toNat) ++ rest).toArray (((bs ++ str).map fun c => Value.int .u8 c.toNat) ++ rest.drop us.length).toArray bt g3
                  let sl' : Slot := ⟨g, some b, sl.cap, 1⟩
                  have hset := hR.setNew (sl := sl') (k := k') (e := .bytes bt (bs ++ str)) (H' := H) (w' := w.setRow b (((bs ++ str).map fun c => Value.int .u8 c.toNat) ++ rest.drop us.length).toArray) hF (.refl _) (agree_setRow hR.agree g2 _) (fun b c hc => .inl hc) (by simp)
                    (fun c _ hc => q2 c (fun e => hc (by simp [sl', e]))) (by simp) (by simp) (by simp) (fun c hc => by
                      simp only [sl', Option.some.injEq] at hc
                      subst hc
                      exact ⟨by simpa using hblt, .inr ⟨sl, f1, g1⟩⟩)
                    ⟨rfl, by simp [sl']; omega, .inr ⟨b, rest.drop us.length, rfl, g2, q1, by
                      rw [List.length_drop, g6, hul', List.length_append]
                      show _ = sl.cap - _
                      omega⟩⟩
                  refine ⟨_, _, H, _, _, hrun, hset.put (dst := dst) (p := .row k' g (n + str.length)) hd (.row _ _ _ _ _ (.inr rfl) ⟨_, _, rfl⟩ fun s' hs' _ => ?_), ?_⟩
                  · simp only [if_true, Option.some.injEq] at hs'
                    subst hs'
                    rfl
                  · cases dst <;> exact h
                · refine grownB (some ⟨b, 0, none⟩) sl.cap hv (by omega) (fun w' hw' => ?_)
                  rw [hv]
                  rw [hsz]
                  refine run_firstCells_some w' 1 n ⟨b, 0, none⟩ n sl.cap (bs.map fun c => Value.int .u8 c.toNat) (by rw [hn]; simp) fun j x hj => ?_
                  rw [addr_add, Nat.zero_add, cell_at w' b j ((bs.map fun c => Value.int .u8 c.toNat) ++ rest).toArray bt (0, 0) (by rw [hw']; exact g3)]
                  have hj2 : j < (bs.map fun c => Value.int .u8 c.toNat).length := get_lt hj
                  rw [show ((bs.map fun c => Value.int .u8 c.toNat) ++ rest).toArray[j]? = ((bs.map fun c => Value.int .u8 c.toNat) ++ rest)[j]? by simp, List.getElem?_append_left hj2]
                  exact hj
          · simp [Res.wp] at h
        · simp [Res.wp] at h
      · -- nothing to a row of another
        rename_i sz xs
        simp only [Res.wp] at h
        obtain ⟨rfl, h⟩ := h
        have hus0 : us = [] := List.eq_nil_of_length_eq_zero (by rw [hul, hfl]; simp)
        subst hus0
        have hx' := hx
        cases hx with
        | listNil _ ad c =>
          have hrun := append_room (P := P) (w := w) (ty := ty) hu hke hu' (.slice ad 0 c) v ad 0 c 0 [] rfl hsrc (Nat.zero_le _) w (by cases ad <;> simp [storeCells])
          exact good_val hR hd hrun (by simpa using hx') h
        | list _ b off len cap _ c vs _ hH hlen hcap hs1 h1 hv hr =>
          have hrun := append_room (P := P) (w := w) (ty := ty) hu hke hu' _ v (some ⟨b, off, none⟩) len cap 0 [] rfl hsrc (by simpa using hcap) w (by simp [storeCells])
          exact good_val hR hd hrun (by simpa using hx') h
      · simp [Res.wp] at h
  · simp [Res.wp] at h

end
end Go.Proofs.YtlgjbmgmoaphjaaDoor
