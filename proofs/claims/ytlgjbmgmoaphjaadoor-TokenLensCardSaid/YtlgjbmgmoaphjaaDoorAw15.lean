/- A call in a frame and a world does what its contract says to a state without memory. -/
import Derived.Test.YtlgjbmgmoaphjaaDoorAw14
namespace Go.Proofs.YtlgjbmgmoaphjaaDoor
set_option linter.unusedSimpArgs false
set_option linter.unusedVariables false
open Go

section
variable {P : Program} {B : Base} {F : Nat → Prop} {H : Imm} {L : Lay} {s : St} {a : Act} {w : World} {q : Bool} {dst : Option Nat} {k g : Nat} {K : St → Prop}

/-! ### Rows that are handed over to be read -/
theorem frzK_find (sto : Sto) (k j : Nat) : (sto.frzK k).find j = match sto.find j with
    | some (g, .row f sz xs) => if j = k ∧ k < 1000 then some (g, .row true sz xs) else some (g, .row f sz xs)
    | o => o := by
  unfold Sto.frzK
  cases hk : sto.find k with
  | none =>
    simp only
    cases hj : sto.find j with
    | none => rfl
    | some x =>
      obtain ⟨g, e⟩ := x
      cases e with
      | row f sz xs =>
        have : j ≠ k := fun e => by rw [e, hk] at hj; cases hj
        simp [this]
      | _ => rfl
  | some x =>
    obtain ⟨g, e⟩ := x
    cases e with
    | row f sz xs =>
      simp only
      by_cases hlt : k < 1000
      · simp only [hlt, if_true, and_true]
        by_cases hj : j = k
        · subst hj
          rw [Sto.find_upd_same, hk]
          simp
        · rw [Sto.find_upd_other _ _ _ _ _ hj]
          cases hj' : sto.find j with
          | none => rfl
          | some x => obtain ⟨g', e'⟩ := x; cases e' <;> simp [hj]
      · simp only [hlt, if_false, and_false]
        cases hj' : sto.find j with
        | none => rfl
        | some x => obtain ⟨g', e'⟩ := x; cases e' <;> rfl
    | var cs =>
      simp only
      cases hj : sto.find j with
      | none => rfl
      | some x =>
        obtain ⟨g', e'⟩ := x
        cases e' with
        | row f sz xs =>
          have : j ≠ k := fun e => by rw [e, hk] at hj; cases hj
          simp [this]
        | _ => rfl
    | iter b p =>
      simp only
      cases hj : sto.find j with
      | none => rfl
      | some x =>
        obtain ⟨g', e'⟩ := x
        cases e' with
        | row f sz xs =>
          have : j ≠ k := fun e => by rw [e, hk] at hj; cases hj
          simp [this]
        | _ => rfl
    | gone =>
      simp only
      cases hj : sto.find j with
      | none => rfl
      | some x =>
        obtain ⟨g', e'⟩ := x
        cases e' with
        | row f sz xs =>
          have : j ≠ k := fun e => by rw [e, hk] at hj; cases hj
          simp [this]
        | _ => rfl
    | moved sz xs =>
      simp only
      cases hj : sto.find j with
      | none => rfl
      | some x =>
        obtain ⟨g', e'⟩ := x
        cases e' with
        | row f sz xs =>
          have : j ≠ k := fun e => by rw [e, hk] at hj; cases hj
          simp [this]
        | _ => rfl
    | bytes bt bs =>
      simp only
      cases hj : sto.find j with
      | none => rfl
      | some x =>
        obtain ⟨g', e'⟩ := x
        cases e' with
        | row f sz xs =>
          have : j ≠ k := fun e => by rw [e, hk] at hj; cases hj
          simp [this]
        | _ => rfl
    | movedB bt bs =>
      simp only
      cases hj : sto.find j with
      | none => rfl
      | some x =>
        obtain ⟨g', e'⟩ := x
        cases e' with
        | row f sz xs =>
          have : j ≠ k := fun e => by rw [e, hk] at hj; cases hj
          simp [this]
        | _ => rfl

theorem frz_find : ∀ (ks : List Nat) (sto : Sto) (j : Nat), (Sto.frz ks sto).find j = match sto.find j with
    | some (g, .row f sz xs) => if j ∈ ks ∧ j < 1000 then some (g, .row true sz xs) else some (g, .row f sz xs)
    | o => o
  | [], sto, j => by
    simp only [Sto.frz]
    cases sto.find j with
    | none => rfl
    | some x => obtain ⟨g, e⟩ := x; cases e <;> simp
  | k :: ks, sto, j => by
    simp only [Sto.frz]
    rw [frz_find ks, frzK_find]
    cases sto.find j with
    | none => rfl
    | some x =>
      obtain ⟨g, e⟩ := x
      cases e with
      | row f sz xs =>
        simp only [List.mem_cons]
        by_cases h1 : j = k
        · subst h1
          by_cases h2 : j < 1000
          · simp [h2]
          · simp [h2]
        · simp only [h1, false_and, if_false, false_or]
      | _ => rfl

theorem Rel.frzK (h : Rel B F H L s a w) (k : Nat) : ∃ H', Rel B F H' L { s with sto := s.sto.frzK k } a w ∧ Grow H H' := by
  unfold Sto.frzK
  split
  · rename_i g f sz xs hf
    split
    · rename_i hk
      obtain ⟨H', h1, h2, _⟩ := h.freeze hk hf
      exact ⟨H', h1, h2⟩
    · exact ⟨H, h, .refl _⟩
  · exact ⟨H, h, .refl _⟩

theorem Rel.frz : ∀ (ks : List Nat) {H : Imm} {s : St}, Rel B F H L s a w → ∃ H', Rel B F H' L { s with sto := Sto.frz ks s.sto } a w ∧ Grow H H'
  | [], H, s, h => ⟨H, h, .refl _⟩
  | k :: ks, H, s, h => by
    obtain ⟨H1, h1, g1⟩ := h.frzK k
    obtain ⟨H2, h2, g2⟩ := Rel.frz ks h1
    exact ⟨H2, h2, g1.trans g2⟩

theorem pur0_sound (h : Rel B F H L s a w) {fnd : Nat → Option (Nat × Ent)} {ks : List Nat} (hfr : ∀ j g f sz xs, fnd j = some (g, .row f sz xs) → j ∈ ks → j < 1000 → s.sto.find j = some (g, .row true sz xs))
    {v : Value} {p : PV} (hv : Rep H L v p) (hk : ∀ j ∈ frz0 p, j ∈ ks) (hp : (pur0 fnd p).pure = true) : Rep H Lay.none v (pur0 fnd p) := by
  unfold pur0 at hp ⊢
  split at hp
  · rename_i k' g' n
    simp only [frz0, List.mem_singleton, forall_eq] at hk
    split at hp
    · rename_i g'' f sz xs hf
      split at hp
      · rename_i hc
        obtain ⟨rfl, hn, hlt⟩ := hc
        have hf' := hfr k' g' f sz xs hf hk hlt
        obtain ⟨sl, e1, e2, e3⟩ := h.sto k' g' _ hf'
        cases hv with
        | row _ _ _ _ _ hu hs hx =>
          have hv := hx sl e1 e2
          subst hv
          have := rep_frozen (L := Lay.none) (n := n) e3 0 n (Nat.zero_le _) (Nat.le_refl _) hn
          simp only [hn, hlt, and_self, if_true]
          have hval : (if sl.cap = 0 then sl.block.map (fun b => (⟨b, 0, none⟩ : Addr)) else (sl.block.map fun b => (⟨b, 0, none⟩ : Addr)).map (·.add (0 * sz))) = sl.block.map fun b => (⟨b, 0, none⟩ : Addr) := by
            split
            · rfl
            · cases sl.block <;> simp [Addr.add]
          rw [hval] at this
          simpa using this
      · simp [PV.pure] at hp
    · simp [PV.pure] at hp
  · exact hv.pure hp

theorem pur0_list (h : Rel B F H L s a w) {fnd : Nat → Option (Nat × Ent)} {ks : List Nat} (hfr : ∀ j g f sz xs, fnd j = some (g, .row f sz xs) → j ∈ ks → j < 1000 → s.sto.find j = some (g, .row true sz xs)) :
    ∀ {vs : List Value} {ps : List PV}, RepL H L vs ps → (∀ j ∈ ps.flatMap frz0, j ∈ ks) → pureL (ps.map (pur0 fnd)) = true → RepL H Lay.none vs (ps.map (pur0 fnd))
  | _, _, .nil _, _, _ => .nil _
  | _, _, .cons _ v p vs ps hv ht, hk, hp => by
    simp only [List.map_cons, pureL, Bool.and_eq_true] at hp
    simp only [List.flatMap_cons, List.mem_append] at hk
    exact .cons _ _ _ _ _ (pur0_sound h hfr hv (fun j hj => hk j (.inl hj)) hp.1) (pur0_list h hfr ht (fun j hj => hk j (.inr hj)) hp.2)

theorem pur1_sound (h : Rel B F H L s a w) {fnd : Nat → Option (Nat × Ent)} {ks : List Nat} (hfr : ∀ j g f sz xs, fnd j = some (g, .row f sz xs) → j ∈ ks → j < 1000 → s.sto.find j = some (g, .row true sz xs))
    {v : Value} {p : PV} (hv : Rep H L v p) (hk : ∀ j ∈ frz1 p, j ∈ ks) (hp : (pur1 fnd p).pure = true) : Rep H Lay.none v (pur1 fnd p) := by
  unfold pur1 at hp ⊢
  split at hp
  · rename_i cs
    cases hv with
    | agg _ vs _ hr => exact .agg _ _ _ (pur0_list h hfr hr (by simpa [frz1] using hk) (by simpa [PV.pure] using hp))
  · rename_i hne
    refine pur0_sound h hfr hv (fun j hj => hk j ?_) hp
    cases p <;> first
      | exact hj
      | exact (hne _ rfl).elim

theorem pur1_list (h : Rel B F H L s a w) {fnd : Nat → Option (Nat × Ent)} {ks : List Nat} (hfr : ∀ j g f sz xs, fnd j = some (g, .row f sz xs) → j ∈ ks → j < 1000 → s.sto.find j = some (g, .row true sz xs)) :
    ∀ {vs : List Value} {ps : List PV}, RepL H L vs ps → (∀ j ∈ ps.flatMap frz1, j ∈ ks) → pureL (ps.map (pur1 fnd)) = true → RepL H Lay.none vs (ps.map (pur1 fnd))
  | _, _, .nil _, _, _ => .nil _
  | _, _, .cons _ v p vs ps hv ht, hk, hp => by
    simp only [List.map_cons, pureL, Bool.and_eq_true] at hp
    simp only [List.flatMap_cons, List.mem_append] at hk
    exact .cons _ _ _ _ _ (pur1_sound h hfr hv (fun j hj => hk j (.inl hj)) hp.1) (pur1_list h hfr ht (fun j hj => hk j (.inr hj)) hp.2)

/-- After rows were frozen, what is found. -/
theorem frz_found (sto : Sto) (ks : List Nat) : ∀ j g f sz xs, sto.find j = some (g, .row f sz xs) → j ∈ ks → j < 1000 → (Sto.frz ks sto).find j = some (g, .row true sz xs) := by
  intro j g f sz xs h1 h2 h3
  rw [frz_find, h1]
  simp [h2, h3]

/-! ### What a call hands back -/
theorem back_sound (hR : Rel B F H L s a w) (hF : F g) (hk : k < 1000) (hd : ∀ d, dst = some d → d < a.tmps.size) {n0 : Nat} (hn0 : B.w0.heap.size ≤ n0) (hlow : ∀ j x b, L.at_ j = some x → x.block = some b → b < n0)
    {v : Value} {r : PV} (hr : ResRep H w n0 v r) : ∃ L', Rel B (fun x => F x ∧ x ≠ g) H L' (s.back dst k g r) (a.put dst v) w := by
  have plain : Rep H Lay.none v r → (s.back dst k g r) = s.put dst r → ∃ L', Rel B (fun x => F x ∧ x ≠ g) H L' (s.back dst k g r) (a.put dst v) w := by
    intro hv he
    rw [he]
    exact ⟨L, (hR.put hd hv.none).less (fun _ h => h.1)⟩
  by_cases hown : ∃ sz xs, r = .own sz xs
  · obtain ⟨sz, xs, rfl⟩ := hown
    obtain ⟨h1, h2⟩ := hr
    rcases h2 with ⟨rfl, rfl⟩ | ⟨b, cap, vs, rest, t, g1, g2, rfl, g3, g4, g5, g6, g7⟩
    · let sl : Slot := ⟨g, none, 0, sz⟩
      have hset := hR.setNew (sl := sl) (k := k) (e := .row false sz []) (H' := H) (w' := w) hF (.refl _) hR.agree (fun b c hc => .inl hc) (Nat.le_refl _) (fun _ _ _ => rfl) rfl rfl rfl (by simp [sl])
        ⟨rfl, by simp, by simp, .inl ⟨rfl, rfl⟩⟩
      have hput := hset.put (dst := dst) (v := .slice none 0 0) (p := .row k g 0) hd (.row _ _ _ _ _ (.inr rfl) ⟨_, _, rfl⟩ fun s' hs' _ => by
        simp only [if_true, Option.some.injEq] at hs'
        subst hs'
        rfl)
      refine ⟨⟨fun x => L.used x ∨ x = sl.gen, fun j => if j = k then some sl else L.at_ j⟩, ?_⟩
      have : (s.back dst k g (.own sz [])) = (s.set k g (.row false sz [])).put dst (.row k g 0) := by cases dst <;> rfl
      rw [this]
      exact hput
    · let sl : Slot := ⟨g, some b, cap, sz⟩
      have hset := hR.setNew (sl := sl) (k := k) (e := .row false sz xs) (H' := H) (w' := w) hF (.refl _) hR.agree (fun b c hc => .inl hc) (Nat.le_refl _) (fun _ _ _ => rfl) rfl rfl rfl (fun c hc => by
          simp only [sl, Option.some.injEq] at hc
          subst hc
          exact ⟨(Array.getElem?_eq_some_iff.1 g3).1, .inl ⟨Nat.le_trans hn0 g1, fun j x hx hxb => by have := hlow j x _ hx hxb; omega⟩⟩)
        ⟨rfl, h1, g7, .inr ⟨b, vs, rest, t, rfl, g2, g3, g4, g5, g6⟩⟩
      have hput := hset.put (dst := dst) (v := .slice (some ⟨b, 0, none⟩) xs.length cap) (p := .row k g xs.length) hd (.row _ _ _ _ _ (.inr rfl) ⟨_, _, rfl⟩ fun s' hs' _ => by
        simp only [if_true, Option.some.injEq] at hs'
        subst hs'
        rfl)
      refine ⟨⟨fun x => L.used x ∨ x = sl.gen, fun j => if j = k then some sl else L.at_ j⟩, ?_⟩
      have : (s.back dst k g (.own sz xs)) = (s.set k g (.row false sz xs)).put dst (.row k g xs.length) := by cases dst <;> rfl
      rw [this]
      exact hput
  · refine plain ?_ ?_
    · cases r <;> first
        | exact hr
        | exact (hown ⟨_, _, rfl⟩).elim
    · cases r <;> first
        | rfl
        | exact (hown ⟨_, _, rfl⟩).elim

/-! ### The call itself -/
theorem run_callFunc {f : Nat} (hc : Callable P f) (args : Array Value) : (callFunc f args).run P w = .ok (.enter f args) w := by
  obtain ⟨fn, h1, h2, h3⟩ := hc
  simp only [callFunc, Sem.run_bind, run_program, Result.andThen_ok, h1, h3, h2, Bool.false_eq_true, if_false, Sem.run_pure]

theorem Agree.low {H : Imm} {w : World} (h : Agree H w) {b : Nat} {c : Array Value} (hc : H b = some c) : b < w.heap.size := by
  obtain ⟨t, fr, ht⟩ := h b c hc
  exact (Array.getElem?_eq_some_iff.1 ht).1

/-- A call of what writes nothing of ours. -/
theorem pc_sound (hR : Rel B F H L s a w) (hF : F g) (hk : k < 1000) (hd : ∀ d, dst = some d → d < a.tmps.size) (f : Nat) (args : List PV) (vs : List Value) (hvs : RepL H L vs args)
    {args' : List PV} {r : PV} (hp : pureL (args.map (pur1 s.sto.find)) = true) (hw : WkL (args.map (pur1 s.sto.find)) args') (hc : PC P f args' r)
    (hK : K (({ s with sto := Sto.frz (args.flatMap frz1) s.sto } : St).back dst k g r)) (R : Ending → World → Prop)
    (hnext : ∀ v w' H' L' s', Rel B (fun x => F x ∧ x ≠ g) H' L' s' (a.put dst v) w' → K s' → R (.returned v) w') : Calls P f vs.toArray w R := by
  obtain ⟨H1, h1, g1⟩ := hR.frz (args.flatMap frz1)
  have hvs1 : RepL H1 L vs args := hvs.mono g1 (.refl _)
  have hpur := (pur1_list h1 (fnd := s.sto.find) (ks := args.flatMap frz1) (frz_found s.sto _) hvs1 (fun j hj => hj) hp).wk hw
  obtain ⟨_, _, hcall⟩ := hc
  refine (hcall H1 w [] vs h1.agree (glob_grow h1.grow B.glob) rfl (by simp) (by simp [SepS]) (by simp) (hpur.mono (.refl _) (.none _))).mono ?_
  rintro e w' ⟨v, H2, ss', rfl, q1, q2, q3, q4, _, q5, q6⟩
  have hq : Quiet w w' := q4.weaken (by simp)
  have h2 := h1.quiet q1 q2 q3 hq
  obtain ⟨L', h3⟩ := back_sound h2 hF hk hd (n0 := w.heap.size) hR.ext.size hR.low q6
  exact hnext v w' H2 L' _ h3 hK

/-! ### Calls of what writes behind keys that are handed over -/
theorem setAll_other : ∀ (ks : List (Nat × Nat)) (es : List Ent) (sto : Sto) (j : Nat), j ∉ ks.map (·.1) → (setAll sto ks es).find j = sto.find j
  | [], es, sto, j, _ => by cases es <;> rfl
  | (k, g) :: ks, [], sto, j, _ => rfl
  | (k, g) :: ks, e :: es, sto, j, h => by
    simp only [List.map_cons, List.mem_cons, not_or] at h
    simp only [setAll]
    rw [setAll_other ks es _ j h.2, Sto.find_upd_other _ _ _ _ _ h.1]

theorem setAll_at : ∀ (ks : List (Nat × Nat)) (es : List Ent) (sto : Sto), (ks.map (·.1)).Nodup → ∀ (i k g : Nat) (e : Ent), ks[i]? = some (k, g) → es[i]? = some e → (setAll sto ks es).find k = some (g, e)
  | [], es, sto, _, i, k, g, e, h, _ => by simp at h
  | (k', g') :: ks, [], sto, _, i, k, g, e, _, h => by simp at h
  | (k', g') :: ks, e' :: es, sto, hn, 0, k, g, e, h1, h2 => by
    simp only [List.getElem?_cons_zero, Option.some.injEq, Prod.mk.injEq] at h1 h2
    obtain ⟨rfl, rfl⟩ := h1
    subst h2
    simp only [List.map_cons, List.nodup_cons] at hn
    simp only [setAll]
    rw [setAll_other ks es _ _ hn.1, Sto.find_upd_same]
  | (k', g') :: ks, e' :: es, sto, hn, i + 1, k, g, e, h1, h2 => by
    simp only [List.map_cons, List.nodup_cons] at hn
    simp only [setAll]
    exact setAll_at ks es _ hn.2 i k g e (by simpa using h1) (by simpa using h2)

theorem newKs_fst (g : Nat) : ∀ (ks : List (Nat × Nat)) (es : List Ent), (newKs g ks es).map (·.1) = ks.map (·.1)
  | [], _ => by simp [newKs]
  | (k, g0) :: ks, [] => by simp [newKs]
  | (k, g0) :: ks, e :: es => by simp [newKs, newKs_fst g ks es]
theorem newKs_len (g : Nat) (ks : List (Nat × Nat)) (es : List Ent) : (newKs g ks es).length = ks.length := by
  have := congrArg List.length (newKs_fst g ks es)
  simpa using this
theorem newKs_at (g : Nat) : ∀ (ks : List (Nat × Nat)) (es : List Ent) (i k g0 : Nat) (e : Ent), ks[i]? = some (k, g0) → es[i]? = some e → (newKs g ks es)[i]? = some (k, if e.moves = true then g else g0)
  | [], _, i, _, _, _, h, _ => by simp at h
  | (k', g') :: ks, [], i, _, _, _, _, h => by simp at h
  | (k', g') :: ks, e' :: es, 0, k, g0, e, h1, h2 => by
    simp only [List.getElem?_cons_zero, Option.some.injEq, Prod.mk.injEq] at h1 h2
    obtain ⟨rfl, rfl⟩ := h1
    subst h2
    simp [newKs]
  | (k', g') :: ks, e' :: es, i + 1, k, g0, e, h1, h2 => by
    simp only [newKs, List.getElem?_cons_succ] at h1 h2 ⊢
    exact newKs_at g ks es i k g0 e h1 h2
theorem anyMoves_mem : ∀ {es : List Ent} {e : Ent}, e ∈ es → e.moves = true → anyMoves es = true
  | x :: es, e, h, hm => by
    simp only [anyMoves, Bool.or_eq_true]
    rcases List.mem_cons.1 h with rfl | h
    · exact .inl hm
    · exact .inr (anyMoves_mem h hm)

/-- Where keys lie behind a call. -/
def layAll (at_ : Nat → Option Slot) : List (Nat × Nat) → List Slot → Nat → Option Slot
  | (k, g) :: ks, s :: ss, j => if j = k then some { s with gen := g } else layAll at_ ks ss j
  | _, _, j => at_ j
theorem layAll_other (at_ : Nat → Option Slot) : ∀ (ks : List (Nat × Nat)) (ss : List Slot) (j : Nat), j ∉ ks.map (·.1) → layAll at_ ks ss j = at_ j
  | [], _, _, _ => by simp [layAll]
  | (k, g) :: ks, [], _, _ => by simp [layAll]
  | (k, g) :: ks, s :: ss, j, h => by
    simp only [List.map_cons, List.mem_cons, not_or] at h
    rw [layAll, if_neg h.1, layAll_other at_ ks ss j h.2]
theorem layAll_at (at_ : Nat → Option Slot) : ∀ (ks : List (Nat × Nat)) (ss : List Slot), (ks.map (·.1)).Nodup → ∀ (i k g : Nat) (s : Slot), ks[i]? = some (k, g) → ss[i]? = some s → layAll at_ ks ss k = some { s with gen := g }
  | [], ss, _, i, k, g, s, h, _ => by simp at h
  | (k', g') :: ks, [], _, i, k, g, s, _, h => by simp at h
  | (k', g') :: ks, s' :: ss, hn, 0, k, g, s, h1, h2 => by
    simp only [List.getElem?_cons_zero, Option.some.injEq, Prod.mk.injEq] at h1 h2
    obtain ⟨rfl, rfl⟩ := h1
    subst h2
    simp [layAll]
  | (k', g') :: ks, s' :: ss, hn, i + 1, k, g, s, h1, h2 => by
    simp only [List.map_cons, List.nodup_cons] at hn
    simp only [List.getElem?_cons_succ] at h1 h2
    have hne : k ≠ k' := fun e => hn.1 (List.mem_map.2 ⟨(k, g), List.mem_of_getElem? h1, e⟩)
    rw [layAll, if_neg hne]
    exact layAll_at at_ ks ss hn.2 i k g s h1 h2

/-- What lay behind some keys lies there anew. -/
theorem Rel.relay (h : Rel B F H L s a w) {g : Nat} (ks : List (Nat × Nat)) (es : List Ent) (hF : anyMoves es = true → F g) (ss ss' : List Slot) (hlen : es.length = ks.length) (hsl : ss.length = ks.length) (hnd : (ks.map (·.1)).Nodup)
    (hss : ∀ (i k g : Nat) (x : Slot), ks[i]? = some (k, g) → ss[i]? = some x → ∃ sl, L.at_ k = some sl ∧ sl.gen = g ∧ x = { sl with gen := 0 })
    {H' : Imm} {w' : World} (hH : Grow H H') (hA : Agree H' w') (hn : ∀ b c, H' b = some c → H b = some c ∨ w.heap.size ≤ b)
    (he : Ext (fun b => ∃ s ∈ ss, s.block = some b) w w') (hm : Moved w.heap.size w' es ss ss')
    (hes : ∀ (i k' g' : Nat) (x : Slot) (e : Ent), (newKs g ks es)[i]? = some (k', g') → ss'[i]? = some x → es[i]? = some e → EntRep H' ⟨fun x => L.used x ∨ (anyMoves es = true ∧ x = g), layAll L.at_ (newKs g ks es) ss'⟩ w' { x with gen := g' } (e.inst (keyAt (newKs g ks es)))) :
    Rel B (fun x => F x ∧ (anyMoves es = true → x ≠ g)) H' ⟨fun x => L.used x ∨ (anyMoves es = true ∧ x = g), layAll L.at_ (newKs g ks es) ss'⟩ { s with sto := setAll s.sto (newKs g ks es) (es.map (Ent.inst (keyAt (newKs g ks es)))) } a w' := by
  have hnd' : ((newKs g ks es).map (·.1)).Nodup := by rw [newKs_fst]; exact hnd
  have hg0 : anyMoves es = true → ¬ L.used g := fun h1 => h.free g (hF h1)
  -- of one key: what was, what is
  have one : ∀ j, j ∈ ks.map (·.1) → ∃ (i g0 : Nat) (e : Ent) (x x' sl : Slot), ks[i]? = some (j, g0) ∧ es[i]? = some e ∧ ss[i]? = some x ∧ ss'[i]? = some x' ∧ L.at_ j = some sl ∧ sl.gen = g0 ∧ x = { sl with gen := 0 } ∧ (newKs g ks es)[i]? = some (j, if e.moves = true then g else g0) ∧ layAll L.at_ (newKs g ks es) ss' j = some { x' with gen := if e.moves = true then g else g0 } := by
    intro j hj
    obtain ⟨⟨k, g0⟩, hmem, rfl⟩ := List.mem_map.1 hj
    obtain ⟨i, hi⟩ := List.mem_iff_getElem?.1 hmem
    have hlt := get_lt hi
    have h1 : es[i]? = some (es[i]'(by omega)) := List.getElem?_eq_getElem (by omega)
    have h2 : ss[i]? = some (ss[i]'(by omega)) := List.getElem?_eq_getElem (by omega)
    have h3 : ss'[i]? = some (ss'[i]'(by rw [hm.len]; omega)) := List.getElem?_eq_getElem (by rw [hm.len]; omega)
    obtain ⟨sl, q1, q2, q3⟩ := hss i k g0 _ hi h2
    have h4 := newKs_at g ks es i k g0 _ hi h1
    exact ⟨i, g0, _, _, _, sl, hi, h1, h2, h3, q1, q2, q3, h4, layAll_at L.at_ _ ss' hnd' i k _ _ h4 h3⟩
  have other : ∀ j, j ∉ ks.map (·.1) → layAll L.at_ (newKs g ks es) ss' j = L.at_ j := fun j hj => layAll_other _ _ _ _ (by rw [newKs_fst]; exact hj)
  have hL : LayLe L ⟨fun x => L.used x ∨ (anyMoves es = true ∧ x = g), layAll L.at_ (newKs g ks es) ss'⟩ := by
    refine ⟨fun x hx => .inl hx, fun j x hx hu => ?_⟩
    by_cases hj : j ∈ ks.map (·.1)
    · obtain ⟨i, g0, e, x0, x', sl, q1, q2, q3, q4, q5, q6, q7, q8, q9⟩ := one j hj
      have hx0 : layAll L.at_ (newKs g ks es) ss' j = some x := hx
      rw [q9] at hx0
      simp only [Option.some.injEq] at hx0
      subst hx0
      by_cases hmv : e.moves = true
      · simp only [hmv, if_true] at hu
        exact (hg0 (anyMoves_mem (List.mem_of_getElem? q2) hmv) hu).elim
      · rcases hm.at_ i x0 x' e q3 q4 q2 with r | ⟨r, _⟩
        · subst r
          rw [q7]
          simp only [hmv, Bool.false_eq_true, if_false, ← q6]
          exact q5
        · exact (hmv r).elim
    · have hx0 : layAll L.at_ (newKs g ks es) ss' j = some x := hx
      rw [other j hj] at hx0
      exact hx0
  -- a key's new place
  have place : ∀ j, j ∈ ks.map (·.1) → ∀ x b, layAll L.at_ (newKs g ks es) ss' j = some x → x.block = some b → b < w'.heap.size ∧ ((∃ sl, L.at_ j = some sl ∧ sl.block = some b) ∨ w.heap.size ≤ b) := by
    intro j hj x b hx hb
    obtain ⟨i, g0, e, x0, x', sl, q1, q2, q3, q4, q5, q6, q7, q8, q9⟩ := one j hj
    rw [q9] at hx
    simp only [Option.some.injEq] at hx
    subst hx
    have hb' : x'.block = some b := hb
    refine ⟨hm.low x' (List.mem_of_getElem? q4) b hb', ?_⟩
    rcases hm.at_ i x0 x' e q3 q4 q2 with r | ⟨_, r⟩
    · subst r
      rw [q7] at hb'
      exact .inl ⟨sl, q5, hb'⟩
    · rcases r b hb' with r | r
      · rw [q7] at r
        exact .inl ⟨sl, q5, r⟩
      · exact .inr r
  have notmay : ∀ j, j ∉ ks.map (·.1) → ∀ o b, L.at_ j = some o → o.block = some b → ¬ ∃ s ∈ ss, s.block = some b := by
    rintro j hj o b ho hob ⟨x, hx, hxb⟩
    obtain ⟨i, hi⟩ := List.mem_iff_getElem?.1 hx
    have hlt : i < ks.length := by rw [← hsl]; exact get_lt hi
    have hk : ks[i]? = some (ks[i].1, ks[i].2) := by simp [List.getElem?_eq_getElem hlt]
    obtain ⟨sl, q1, q2, q3⟩ := hss i _ _ x hk hi
    rw [q3] at hxb
    have := h.sep j _ o sl b ho q1 hob hxb
    subst this
    exact hj (List.mem_map.2 ⟨_, List.mem_of_getElem? hk, rfl⟩)
  refine
    { env := fun i => (h.env i).mono hH hL
      agree := hA
      sto := ?_, sep := ?_, low := ?_, used := ?_, free := ?_, mine := ?_, zero := .inl h.zero, ext0 := ?_
      grow := h.grow.trans hH
      imm := ?_, ext := ?_ }
  · intro j gj x hx
    by_cases hj : j ∈ ks.map (·.1)
    · obtain ⟨i, g0, e, x0, x', sl, q1, q2, q3, q4, q5, q6, q7, q8, q9⟩ := one j hj
      have hat := setAll_at (newKs g ks es) (es.map (Ent.inst (keyAt (newKs g ks es)))) s.sto hnd' i j _ (e.inst (keyAt (newKs g ks es))) q8 (by simp [q2])
      have hx' : (setAll s.sto (newKs g ks es) (es.map (Ent.inst (keyAt (newKs g ks es))))).find j = some (gj, x) := hx
      rw [hat] at hx'
      simp only [Option.some.injEq, Prod.mk.injEq] at hx'
      obtain ⟨rfl, rfl⟩ := hx'
      exact ⟨_, q9, rfl, hes i j _ x' e q8 q4 q2⟩
    · have hx' : (setAll s.sto (newKs g ks es) (es.map (Ent.inst (keyAt (newKs g ks es))))).find j = some (gj, x) := hx
      rw [setAll_other _ _ s.sto j (by rw [newKs_fst]; exact hj)] at hx'
      obtain ⟨o, h1, h2, h3⟩ := h.sto j gj x hx'
      refine ⟨o, by rw [← other j hj] at h1; exact h1, h2, h3.keep hH hL fun b hob => ?_⟩
      have hlt := h.low j o b h1 hob
      refine ⟨he.old b hlt (notmay j hj o b h1 hob), fun hnone => ?_⟩
      cases hc : H' b with
      | none => rfl
      | some c =>
        rcases hn b c hc with h4 | h4
        · rw [hnone] at h4; cases h4
        · omega
  · intro j j' x x' b hx hx' hxb hxb'
    by_cases hj : j ∈ ks.map (·.1) <;> by_cases hj' : j' ∈ ks.map (·.1)
    · obtain ⟨i, g0, e, x0, y, sl, q1, q2, q3, q4, q5, q6, q7, q8, q9⟩ := one j hj
      obtain ⟨i', g0', e', x0', y', sl', q1', q2', q3', q4', q5', q6', q7', q8', q9'⟩ := one j' hj'
      have hx1 : layAll L.at_ (newKs g ks es) ss' j = some x := hx
      have hx2 : layAll L.at_ (newKs g ks es) ss' j' = some x' := hx'
      rw [q9] at hx1
      rw [q9'] at hx2
      simp only [Option.some.injEq] at hx1 hx2
      subst hx1 hx2
      have := hm.sep i i' y y' b q4 q4' hxb hxb'
      subst this
      rw [q1] at q1'
      simp only [Option.some.injEq, Prod.mk.injEq] at q1'
      exact q1'.1
    · have hx2 : L.at_ j' = some x' := by rw [← other j' hj']; exact hx'
      obtain ⟨_, h1⟩ := place j hj x b hx hxb
      rcases h1 with ⟨sl, r1, r2⟩ | h1
      · exact h.sep j j' sl x' b r1 hx2 r2 hxb'
      · have := h.low j' x' b hx2 hxb'; omega
    · have hx1 : L.at_ j = some x := by rw [← other j hj]; exact hx
      obtain ⟨_, h1⟩ := place j' hj' x' b hx' hxb'
      rcases h1 with ⟨sl, r1, r2⟩ | h1
      · exact h.sep j j' x sl b hx1 r1 hxb r2
      · have := h.low j x b hx1 hxb; omega
    · exact h.sep j j' x x' b (by rw [← other j hj]; exact hx) (by rw [← other j' hj']; exact hx') hxb hxb'
  · intro j x b hx hxb
    by_cases hj : j ∈ ks.map (·.1)
    · exact (place j hj x b hx hxb).1
    · exact Nat.lt_of_lt_of_le (h.low j x b (by rw [← other j hj]; exact hx) hxb) he.size
  · intro j x hx
    by_cases hj : j ∈ ks.map (·.1)
    · obtain ⟨i, g0, e, x0, y, sl, q1, q2, q3, q4, q5, q6, q7, q8, q9⟩ := one j hj
      have hx1 : layAll L.at_ (newKs g ks es) ss' j = some x := hx
      rw [q9] at hx1
      simp only [Option.some.injEq] at hx1
      subst hx1
      by_cases hmv : e.moves = true
      · exact .inr ⟨anyMoves_mem (List.mem_of_getElem? q2) hmv, by simp [hmv]⟩
      · exact .inl (by simp only [hmv, Bool.false_eq_true, if_false]; rw [← q6]; exact h.used j sl q5)
    · exact .inl (h.used j x (by rw [← other j hj]; exact hx))
  · rintro x ⟨hx1, hx2⟩ hu
    rcases hu with hu | hu
    · exact h.free x hx1 hu
    · exact hx2 hu.1 hu.2
  · intro j x b hx hxb
    by_cases hj : j ∈ ks.map (·.1)
    · rcases (place j hj x b hx hxb).2 with ⟨sl, r1, r2⟩ | r
      · exact h.mine j sl b r1 r2
      · exact .inl (Nat.le_trans h.ext.size r)
    · exact h.mine j x b (by rw [← other j hj]; exact hx) hxb
  · intro j x hjk hx hx0
    by_cases hj : j ∈ ks.map (·.1)
    · obtain ⟨i, g0, e, x0, y, sl, q1, q2, q3, q4, q5, q6, q7, q8, q9⟩ := one j hj
      have hx1 : layAll L.at_ (newKs g ks es) ss' j = some x := hx
      rw [q9] at hx1
      simp only [Option.some.injEq] at hx1
      subst hx1
      by_cases hmv : e.moves = true
      · simp only [hmv, if_true] at hx0
        exact (hg0 (anyMoves_mem (List.mem_of_getElem? q2) hmv) (by rw [hx0]; exact h.zero)).elim
      · rcases hm.at_ i x0 y e q3 q4 q2 with r | ⟨r, _⟩
        · subst r
          simp only [hmv, Bool.false_eq_true, if_false] at hx0 ⊢
          have := h.ext0 j sl hjk q5 (by rw [q6]; exact hx0)
          rw [this, q7, ← q6]
        · exact (hmv r).elim
    · exact h.ext0 j x hjk (by rw [← other j hj]; exact hx) hx0
  · intro b c hc
    rcases hn b c hc with h4 | h4
    · exact h.imm b c h4
    · exact .inr (Nat.le_trans h.ext.size h4)
  · refine ⟨Nat.le_trans h.ext.size he.size, fun b hb1 hb2 => ?_, he.out.trans h.ext.out, he.os.trans h.ext.os, he.tape.trans h.ext.tape⟩
    have hlt : b < w.heap.size := Nat.lt_of_lt_of_le hb1 h.ext.size
    refine (he.old b hlt ?_).trans (h.ext.old b hb1 hb2)
    rintro ⟨x, hx, hxb⟩
    obtain ⟨i, hi⟩ := List.mem_iff_getElem?.1 hx
    have hlk : i < ks.length := by rw [← hsl]; exact get_lt hi
    have hk : ks[i]? = some (ks[i].1, ks[i].2) := by simp [List.getElem?_eq_getElem hlk]
    obtain ⟨sl, q1, q2, q3⟩ := hss i _ _ x hk hi
    rw [q3] at hxb
    rcases h.mine _ sl b q1 hxb with h6 | ⟨_, o, h6, h7⟩
    · omega
    · exact hb2 ⟨o, List.mem_of_getElem? h6, h7⟩

theorem findAll_at {m : Nat → Nat × Nat} {n : Nat} : ∀ (ks : List (Nat × Nat)) (es : List Ent) (sto : Sto), findAll m n sto ks es → es.length = ks.length ∧ ∀ (i k g : Nat) (e : Ent), ks[i]? = some (k, g) → es[i]? = some e → sto.find k = some (g, e.inst m) ∧ e.extOk n = true
  | [], [], sto, _ => ⟨rfl, fun i k g e h => by simp at h⟩
  | [], _ :: _, sto, h => h.elim
  | (k, g) :: ks, [], sto, h => h.elim
  | (k, g) :: ks, e :: es, sto, h => by
    obtain ⟨h1, h2, h3⟩ := h
    obtain ⟨h4, h5⟩ := findAll_at ks es sto h3
    refine ⟨by simp [h4], fun i k' g' e' q1 q2 => ?_⟩
    cases i with
    | zero =>
      simp only [List.getElem?_cons_zero, Option.some.injEq, Prod.mk.injEq] at q1 q2
      obtain ⟨rfl, rfl⟩ := q1
      subst q2
      exact ⟨h1, h2⟩
    | succ i => exact h5 i k' g' e' (by simpa using q1) (by simpa using q2)

/-! ### Our keys, and the ones that they are handed over as -/
/-- Each of 'ks' lies where the slot at its place in 'ss' says. -/
def Tied (L : Lay) (ks : List (Nat × Nat)) (ss : List Slot) : Prop :=
  ss.length = ks.length ∧ ∀ (i k g : Nat) (s : Slot), ks[i]? = some (k, g) → ss[i]? = some s → ∃ sl, L.at_ k = some sl ∧ sl.gen = g ∧ s = { sl with gen := 0 }

theorem Tied.look {L : Lay} {ks : List (Nat × Nat)} {ss : List Slot} (ht : Tied L ks ss) {k : Nat} (h1 : 1000 ≤ k) (h2 : k < 1000 + ks.length) :
    ∃ s sl, (extLay ss).at_ k = some s ∧ L.at_ (keyAt ks k).1 = some sl ∧ sl.gen = (keyAt ks k).2 ∧ s = { sl with gen := 0 } := by
  have hlt : k - 1000 < ks.length := by omega
  have hk : ks[k - 1000]? = some ((keyAt ks k).1, (keyAt ks k).2) := by
    simp [keyAt, List.getD, List.getElem?_eq_getElem hlt]
  have hs : ss[k - 1000]? = some (ss[k - 1000]'(by rw [ht.1]; exact hlt)) := List.getElem?_eq_getElem (by rw [ht.1]; exact hlt)
  obtain ⟨sl, e1, e2, e3⟩ := ht.2 _ _ _ _ hk hs
  refine ⟨_, sl, ?_, e1, e2, e3⟩
  simp only [extLay, h1, if_true]
  exact hs

mutual
theorem Rep.toExt {L : Lay} {ks : List (Nat × Nat)} {ss : List Slot} (ht : Tied L ks ss) : ∀ (p : PV) {v : Value}, p.extOk ks.length = true → Rep H L v (p.inst (keyAt ks)) → Rep H (extLay ss) v p
  | .row k g n, v, hp, hv => by
    simp only [PV.extOk, Bool.and_eq_true, decide_eq_true_eq] at hp
    obtain ⟨⟨h1, h2⟩, rfl⟩ := hp
    obtain ⟨s, sl, e0, e1, e2, e3⟩ := ht.look h1 h2
    subst e3
    simp only [PV.inst] at hv
    cases hv with
    | row _ _ _ _ _ hu hs hx =>
      refine .row _ _ _ _ _ rfl hs fun s' q1 q2 => ?_
      rw [e0] at q1; cases q1
      exact hx sl e1 e2
  | .box k g off, v, hp, hv => by
    simp only [PV.extOk, Bool.and_eq_true, decide_eq_true_eq] at hp
    obtain ⟨⟨h1, h2⟩, rfl⟩ := hp
    obtain ⟨s, sl, e0, e1, e2, e3⟩ := ht.look h1 h2
    subst e3
    simp only [PV.inst] at hv
    cases hv with
    | box _ _ _ _ _ hu hs hx =>
      refine .box _ _ _ _ _ rfl hs fun s' b q1 q2 q3 => ?_
      rw [e0] at q1; cases q1
      exact hx sl b e1 e2 q3
  | .elt k g i off, v, hp, hv => by
    simp only [PV.extOk, Bool.and_eq_true, decide_eq_true_eq] at hp
    obtain ⟨⟨h1, h2⟩, rfl⟩ := hp
    obtain ⟨s, sl, e0, e1, e2, e3⟩ := ht.look h1 h2
    subst e3
    simp only [PV.inst] at hv
    cases hv with
    | elt _ _ _ _ _ _ hu hs hx =>
      refine .elt _ _ _ _ _ _ rfl hs fun s' b q1 q2 q3 => ?_
      rw [e0] at q1; cases q1
      exact hx sl b e1 e2 q3
  | .selfP k g, v, hp, hv => by
    simp only [PV.extOk, Bool.and_eq_true, decide_eq_true_eq] at hp
    obtain ⟨⟨h1, h2⟩, rfl⟩ := hp
    obtain ⟨s, sl, e0, e1, e2, e3⟩ := ht.look h1 h2
    subst e3
    simp only [PV.inst] at hv
    cases hv with
    | selfP _ _ _ _ hu hs hx =>
      refine .selfP _ _ _ _ rfl hs (hx.imp id fun hx s' b q1 q2 q3 => ?_)
      rw [e0] at q1; cases q1
      exact hx sl b e1 e2 q3
  | .agg cs, v, hp, hv => by
    simp only [PV.inst] at hv
    cases hv with
    | agg _ vs _ hr => exact .agg _ _ _ (RepL.toExt ht cs (by simpa [PV.extOk] using hp) hr)
  | .tup cs, v, hp, hv => by
    simp only [PV.inst] at hv
    cases hv with
    | tup _ vs _ hr => exact .tup _ _ _ (RepL.toExt ht cs (by simpa [PV.extOk] using hp) hr)
  | .fn f cs, v, hp, hv => by
    simp only [PV.inst] at hv
    cases hv with
    | fn _ _ vs _ hr => exact .fn _ _ _ _ (RepL.toExt ht cs (by simpa [PV.extOk] using hp) hr)
  | .iface t p, v, hp, hv => by
    simp only [PV.inst] at hv
    cases hv with
    | iface _ _ v _ hr => exact .iface _ _ _ _ (Rep.toExt ht p (by simpa [PV.extOk] using hp) hr)
  | .own _ _, v, hp, _ => by simp [PV.extOk] at hp
  | .undef, _, _, hv => hv.pure rfl
  | .bool _, _, _, hv => hv.pure rfl
  | .int _ _, _, _, hv => hv.pure rfl
  | .str _, _, _, hv => hv.pure rfl
  | .nilS, _, _, hv => hv.pure rfl
  | .list _ _, _, _, hv => hv.pure rfl
  | .ref _, _, _, hv => hv.pure rfl
  | .nilF, _, _, hv => hv.pure rfl
  | .nilP, _, _, hv => hv.pure rfl
  | .nilI, _, _, hv => hv.pure rfl
theorem RepL.toExt {L : Lay} {ks : List (Nat × Nat)} {ss : List Slot} (ht : Tied L ks ss) : ∀ (ps : List PV) {vs : List Value}, extOkL ks.length ps = true → RepL H L vs (instL (keyAt ks) ps) → RepL H (extLay ss) vs ps
  | [], _, _, h => by cases h; exact .nil _
  | p :: ps, _, hp, h => by
    simp only [extOkL, Bool.and_eq_true] at hp
    simp only [instL] at h
    cases h with
    | cons _ v _ vs _ h t => exact .cons _ _ _ _ _ (Rep.toExt ht p hp.1 h) (RepL.toExt ht ps hp.2 t)
end

mutual
theorem Rep.ofExt {L : Lay} {ks : List (Nat × Nat)} {ss : List Slot} (ht : Tied L ks ss) (hu : ∀ k sl, L.at_ k = some sl → L.used sl.gen) : ∀ (p : PV) {v : Value}, p.extOk ks.length = true → Rep H (extLay ss) v p → Rep H L v (p.inst (keyAt ks))
  | .row k g n, v, hp, hv => by
    simp only [PV.extOk, Bool.and_eq_true, decide_eq_true_eq] at hp
    obtain ⟨⟨h1, h2⟩, rfl⟩ := hp
    obtain ⟨s, sl, e0, e1, e2, e3⟩ := ht.look h1 h2
    subst e3
    cases hv with
    | row _ _ _ _ _ _ hs hx =>
      simp only [PV.inst]
      refine .row _ _ _ _ _ (by rw [← e2]; exact hu _ _ e1) hs fun s' q1 q2 => ?_
      rw [e1] at q1; cases q1
      have q5 := hx _ e0 rfl
      exact q5
  | .box k g off, v, hp, hv => by
    simp only [PV.extOk, Bool.and_eq_true, decide_eq_true_eq] at hp
    obtain ⟨⟨h1, h2⟩, rfl⟩ := hp
    obtain ⟨s, sl, e0, e1, e2, e3⟩ := ht.look h1 h2
    subst e3
    cases hv with
    | box _ _ _ _ _ _ hs hx =>
      simp only [PV.inst]
      refine .box _ _ _ _ _ (by rw [← e2]; exact hu _ _ e1) hs fun s' b q1 q2 q3 => ?_
      rw [e1] at q1; cases q1
      have q5 := hx _ b e0 rfl q3
      exact q5
  | .elt k g i off, v, hp, hv => by
    simp only [PV.extOk, Bool.and_eq_true, decide_eq_true_eq] at hp
    obtain ⟨⟨h1, h2⟩, rfl⟩ := hp
    obtain ⟨s, sl, e0, e1, e2, e3⟩ := ht.look h1 h2
    subst e3
    cases hv with
    | elt _ _ _ _ _ _ _ hs hx =>
      simp only [PV.inst]
      refine .elt _ _ _ _ _ _ (by rw [← e2]; exact hu _ _ e1) hs fun s' b q1 q2 q3 => ?_
      rw [e1] at q1; cases q1
      have q5 := hx _ b e0 rfl q3
      exact q5
  | .selfP k g, v, hp, hv => by
    simp only [PV.extOk, Bool.and_eq_true, decide_eq_true_eq] at hp
    obtain ⟨⟨h1, h2⟩, rfl⟩ := hp
    obtain ⟨s, sl, e0, e1, e2, e3⟩ := ht.look h1 h2
    subst e3
    cases hv with
    | selfP _ _ _ _ _ hs hx =>
      simp only [PV.inst]
      refine .selfP _ _ _ _ (by rw [← e2]; exact hu _ _ e1) hs (hx.imp id fun hx s' b q1 q2 q3 => ?_)
      rw [e1] at q1; cases q1
      have q5 := hx _ b e0 rfl q3
      exact q5
  | .agg cs, v, hp, hv => by
    simp only [PV.inst]
    cases hv with
    | agg _ vs _ hr => exact .agg _ _ _ (RepL.ofExt ht hu cs (by simpa [PV.extOk] using hp) hr)
  | .tup cs, v, hp, hv => by
    simp only [PV.inst]
    cases hv with
    | tup _ vs _ hr => exact .tup _ _ _ (RepL.ofExt ht hu cs (by simpa [PV.extOk] using hp) hr)
  | .fn f cs, v, hp, hv => by
    simp only [PV.inst]
    cases hv with
    | fn _ _ vs _ hr => exact .fn _ _ _ _ (RepL.ofExt ht hu cs (by simpa [PV.extOk] using hp) hr)
  | .iface t p, v, hp, hv => by
    simp only [PV.inst]
    cases hv with
    | iface _ _ v _ hr => exact .iface _ _ _ _ (Rep.ofExt ht hu p (by simpa [PV.extOk] using hp) hr)
  | .own _ _, v, hp, _ => by simp [PV.extOk] at hp
  | .undef, _, _, hv => hv.pure rfl
  | .bool _, _, _, hv => hv.pure rfl
  | .int _ _, _, _, hv => hv.pure rfl
  | .str _, _, _, hv => hv.pure rfl
  | .nilS, _, _, hv => hv.pure rfl
  | .list _ _, _, _, hv => hv.pure rfl
  | .ref _, _, _, hv => hv.pure rfl
  | .nilF, _, _, hv => hv.pure rfl
  | .nilP, _, _, hv => hv.pure rfl
  | .nilI, _, _, hv => hv.pure rfl
theorem RepL.ofExt {L : Lay} {ks : List (Nat × Nat)} {ss : List Slot} (ht : Tied L ks ss) (hu : ∀ k sl, L.at_ k = some sl → L.used sl.gen) : ∀ (ps : List PV) {vs : List Value}, extOkL ks.length ps = true → RepL H (extLay ss) vs ps → RepL H L vs (instL (keyAt ks) ps)
  | [], _, _, h => by cases h; exact .nil _
  | p :: ps, _, hp, h => by
    simp only [extOkL, Bool.and_eq_true] at hp
    simp only [instL]
    cases h with
    | cons _ v _ vs _ h t => exact .cons _ _ _ _ _ (Rep.ofExt ht hu p hp.1 h) (RepL.ofExt ht hu ps hp.2 t)
end

theorem EntRep.toExt {L : Lay} {ks : List (Nat × Nat)} {ss : List Slot} (ht : Tied L ks ss) {e : Ent} {sl : Slot} (hp : e.extOk ks.length = true) (h : EntRep H L w sl (e.inst (keyAt ks))) : EntRep H (extLay ss) w { sl with gen := 0 } e := by
  cases e with
  | var tv cs =>
    obtain ⟨b, vs, t, h1, h2, h3, h4⟩ := h
    exact ⟨b, vs, t, h1, h2, h3, RepL.toExt ht cs hp h4⟩
  | row f sz xs =>
    cases f with
    | true => simp [Ent.extOk] at hp
    | false => exact h
  | iter s pos => exact h
  | moved sz xs => exact h
  | bytes bt bs => exact h
  | movedB bt bs => exact h
  | gone => trivial
theorem EntRep.ofExt {L : Lay} {ks : List (Nat × Nat)} {ss : List Slot} (ht : Tied L ks ss) (hu : ∀ k sl, L.at_ k = some sl → L.used sl.gen) {e : Ent} {sl : Slot} {g : Nat} (hp : e.extOk ks.length = true) (h : EntRep H (extLay ss) w sl e) : EntRep H L w { sl with gen := g } (e.inst (keyAt ks)) := by
  cases e with
  | var tv cs =>
    obtain ⟨b, vs, t, h1, h2, h3, h4⟩ := h
    exact ⟨b, vs, t, h1, h2, h3, RepL.ofExt ht hu cs hp h4⟩
  | row f sz xs =>
    cases f with
    | true => simp [Ent.extOk] at hp
    | false => exact h
  | iter s pos => exact h
  | moved sz xs => exact h
  | bytes bt bs => exact h
  | movedB bt bs => exact h
  | gone => trivial

theorem bc_sound (hR : Rel B F H L s a w) (hF : F g) (hk : k < 1000) (hd : ∀ d, dst = some d → d < a.tmps.size) (f : Nat) (args : List PV) (vs : List Value) (hvs : RepL H L vs args)
    {ks : List (Nat × Nat)} {es es' : List Ent} {args' : List PV} {r : PV} (hfind : findAll (keyAt ks) ks.length s.sto ks es) (hnd : (ks.map (·.1)).Nodup) (hext : extOkL ks.length args' = true)
    (hw : WkL args (instL (keyAt ks) args')) (hc : BC P f args' es r es') (hno : (notOwn r || !anyMoves es') = true)
    (hK : K (({ s with sto := setAll s.sto (newKs g ks es') (es'.map (Ent.inst (keyAt (newKs g ks es')))) } : St).back dst k g r)) (R : Ending → World → Prop)
    (hnext : ∀ v w' H' L' s', Rel B (fun x => F x ∧ x ≠ g) H' L' s' (a.put dst v) w' → K s' → R (.returned v) w') : Calls P f vs.toArray w R := by
  obtain ⟨hlen, hall⟩ := findAll_at ks es s.sto hfind
  obtain ⟨hcallable, ⟨hlen', hext'⟩, hcall⟩ := hc
  have hslot : ∀ (i k g : Nat), ks[i]? = some (k, g) → ∃ sl, L.at_ k = some sl ∧ sl.gen = g := by
    intro i k g hi
    have hie : i < es.length := by rw [hlen]; exact get_lt hi
    obtain ⟨h1, _⟩ := hall i k g es[i] hi (by simp [List.getElem?_eq_getElem hie])
    obtain ⟨sl, e1, e2, _⟩ := hR.sto k g _ h1
    exact ⟨sl, e1, e2⟩
  let ss : List Slot := ks.map fun x => match L.at_ x.1 with | some sl => { sl with gen := 0 } | none => ⟨0, none, 0, 0⟩
  have hss : ss.length = ks.length := by simp [ss]
  have htied : Tied L ks ss := by
    refine ⟨hss, fun i k g x hi hx => ?_⟩
    obtain ⟨sl, e1, e2⟩ := hslot i k g hi
    simp only [ss, List.getElem?_map, hi, Option.map_some, e1, Option.some.injEq] at hx
    subst hx
    exact ⟨sl, e1, e2, rfl⟩
  have hsskey : ∀ (i : Nat) (x : Slot), ss[i]? = some x → ∃ k g, ks[i]? = some (k, g) := by
    intro i x hx
    have : i < ks.length := by rw [← hss]; exact get_lt hx
    exact ⟨ks[i].1, ks[i].2, by simp [List.getElem?_eq_getElem this]⟩
  have hssgen : ∀ x ∈ ss, x.gen = 0 := by
    intro x hx
    obtain ⟨y, _, rfl⟩ := List.mem_map.1 hx
    split <;> rfl
  refine (hcall H w ss vs hR.agree (glob_grow hR.grow B.glob) (by rw [hss, hlen]) (fun x hx => ⟨hssgen x hx, fun b hb => ?_⟩) ?_ ?_ (RepL.toExt htied args' hext (hvs.wk hw))).mono ?_
  · obtain ⟨i, hi⟩ := List.mem_iff_getElem?.1 hx
    obtain ⟨k', g', hkk⟩ := hsskey i x hi
    obtain ⟨sl, e1, e2, e3⟩ := htied.2 i k' g' x hkk hi
    exact hR.low k' sl b e1 (by rw [e3] at hb; exact hb)
  · intro i j si sj b h1 h2 h3 h4
    obtain ⟨k1, g1, q1⟩ := hsskey i si h1
    obtain ⟨k2, g2, q2⟩ := hsskey j sj h2
    obtain ⟨sl1, e1, _, e3⟩ := htied.2 i k1 g1 si q1 h1
    obtain ⟨sl2, e1', _, e3'⟩ := htied.2 j k2 g2 sj q2 h2
    have hkk := hR.sep k1 k2 sl1 sl2 b e1 e1' (by rw [e3] at h3; exact h3) (by rw [e3'] at h4; exact h4)
    subst hkk
    have hi' : i < (ks.map (·.1)).length := by simpa using get_lt q1
    have hj' : j < (ks.map (·.1)).length := by simpa using get_lt q2
    exact (List.getElem_inj hnd (h₀ := hi') (h₁ := hj')).1 (by
      have a1 : (ks.map (·.1))[i]? = some k1 := by simp [q1]
      have a2 : (ks.map (·.1))[j]? = some k1 := by simp [q2]
      rw [List.getElem?_eq_getElem hi'] at a1
      rw [List.getElem?_eq_getElem hj'] at a2
      simp only [Option.some.injEq] at a1 a2
      rw [a1, a2])
  · intro i x e hx he
    obtain ⟨k', g', hkk⟩ := hsskey i x hx
    obtain ⟨h1, h2⟩ := hall i k' g' e hkk he
    obtain ⟨sl, e1, e2, e3⟩ := hR.sto k' g' _ h1
    obtain ⟨sl', f1, f2, f3⟩ := htied.2 i k' g' x hkk hx
    rw [e1] at f1
    cases f1
    rw [f3]
    exact e3.toExt htied h2
  · rintro e w' ⟨v, H2, ss', rfl, q1, q2, q3, q4, q7, q5, q6⟩
    let L2 : Lay := ⟨fun x => L.used x ∨ (anyMoves es' = true ∧ x = g), layAll L.at_ (newKs g ks es') ss'⟩
    have hnl : (newKs g ks es').length = ks.length := newKs_len _ _ _
    have hnd2 : ((newKs g ks es').map (·.1)).Nodup := by rw [newKs_fst]; exact hnd
    have htied2 : Tied L2 (newKs g ks es') ss' := by
      refine ⟨by rw [q7.len, hss, hnl], fun i k' g' x hi hx => ?_⟩
      refine ⟨{ x with gen := g' }, layAll_at _ _ _ hnd2 i k' g' x hi hx, rfl, ?_⟩
      have := q7.gen x (List.mem_of_getElem? hx)
      cases x
      simp_all
    have hu2 : ∀ j sl, L2.at_ j = some sl → L2.used sl.gen := by
      intro j sl hj
      by_cases hm : j ∈ (newKs g ks es').map (·.1)
      · obtain ⟨⟨k', g'⟩, hmem, rfl⟩ := List.mem_map.1 hm
        obtain ⟨i, hi⟩ := List.mem_iff_getElem?.1 hmem
        have hlt : i < ss'.length := by rw [q7.len, hss, ← hnl]; exact get_lt hi
        have hx : ss'[i]? = some ss'[i] := List.getElem?_eq_getElem hlt
        have hj' : layAll L.at_ (newKs g ks es') ss' k' = some sl := hj
        rw [layAll_at _ _ _ hnd2 i k' g' _ hi hx] at hj'
        cases hj'
        have hlk : i < ks.length := by rw [← hnl]; exact get_lt hi
        have hke : ks[i]? = some (ks[i].1, ks[i].2) := by simp [List.getElem?_eq_getElem hlk]
        have hee : es'[i]? = some (es'[i]'(by omega)) := List.getElem?_eq_getElem (by omega)
        have hn := newKs_at g ks es' i _ _ _ hke hee
        rw [hi] at hn
        simp only [Option.some.injEq, Prod.mk.injEq] at hn
        show L.used g' ∨ (anyMoves es' = true ∧ g' = g)
        rw [hn.2]
        split
        · rename_i hmv
          exact .inr ⟨anyMoves_mem (List.mem_of_getElem? hee) hmv, rfl⟩
        · obtain ⟨sl0, e1, e2⟩ := hslot i _ _ hke
          rw [← e2]
          exact .inl (hR.used _ _ e1)
      · have hj' : layAll L.at_ (newKs g ks es') ss' j = some sl := hj
        rw [layAll_other _ _ _ _ hm] at hj'
        exact .inl (hR.used j sl hj')
    have h2 := hR.relay (g := g) ks es' (fun _ => hF) ss ss' (by omega) hss hnd htied.2 q1 q2 q3 q4 q7 (by
      intro i k' g' x e hi hx he
      exact (q5 i x e hx he).ofExt htied2 hu2 (by rw [hnl, ← hlen]; exact hext' e (List.mem_of_getElem? he)))
    by_cases hown : notOwn r = true
    · have hb : (({ s with sto := setAll s.sto (newKs g ks es') (es'.map (Ent.inst (keyAt (newKs g ks es')))) } : St).back dst k g r) = ({ s with sto := setAll s.sto (newKs g ks es') (es'.map (Ent.inst (keyAt (newKs g ks es')))) } : St).put dst r := by
        cases r <;> first
          | rfl
          | simp [notOwn] at hown
      rw [hb] at hK
      have hv : Rep H2 Lay.none v r := by
        cases r <;> first
          | exact q6
          | simp [notOwn] at hown
      exact hnext v w' H2 _ _ ((h2.put hd hv.none).less fun x hx => ⟨hx.1, fun _ => hx.2⟩) hK
    · have hno2 : anyMoves es' = false := by
        have : notOwn r = false := by simpa using hown
        rw [this] at hno
        simpa using hno
      -- nothing moved: the stamp is still free
      have h3 : Rel B F H2 L2 { s with sto := setAll s.sto (newKs g ks es') (es'.map (Ent.inst (keyAt (newKs g ks es')))) } a w' := h2.less fun x hx => ⟨hx, fun h => by rw [hno2] at h; cases h⟩
      obtain ⟨L3, h4⟩ := back_sound h3 hF hk hd (n0 := w.heap.size) hR.ext.size (fun j x b hx hxb => by
        by_cases hm : j ∈ (newKs g ks es').map (·.1)
        · obtain ⟨⟨k', g'⟩, hmem, rfl⟩ := List.mem_map.1 hm
          obtain ⟨i, hi⟩ := List.mem_iff_getElem?.1 hmem
          have hlt : i < ss'.length := by rw [q7.len, hss, ← hnl]; exact get_lt hi
          have hx1 : ss'[i]? = some ss'[i] := List.getElem?_eq_getElem hlt
          have hj' : layAll L.at_ (newKs g ks es') ss' k' = some x := hx
          rw [layAll_at _ _ _ hnd2 i k' g' _ hi hx1] at hj'
          cases hj'
          have hlk : i < ks.length := by rw [← hnl]; exact get_lt hi
          have hke : ks[i]? = some (ks[i].1, ks[i].2) := by simp [List.getElem?_eq_getElem hlk]
          have hee : es'[i]? = some (es'[i]'(by omega)) := List.getElem?_eq_getElem (by omega)
          have hs0 : ss[i]? = some (ss[i]'(by omega)) := List.getElem?_eq_getElem (by omega)
          rcases q7.at_ i _ _ _ hs0 hx1 hee with r | ⟨r, _⟩
          · obtain ⟨sl, e1, e2, e3⟩ := htied.2 i _ _ _ hke hs0
            have hxb' : ss'[i].block = some b := hxb
            rw [r, e3] at hxb'
            exact hR.low _ sl b e1 hxb'
          · rw [anyMoves_mem (List.mem_of_getElem? hee) r] at hno2
            cases hno2
        · have hj' : layAll L.at_ (newKs g ks es') ss' j = some x := hx
          rw [layAll_other _ _ _ _ hm] at hj'
          exact hR.low j x b hj' hxb) q6
      exact hnext v w' H2 L3 _ h4 hK

end
end Go.Proofs.YtlgjbmgmoaphjaaDoor
