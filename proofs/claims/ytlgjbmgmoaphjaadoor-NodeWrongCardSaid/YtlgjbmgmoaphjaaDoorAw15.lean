/- A call in a frame and a world does what its contract says to a state without memory. -/
import Derived.Test.YtlgjbmgmoaphjaaDoorAw14
namespace Go.Proofs.YtlgjbmgmoaphjaaDoor
set_option linter.unusedSimpArgs false
set_option linter.unusedVariables false
open Go

section
variable {P : Program} {B : Base} {F : Nat → Prop} {H : Imm} {L : Lay} {s : St} {a : Act} {w : World} {q : Bool} {dst : Option Nat} {k g : Nat} {K : St → Prop}

/-! ### Rows that are handed over to be read -/
theorem frzK_find (sto : Sto) (k j : Nat) : (sto.frzK k).find j = match sto.find j with
    | some (g, .row f sz xs) => if j = k ∧ k < 1000 then some (g, .row true sz xs) else some (g, .row f sz xs)
    | o => o := by
  unfold Sto.frzK
  cases hk : sto.find k with
  | none =>
    simp only
    cases hj : sto.find j with
    | none => rfl
    | some x =>
      obtain ⟨g, e⟩ := x
      cases e with
      | row f sz xs =>
        have : j ≠ k := fun e => by rw [e, hk] at hj; cases hj
        simp [this]
      | _ => rfl
  | some x =>
    obtain ⟨g, e⟩ := x
    cases e with
    | row f sz xs =>
      simp only
      by_cases hlt : k < 1000
      · simp only [hlt, if_true, and_true]
        by_cases hj : j = k
        · subst hj
          rw [Sto.find_upd_same, hk]
          simp
        · rw [Sto.find_upd_other _ _ _ _ _ hj]
          cases hj' : sto.find j with
          | none => rfl
          | some x => obtain ⟨g', e'⟩ := x; cases e' <;> simp [hj]
      · simp only [hlt, if_false, and_false]
        cases hj' : sto.find j with
        | none => rfl
        | some x => obtain ⟨g', e'⟩ := x; cases e' <;> rfl
    | var cs =>
      simp only
      cases hj : sto.find j with
      | none => rfl
      | some x =>
        obtain ⟨g', e'⟩ := x
        cases e' with
        | row f sz xs =>
          have : j ≠ k := fun e => by rw [e, hk] at hj; cases hj
          simp [this]
        | _ => rfl
    | iter b p =>
      simp only
      cases hj : sto.find j with
      | none => rfl
      | some x =>
        obtain ⟨g', e'⟩ := x
        cases e' with
        | row f sz xs =>
          have : j ≠ k := fun e => by rw [e, hk] at hj; cases hj
          simp [this]
        | _ => rfl

theorem frz_find : ∀ (ks : List Nat) (sto : Sto) (j : Nat), (Sto.frz ks sto).find j = match sto.find j with
    | some (g, .row f sz xs) => if j ∈ ks ∧ j < 1000 then some (g, .row true sz xs) else some (g, .row f sz xs)
    | o => o
  | [], sto, j => by
    simp only [Sto.frz]
    cases sto.find j with
    | none => rfl
    | some x => obtain ⟨g, e⟩ := x; cases e <;> simp
  | k :: ks, sto, j => by
    simp only [Sto.frz]
    rw [frz_find ks, frzK_find]
    cases sto.find j with
    | none => rfl
    | some x =>
      obtain ⟨g, e⟩ := x
      cases e with
      | row f sz xs =>
        simp only [List.mem_cons]
        by_cases h1 : j = k
        · subst h1
          by_cases h2 : j < 1000
          · simp [h2]
          · simp [h2]
        · simp only [h1, false_and, if_false, false_or]
      | _ => rfl

theorem Rel.frzK (h : Rel B F H L s a w) (k : Nat) : ∃ H', Rel B F H' L { s with sto := s.sto.frzK k } a w ∧ Grow H H' := by
  unfold Sto.frzK
  split
  · rename_i g f sz xs hf
    split
    · rename_i hk
      obtain ⟨H', h1, h2, _⟩ := h.freeze hk hf
      exact ⟨H', h1, h2⟩
    · exact ⟨H, h, .refl _⟩
  · exact ⟨H, h, .refl _⟩

theorem Rel.frz : ∀ (ks : List Nat) {H : Imm} {s : St}, Rel B F H L s a w → ∃ H', Rel B F H' L { s with sto := Sto.frz ks s.sto } a w ∧ Grow H H'
  | [], H, s, h => ⟨H, h, .refl _⟩
  | k :: ks, H, s, h => by
    obtain ⟨H1, h1, g1⟩ := h.frzK k
    obtain ⟨H2, h2, g2⟩ := Rel.frz ks h1
    exact ⟨H2, h2, g1.trans g2⟩

theorem pur0_sound (h : Rel B F H L s a w) {fnd : Nat → Option (Nat × Ent)} {ks : List Nat} (hfr : ∀ j g f sz xs, fnd j = some (g, .row f sz xs) → j ∈ ks → j < 1000 → s.sto.find j = some (g, .row true sz xs))
    {v : Value} {p : PV} (hv : Rep H L v p) (hk : ∀ j ∈ frz0 p, j ∈ ks) (hp : (pur0 fnd p).pure = true) : Rep H Lay.none v (pur0 fnd p) := by
  unfold pur0 at hp ⊢
  split at hp
  · rename_i k' g' n
    simp only [frz0, List.mem_singleton, forall_eq] at hk
    split at hp
    · rename_i g'' f sz xs hf
      split at hp
      · rename_i hc
        obtain ⟨rfl, hn, hlt⟩ := hc
        have hf' := hfr k' g' f sz xs hf hk hlt
        obtain ⟨sl, e1, e2, e3⟩ := h.sto k' g' _ hf'
        cases hv with
        | row _ _ _ _ _ hu hs hx =>
          have hv := hx sl e1 e2
          subst hv
          have := rep_frozen (L := Lay.none) (n := n) e3 0 n (Nat.zero_le _) (Nat.le_refl _) hn
          simp only [hn, hlt, and_self, if_true]
          have hval : (if sl.cap = 0 then sl.block.map (fun b => (⟨b, 0, none⟩ : Addr)) else (sl.block.map fun b => (⟨b, 0, none⟩ : Addr)).map (·.add (0 * sz))) = sl.block.map fun b => (⟨b, 0, none⟩ : Addr) := by
            split
            · rfl
            · cases sl.block <;> simp [Addr.add]
          rw [hval] at this
          simpa using this
      · simp [PV.pure] at hp
    · simp [PV.pure] at hp
  · exact hv.pure hp

theorem pur0_list (h : Rel B F H L s a w) {fnd : Nat → Option (Nat × Ent)} {ks : List Nat} (hfr : ∀ j g f sz xs, fnd j = some (g, .row f sz xs) → j ∈ ks → j < 1000 → s.sto.find j = some (g, .row true sz xs)) :
    ∀ {vs : List Value} {ps : List PV}, RepL H L vs ps → (∀ j ∈ ps.flatMap frz0, j ∈ ks) → pureL (ps.map (pur0 fnd)) = true → RepL H Lay.none vs (ps.map (pur0 fnd))
  | _, _, .nil _, _, _ => .nil _
  | _, _, .cons _ v p vs ps hv ht, hk, hp => by
    simp only [List.map_cons, pureL, Bool.and_eq_true] at hp
    simp only [List.flatMap_cons, List.mem_append] at hk
    exact .cons _ _ _ _ _ (pur0_sound h hfr hv (fun j hj => hk j (.inl hj)) hp.1) (pur0_list h hfr ht (fun j hj => hk j (.inr hj)) hp.2)

theorem pur1_sound (h : Rel B F H L s a w) {fnd : Nat → Option (Nat × Ent)} {ks : List Nat} (hfr : ∀ j g f sz xs, fnd j = some (g, .row f sz xs) → j ∈ ks → j < 1000 → s.sto.find j = some (g, .row true sz xs))
    {v : Value} {p : PV} (hv : Rep H L v p) (hk : ∀ j ∈ frz1 p, j ∈ ks) (hp : (pur1 fnd p).pure = true) : Rep H Lay.none v (pur1 fnd p) := by
  unfold pur1 at hp ⊢
  split at hp
  · rename_i cs
    cases hv with
    | agg _ vs _ hr => exact .agg _ _ _ (pur0_list h hfr hr (by simpa [frz1] using hk) (by simpa [PV.pure] using hp))
  · rename_i hne
    refine pur0_sound h hfr hv (fun j hj => hk j ?_) hp
    cases p <;> first
      | exact hj
      | exact (hne _ rfl).elim

theorem pur1_list (h : Rel B F H L s a w) {fnd : Nat → Option (Nat × Ent)} {ks : List Nat} (hfr : ∀ j g f sz xs, fnd j = some (g, .row f sz xs) → j ∈ ks → j < 1000 → s.sto.find j = some (g, .row true sz xs)) :
    ∀ {vs : List Value} {ps : List PV}, RepL H L vs ps → (∀ j ∈ ps.flatMap frz1, j ∈ ks) → pureL (ps.map (pur1 fnd)) = true → RepL H Lay.none vs (ps.map (pur1 fnd))
  | _, _, .nil _, _, _ => .nil _
  | _, _, .cons _ v p vs ps hv ht, hk, hp => by
    simp only [List.map_cons, pureL, Bool.and_eq_true] at hp
    simp only [List.flatMap_cons, List.mem_append] at hk
    exact .cons _ _ _ _ _ (pur1_sound h hfr hv (fun j hj => hk j (.inl hj)) hp.1) (pur1_list h hfr ht (fun j hj => hk j (.inr hj)) hp.2)

/-- After rows were frozen, what is found. -/
theorem frz_found (sto : Sto) (ks : List Nat) : ∀ j g f sz xs, sto.find j = some (g, .row f sz xs) → j ∈ ks → j < 1000 → (Sto.frz ks sto).find j = some (g, .row true sz xs) := by
  intro j g f sz xs h1 h2 h3
  rw [frz_find, h1]
  simp [h2, h3]

/-! ### What a call hands back -/
theorem back_sound (hR : Rel B F H L s a w) (hF : F g) (hk : k < 1000) (hd : ∀ d, dst = some d → d < a.tmps.size) {n0 : Nat} (hn0 : B.w0.heap.size ≤ n0) (hlow : ∀ j x b, L.at_ j = some x → x.block = some b → b < n0)
    {v : Value} {r : PV} (hr : ResRep H w n0 v r) : ∃ L', Rel B (fun x => F x ∧ x ≠ g) H L' (s.back dst k g r) (a.put dst v) w := by
  have plain : Rep H Lay.none v r → (s.back dst k g r) = s.put dst r → ∃ L', Rel B (fun x => F x ∧ x ≠ g) H L' (s.back dst k g r) (a.put dst v) w := by
    intro hv he
    rw [he]
    exact ⟨L, (hR.put hd hv.none).less (fun _ h => h.1)⟩
  by_cases hown : ∃ sz xs, r = .own sz xs
  · obtain ⟨sz, xs, rfl⟩ := hown
    obtain ⟨h1, h2⟩ := hr
    rcases h2 with ⟨rfl, rfl⟩ | ⟨b, cap, vs, rest, t, g1, g2, rfl, g3, g4, g5, g6, g7⟩
    · let sl : Slot := ⟨g, none, 0, sz⟩
      have hset := hR.setNew (sl := sl) (k := k) (e := .row false sz []) (H' := H) (w' := w) hk hF (.refl _) hR.agree (fun b c hc => .inl hc) (Nat.le_refl _) (fun _ _ _ => rfl) rfl rfl rfl (by simp [sl])
        ⟨rfl, by simp, by simp, .inl ⟨rfl, rfl⟩⟩
      have hput := hset.put (dst := dst) (v := .slice none 0 0) (p := .row k g 0) hd (.row _ _ _ _ _ (.inr rfl) ⟨_, _, rfl⟩ fun s' hs' _ => by
        simp only [if_true, Option.some.injEq] at hs'
        subst hs'
        rfl)
      refine ⟨⟨fun x => L.used x ∨ x = sl.gen, fun j => if j = k then some sl else L.at_ j⟩, ?_⟩
      have : (s.back dst k g (.own sz [])) = (s.set k g (.row false sz [])).put dst (.row k g 0) := by cases dst <;> rfl
      rw [this]
      exact hput
    · let sl : Slot := ⟨g, some b, cap, sz⟩
      have hset := hR.setNew (sl := sl) (k := k) (e := .row false sz xs) (H' := H) (w' := w) hk hF (.refl _) hR.agree (fun b c hc => .inl hc) (Nat.le_refl _) (fun _ _ _ => rfl) rfl rfl rfl (fun c hc => by
          simp only [sl, Option.some.injEq] at hc
          subst hc
          exact ⟨(Array.getElem?_eq_some_iff.1 g3).1, .inl ⟨Nat.le_trans hn0 g1, fun j x hx hxb => by have := hlow j x _ hx hxb; omega⟩⟩)
        ⟨rfl, h1, g7, .inr ⟨b, vs, rest, t, rfl, g2, g3, g4, g5, g6⟩⟩
      have hput := hset.put (dst := dst) (v := .slice (some ⟨b, 0, none⟩) xs.length cap) (p := .row k g xs.length) hd (.row _ _ _ _ _ (.inr rfl) ⟨_, _, rfl⟩ fun s' hs' _ => by
        simp only [if_true, Option.some.injEq] at hs'
        subst hs'
        rfl)
      refine ⟨⟨fun x => L.used x ∨ x = sl.gen, fun j => if j = k then some sl else L.at_ j⟩, ?_⟩
      have : (s.back dst k g (.own sz xs)) = (s.set k g (.row false sz xs)).put dst (.row k g xs.length) := by cases dst <;> rfl
      rw [this]
      exact hput
  · refine plain ?_ ?_
    · cases r <;> first
        | exact hr
        | exact (hown ⟨_, _, rfl⟩).elim
    · cases r <;> first
        | rfl
        | exact (hown ⟨_, _, rfl⟩).elim

/-! ### The call itself -/
theorem run_callFunc {f : Nat} (hc : Callable P f) (args : Array Value) : (callFunc f args).run P w = .ok (.enter f args) w := by
  obtain ⟨fn, h1, h2, h3⟩ := hc
  simp only [callFunc, Sem.run_bind, run_program, Result.andThen_ok, h1, h3, h2, Bool.false_eq_true, if_false, Sem.run_pure]

theorem Agree.low {H : Imm} {w : World} (h : Agree H w) {b : Nat} {c : Array Value} (hc : H b = some c) : b < w.heap.size := by
  obtain ⟨t, fr, ht⟩ := h b c hc
  exact (Array.getElem?_eq_some_iff.1 ht).1

/-- A call of what writes nothing of ours. -/
theorem pc_sound (hR : Rel B F H L s a w) (hF : F g) (hk : k < 1000) (hd : ∀ d, dst = some d → d < a.tmps.size) (f : Nat) (args : List PV) (vs : List Value) (hvs : RepL H L vs args)
    {args' : List PV} {r : PV} (hp : pureL (args.map (pur1 s.sto.find)) = true) (hw : WkL (args.map (pur1 s.sto.find)) args') (hc : PC P f args' r)
    (hK : K (({ s with sto := Sto.frz (args.flatMap frz1) s.sto } : St).back dst k g r)) (R : Ending → World → Prop)
    (hnext : ∀ v w' H' L' s', Rel B (fun x => F x ∧ x ≠ g) H' L' s' (a.put dst v) w' → K s' → R (.returned v) w') : Calls P f vs.toArray w R := by
  obtain ⟨H1, h1, g1⟩ := hR.frz (args.flatMap frz1)
  have hvs1 : RepL H1 L vs args := hvs.mono g1 (.refl _)
  have hpur := (pur1_list h1 (fnd := s.sto.find) (ks := args.flatMap frz1) (frz_found s.sto _) hvs1 (fun j hj => hj) hp).wk hw
  obtain ⟨_, _, hcall⟩ := hc
  refine (hcall H1 w [] vs h1.agree (glob_grow h1.grow B.glob) rfl (by simp) (by simp) (by simp) (hpur.mono (.refl _) (.none _))).mono ?_
  rintro e w' ⟨v, H2, rfl, q1, q2, q3, q4, q5, q6⟩
  have hq : Quiet w w' := q4.weaken (by simp)
  have h2 := h1.quiet q1 q2 q3 hq
  obtain ⟨L', h3⟩ := back_sound h2 hF hk hd (n0 := w.heap.size) hR.ext.size hR.low q6
  exact hnext v w' H2 L' _ h3 hK

/-! ### Calls of what writes behind keys that are handed over -/
theorem setAll_other : ∀ (ks : List (Nat × Nat)) (es : List Ent) (sto : Sto) (j : Nat), j ∉ ks.map (·.1) → (setAll sto ks es).find j = sto.find j
  | [], es, sto, j, _ => by cases es <;> rfl
  | (k, g) :: ks, [], sto, j, _ => rfl
  | (k, g) :: ks, e :: es, sto, j, h => by
    simp only [List.map_cons, List.mem_cons, not_or] at h
    simp only [setAll]
    rw [setAll_other ks es _ j h.2, Sto.find_upd_other _ _ _ _ _ h.1]

theorem setAll_at : ∀ (ks : List (Nat × Nat)) (es : List Ent) (sto : Sto), (ks.map (·.1)).Nodup → ∀ (i k g : Nat) (e : Ent), ks[i]? = some (k, g) → es[i]? = some e → (setAll sto ks es).find k = some (g, e)
  | [], es, sto, _, i, k, g, e, h, _ => by simp at h
  | (k', g') :: ks, [], sto, _, i, k, g, e, _, h => by simp at h
  | (k', g') :: ks, e' :: es, sto, hn, 0, k, g, e, h1, h2 => by
    simp only [List.getElem?_cons_zero, Option.some.injEq, Prod.mk.injEq] at h1 h2
    obtain ⟨rfl, rfl⟩ := h1
    subst h2
    simp only [List.map_cons, List.nodup_cons] at hn
    simp only [setAll]
    rw [setAll_other ks es _ _ hn.1, Sto.find_upd_same]
  | (k', g') :: ks, e' :: es, sto, hn, i + 1, k, g, e, h1, h2 => by
    simp only [List.map_cons, List.nodup_cons] at hn
    simp only [setAll]
    exact setAll_at ks es _ hn.2 i k g e (by simpa using h1) (by simpa using h2)

theorem Rel.setMany (h : Rel B F H L s a w) (ks : List (Nat × Nat)) (es : List Ent) (hlen : es.length = ks.length) (hnd : (ks.map (·.1)).Nodup) (hsl : ∀ i k g : Nat, ks[i]? = some (k, g) → ∃ sl, L.at_ k = some sl ∧ sl.gen = g)
    {H' : Imm} {w' : World} (hH : Grow H H') (hA : Agree H' w') (hn : ∀ b c, H' b = some c → H b = some c ∨ w.heap.size ≤ b)
    (he : Ext (fun b => ∃ (i k g : Nat) (sl : Slot), ks[i]? = some (k, g) ∧ L.at_ k = some sl ∧ sl.block = some b) w w')
    (hes : ∀ (i k g : Nat) (sl : Slot) (e : Ent), ks[i]? = some (k, g) → L.at_ k = some sl → es[i]? = some e → EntRep H' L w' sl e) : Rel B F H' L { s with sto := setAll s.sto ks es } a w' := by
  refine
    { env := fun i => (h.env i).mono hH (.refl _)
      agree := hA
      sto := ?_, sep := h.sep, low := fun j x b hx hxb => Nat.lt_of_lt_of_le (h.low j x b hx hxb) he.size, used := h.used, free := h.free, mine := h.mine, ext0 := h.ext0
      grow := h.grow.trans hH
      imm := ?_, ext := ?_ }
  · intro j g x hx
    by_cases hj : j ∈ ks.map (·.1)
    · obtain ⟨⟨k, g'⟩, hmem, rfl⟩ := List.mem_map.1 hj
      obtain ⟨i, hi⟩ := List.mem_iff_getElem?.1 hmem
      have hie : i < es.length := by rw [hlen]; exact get_lt hi
      have hat := setAll_at ks es s.sto hnd i k g' es[i] hi (by simp [List.getElem?_eq_getElem hie])
      rw [hat] at hx
      simp only [Option.some.injEq, Prod.mk.injEq] at hx
      obtain ⟨rfl, rfl⟩ := hx
      obtain ⟨sl, e1, e2⟩ := hsl i k g' hi
      exact ⟨sl, e1, e2, hes i k g' sl _ hi e1 (by simp [List.getElem?_eq_getElem hie])⟩
    · rw [setAll_other ks es s.sto j hj] at hx
      obtain ⟨o, h1, h2, h3⟩ := h.sto j g x hx
      refine ⟨o, h1, h2, h3.keep hH (.refl _) fun b hob => ?_⟩
      have hlt := h.low j o b h1 hob
      refine ⟨he.old b hlt ?_, fun hnone => ?_⟩
      · rintro ⟨i, k, g', sl, q1, q2, q3⟩
        have := h.sep j k o sl b h1 q2 hob q3
        subst this
        exact hj (List.mem_map.2 ⟨(j, g'), List.mem_of_getElem? q1, rfl⟩)
      · cases hc : H' b with
        | none => rfl
        | some c =>
          rcases hn b c hc with h4 | h4
          · rw [hnone] at h4; cases h4
          · omega
  · intro b c hc
    rcases hn b c hc with h4 | h4
    · exact h.imm b c h4
    · exact .inr (Nat.le_trans h.ext.size h4)
  · refine ⟨Nat.le_trans h.ext.size he.size, fun b hb1 hb2 => ?_, he.out.trans h.ext.out, he.os.trans h.ext.os, he.tape.trans h.ext.tape⟩
    have hlt : b < w.heap.size := Nat.lt_of_lt_of_le hb1 h.ext.size
    refine (he.old b hlt ?_).trans (h.ext.old b hb1 hb2)
    rintro ⟨i, k, g', sl, q1, q2, q3⟩
    rcases h.mine k sl b q2 q3 with h6 | h6
    · omega
    · exact hb2 h6.2

theorem findAll_at : ∀ (ks : List (Nat × Nat)) (es : List Ent) (sto : Sto), findAll sto ks es → es.length = ks.length ∧ ∀ (i k g : Nat) (e : Ent), ks[i]? = some (k, g) → es[i]? = some e → sto.find k = some (g, e) ∧ e.pure = true
  | [], [], sto, _ => ⟨rfl, fun i k g e h => by simp at h⟩
  | [], _ :: _, sto, h => h.elim
  | (k, g) :: ks, [], sto, h => h.elim
  | (k, g) :: ks, e :: es, sto, h => by
    obtain ⟨h1, h2, h3⟩ := h
    obtain ⟨h4, h5⟩ := findAll_at ks es sto h3
    refine ⟨by simp [h4], fun i k' g' e' q1 q2 => ?_⟩
    cases i with
    | zero =>
      simp only [List.getElem?_cons_zero, Option.some.injEq, Prod.mk.injEq] at q1 q2
      obtain ⟨rfl, rfl⟩ := q1
      subst q2
      exact ⟨h1, h2⟩
    | succ i => exact h5 i k' g' e' (by simpa using q1) (by simpa using q2)

theorem EntRep.pure {H : Imm} {L L' : Lay} {w : World} {sl sl' : Slot} {e : Ent} (h : EntRep H L w sl e) (hp : e.pure = true) (hb : sl'.block = sl.block) (hc : sl'.cap = sl.cap) (hs : sl'.sz = sl.sz) : EntRep H L' w sl' e := by
  cases e with
  | var cs =>
    obtain ⟨b, vs, t, h1, h2, h3, h4⟩ := h
    exact ⟨b, vs, t, by rw [hb, h1], h2, h3, h4.pure hp⟩
  | row f sz xs =>
    cases f with
    | true => simp [Ent.pure] at hp
    | false =>
      obtain ⟨h1, h2, h3, h4⟩ := h
      refine ⟨by rw [hs, h1], h2, by rw [hc]; exact h3, ?_⟩
      rw [hb, hc]
      exact h4
  | iter s pos =>
    obtain ⟨b, h1, h2, h3⟩ := h
    exact ⟨b, by rw [hb, h1], h2, h3⟩

theorem inst0_sound {L : Lay} {ks : List (Nat × Nat)} {ss : List Slot} (hat : ∀ (i k g : Nat) (s : Slot), ks[i]? = some (k, g) → ss[i]? = some s → ∃ sl, L.at_ k = some sl ∧ sl.gen = g ∧ s.block = sl.block ∧ s.cap = sl.cap ∧ s.sz = sl.sz)
    {v : Value} {p : PV} (hp : extOnly0 ks.length p = true) (hv : Rep H L v (inst0 (keyAt ks) p)) : Rep H (extLay ss) v p := by
  have look : ∀ (k : Nat) (s : Slot), 1000 ≤ k → k < 1000 + ks.length → (extLay ss).at_ k = some s → ∃ sl, L.at_ (keyAt ks k).1 = some sl ∧ sl.gen = (keyAt ks k).2 ∧ s.block = sl.block ∧ s.cap = sl.cap ∧ s.sz = sl.sz := by
    intro k s h1 h2 h3
    simp only [extLay, h1, if_true] at h3
    have hlt : k - 1000 < ks.length := by omega
    have hk : ks[k - 1000]? = some ((keyAt ks k).1, (keyAt ks k).2) := by
      simp [keyAt, List.getD, List.getElem?_eq_getElem hlt]
    exact hat _ _ _ s hk h3
  cases p <;> simp only [extOnly0, inst0, Bool.and_eq_true, decide_eq_true_eq] at hp hv <;> first
    | exact hv.pure hp
    | skip
  case row k g n =>
    obtain ⟨⟨h1, h2⟩, rfl⟩ := hp
    cases hv with
    | row _ _ _ _ _ hu hs hx =>
      refine .row _ _ _ _ _ rfl hs fun s q1 q2 => ?_
      obtain ⟨sl, e1, e2, e3, e4, _⟩ := look k s h1 h2 q1
      rw [e3, e4]
      exact hx sl e1 e2
  case box k g off =>
    obtain ⟨⟨h1, h2⟩, rfl⟩ := hp
    cases hv with
    | box _ _ _ _ _ hu hs hx =>
      refine .box _ _ _ _ _ rfl hs fun s b q1 q2 q3 => ?_
      obtain ⟨sl, e1, e2, e3, e4, _⟩ := look k s h1 h2 q1
      exact hx sl b e1 e2 (by rw [← e3, q3])
  case elt k g i off =>
    obtain ⟨⟨h1, h2⟩, rfl⟩ := hp
    cases hv with
    | elt _ _ _ _ _ _ hu hs hx =>
      refine .elt _ _ _ _ _ _ rfl hs fun s b q1 q2 q3 => ?_
      obtain ⟨sl, e1, e2, e3, e4, e5⟩ := look k s h1 h2 q1
      rw [e5]
      exact hx sl b e1 e2 (by rw [← e3, q3])

theorem inst0_list {L : Lay} {ks : List (Nat × Nat)} {ss : List Slot} (hat : ∀ (i k g : Nat) (s : Slot), ks[i]? = some (k, g) → ss[i]? = some s → ∃ sl, L.at_ k = some sl ∧ sl.gen = g ∧ s.block = sl.block ∧ s.cap = sl.cap ∧ s.sz = sl.sz) :
    ∀ (ps : List PV) {vs : List Value}, ps.all (extOnly0 ks.length) = true → RepL H L vs (ps.map (inst0 (keyAt ks))) → RepL H (extLay ss) vs ps
  | [], _, _, h => by cases h; exact .nil _
  | p :: ps, _, hp, h => by
    simp only [List.all_cons, Bool.and_eq_true] at hp
    cases h with
    | cons _ v _ vs _ h t => exact .cons _ _ _ _ _ (inst0_sound hat hp.1 h) (inst0_list hat ps hp.2 t)

theorem inst1_sound {L : Lay} {ks : List (Nat × Nat)} {ss : List Slot} (hat : ∀ (i k g : Nat) (s : Slot), ks[i]? = some (k, g) → ss[i]? = some s → ∃ sl, L.at_ k = some sl ∧ sl.gen = g ∧ s.block = sl.block ∧ s.cap = sl.cap ∧ s.sz = sl.sz)
    {v : Value} {p : PV} (hp : extOnly1 ks.length p = true) (hv : Rep H L v (inst1 (keyAt ks) p)) : Rep H (extLay ss) v p := by
  unfold extOnly1 at hp
  split at hp
  · rename_i cs
    simp only [inst1] at hv
    cases hv with
    | agg _ vs _ hr => exact .agg _ _ _ (inst0_list hat cs hp hr)
  · rename_i hne
    refine inst0_sound hat hp ?_
    cases p <;> first
      | exact hv
      | exact (hne _ rfl).elim

theorem inst1_list {L : Lay} {ks : List (Nat × Nat)} {ss : List Slot} (hat : ∀ (i k g : Nat) (s : Slot), ks[i]? = some (k, g) → ss[i]? = some s → ∃ sl, L.at_ k = some sl ∧ sl.gen = g ∧ s.block = sl.block ∧ s.cap = sl.cap ∧ s.sz = sl.sz) :
    ∀ (ps : List PV) {vs : List Value}, ps.all (extOnly1 ks.length) = true → RepL H L vs (ps.map (inst1 (keyAt ks))) → RepL H (extLay ss) vs ps
  | [], _, _, h => by cases h; exact .nil _
  | p :: ps, _, hp, h => by
    simp only [List.all_cons, Bool.and_eq_true] at hp
    cases h with
    | cons _ v _ vs _ h t => exact .cons _ _ _ _ _ (inst1_sound hat hp.1 h) (inst1_list hat ps hp.2 t)

theorem bc_sound (hR : Rel B F H L s a w) (hF : F g) (hk : k < 1000) (hd : ∀ d, dst = some d → d < a.tmps.size) (f : Nat) (args : List PV) (vs : List Value) (hvs : RepL H L vs args)
    {ks : List (Nat × Nat)} {es es' : List Ent} {args' : List PV} {r : PV} (hfind : findAll s.sto ks es) (hnd : (ks.map (·.1)).Nodup) (hext : args'.all (extOnly1 ks.length) = true)
    (hw : WkL args (args'.map (inst1 (keyAt ks)))) (hc : BC P f args' es r es')
    (hK : K (({ s with sto := setAll s.sto ks es' } : St).back dst k g r)) (R : Ending → World → Prop)
    (hnext : ∀ v w' H' L' s', Rel B (fun x => F x ∧ x ≠ g) H' L' s' (a.put dst v) w' → K s' → R (.returned v) w') : Calls P f vs.toArray w R := by
  obtain ⟨hlen, hall⟩ := findAll_at ks es s.sto hfind
  obtain ⟨hcallable, ⟨hlen', hpure'⟩, hcall⟩ := hc
  -- the slots
  have hslot : ∀ (i k g : Nat), ks[i]? = some (k, g) → ∃ sl, L.at_ k = some sl ∧ sl.gen = g := by
    intro i k g hi
    have hie : i < es.length := by rw [hlen]; exact get_lt hi
    obtain ⟨h1, _⟩ := hall i k g es[i] hi (by simp [List.getElem?_eq_getElem hie])
    obtain ⟨sl, e1, e2, _⟩ := hR.sto k g _ h1
    exact ⟨sl, e1, e2⟩
  let ss : List Slot := ks.map fun x => match L.at_ x.1 with | some sl => { sl with gen := 0 } | none => ⟨0, none, 0, 0⟩
  have hss : ss.length = ks.length := by simp [ss]
  have hssat : ∀ (i k g : Nat) (s : Slot), ks[i]? = some (k, g) → ss[i]? = some s → ∃ sl, L.at_ k = some sl ∧ sl.gen = g ∧ s.block = sl.block ∧ s.cap = sl.cap ∧ s.sz = sl.sz := by
    intro i k g x hi hx
    obtain ⟨sl, e1, e2⟩ := hslot i k g hi
    simp only [ss, List.getElem?_map, hi, Option.map_some, e1, Option.some.injEq] at hx
    subst hx
    exact ⟨sl, e1, e2, rfl, rfl, rfl⟩
  have hsskey : ∀ (i : Nat) (x : Slot), ss[i]? = some x → ∃ k g, ks[i]? = some (k, g) := by
    intro i x hx
    have : i < ks.length := by rw [← hss]; exact get_lt hx
    exact ⟨ks[i].1, ks[i].2, by simp [List.getElem?_eq_getElem this]⟩
  have hssgen : ∀ x ∈ ss, x.gen = 0 := by
    intro x hx
    obtain ⟨y, _, rfl⟩ := List.mem_map.1 hx
    split <;> rfl
  refine (hcall H w ss vs hR.agree (glob_grow hR.grow B.glob) (by rw [hss, hlen]) (fun x hx => ⟨hssgen x hx, fun b hb => ?_⟩) ?_ ?_ (inst1_list hssat args' hext (hvs.wk hw))).mono ?_
  · obtain ⟨i, hi⟩ := List.mem_iff_getElem?.1 hx
    obtain ⟨k', g', hkk⟩ := hsskey i x hi
    obtain ⟨sl, e1, e2, e3, _⟩ := hssat i k' g' x hkk hi
    exact hR.low k' sl b e1 (by rw [← e3, hb])
  · intro i j si sj b h1 h2 h3 h4
    obtain ⟨k1, g1, q1⟩ := hsskey i si h1
    obtain ⟨k2, g2, q2⟩ := hsskey j sj h2
    obtain ⟨sl1, e1, _, e3, _⟩ := hssat i k1 g1 si q1 h1
    obtain ⟨sl2, e1', _, e3', _⟩ := hssat j k2 g2 sj q2 h2
    have hkk := hR.sep k1 k2 sl1 sl2 b e1 e1' (by rw [← e3, h3]) (by rw [← e3', h4])
    subst hkk
    have hi' : i < (ks.map (·.1)).length := by simpa using get_lt q1
    have hj' : j < (ks.map (·.1)).length := by simpa using get_lt q2
    exact (List.getElem_inj hnd (h₀ := hi') (h₁ := hj')).1 (by
      have a1 : (ks.map (·.1))[i]? = some k1 := by simp [q1]
      have a2 : (ks.map (·.1))[j]? = some k1 := by simp [q2]
      rw [List.getElem?_eq_getElem hi'] at a1
      rw [List.getElem?_eq_getElem hj'] at a2
      simp only [Option.some.injEq] at a1 a2
      rw [a1, a2])
  · intro i x e hx he
    obtain ⟨k', g', hkk⟩ := hsskey i x hx
    obtain ⟨h1, h2⟩ := hall i k' g' e hkk he
    obtain ⟨sl, e1, e2, e3⟩ := hR.sto k' g' e h1
    obtain ⟨sl', f1, f2, f3, f4, f5⟩ := hssat i k' g' x hkk hx
    rw [e1] at f1
    cases f1
    exact e3.pure h2 f3 f4 f5
  · rintro e w' ⟨v, H2, rfl, q1, q2, q3, q4, q5, q6⟩
    have h2 := hR.setMany ks es' (by omega) hnd hslot q1 q2 q3 (q4.weaken (by
      rintro b ⟨x, hx, hb⟩
      obtain ⟨i, hi⟩ := List.mem_iff_getElem?.1 hx
      obtain ⟨k', g', hkk⟩ := hsskey i x hi
      obtain ⟨sl, e1, e2, e3, _⟩ := hssat i k' g' x hkk hi
      exact ⟨i, k', g', sl, hkk, e1, by rw [← e3, hb]⟩)) (by
      intro i k' g' sl e hkk e1 he
      have hi : i < ss.length := by rw [hss]; exact get_lt hkk
      have hx : ss[i]? = some ss[i] := List.getElem?_eq_getElem hi
      obtain ⟨sl', f1, f2, f3, f4, f5⟩ := hssat i k' g' ss[i] hkk hx
      rw [e1] at f1
      cases f1
      exact (q5 i ss[i] e hx he).pure (hpure' e (List.mem_of_getElem? he)) f3.symm f4.symm f5.symm)
    obtain ⟨L', h3⟩ := back_sound h2 hF hk hd (n0 := w.heap.size) hR.ext.size hR.low q6
    exact hnext v w' H2 L' _ h3 hK

end
end Go.Proofs.YtlgjbmgmoaphjaaDoor
