/- Functions: a contract out of the abstract walk of the body. -/
import Derived.Test.YtlgjbmgmoaphjaaDoorAw21
namespace Go.Proofs.YtlgjbmgmoaphjaaDoor
set_option linter.unusedSimpArgs false
set_option linter.unusedVariables false
open Go

/-! ### Less is said, and speaks of no key -/
mutual
theorem Wk.pureOf {p q : PV} : Wk p q → q.pure = true → p.pure = true
  | .refl _, h => h
  | .nil _, _ => rfl
  | .list _ _ _ _, _ => rfl
  | .agg _ _ hw, h => by simp only [PV.pure] at h ⊢; exact WkL.pureOf hw h
  | .tup _ _ hw, h => by simp only [PV.pure] at h ⊢; exact WkL.pureOf hw h
theorem WkL.pureOf {ps qs : List PV} : WkL ps qs → pureL qs = true → pureL ps = true
  | .nil, _ => rfl
  | .cons _ _ _ _ hw ht, h => by
    simp only [pureL, Bool.and_eq_true] at h ⊢
    exact ⟨Wk.pureOf hw h.1, WkL.pureOf ht h.2⟩
end

def frz2 : PV → List Nat
  | .tup vs => vs.flatMap frz1
  | p => frz1 p

section
variable {B : Base} {F : Nat → Prop} {H : Imm} {L : Lay} {s : St} {a : Act} {w : World}

theorem pur2_sound (h : Rel B F H L s a w) {fnd : Nat → Option (Nat × Ent)} {ks : List Nat} (hfr : ∀ j g f sz xs, fnd j = some (g, .row f sz xs) → j ∈ ks → j < 1000 → s.sto.find j = some (g, .row true sz xs))
    {v : Value} {p : PV} (hv : Rep H L v p) (hk : ∀ j ∈ frz2 p, j ∈ ks) (hp : (pur2 fnd p).pure = true) : Rep H Lay.none v (pur2 fnd p) := by
  unfold pur2 at hp ⊢
  split at hp
  · rename_i cs
    cases hv with
    | tup _ vs _ hr => exact .tup _ _ _ (pur1_list h hfr hr (by simpa [frz2] using hk) (by simpa [PV.pure] using hp))
  · rename_i hne
    refine pur1_sound h hfr hv (fun j hj => hk j ?_) hp
    cases p <;> first
      | exact hj
      | exact (hne _ rfl).elim

/-! ### What a function hands back -/
def tupV : List Value → Value
  | [v] => v
  | vs => .tuple vs.toArray

theorem tup_rep {vs : List Value} {ps : List PV} (h : RepL H L vs ps) : Rep H L (tupV vs) (tupOf ps) := by
  match ps, h with
  | [], .nil _ => exact .tup _ _ _ (.nil _)
  | [p], .cons _ v _ _ _ h (.nil _) => exact h
  | p :: p' :: ps, .cons _ v _ _ _ h (.cons _ v' _ vs _ h' t) => exact .tup _ _ _ (.cons _ _ _ _ _ h (.cons _ _ _ _ _ h' t))

/-- A result, as the model reads it. -/
def rvSem (tmps : Array Value) : ResultVar → Sem Value
  | .tmp t => pure (tmps.getD t undef)
  | .cell a t => do loadVar t (← asAddr (tmps.getD a undef))

theorem rv_sound {P : Program} (h : Rel B F H L s a w) (r : RV) {p : PV} (hr : rvRes P s r = some p) : ∃ v, (rvSem a.tmps r.var).run P w = .ok v w ∧ Rep H L v p := by
  cases r with
  | tmp t =>
    simp only [rvRes, Option.some.injEq] at hr
    subst hr
    exact ⟨_, rfl, h.env t⟩
  | cell t ty =>
    simp only [rvRes] at hr
    split at hr
    · cases hr
    · rename_i hkd
      have hk : (tyOf P ty).kd ≠ .none := hkd
      have hx := h.env t
      unfold cellRes at hr
      split at hr
      · rename_i k g heq
        rw [heq] at hx
        generalize hv : a.tmps.getD t undef = v at hx
        split at hr
        · rename_i g' tv cs hf
          split at hr
          · rename_i hc
            obtain ⟨rfl, hlen, hpos⟩ := hc
            obtain ⟨sl, h1, h2, b, vs, et, h3, h4, h5, h6⟩ := h.sto k g _ hf
            cases hx with
            | box _ _ _ _ _ hu hs hx =>
              have hv' := hx sl b h1 h2 h3
              subst hv'
              cases ha : (tyOf P ty).agg with
              | true =>
                simp only [ha, Option.some.injEq] at hr
                subst hr
                have hl := run_loadVar_at (P := P) hk b 0 vs.toArray tv (0, 0) h5
                have hvl := h6.length
                have := hl.1 ha vs (by omega) (fun i hi => by simp)
                refine ⟨.agg vs.toArray, ?_, .agg _ _ _ h6⟩
                simp only [rvSem, RV.var, hv, asAddr, pure_bind]
                exact this
              | false =>
                simp only [ha] at hr
                match cs, hr, hlen with
                | c :: cs, hr, hlen =>
                  simp only [List.head?_cons, Option.some.injEq] at hr
                  subst hr
                  cases h6 with
                  | cons _ u _ us _ hu1 hu2 =>
                    have hl := run_loadVar_at (P := P) hk b 0 (u :: us).toArray tv (0, 0) h5
                    refine ⟨u, ?_, hu1⟩
                    simp only [rvSem, RV.var, hv, asAddr, pure_bind]
                    exact hl.2 ha u (by simp)
          · cases hr
        · cases hr
      · cases hr

theorem rvs_sound {P : Program} (h : Rel B F H L s a w) : ∀ (rs : List RV) {ps : List PV}, rvsRes P s rs = some ps → ∃ vs, ((rs.map RV.var).mapM (rvSem a.tmps)).run P w = .ok vs w ∧ RepL H L vs ps
  | [], ps, hr => by
    simp only [rvsRes, Option.some.injEq] at hr
    subst hr
    exact ⟨[], rfl, .nil _⟩
  | r :: rs, ps, hr => by
    simp only [rvsRes] at hr
    split at hr
    · rename_i p hp
      split at hr
      · rename_i qs hq
        cases hr
        obtain ⟨v, h1, h2⟩ := rv_sound h r hp
        obtain ⟨vs, h3, h4⟩ := rvs_sound h rs hq
        refine ⟨v :: vs, ?_, .cons _ _ _ _ _ h2 h4⟩
        rw [List.map_cons, List.mapM_cons]
        simp only [Sem.run_bind, Sem.run_pure, h1, Result.andThen_ok, h3]
      · cases hr
    · cases hr

theorem run_results {P : Program} {fn : Func} {rs : List RV} (hres : fn.results = (rs.map RV.var).toArray) (h : Rel B F H L s a w) {ps : List PV} (hr : rvsRes P s rs = some ps) : ∃ v, (results fn a.tmps).run P w = .ok v w ∧ Rep H L v (tupOf ps) := by
  obtain ⟨vs, h1, h2⟩ := rvs_sound h rs hr
  refine ⟨tupV vs, ?_, tup_rep h2⟩
  have hsem : results fn a.tmps = (do
      let vs ← fn.results.mapM (rvSem a.tmps)
      pure (if h : vs.size = 1 then vs[0] else .tuple vs)) := by
    unfold results
    congr 1
  rw [hsem, Sem.run_bind, Array.mapM_eq_mapM_toList, hres, Sem.run_map]
  rw [show ((rs.map RV.var).toArray).toList = rs.map RV.var from rfl, h1]
  simp only [Result.andThen_ok, Sem.run_pure]
  congr 1
  unfold tupV
  match vs with
  | [] => simp
  | [v] => simp
  | v :: v' :: vs => simp

theorem entsOk_at {m : Nat → Nat × Nat} {n : Nat} : ∀ (ks : List (Nat × Nat)) (es : List Ent) (i : Nat) (sto : Sto), entsOk m n sto i ks es → ks.length = es.length ∧ ∀ (j k g : Nat) (e : Ent), ks[j]? = some (k, g) → es[j]? = some e →
    k = extKey (i + j) ∧ sto.find k = some (g, e.inst m) ∧ e.extOk n = true ∧ (e.moves = true ∨ g = 0)
  | [], [], i, sto, _ => ⟨rfl, fun j k g e h => by simp at h⟩
  | [], _ :: _, i, sto, h => h.elim
  | (_, _) :: _, [], i, sto, h => h.elim
  | (k', g') :: ks, e' :: es, i, sto, hk => by
    obtain ⟨h1, h2, h3, h4, h5⟩ := hk
    obtain ⟨q1, q2⟩ := entsOk_at ks es (i + 1) sto h5
    refine ⟨by simp [q1], fun j k g e hj he => ?_⟩
    cases j with
    | zero =>
      simp only [List.getElem?_cons_zero, Option.some.injEq, Prod.mk.injEq] at hj he
      obtain ⟨rfl, rfl⟩ := hj
      subst he
      exact ⟨h1, h2, h3, by simpa using h4⟩
    | succ j =>
      have := q2 j k g e (by simpa using hj) (by simpa using he)
      rw [show i + (j + 1) = i + 1 + j by omega]
      exact this

theorem extSto_find : ∀ (es : List Ent) (i k : Nat), (extSto i es).find k = if extKey i ≤ k then (es[k - extKey i]?).map fun e => (0, e) else none
  | [], i, k => by simp [extSto, Sto.find]
  | e :: es, i, k => by
    have ih := extSto_find es (i + 1) k
    simp only [extSto, Sto.find]
    by_cases h1 : k = extKey i
    · subst h1; simp
    · simp only [h1, if_false, ih]
      by_cases h2 : extKey i ≤ k
      · have h3 : extKey (i + 1) ≤ k := by unfold extKey at *; omega
        have h4 : k - extKey i = (k - extKey (i + 1)) + 1 := by unfold extKey at *; omega
        simp [h2, h3, h4]
      · have h3 : ¬ extKey (i + 1) ≤ k := by unfold extKey at *; omega
        simp [h2, h3]

theorem initEnv_get : ∀ (args : List PV) (i j : Nat), (initEnv i args).get j = if i ≤ j then args.getD (j - i) .undef else .undef
  | [], i, j => by simp [initEnv, Env.get]
  | p :: ps, i, j => by
    have ih := initEnv_get ps (i + 1) j
    simp only [initEnv, Env.get]
    by_cases h1 : j = i
    · subst h1; simp
    · simp only [h1, if_false, ih]
      by_cases h2 : i ≤ j
      · have h3 : i + 1 ≤ j := by omega
        have h4 : j - i = (j - (i + 1)) + 1 := by omega
        simp [h2, h3, h4]
      · have h3 : ¬ i + 1 ≤ j := by omega
        simp [h2, h3]

end

/-- **The contract of a function, out of the abstract walk of its body.** -/
theorem bc_of_awp {X : Cx} {f : Nat} {fn : Func} {c : Code} {args : List PV} {es es' : List Ent} {r : PV} {rs : List RV} (hm : X.P.follows .mixedOrders = true) (hf : X.P.funcs[f]? = some fn) (hb : fn.body = some c)
    (hname : (fn.name == "runtime.NumGoroutine") = false) (hres : fn.results = (rs.map RV.var).toArray) (hok : codeOk fn.ntmps X.nm c = true) (hargs : args.length ≤ fn.ntmps)
    (hlen : es'.length = es.length) (hpure : ∀ e ∈ es', e.extOk es.length = true) (h : awp X c (bodyR X.P rs r es') (initSt args es)) : BC X.P f args es r es' := by
  refine ⟨⟨fn, hf, by simp [hb], hname⟩, ⟨hlen, hpure⟩, ?_⟩
  intro H w ss vs hA hG hsl hss hdist hents hvs
  have hvl := hvs.length
  refine calls_of_wp hf hb (wp_mono (awp_sound (B := ⟨w, H, ss, hG⟩) (nt := fn.ntmps) (df := []) hm c _ H (extLay ss) (initSt args es) _ w hok ?_ ?_ rfl h) ?_)
  · have hextat : ∀ k sl, (extLay ss).at_ k = some sl → 1000 ≤ k ∧ ss[k - 1000]? = some sl := by
      intro k sl hk
      simp only [extLay] at hk
      split at hk
      · rename_i hle; exact ⟨hle, hk⟩
      · cases hk
    refine
      { env := fun i => ?_, agree := hA, sto := ?_, sep := ?_, low := ?_, used := ?_, free := ?_, mine := ?_, zero := rfl, ext0 := ?_, grow := .refl _, imm := fun b c hc => .inl hc
        ext := ⟨Nat.le_refl _, fun _ _ _ => rfl, rfl, rfl, rfl⟩ }
    · show Rep H _ _ ((initEnv 0 args).get i)
      rw [initEnv_get]
      simp only [Nat.zero_le, if_true, Nat.sub_zero]
      by_cases hi : i < args.length
      · obtain ⟨v, hv1, hv2⟩ := hvs.get i hi
        have : (vs.toArray ++ Array.replicate (fn.ntmps - vs.toArray.size) undef).getD i undef = v := by
          have hget : (vs.toArray ++ Array.replicate (fn.ntmps - vs.toArray.size) undef)[i]? = some v := by
            rw [Array.getElem?_append_left (by simp; omega)]
            simpa using hv1
          rw [Array.getD_eq_getD_getElem?, hget]
          rfl
        rw [this]
        exact hv2
      · have : args.getD i .undef = .undef := by simp [List.getD, List.getElem?_eq_none (Nat.le_of_not_lt hi)]
        rw [this]
        exact .undef _ _
    · intro k g e hk
      simp only [initSt, extSto_find] at hk
      split at hk
      · rename_i hle
        simp only [extKey, Nat.add_zero] at hk hle
        cases he : es[k - 1000]? with
        | none => simp [he] at hk
        | some e' =>
          simp only [he, Option.map_some, Option.some.injEq, Prod.mk.injEq] at hk
          obtain ⟨rfl, rfl⟩ := hk
          have hlt : k - 1000 < ss.length := by rw [hsl]; exact get_lt he
          refine ⟨ss[k - 1000], ?_, (hss _ (List.getElem_mem hlt)).1, hents _ _ _ (List.getElem?_eq_getElem hlt) he⟩
          simp only [extLay, hle, if_true]
          exact List.getElem?_eq_getElem hlt
      · cases hk
    · intro k k' sl sl' b h1 h2 h3 h4
      obtain ⟨q1, q2⟩ := hextat k sl h1
      obtain ⟨q3, q4⟩ := hextat k' sl' h2
      have := hdist _ _ _ _ b q2 q4 h3 h4
      omega
    · intro k sl b h1 h2
      obtain ⟨q1, q2⟩ := hextat k sl h1
      exact (hss sl (List.mem_of_getElem? q2)).2 b h2
    · intro k sl h1
      obtain ⟨q1, q2⟩ := hextat k sl h1
      exact (hss sl (List.mem_of_getElem? q2)).1
    · intro g hg hu
      have hg' : 1 ≤ g := hg
      have hu' : g = 0 := hu
      omega
    · intro k sl b h1 h2
      obtain ⟨q1, q2⟩ := hextat k sl h1
      exact .inr ⟨q1, sl, q2, h2⟩
    · intro k sl _ h1 _
      exact (hextat k sl h1).2
  · show (vs.toArray ++ Array.replicate (fn.ntmps - vs.toArray.size) undef).size = fn.ntmps
    simp
    omega
  · rintro e a' w' ⟨H', L', s', hR, ht, hd, hQ⟩
    have key : ∀ (H' : Imm) (L' : Lay) (s' : St), Rel ⟨w, H, ss, hG⟩ (fun g => s'.nx ≤ g) H' L' s' a' w' → bodyK X.P rs r es' s' → a'.defers = [] ∧ ∃ v, (results fn a'.tmps).run X.P w' = .ok v w' ∧
        ∃ v' H2 ss', Ending.returned v = .returned v' ∧ Grow H H2 ∧ Agree H2 w' ∧ (∀ b c, H2 b = some c → H b = some c ∨ w.heap.size ≤ b) ∧ Ext (fun b => ∃ s ∈ ss, s.block = some b) w w' ∧
          Moved w.heap.size w' es' ss ss' ∧ (∀ (i : Nat) (s : Slot) (e : Ent), ss'[i]? = some s → es'[i]? = some e → EntRep H2 (extLay ss') w' s e) ∧ ResRep H2 w' w.heap.size v' r := by
      intro H' L' s' hR hq
      unfold bodyK at hq
      split at hq
      case h_2 => exact hq.elim
      rename_i ps hps
      obtain ⟨hret, ks, hents'⟩ := hq
      obtain ⟨v, hrun, hrep⟩ := run_results hres hR hps
      obtain ⟨hkl, hat⟩ := entsOk_at ks es' 0 s'.sto hents'
      generalize tupOf ps = pv at hret hrep
      let ss' : List Slot := ks.map fun x => match L'.at_ x.1 with | some sl => { sl with gen := 0 } | none => ⟨0, none, 0, 0⟩
      have hsl' : ss'.length = ks.length := by simp [ss']
      refine ⟨hd, v, hrun, v, ?_⟩
      have fin : ∀ {H2 : Imm} {s2 : St}, Rel ⟨w, H, ss, hG⟩ (fun g => s'.nx ≤ g) H2 L' s2 a' w' → (∀ k, 1000 ≤ k → s2.sto.find k = s'.sto.find k) →
          Moved w.heap.size w' es' ss ss' ∧ ∀ (i : Nat) (s : Slot) (e : Ent), ss'[i]? = some s → es'[i]? = some e → EntRep H2 (extLay ss') w' s e := by
        intro H2 s2 hR2 hsame
        have look : ∀ (i k g : Nat), ks[i]? = some (k, g) → ∃ e sl, es'[i]? = some e ∧ k = extKey i ∧ e.extOk es'.length = true ∧ (e.moves = true ∨ g = 0) ∧ L'.at_ k = some sl ∧ sl.gen = g ∧ EntRep H2 L' w' sl (e.inst (keyAt ks)) ∧ ss'[i]? = some { sl with gen := 0 } := by
          intro i k g hi
          have hlt : i < es'.length := by rw [← hkl]; exact get_lt hi
          have he : es'[i]? = some es'[i] := List.getElem?_eq_getElem hlt
          obtain ⟨q1, q2, q3, q4⟩ := hat i k g _ hi he
          rw [Nat.zero_add] at q1
          rw [← hsame k (by rw [q1]; simp [extKey])] at q2
          obtain ⟨sl, e1, e2, e3⟩ := hR2.sto _ _ _ q2
          refine ⟨_, sl, he, q1, q3, q4, e1, e2, e3, ?_⟩
          simp only [ss', List.getElem?_map, hi, Option.map_some, e1]
        have ofs : ∀ (i : Nat) (s : Slot), ss'[i]? = some s → ∃ k g, ks[i]? = some (k, g) := by
          intro i s hs
          have : i < ks.length := by rw [← hsl']; exact get_lt hs
          exact ⟨ks[i].1, ks[i].2, by simp [List.getElem?_eq_getElem this]⟩
        have tied : Tied L' ks ss' := by
          refine ⟨hsl', fun i k g x hi hx => ?_⟩
          obtain ⟨e, sl, _, _, _, _, e1, e2, _, e3⟩ := look i k g hi
          rw [e3] at hx
          cases hx
          exact ⟨sl, e1, e2, rfl⟩
        refine ⟨⟨by omega, fun x hx => ?_, fun x hx b hb => ?_, fun i j si sj b h1 h2 h3 h4 => ?_, fun i x x' e h1 h2 h3 => ?_⟩, fun i x e hx he => ?_⟩
        · obtain ⟨y, _, rfl⟩ := List.mem_map.1 hx
          split <;> rfl
        · obtain ⟨i, hi⟩ := List.mem_iff_getElem?.1 hx
          obtain ⟨k, g, hk⟩ := ofs i x hi
          obtain ⟨e, sl, _, _, _, _, e1, e2, _, e3⟩ := look i k g hk
          rw [hi] at e3
          cases e3
          exact hR2.low k sl b e1 hb
        · obtain ⟨k, g, hk⟩ := ofs i si h1
          obtain ⟨k', g', hk'⟩ := ofs j sj h2
          obtain ⟨e, sl, _, r1, _, _, e1, e2, _, e3⟩ := look i k g hk
          obtain ⟨e', sl', _, r1', _, _, e1', e2', _, e3'⟩ := look j k' g' hk'
          rw [h1] at e3
          rw [h2] at e3'
          cases e3
          cases e3'
          have := hR2.sep k k' sl sl' b e1 e1' h3 h4
          rw [r1, r1'] at this
          simpa [extKey] using this
        · obtain ⟨k, g, hk⟩ := ofs i x' h2
          obtain ⟨e', sl, r0, r1, _, r2, e1, e2, _, e3⟩ := look i k g hk
          rw [h3] at r0
          cases r0
          rw [h2] at e3
          cases e3
          by_cases hg : sl.gen = 0
          · have := hR2.ext0 k sl (by rw [r1]; simp [extKey]) e1 hg
            have hki : k - 1000 = i := by rw [r1]; simp [extKey]
            rw [hki] at this
            have h1' : (⟨w, H, ss, hG⟩ : Base).ss[i]? = some x := h1
            rw [this] at h1'
            cases h1'
            exact .inl (by rw [← hg])
          · refine .inr ⟨r2.resolve_right fun h => hg (e2.trans h), fun b hb => ?_⟩
            rcases hR2.mine k sl b e1 hb with h6 | ⟨_, o, h6, h7⟩
            · exact .inr h6
            · have hki : k - 1000 = i := by rw [r1]; simp [extKey]
              rw [hki] at h6
              have h6' : ss[i]? = some o := h6
              rw [h1] at h6'
              cases h6'
              exact .inl h7
        · obtain ⟨k, g, hk⟩ := ofs i x hx
          obtain ⟨e', sl, r0, r1, r3, r2, e1, e2, e4, e3⟩ := look i k g hk
          rw [he] at r0
          cases r0
          rw [hx] at e3
          cases e3
          exact e4.toExt tied (by rw [hkl]; exact r3)
      rcases hret with ⟨hw, hp⟩ | ⟨k, g, sz, xs, hvr, hk, hfind, rfl⟩ | ⟨sz, hvr, rfl⟩
      · obtain ⟨H2, hR2, hG⟩ := hR.frz (frz2 pv)
        obtain ⟨f1, f2⟩ := fin hR2 (fun k hk => by
          simp only [frz_find]
          cases hq : s'.sto.find k with
          | none => rfl
          | some x =>
            obtain ⟨g, x⟩ := x
            cases x <;> simp only
            rw [if_neg]
            omega)
        refine ⟨H2, ss', rfl, hR2.grow, hR2.agree, hR2.imm, hR2.ext, f1, f2, ?_⟩
        · have hpur := pur2_sound hR2 (fnd := s'.sto.find) (ks := frz2 pv) (frz_found s'.sto _) (hrep.mono hG (.refl _)) (fun j hj => hj) (hw.pureOf hp)
          have := hpur.wk hw
          cases r <;> first
            | exact this
            | simp [PV.pure] at hp
      · obtain ⟨f1, f2⟩ := fin hR (fun _ _ => rfl)
        refine ⟨H', ss', rfl, hR.grow, hR.agree, hR.imm, hR.ext, f1, f2, ?_⟩
        obtain ⟨sl, e1, e2, e3, e4, e5, e6⟩ := hR.sto k g _ hfind
        rw [hvr] at hrep
        cases hrep with
        | row _ _ _ _ _ hu hs hx =>
          have hvv := hx sl e1 e2
          refine ⟨e4, ?_⟩
          rcases e6 with ⟨e6, e7⟩ | ⟨b, vs', rest, t, g1, g2, g3, g4, g5, g6⟩
          · have hx0 : xs = [] := List.eq_nil_of_length_eq_zero (by omega)
            subst hx0
            refine .inl ⟨rfl, ?_⟩
            rw [hvv, e6, e7]
            rfl
          · refine .inr ⟨b, sl.cap, vs', rest, t, ?_, g2, ?_, g3, g4, g5, g6, e5⟩
            · rcases hR.mine k sl b e1 g1 with h1 | h1
              · exact h1
              · omega
            · rw [hvv, g1]
              rfl
      · obtain ⟨f1, f2⟩ := fin hR (fun _ _ => rfl)
        refine ⟨H', ss', rfl, hR.grow, hR.agree, hR.imm, hR.ext, f1, f2, ?_⟩
        rw [hvr] at hrep
        cases hrep
        exact ⟨by simp, .inl ⟨rfl, rfl⟩⟩
    cases e with
    | normal =>
      obtain ⟨t, hl, hk⟩ := hQ
      obtain ⟨H2, L2, hR2⟩ := hR.told hl
      exact key _ _ _ hR2 hk
    | ret => exact key _ _ _ hR hQ
    | exit id => exact hQ.elim
    | goto l => exact hQ.elim
    | panic ch => exact hQ.elim
    | outgrown => exact hQ.elim

/-- The same for what writes nothing of its caller's. -/
theorem pc_of_awp {X : Cx} {f : Nat} {fn : Func} {c : Code} {args : List PV} {r : PV} {rs : List RV} (hm : X.P.follows .mixedOrders = true) (hf : X.P.funcs[f]? = some fn) (hb : fn.body = some c)
    (hname : (fn.name == "runtime.NumGoroutine") = false) (hres : fn.results = (rs.map RV.var).toArray) (hok : codeOk fn.ntmps X.nm c = true) (hargs : args.length ≤ fn.ntmps)
    (h : awp X c (bodyR X.P rs r []) (initSt args [])) : PC X.P f args r :=
  bc_of_awp hm hf hb hname hres hok hargs rfl (by simp) h

end Go.Proofs.YtlgjbmgmoaphjaaDoor
