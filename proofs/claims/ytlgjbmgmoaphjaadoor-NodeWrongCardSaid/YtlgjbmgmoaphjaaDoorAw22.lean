/- Functions: a contract out of the abstract walk of the body. -/
import Derived.Test.YtlgjbmgmoaphjaaDoorAw21
namespace Go.Proofs.YtlgjbmgmoaphjaaDoor
set_option linter.unusedSimpArgs false
set_option linter.unusedVariables false
open Go

/-! ### Less is said, and speaks of no key -/
mutual
theorem Wk.pureOf {p q : PV} : Wk p q → q.pure = true → p.pure = true
  | .refl _, h => h
  | .nil _, _ => rfl
  | .list _ _ _ _, _ => rfl
  | .agg _ _ hw, h => by simp only [PV.pure] at h ⊢; exact WkL.pureOf hw h
  | .tup _ _ hw, h => by simp only [PV.pure] at h ⊢; exact WkL.pureOf hw h
theorem WkL.pureOf {ps qs : List PV} : WkL ps qs → pureL qs = true → pureL ps = true
  | .nil, _ => rfl
  | .cons _ _ _ _ hw ht, h => by
    simp only [pureL, Bool.and_eq_true] at h ⊢
    exact ⟨Wk.pureOf hw h.1, WkL.pureOf ht h.2⟩
end

def frz2 : PV → List Nat
  | .tup vs => vs.flatMap frz1
  | p => frz1 p

section
variable {B : Base} {F : Nat → Prop} {H : Imm} {L : Lay} {s : St} {a : Act} {w : World}

theorem pur2_sound (h : Rel B F H L s a w) {fnd : Nat → Option (Nat × Ent)} {ks : List Nat} (hfr : ∀ j g f sz xs, fnd j = some (g, .row f sz xs) → j ∈ ks → j < 1000 → s.sto.find j = some (g, .row true sz xs))
    {v : Value} {p : PV} (hv : Rep H L v p) (hk : ∀ j ∈ frz2 p, j ∈ ks) (hp : (pur2 fnd p).pure = true) : Rep H Lay.none v (pur2 fnd p) := by
  unfold pur2 at hp ⊢
  split at hp
  · rename_i cs
    cases hv with
    | tup _ vs _ hr => exact .tup _ _ _ (pur1_list h hfr hr (by simpa [frz2] using hk) (by simpa [PV.pure] using hp))
  · rename_i hne
    refine pur1_sound h hfr hv (fun j hj => hk j ?_) hp
    cases p <;> first
      | exact hj
      | exact (hne _ rfl).elim

/-! ### What a function hands back -/
def tupV : List Value → Value
  | [v] => v
  | vs => .tuple vs.toArray

theorem tup_rep {vs : List Value} {ps : List PV} (h : RepL H L vs ps) : Rep H L (tupV vs) (tupOf ps) := by
  match ps, h with
  | [], .nil _ => exact .tup _ _ _ (.nil _)
  | [p], .cons _ v _ _ _ h (.nil _) => exact h
  | p :: p' :: ps, .cons _ v _ _ _ h (.cons _ v' _ vs _ h' t) => exact .tup _ _ _ (.cons _ _ _ _ _ h (.cons _ _ _ _ _ h' t))

/-- A result, as the model reads it. -/
def rvSem (tmps : Array Value) : ResultVar → Sem Value
  | .tmp t => pure (tmps.getD t undef)
  | .cell a t => do loadVar t (← asAddr (tmps.getD a undef))

theorem rv_sound {P : Program} (h : Rel B F H L s a w) (r : RV) {p : PV} (hr : rvRes P s r = some p) : ∃ v, (rvSem a.tmps r.var).run P w = .ok v w ∧ Rep H L v p := by
  cases r with
  | tmp t =>
    simp only [rvRes, Option.some.injEq] at hr
    subst hr
    exact ⟨_, rfl, h.env t⟩
  | cell t ty =>
    simp only [rvRes] at hr
    split at hr
    · cases hr
    · rename_i hkd
      have hk : (tyOf P ty).kd ≠ .none := hkd
      have hx := h.env t
      unfold cellRes at hr
      split at hr
      · rename_i k g heq
        rw [heq] at hx
        generalize hv : a.tmps.getD t undef = v at hx
        split at hr
        · rename_i g' cs hf
          split at hr
          · rename_i hc
            obtain ⟨rfl, hlen, hpos⟩ := hc
            obtain ⟨sl, h1, h2, b, vs, et, h3, h4, h5, h6⟩ := h.sto k g _ hf
            cases hx with
            | box _ _ _ _ _ hu hs hx =>
              have hv' := hx sl b h1 h2 h3
              subst hv'
              cases ha : (tyOf P ty).agg with
              | true =>
                simp only [ha, Option.some.injEq] at hr
                subst hr
                have hl := run_loadVar_at (P := P) hk b 0 vs.toArray et (0, 0) h5
                have hvl := h6.length
                have := hl.1 ha vs (by omega) (fun i hi => by simp)
                refine ⟨.agg vs.toArray, ?_, .agg _ _ _ h6⟩
                simp only [rvSem, RV.var, hv, asAddr, pure_bind]
                exact this
              | false =>
                simp only [ha] at hr
                match cs, hr, hlen with
                | c :: cs, hr, hlen =>
                  simp only [List.head?_cons, Option.some.injEq] at hr
                  subst hr
                  cases h6 with
                  | cons _ u _ us _ hu1 hu2 =>
                    have hl := run_loadVar_at (P := P) hk b 0 (u :: us).toArray et (0, 0) h5
                    refine ⟨u, ?_, hu1⟩
                    simp only [rvSem, RV.var, hv, asAddr, pure_bind]
                    exact hl.2 ha u (by simp)
          · cases hr
        · cases hr
      · cases hr

theorem rvs_sound {P : Program} (h : Rel B F H L s a w) : ∀ (rs : List RV) {ps : List PV}, rvsRes P s rs = some ps → ∃ vs, ((rs.map RV.var).mapM (rvSem a.tmps)).run P w = .ok vs w ∧ RepL H L vs ps
  | [], ps, hr => by
    simp only [rvsRes, Option.some.injEq] at hr
    subst hr
    exact ⟨[], rfl, .nil _⟩
  | r :: rs, ps, hr => by
    simp only [rvsRes] at hr
    split at hr
    · rename_i p hp
      split at hr
      · rename_i qs hq
        cases hr
        obtain ⟨v, h1, h2⟩ := rv_sound h r hp
        obtain ⟨vs, h3, h4⟩ := rvs_sound h rs hq
        refine ⟨v :: vs, ?_, .cons _ _ _ _ _ h2 h4⟩
        rw [List.map_cons, List.mapM_cons]
        simp only [Sem.run_bind, Sem.run_pure, h1, Result.andThen_ok, h3]
      · cases hr
    · cases hr

theorem run_results {P : Program} {fn : Func} {rs : List RV} (hres : fn.results = (rs.map RV.var).toArray) (h : Rel B F H L s a w) {ps : List PV} (hr : rvsRes P s rs = some ps) : ∃ v, (results fn a.tmps).run P w = .ok v w ∧ Rep H L v (tupOf ps) := by
  obtain ⟨vs, h1, h2⟩ := rvs_sound h rs hr
  refine ⟨tupV vs, ?_, tup_rep h2⟩
  have hsem : results fn a.tmps = (do
      let vs ← fn.results.mapM (rvSem a.tmps)
      pure (if h : vs.size = 1 then vs[0] else .tuple vs)) := by
    unfold results
    congr 1
  rw [hsem, Sem.run_bind, Array.mapM_eq_mapM_toList, hres, Sem.run_map]
  rw [show ((rs.map RV.var).toArray).toList = rs.map RV.var from rfl, h1]
  simp only [Result.andThen_ok, Sem.run_pure]
  congr 1
  unfold tupV
  match vs with
  | [] => simp
  | [v] => simp
  | v :: v' :: vs => simp

theorem entsOk_at : ∀ (es : List Ent) (i : Nat) (sto : Sto), entsOk sto i es → ∀ (j : Nat) (e : Ent), es[j]? = some e → sto.find (extKey (i + j)) = some (0, e) ∧ e.pure = true
  | [], i, sto, _, j, e, h => by simp at h
  | e' :: es, i, sto, hk, 0, e, h => by
    simp only [List.getElem?_cons_zero, Option.some.injEq] at h
    subst h
    exact ⟨hk.1, hk.2.1⟩
  | e' :: es, i, sto, hk, j + 1, e, h => by
    have := entsOk_at es (i + 1) sto hk.2.2 j e (by simpa using h)
    rw [show i + (j + 1) = i + 1 + j by omega]
    exact this

theorem extSto_find : ∀ (es : List Ent) (i k : Nat), (extSto i es).find k = if extKey i ≤ k then (es[k - extKey i]?).map fun e => (0, e) else none
  | [], i, k => by simp [extSto, Sto.find]
  | e :: es, i, k => by
    have ih := extSto_find es (i + 1) k
    simp only [extSto, Sto.find]
    by_cases h1 : k = extKey i
    · subst h1; simp
    · simp only [h1, if_false, ih]
      by_cases h2 : extKey i ≤ k
      · have h3 : extKey (i + 1) ≤ k := by unfold extKey at *; omega
        have h4 : k - extKey i = (k - extKey (i + 1)) + 1 := by unfold extKey at *; omega
        simp [h2, h3, h4]
      · have h3 : ¬ extKey (i + 1) ≤ k := by unfold extKey at *; omega
        simp [h2, h3]

theorem initEnv_get : ∀ (args : List PV) (i j : Nat), (initEnv i args).get j = if i ≤ j then args.getD (j - i) .undef else .undef
  | [], i, j => by simp [initEnv, Env.get]
  | p :: ps, i, j => by
    have ih := initEnv_get ps (i + 1) j
    simp only [initEnv, Env.get]
    by_cases h1 : j = i
    · subst h1; simp
    · simp only [h1, if_false, ih]
      by_cases h2 : i ≤ j
      · have h3 : i + 1 ≤ j := by omega
        have h4 : j - i = (j - (i + 1)) + 1 := by omega
        simp [h2, h3, h4]
      · have h3 : ¬ i + 1 ≤ j := by omega
        simp [h2, h3]

end

/-- **The contract of a function, out of the abstract walk of its body.** -/
theorem bc_of_awp {X : Cx} {f : Nat} {fn : Func} {c : Code} {args : List PV} {es es' : List Ent} {r : PV} {rs : List RV} (hm : X.P.follows .mixedOrders = true) (hf : X.P.funcs[f]? = some fn) (hb : fn.body = some c)
    (hname : (fn.name == "runtime.NumGoroutine") = false) (hres : fn.results = (rs.map RV.var).toArray) (hok : codeOk fn.ntmps X.nm c = true) (hargs : args.length ≤ fn.ntmps)
    (hlen : es'.length = es.length) (hpure : ∀ e ∈ es', e.pure = true) (h : awp X c (bodyR X.P rs r es') (initSt args es)) : BC X.P f args es r es' := by
  refine ⟨⟨fn, hf, by simp [hb], hname⟩, ⟨hlen, hpure⟩, ?_⟩
  intro H w ss vs hA hG hsl hss hdist hents hvs
  have hvl := hvs.length
  refine calls_of_wp hf hb (wp_mono (awp_sound (B := ⟨w, H, ss, hG⟩) (nt := fn.ntmps) (df := []) hm c _ H (extLay ss) (initSt args es) _ w hok ?_ ?_ rfl h) ?_)
  · have hextat : ∀ k sl, (extLay ss).at_ k = some sl → 1000 ≤ k ∧ ss[k - 1000]? = some sl := by
      intro k sl hk
      simp only [extLay] at hk
      split at hk
      · rename_i hle; exact ⟨hle, hk⟩
      · cases hk
    refine
      { env := fun i => ?_, agree := hA, sto := ?_, sep := ?_, low := ?_, used := ?_, free := ?_, mine := ?_, ext0 := ?_, grow := .refl _, imm := fun b c hc => .inl hc
        ext := ⟨Nat.le_refl _, fun _ _ _ => rfl, rfl, rfl, rfl⟩ }
    · show Rep H _ _ ((initEnv 0 args).get i)
      rw [initEnv_get]
      simp only [Nat.zero_le, if_true, Nat.sub_zero]
      by_cases hi : i < args.length
      · obtain ⟨v, hv1, hv2⟩ := hvs.get i hi
        have : (vs.toArray ++ Array.replicate (fn.ntmps - vs.toArray.size) undef).getD i undef = v := by
          have hget : (vs.toArray ++ Array.replicate (fn.ntmps - vs.toArray.size) undef)[i]? = some v := by
            rw [Array.getElem?_append_left (by simp; omega)]
            simpa using hv1
          rw [Array.getD_eq_getD_getElem?, hget]
          rfl
        rw [this]
        exact hv2
      · have : args.getD i .undef = .undef := by simp [List.getD, List.getElem?_eq_none (Nat.le_of_not_lt hi)]
        rw [this]
        exact .undef _ _
    · intro k g e hk
      simp only [initSt, extSto_find] at hk
      split at hk
      · rename_i hle
        simp only [extKey, Nat.add_zero] at hk hle
        cases he : es[k - 1000]? with
        | none => simp [he] at hk
        | some e' =>
          simp only [he, Option.map_some, Option.some.injEq, Prod.mk.injEq] at hk
          obtain ⟨rfl, rfl⟩ := hk
          have hlt : k - 1000 < ss.length := by rw [hsl]; exact get_lt he
          refine ⟨ss[k - 1000], ?_, (hss _ (List.getElem_mem hlt)).1, hents _ _ _ (List.getElem?_eq_getElem hlt) he⟩
          simp only [extLay, hle, if_true]
          exact List.getElem?_eq_getElem hlt
      · cases hk
    · intro k k' sl sl' b h1 h2 h3 h4
      obtain ⟨q1, q2⟩ := hextat k sl h1
      obtain ⟨q3, q4⟩ := hextat k' sl' h2
      have := hdist _ _ _ _ b q2 q4 h3 h4
      omega
    · intro k sl b h1 h2
      obtain ⟨q1, q2⟩ := hextat k sl h1
      exact (hss sl (List.mem_of_getElem? q2)).2 b h2
    · intro k sl h1
      obtain ⟨q1, q2⟩ := hextat k sl h1
      exact (hss sl (List.mem_of_getElem? q2)).1
    · intro g hg hu
      have hg' : 1 ≤ g := hg
      have hu' : g = 0 := hu
      omega
    · intro k sl b h1 h2
      obtain ⟨q1, q2⟩ := hextat k sl h1
      exact .inr ⟨q1, sl, List.mem_of_getElem? q2, h2⟩
    · intro k sl _ h1 _
      exact (hextat k sl h1).2
  · show (vs.toArray ++ Array.replicate (fn.ntmps - vs.toArray.size) undef).size = fn.ntmps
    simp
    omega
  · rintro e a' w' ⟨H', L', s', hR, ht, hd, hQ⟩
    have key : (match rvsRes X.P s' rs with
        | some vs => RetOk s' (tupOf vs) r ∧ entsOk s'.sto 0 es'
        | none => False) → a'.defers = [] ∧ ∃ v, (results fn a'.tmps).run X.P w' = .ok v w' ∧
        ∃ v' H2, Ending.returned v = .returned v' ∧ Grow H H2 ∧ Agree H2 w' ∧ (∀ b c, H2 b = some c → H b = some c ∨ w.heap.size ≤ b) ∧ Ext (fun b => ∃ s ∈ ss, s.block = some b) w w' ∧
          (∀ (i : Nat) (s : Slot) (e : Ent), ss[i]? = some s → es'[i]? = some e → EntRep H2 (extLay ss) w' s e) ∧ ResRep H2 w' w.heap.size v' r := by
      intro hq
      split at hq
      case h_2 => exact hq.elim
      rename_i ps hps
      obtain ⟨hret, hents'⟩ := hq
      obtain ⟨v, hrun, hrep⟩ := run_results hres hR hps
      refine ⟨hd, v, hrun, v, ?_⟩
      generalize tupOf ps = pv at hret hrep
      have ents : ∀ {H2 : Imm} {s2 : St}, Rel ⟨w, H, ss, hG⟩ (fun g => s'.nx ≤ g) H2 L' s2 a' w' → (∀ k, 1000 ≤ k → s2.sto.find k = s'.sto.find k) → ∀ (i : Nat) (s : Slot) (e : Ent), ss[i]? = some s → es'[i]? = some e → EntRep H2 (extLay ss) w' s e := by
        intro H2 s2 hR2 hsame i s e hs he
        obtain ⟨q1, q2⟩ := entsOk_at es' 0 s'.sto hents' i e he
        rw [Nat.zero_add] at q1
        rw [← hsame _ (by simp [extKey])] at q1
        obtain ⟨sl, e1, e2, e3⟩ := hR2.sto _ _ _ q1
        have := hR2.ext0 (extKey i) sl (by simp [extKey]) e1 e2
        simp only [extKey, Nat.add_sub_cancel_left] at this
        rw [hs] at this
        cases this
        exact e3.pure q2 rfl rfl rfl
      rcases hret with ⟨hw, hp⟩ | ⟨k, g, sz, xs, hvr, hk, hfind, rfl⟩ | ⟨sz, hvr, rfl⟩
      · obtain ⟨H2, hR2, hG⟩ := hR.frz (frz2 pv)
        refine ⟨H2, rfl, hR2.grow, hR2.agree, hR2.imm, hR2.ext, ents hR2 (fun k hk => ?_), ?_⟩
        · simp only [frz_find]
          cases hq : s'.sto.find k with
          | none => rfl
          | some x =>
            obtain ⟨g, x⟩ := x
            cases x <;> simp only
            rw [if_neg]
            omega
        · have hpur := pur2_sound hR2 (fnd := s'.sto.find) (ks := frz2 pv) (frz_found s'.sto _) (hrep.mono hG (.refl _)) (fun j hj => hj) (hw.pureOf hp)
          have := hpur.wk hw
          cases r <;> first
            | exact this
            | simp [PV.pure] at hp
      · refine ⟨H', rfl, hR.grow, hR.agree, hR.imm, hR.ext, ents hR (fun _ _ => rfl), ?_⟩
        obtain ⟨sl, e1, e2, e3, e4, e5, e6⟩ := hR.sto k g _ hfind
        rw [hvr] at hrep
        cases hrep with
        | row _ _ _ _ _ hu hs hx =>
          have hvv := hx sl e1 e2
          refine ⟨e4, ?_⟩
          rcases e6 with ⟨e6, e7⟩ | ⟨b, vs', rest, t, g1, g2, g3, g4, g5, g6⟩
          · have hx0 : xs = [] := List.eq_nil_of_length_eq_zero (by omega)
            subst hx0
            refine .inl ⟨rfl, ?_⟩
            rw [hvv, e6, e7]
            rfl
          · refine .inr ⟨b, sl.cap, vs', rest, t, ?_, g2, ?_, g3, g4, g5, g6, e5⟩
            · rcases hR.mine k sl b e1 g1 with h1 | h1
              · exact h1
              · omega
            · rw [hvv, g1]
              rfl
      · refine ⟨H', rfl, hR.grow, hR.agree, hR.imm, hR.ext, ents hR (fun _ _ => rfl), ?_⟩
        rw [hvr] at hrep
        cases hrep
        exact ⟨by simp, .inl ⟨rfl, rfl⟩⟩
    cases e with
    | normal => exact key hQ
    | ret => exact key hQ
    | exit id => exact hQ.elim
    | goto l => exact hQ.elim
    | panic ch => exact hQ.elim
    | outgrown => exact hQ.elim

/-- The same for what writes nothing of its caller's. -/
theorem pc_of_awp {X : Cx} {f : Nat} {fn : Func} {c : Code} {args : List PV} {r : PV} {rs : List RV} (hm : X.P.follows .mixedOrders = true) (hf : X.P.funcs[f]? = some fn) (hb : fn.body = some c)
    (hname : (fn.name == "runtime.NumGoroutine") = false) (hres : fn.results = (rs.map RV.var).toArray) (hok : codeOk fn.ntmps X.nm c = true) (hargs : args.length ≤ fn.ntmps)
    (h : awp X c (bodyR X.P rs r []) (initSt args [])) : PC X.P f args r :=
  bc_of_awp hm hf hb hname hres hok hargs rfl (by simp) h

end Go.Proofs.YtlgjbmgmoaphjaaDoor
