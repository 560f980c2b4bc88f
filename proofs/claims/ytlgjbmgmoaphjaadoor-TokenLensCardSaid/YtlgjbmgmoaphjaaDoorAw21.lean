/- Code, and functions: what the abstract walk shows holds of the program. -/
import Derived.Test.YtlgjbmgmoaphjaaDoorAw20
import Derived.Scope
namespace Go.Proofs.YtlgjbmgmoaphjaaDoor
set_option linter.unusedSimpArgs false
set_option linter.unusedVariables false
open Go

section
variable {B : Base} {X : Cx} {nt : Nat} {df : List Deferred}

def codeOk (nt : Nat) (nm : Names) : Code → Bool
  | .region _ ops draw => opsOk nt nm ops.toList && (!draw || drawOk nm ops)
  | .seq a b => codeOk nt nm a && codeOk nt nm b
  | .cond _ a b => codeOk nt nm a && codeOk nt nm b
  | .block _ c => codeOk nt nm c
  | .loop c => codeOk nt nm c
  | .scope c => codeOk nt nm c
  | _ => true

/-- What holds of a frame and a world when it holds of the states that they stand for. -/
def lift (B : Base) (nt : Nat) (df : List Deferred) (Q : AExit → St → Prop) : Exit → Act → World → Prop := fun e a w =>
  ∃ H L s, Rel B (fun g => s.nx ≤ g) H L s a w ∧ a.tmps.size = nt ∧ a.defers = df ∧ match e with
    | .normal => Q .normal s
    | .exit id => Q (.exit id) s
    | .goto l => Q (.goto l) s
    | .ret => Q .ret s
    | _ => False

theorem lift_mono {Q Q' : AExit → St → Prop} (h : ∀ e s, Q e s → Q' e s) (e : Exit) (a : Act) (w : World) (hl : lift B nt df Q e a w) : lift B nt df Q' e a w := by
  obtain ⟨H, L, s, h1, h2, h3, h4⟩ := hl
  refine ⟨H, L, s, h1, h2, h3, ?_⟩
  cases e <;> first
    | exact h _ _ h4
    | exact h4

/-! ### Behind a region -/
theorem keepEnv_get (env : Env) : ∀ (l : List Nat) (i : Nat), (keepEnv env l).get i = env.get i ∨ (keepEnv env l).get i = .undef
  | [], i => .inr rfl
  | j :: l, i => by
    simp only [keepEnv, Env.get]
    split
    · rename_i h; subst h; exact .inl rfl
    · exact keepEnv_get env l i

theorem keepSto_find (sto : Sto) : ∀ (l : List Nat) (k : Nat) (v : Nat × Ent), (keepSto sto l).find k = some v → sto.find k = some v
  | [], k, v, h => by simp [keepSto, Sto.find] at h
  | j :: l, k, v, h => by
    simp only [keepSto] at h
    split at h
    · rename_i x hx
      simp only [Sto.find] at h
      split at h
      · rename_i hk
        subst hk
        rw [hx, h]
      · exact keepSto_find sto l k v h
    · exact keepSto_find sto l k v h

theorem Rel.sub {F : Nat → Prop} {H : Imm} {L : Lay} {s t : St} {a : Act} {w : World} (h : Rel B F H L s a w) (he : ∀ i, t.env.get i = s.env.get i ∨ t.env.get i = .undef) (hs : ∀ k v, t.sto.find k = some v → s.sto.find k = some v) : Rel B F H L t a w :=
  { h with
    env := fun i => by
      rcases he i with h1 | h1
      · rw [h1]; exact h.env i
      · rw [h1]; exact .undef _ _
    sto := fun k g e hf => h.sto k g e (hs k _ hf) }

theorem Rel.thaw1 {H : Imm} {L : Lay} {s : St} {a : Act} {w : World} (h : Rel B (fun g => s.nx ≤ g) H L s a w) (d k sz : Nat) : ∃ H' L', Rel B (fun g => (s.thaw1 d k sz).nx ≤ g) H' L' (s.thaw1 d k sz) a w := by
  unfold St.thaw1
  split
  · rename_i hn
    split
    · rename_i hk
      let sl : Slot := ⟨s.nx, none, 0, sz⟩
      have hset := h.setNew (sl := sl) (k := k) (e := .row false sz []) (H' := H) (w' := w) (Nat.le_refl _) (.refl _) h.agree (fun b c hc => .inl hc) (Nat.le_refl _) (fun _ _ _ => rfl) rfl rfl rfl (by simp [sl])
        ⟨rfl, by simp, by simp, .inl ⟨rfl, rfl⟩⟩
      have hslot := h.env d
      rw [hn] at hslot
      generalize hv : a.tmps.getD d undef = v at hslot
      cases hslot
      refine ⟨H, _, { hset.less (F' := fun g => s.nx + 1 ≤ g) ?_ with env := fun i => ?_ }⟩
      · intro g hg
        have hg' : s.nx + 1 ≤ g := hg
        exact ⟨show s.nx ≤ g by omega, by simp only [sl]; omega⟩
      · show Rep H _ _ (if i = d then PV.row k s.nx 0 else s.env.get i)
        split
        · rename_i hi
          rw [hi, hv]
          refine .row _ _ _ _ _ (.inr rfl) ⟨_, _, rfl⟩ fun s' hs' _ => ?_
          simp only [if_true, Option.some.injEq] at hs'
          subst hs'
          rfl
        · exact hset.env i
    · exact ⟨H, L, h⟩
  · exact ⟨H, L, h⟩

theorem RepL.set {H : Imm} {L : Lay} {vs : List Value} {ps : List PV} (h : RepL H L vs ps) : ∀ (c : Nat) (p : PV), (∀ v, vs[c]? = some v → Rep H L v p) → RepL H L vs (ps.set c p) := by
  induction ps generalizing vs with
  | nil => intro c p _; simpa using h
  | cons q ps ih =>
    intro c p hp
    cases h with
    | cons _ v _ vs _ h t =>
      cases c with
      | zero => exact .cons _ _ _ _ _ (hp v rfl) t
      | succ c => exact .cons _ _ _ _ _ h (ih t c p fun v hv => hp v (by simpa using hv))

theorem RepL.at {H : Imm} {L : Lay} {vs : List Value} {ps : List PV} (h : RepL H L vs ps) {c : Nat} {p : PV} (hc : ps[c]? = some p) {v : Value} (hv : vs[c]? = some v) : Rep H L v p := by
  induction ps generalizing vs c with
  | nil => simp at hc
  | cons q ps ih =>
    cases h with
    | cons _ u _ vs _ h t =>
      cases c with
      | zero => simp at hc hv; subst hc hv; exact h
      | succ c => exact ih t (by simpa using hc) (by simpa using hv)

theorem Rel.thawV {H : Imm} {L : Lay} {s : St} {a : Act} {w : World} (h : Rel B (fun g => s.nx ≤ g) H L s a w) (k c k' sz : Nat) : ∃ H' L', Rel B (fun g => (s.thawV k c k' sz).nx ≤ g) H' L' (s.thawV k c k' sz) a w := by
  unfold St.thawV
  split
  · rename_i g tv cs hf
    split
    · rename_i hn
      split
      · rename_i hk
        obtain ⟨hk, hne⟩ := hk
        let sl : Slot := ⟨s.nx, none, 0, sz⟩
        have hset := h.setNew (sl := sl) (k := k') (e := .row false sz []) (H' := H) (w' := w) (Nat.le_refl _) (.refl _) h.agree (fun b c hc => .inl hc) (Nat.le_refl _) (fun _ _ _ => rfl) rfl rfl rfl (by simp [sl])
          ⟨rfl, by simp, by simp, .inl ⟨rfl, rfl⟩⟩
        have hf' : (s.sto.upd k' s.nx (.row false sz [])).find k = some (g, .var tv cs) := by rw [Sto.find_upd_other _ _ _ _ _ hne]; exact hf
        obtain ⟨sv, e1, e2, b, vs, t, e3, e4, e5, e6⟩ := hset.sto k g _ hf'
        subst e2
        have hold := hset.setOld (k := k) (sl := sv) (e := .var tv (cs.set c (.row k' s.nx 0))) (H' := H) (w' := w) e1 (.refl _) hset.agree (fun b c hc => .inl hc) (Nat.le_refl _) (fun _ _ _ => rfl) rfl rfl rfl
          ⟨b, vs, t, e3, e4, e5, e6.set c _ fun v hv => by
            have := e6.at hn hv
            cases this
            refine .row _ _ _ _ _ (.inr rfl) ⟨_, _, rfl⟩ fun s' hs' _ => ?_
            simp only [if_true, Option.some.injEq] at hs'
            subst hs'
            rfl⟩
        refine ⟨H, _, { hold.less (F' := fun g => s.nx + 1 ≤ g) ?_ with }⟩
        intro g hg
        have hg' : s.nx + 1 ≤ g := hg
        exact ⟨show s.nx ≤ g by omega, by simp only [sl]; omega⟩
      · exact ⟨H, L, h⟩
    · exact ⟨H, L, h⟩
  · exact ⟨H, L, h⟩

theorem Rel.thawB {H : Imm} {L : Lay} {s : St} {a : Act} {w : World} (h : Rel B (fun g => s.nx ≤ g) H L s a w) (k c k' bt : Nat) : ∃ H' L', Rel B (fun g => (s.thawB k c k' bt).nx ≤ g) H' L' (s.thawB k c k' bt) a w := by
  unfold St.thawB
  split
  · rename_i g tv cs hf
    split
    · rename_i hn
      split
      · rename_i hk
        obtain ⟨hk, hne⟩ := hk
        let sl : Slot := ⟨s.nx, none, 0, 1⟩
        have hset := h.setNew (sl := sl) (k := k') (e := .bytes bt []) (H' := H) (w' := w) (Nat.le_refl _) (.refl _) h.agree (fun b c hc => .inl hc) (Nat.le_refl _) (fun _ _ _ => rfl) rfl rfl rfl (by simp [sl])
          ⟨rfl, by simp, .inl ⟨rfl, rfl⟩⟩
        have hf' : (s.sto.upd k' s.nx (.bytes bt [])).find k = some (g, .var tv cs) := by rw [Sto.find_upd_other _ _ _ _ _ hne]; exact hf
        obtain ⟨sv, e1, e2, b, vs, t, e3, e4, e5, e6⟩ := hset.sto k g _ hf'
        subst e2
        have hold := hset.setOld (k := k) (sl := sv) (e := .var tv (cs.set c (.row k' s.nx 0))) (H' := H) (w' := w) e1 (.refl _) hset.agree (fun b c hc => .inl hc) (Nat.le_refl _) (fun _ _ _ => rfl) rfl rfl rfl
          ⟨b, vs, t, e3, e4, e5, e6.set c _ fun v hv => by
            have := e6.at hn hv
            cases this
            refine .row _ _ _ _ _ (.inr rfl) ⟨_, _, rfl⟩ fun s' hs' _ => ?_
            simp only [if_true, Option.some.injEq] at hs'
            subst hs'
            rfl⟩
        refine ⟨H, _, { hold.less (F' := fun g => s.nx + 1 ≤ g) ?_ with }⟩
        intro g hg
        have hg' : s.nx + 1 ≤ g := hg
        exact ⟨show s.nx ≤ g by omega, by simp only [sl]; omega⟩
      · exact ⟨H, L, h⟩
    · exact ⟨H, L, h⟩
  · exact ⟨H, L, h⟩

/-! ### A key gets another name -/
def Lay.ren (L : Lay) (k k' : Nat) : Lay := ⟨L.used, fun j => if j = k' then L.at_ k else if j = k then Option.none else L.at_ j⟩

mutual
theorem Rep.ren {H : Imm} {L : Lay} {k k' : Nat} {v : Value} {p : PV} (hs : p.speaks k' = false) : Rep H L v p → Rep H (L.ren k k') v (p.ren k k')
  | .undef _ v => .undef _ v
  | .bool _ b => .bool _ b
  | .int _ k n => .int _ k n
  | .str _ s => .str _ s
  | .nilS _ => .nilS _
  | .listNil _ a c sz => .listNil _ a c sz
  | .list _ b off len cap sz c vs xs h hlen hcap hsz h1 hv hr => .list _ b off len cap sz c vs xs h hlen hcap hsz h1 hv hr
  | .row _ v j g n hu hx h => by
    simp only [PV.speaks, beq_eq_false_iff_ne, ne_eq] at hs
    refine .row _ _ _ _ _ hu hx fun s hs' hg => h s ?_ hg
    simp only [Lay.ren] at hs'
    by_cases hj : j = k
    · simp only [hj, if_true] at hs' ⊢; exact hs'
    · simpa [hj, hs] using hs'
  | .agg _ vs ps h => .agg _ vs _ (RepL.ren (by simpa [PV.speaks] using hs) h)
  | .tup _ vs ps h => .tup _ vs _ (RepL.ren (by simpa [PV.speaks] using hs) h)
  | .ref _ b off c vs ps h hv hr => .ref _ b off c vs ps h hv hr
  | .box _ v j g off hu hx h => by
    simp only [PV.speaks, beq_eq_false_iff_ne, ne_eq] at hs
    refine .box _ _ _ _ _ hu hx fun s b hs' hg => h s b ?_ hg
    simp only [Lay.ren] at hs'
    by_cases hj : j = k
    · simp only [hj, if_true] at hs' ⊢; exact hs'
    · simpa [hj, hs] using hs'
  | .elt _ v j g i off hu hx h => by
    simp only [PV.speaks, beq_eq_false_iff_ne, ne_eq] at hs
    refine .elt _ _ _ _ _ _ hu hx fun s b hs' hg => h s b ?_ hg
    simp only [Lay.ren] at hs'
    by_cases hj : j = k
    · simp only [hj, if_true] at hs' ⊢; exact hs'
    · simpa [hj, hs] using hs'
  | .selfP _ v j g hu hx h => by
    simp only [PV.speaks, beq_eq_false_iff_ne, ne_eq] at hs
    refine .selfP _ _ _ _ hu hx (h.imp id fun h s b hs' hg => h s b ?_ hg)
    simp only [Lay.ren] at hs'
    by_cases hj : j = k
    · simp only [hj, if_true] at hs' ⊢; exact hs'
    · simpa [hj, hs] using hs'
  | .fn _ f vs ps h => .fn _ f vs _ (RepL.ren (by simpa [PV.speaks] using hs) h)
  | .nilF _ => .nilF _
  | .nilP _ => .nilP _
  | .nilI _ => .nilI _
  | .iface _ t v p h => .iface _ t v _ (Rep.ren (by simpa [PV.speaks] using hs) h)
theorem RepL.ren {H : Imm} {L : Lay} {k k' : Nat} {vs : List Value} {ps : List PV} (hs : speaksL k' ps = false) : RepL H L vs ps → RepL H (L.ren k k') vs (renL k k' ps)
  | .nil _ => .nil _
  | .cons _ v p vs ps h t => by
    simp only [speaksL, Bool.or_eq_false_iff] at hs
    exact .cons _ _ _ _ _ (Rep.ren hs.1 h) (RepL.ren hs.2 t)
end

theorem renEnv_get {k k' : Nat} : ∀ (e : Env) (i : Nat), envSpeaks k' e = false → (renEnv k k' e).get i = (e.get i).ren k k' ∧ (e.get i).speaks k' = false
  | [], i, _ => ⟨rfl, rfl⟩
  | (j, v) :: r, i, h => by
    simp only [envSpeaks, Bool.or_eq_false_iff] at h
    simp only [renEnv, Env.get]
    split
    · exact ⟨rfl, h.1⟩
    · exact renEnv_get r i h.2

theorem renSto_find {k k' : Nat} : ∀ (sto : Sto), stoSpeaks k' sto = false → ∀ (j g : Nat) (e : Ent), (renSto k k' sto).find j = some (g, e) → ∃ i e0, sto.find i = some (g, e0) ∧ j = (if i = k then k' else i) ∧ e = e0.ren k k' ∧ e0.speaks k' = false ∧ i ≠ k'
  | [], _, j, g, e, h => by simp [renSto, Sto.find] at h
  | (i, g0, e0) :: r, hs, j, g, e, h => by
    simp only [stoSpeaks, Bool.or_eq_false_iff, beq_eq_false_iff_ne, ne_eq] at hs
    have h' : (if j = (if i = k then k' else i) then some (g0, e0.ren k k') else (renSto k k' r).find j) = some (g, e) := h
    by_cases hj : j = (if i = k then k' else i)
    · rw [if_pos hj] at h'
      cases h'
      exact ⟨i, e0, by simp [Sto.find], hj, rfl, hs.1.2, hs.1.1⟩
    · rw [if_neg hj] at h'
      obtain ⟨i', e', h1, h2, h3, h4, h5⟩ := renSto_find r hs.2 j g e h'
      refine ⟨i', e', ?_, h2, h3, h4, h5⟩
      show (if i' = i then some (g0, e0) else Sto.find r i') = _
      rw [if_neg]
      · exact h1
      · intro hi
        subst hi
        exact hj h2

theorem EntRep.ren {H : Imm} {L : Lay} {w : World} {sl : Slot} {e : Ent} {k k' : Nat} (hs : e.speaks k' = false) (h : EntRep H L w sl e) : EntRep H (L.ren k k') w sl (e.ren k k') := by
  match e with
  | .var tv cs =>
    obtain ⟨b, vs, t, h1, h2, h3, h4⟩ := h
    exact ⟨b, vs, t, h1, h2, h3, h4.ren hs⟩
  | .row false sz xs => exact h
  | .row true sz xs => exact h
  | .iter s pos => exact h
  | .gone => trivial
  | .moved sz xs => exact h
  | .bytes _ _ => exact h
  | .movedB _ _ => exact h

theorem Rel.ren {H : Imm} {L : Lay} {s : St} {a : Act} {w : World} {F : Nat → Prop} (h : Rel B F H L s a w) (k k' : Nat) : ∃ H' L', Rel B F H' L' (s.ren k k') a w := by
  unfold St.ren
  split
  · rename_i hc
    simp only [Bool.and_eq_true, decide_eq_true_eq, Bool.not_eq_true'] at hc
    obtain ⟨⟨⟨hk, hk'⟩, he⟩, hs⟩ := hc
    have hat : ∀ j sl, (L.ren k k').at_ j = some sl → ∃ i, L.at_ i = some sl ∧ ((j = k' ∧ i = k) ∨ (j = i ∧ j ≠ k' ∧ j ≠ k)) := by
      intro j sl hj
      simp only [Lay.ren] at hj
      split at hj
      · rename_i h1; exact ⟨k, hj, .inl ⟨h1, rfl⟩⟩
      · rename_i h1
        split at hj
        · cases hj
        · rename_i h2; exact ⟨j, hj, .inr ⟨rfl, h1, h2⟩⟩
    refine ⟨H, L.ren k k', { env := fun i => ?_, agree := h.agree, sto := ?_, sep := ?_, low := ?_, used := ?_, free := h.free, mine := ?_, zero := h.zero, ext0 := ?_, grow := h.grow, imm := h.imm, ext := h.ext }⟩
    · obtain ⟨h1, h2⟩ := renEnv_get (k := k) s.env i he
      show Rep H _ _ ((renEnv k k' s.env).get i)
      rw [h1]
      exact (h.env i).ren h2
    · intro j g e hj
      obtain ⟨i, e0, h1, h2, rfl, h4, h5⟩ := renSto_find s.sto hs j g e hj
      obtain ⟨sl, q1, q2, q3⟩ := h.sto i g e0 h1
      refine ⟨sl, ?_, q2, q3.ren h4⟩
      subst h2
      simp only [Lay.ren]
      by_cases hi : i = k
      · simp [hi, hi ▸ q1]
      · simp [hi, h5, q1]
    · intro j j' sl sl' b h1 h2 h3 h4
      obtain ⟨i, e1, e2⟩ := hat j sl h1
      obtain ⟨i', e3, e4⟩ := hat j' sl' h2
      have := h.sep i i' sl sl' b e1 e3 h3 h4
      subst this
      rcases e2 with ⟨rfl, rfl⟩ | ⟨rfl, e5, e6⟩ <;> rcases e4 with ⟨rfl, e7⟩ | ⟨rfl, e8, e9⟩ <;> first | rfl | (exact (e9 rfl).elim) | (exact (e6 e7).elim)
    · intro j sl b h1 h2
      obtain ⟨i, e1, e2⟩ := hat j sl h1
      exact h.low i sl b e1 h2
    · intro j sl h1
      obtain ⟨i, e1, e2⟩ := hat j sl h1
      exact h.used i sl e1
    · intro j sl b h1 h2
      obtain ⟨i, e1, e2⟩ := hat j sl h1
      rcases h.mine i sl b e1 h2 with h3 | ⟨h3, h4⟩
      · exact .inl h3
      · rcases e2 with ⟨rfl, rfl⟩ | ⟨rfl, e5, e6⟩
        · omega
        · exact .inr ⟨h3, h4⟩
    · intro j sl hj h1 h0
      obtain ⟨i, e1, e2⟩ := hat j sl h1
      rcases e2 with ⟨rfl, rfl⟩ | ⟨rfl, e5, e6⟩
      · omega
      · exact h.ext0 _ sl hj e1 h0
  · exact ⟨H, L, h⟩

theorem St.ren_nx (s : St) (k k' : Nat) : (s.ren k k').nx = s.nx := by
  unfold St.ren; split <;> rfl

theorem St.selfV_nx (s : St) (k c : Nat) : (s.selfV k c).nx = s.nx := by
  unfold St.selfV
  repeat' split
  all_goals rfl

theorem Rel.selfV {H : Imm} {L : Lay} {s : St} {a : Act} {w : World} {F : Nat → Prop} (h : Rel B F H L s a w) (k c : Nat) : Rel B F H L (s.selfV k c) a w := by
  have put : ∀ (g tv : Nat) (cs : List PV) (p : PV), s.sto.find k = some (g, .var tv cs) → cs[c]? = some p → (∀ v, Rep H L v p → Rep H L v (.selfP k g)) → Rel B F H L { s with sto := s.sto.upd k g (.var tv (cs.set c (.selfP k g))) } a w := by
    intro g tv cs p hf hn hp
    obtain ⟨sv, e1, e2, b, vs, t, e3, e4, e5, e6⟩ := h.sto k g _ hf
    subst e2
    exact h.setOld (k := k) (sl := sv) (e := .var tv (cs.set c (.selfP k sv.gen))) (H' := H) (w' := w) e1 (.refl _) h.agree (fun b c hc => .inl hc) (Nat.le_refl _) (fun _ _ _ => rfl) rfl rfl rfl
      ⟨b, vs, t, e3, e4, e5, e6.set c _ fun v hv => hp v (e6.at hn hv)⟩
  unfold St.selfV
  split
  · rename_i g tv cs hf
    obtain ⟨sv, e1, e2, _⟩ := h.sto k g _ hf
    have hu : L.used g := by rw [← e2]; exact h.used _ _ e1
    split
    · rename_i hn
      refine put g _ cs _ hf hn fun v hv => ?_
      cases hv
      exact .selfP _ _ _ _ hu ⟨_, rfl⟩ (.inl rfl)
    · rename_i k' g' hn
      split
      · rename_i hc
        obtain ⟨rfl, rfl⟩ := hc
        refine put _ _ cs _ hf hn fun v hv => ?_
        cases hv with
        | box _ _ _ _ _ hu hs hx => exact .selfP _ _ _ _ hu hs (.inr hx)
      · exact h
    · exact h
  · exact h

theorem Rel.fact {H : Imm} {L : Lay} {s : St} {a : Act} {w : World} (h : Rel B (fun g => s.nx ≤ g) H L s a w) (x : FAct) : ∃ H' L', Rel B (fun g => (s.fact x).nx ≤ g) H' L' (s.fact x) a w := by
  cases x with
  | thaw d k sz => exact h.thaw1 d k sz
  | thawV k c k' sz => exact h.thawV k c k' sz
  | thawB k c k' bt => exact h.thawB k c k' bt
  | nrm d l =>
    obtain ⟨H', h1⟩ := h.act1 d l
    exact ⟨H', L, by rw [show (s.fact (.nrm d l)).nx = s.nx from St.act1_nx s d l]; exact h1⟩
  | self k c => exact ⟨H, L, by rw [show (s.fact (.self k c)).nx = s.nx from St.selfV_nx s k c]; exact h.selfV k c⟩
  | ren k k' =>
    obtain ⟨H', L', h1⟩ := h.ren k k'
    exact ⟨H', L', by rw [show (s.fact (.ren k k')).nx = s.nx from St.ren_nx s k k']; exact h1⟩

theorem Rel.told {s t : St} (ht : Told s t) : ∀ {H : Imm} {L : Lay} {a : Act} {w : World}, Rel B (fun g => s.nx ≤ g) H L s a w → ∃ H' L', Rel B (fun g => t.nx ≤ g) H' L' t a w := by
  induction ht with
  | less hl => intro H L a w h; exact ⟨H, L, by rw [hl.nx]; exact h.sub hl.env hl.sto⟩
  | fact s x => intro H L a w h; exact h.fact x
  | trans _ _ ih1 ih2 =>
    intro H L a w h
    obtain ⟨H1, L1, h1⟩ := ih1 h
    exact ih2 h1

theorem Rel.facts : ∀ (l : List FAct) {H : Imm} {L : Lay} {s : St} {a : Act} {w : World}, Rel B (fun g => s.nx ≤ g) H L s a w → ∃ H' L', Rel B (fun g => (s.facts l).nx ≤ g) H' L' (s.facts l) a w
  | [], H, L, _, _, _, h => ⟨H, L, h⟩
  | x :: l, _, _, _, _, _, h => by
    obtain ⟨H1, L1, h1⟩ := h.fact x
    exact Rel.facts l h1

theorem Rel.fin {H : Imm} {L : Lay} {s : St} {a : Act} {w : World} {n : Nat} (an : Ann) (h : Rel B (fun g => s.nx + n ≤ g) H L s a w) : ∃ H' L', Rel B (fun g => (s.fin n an).nx ≤ g) H' L' (s.fin n an) a w := by
  have h0 : Rel B (fun g => ({ s with nx := s.nx + n } : St).nx ≤ g) H L { s with nx := s.nx + n } a w := { h with }
  obtain ⟨H', L', h1⟩ := h0.facts an.acts
  obtain ⟨H2, L2, h2⟩ := Rel.facts an.last (s := (({ s with nx := s.nx + n } : St).facts an.acts).keep an) (h1.sub (fun i => keepEnv_get _ _ i) (fun k v hk => keepSto_find _ _ k v hk))
  exact ⟨H2, L2, h2.sub (t := s.fin n an) (fun i => .inl rfl) (fun k v hk => keepSto_find _ _ k v hk)⟩

/-! ### Code -/
theorem region_sound {P : Program} {nm : Names} (hm : P.follows .mixedOrders = true) {id : Nat} {ops : Array Oper} {draw : Bool} {Q : Exit → Act → World → Prop} {K : St → Prop} (hok : opsOk nt nm ops.toList = true) (hdr : draw = true → drawOk nm ops = true)
    {H : Imm} {L : Lay} {s : St} {a : Act} {w : World} (hR : Rel B (fun g => s.nx ≤ g) H L s a w) (ht : a.tmps.size = nt) (hd : a.defers = df) (h : opsWp P draw nm ops.toList ops.toList 0 s K)
    (hQ : ∀ a' w' H' L' s', Rel B (fun g => s'.nx + ops.size ≤ g) H' L' s' a' w' → a'.tmps.size = nt → a'.defers = df → K s' → Q .normal a' w') : (Code.region id ops draw).wp P Q a w := by
  cases draw with
  | false =>
    refine wp_region_list (ops_sound (q := false) (nt := nt) (nm := nm) (n0 := s.nx) (df := df) hok ops.toList 0 H L s a w (fun _ h => h) rfl ht hd (by simpa using hR) h ?_)
    intro a' w' H' L' s' h1 h2 h3 h4 h5
    refine hQ a' w' H' L' s' (h1.less ?_) h3 h2 h4
    intro g hg
    have hg' : s'.nx + ops.size ≤ g := hg
    show s.nx + (0 + ops.toList.length) ≤ g
    simp only [Array.length_toList]
    omega
  | true =>
    refine wp_region_any hm ?_
    obtain ⟨t, h1, h2⟩ := opsWp_runs ops.toList 0 s (fun j => by simp) h
    have hR' : Rel B (fun g => s.nx + ops.size ≤ g ∨ ∃ i ∈ List.range ops.size, g = s.nx + i) H L s a { w with drawn := w.drawn + 1 } := by
      refine (hR.quiet (.refl _) (hR.agree.quiet (Quiet.drew w)) (fun b c hc => .inl hc) (Quiet.drew w)).less ?_
      rintro g (hg | ⟨i, hi, rfl⟩)
      · show s.nx ≤ g; omega
      · show s.nx ≤ s.nx + i; omega
    refine any_sound (nt := nt) (nm := nm) (df := df) (n0 := s.nx) hok (hdr rfl) (t := t) (fun a' w' H' L' h1' h2' h3' => ?_) ops.size (List.range ops.size) (Array.replicate ops.size false) H L s a _ (by simp) (by simp) (fun j hj => by simp [hj]) (by
      rw [List.range_eq_range']; exact List.pairwise_lt_range') (by simp) (fun j hj o ho => absurd (List.mem_range.2 (Array.getElem?_eq_some_iff.1 ho).1) hj) rfl ht hd hR' (by rw [List.range_eq_range']; simpa using h1)
    have hnx : t.nx = s.nx := by
      have : ∀ (l : List Nat) (s t : St), Runs P nm ops l s t → t.nx = s.nx := by
        intro l
        induction l with
        | nil => intro s t h; exact h.nx.symm
        | cons i l ih =>
          intro s t ⟨o, e, _, _, h3⟩
          rw [ih _ _ h3, app_nx]
      exact this _ _ _ h1
    exact hQ a' w' H' L' t (h1'.less fun g hg => by
      have hg' : t.nx + ops.size ≤ g := hg
      show s.nx + ops.size ≤ g
      omega) h3' h2' h2

theorem awp_sound (hm : X.P.follows .mixedOrders = true) : ∀ (c : Code) (Q : AExit → St → Prop) (H : Imm) (L : Lay) (s : St) (a : Act) (w : World), codeOk nt X.nm c = true → Rel B (fun g => s.nx ≤ g) H L s a w → a.tmps.size = nt → a.defers = df →
    awp X c Q s → c.wp X.P (lift B nt df Q) a w := by
  intro c
  induction c with
  | skip => intro Q H L s a w _ hR ht hd h; exact wp_skip ⟨H, L, s, hR, ht, hd, h⟩
  | label l => intro Q H L s a w _ hR ht hd h; exact wp_label ⟨H, L, s, hR, ht, hd, h⟩
  | exit id => intro Q H L s a w _ hR ht hd h; exact wp_exit ⟨H, L, s, hR, ht, hd, h⟩
  | goto l => intro Q H L s a w _ hR ht hd h; exact wp_goto ⟨H, L, s, hR, ht, hd, h⟩
  | ret => intro Q H L s a w _ hR ht hd h; exact wp_ret ⟨H, L, s, hR, ht, hd, h⟩
  | scope c ih =>
    intro Q H L s a w hok hR ht hd h
    refine wp_scope_straight (wp_mono (ih _ H L s a w hok hR ht hd h) ?_)
    rintro e a' w' ⟨H', L', s', h1, h2, h3, h4⟩
    cases e with
    | normal => exact ⟨H', L', s', h1, h2, h3, h4⟩
    | exit id => exact ⟨H', L', s', h1, h2, h3, h4⟩
    | goto l => exact h4.elim
    | ret => exact ⟨H', L', s', h1, h2, h3, h4⟩
    | panic ch => exact h4.elim
    | outgrown => exact h4.elim
  | refuse why => intro Q H L s a w _ hR ht hd h; exact h.elim
  | rangeFunc f ps c1 c2 ih1 ih2 => intro Q H L s a w _ hR ht hd h; exact h.elim
  | region id ops draw =>
    intro Q H L s1 a w hok hR ht hd h
    obtain ⟨s, hl0, h⟩ := h
    obtain ⟨H, L, hR⟩ := Rel.told hl0 hR
    simp only [codeOk, Bool.and_eq_true, Bool.or_eq_true, Bool.not_eq_true'] at hok
    refine region_sound (nm := X.nm) (df := df) hm hok.1 (fun hdraw => by rcases hok.2 with h1 | h1; · rw [hdraw] at h1; cases h1
                                                                          · exact h1) hR ht hd h ?_
    intro a' w' H' L' s' h1 h2 h3 h4
    obtain ⟨H2, L2, h5⟩ := h1.fin (X.an id)
    exact ⟨H2, L2, _, h5, h2, h3, h4⟩
  | seq x y ihx ihy =>
    intro Q H L s a w hok hR ht hd h
    simp only [codeOk, Bool.and_eq_true] at hok
    refine wp_seq (wp_mono (ihx _ H L s a w hok.1 hR ht hd h) ?_)
    rintro e a' w' ⟨H', L', s', h1, h2, h3, h4⟩
    cases e with
    | normal =>
      obtain ⟨t, hl, h4⟩ := h4
      obtain ⟨H2, L2, h5⟩ := Rel.told hl h1
      exact ihy _ H2 L2 t a' w' hok.2 h5 h2 h3 h4
    | exit id => exact ⟨H', L', s', h1, h2, h3, h4⟩
    | goto l => exact ⟨H', L', s', h1, h2, h3, h4⟩
    | ret => exact ⟨H', L', s', h1, h2, h3, h4⟩
    | panic ch => exact h4.elim
    | outgrown => exact h4.elim
  | cond v x y ihx ihy =>
    intro Q H L s a w hok hR ht hd h
    simp only [codeOk, Bool.and_eq_true] at hok
    have hv := hR.eval v
    simp only [awp, condWp] at h
    split at h
    · rename_i b hb
      rw [hb] at hv
      generalize hav : a.eval v = av at hv
      cases hv
      refine wp_cond hav ?_
      cases b with
      | true => exact ihx _ H L s a w hok.1 hR ht hd (by simpa using h)
      | false => exact ihy _ H L s a w hok.2 hR ht hd (by simpa using h)
    · exact h.elim
  | block id c ih =>
    intro Q H L s a w hok hR ht hd h
    refine wp_block (wp_mono (ih _ H L s a w hok hR ht hd h) ?_)
    rintro e a' w' ⟨H', L', s', h1, h2, h3, h4⟩
    cases e with
    | normal => exact ⟨H', L', s', h1, h2, h3, h4⟩
    | exit id' =>
      simp only [AExit.inBlock] at h4
      simp only [Exit.inBlock]
      split
      · rename_i he
        rw [if_pos he] at h4
        exact ⟨H', L', s', h1, h2, h3, h4⟩
      · rename_i he
        rw [if_neg he] at h4
        exact ⟨H', L', s', h1, h2, h3, h4⟩
    | goto l => exact ⟨H', L', s', h1, h2, h3, h4⟩
    | ret => exact ⟨H', L', s', h1, h2, h3, h4⟩
    | panic ch => exact h4.elim
    | outgrown => exact h4.elim
  | loop c ih =>
    intro Q H L s1 a w hok hR1 ht hd h
    obtain ⟨s, hl0, h⟩ := h
    obtain ⟨H, L, hR⟩ := Rel.told hl0 hR1
    let I : St → Prop := fun s => ∀ (H : Imm) (L : Lay) (a : Act) (w : World), Rel B (fun g => s.nx ≤ g) H L s a w → a.tmps.size = nt → a.defers = df → ∀ (b : Frame) (k : List Item) (cs : List Frame),
      ∃ e a' w', lift B nt df Q e a' w' ∧ Arrives X.P (lone (b.at a (.code c :: .inLoop c :: k)) cs w) b k cs e a' w'
    have hI : I s := by
      refine h I fun s hs H L a w hR ht hd b k cs => ?_
      obtain ⟨e, a₁, w₁, ⟨H', L', s', h1, h2, h3, h4⟩, harr⟩ := ih _ H L s a w hok hR ht hd hs b (.inLoop c :: k) cs
      cases e with
      | normal =>
        obtain ⟨t, hl, h4⟩ := h4
        obtain ⟨H2, L2, h5⟩ := Rel.told hl h1
        obtain ⟨e₂, a₂, w₂, hq₂, harr₂⟩ := h4 H2 L2 a₁ w₁ h5 h2 h3 b k cs
        exact ⟨e₂, a₂, w₂, hq₂, .of_steps (Steps.trans harr (.one step_inLoop)) harr₂⟩
      | exit id => exact ⟨.exit id, a₁, w₁, ⟨H', L', s', h1, h2, h3, h4⟩, .pass (x := .inLoop c) rfl (fun _ _ => .inl (by simp)) harr⟩
      | goto l => exact ⟨.goto l, a₁, w₁, ⟨H', L', s', h1, h2, h3, h4⟩, .pass (x := .inLoop c) rfl (fun _ _ => .inl (by simp)) harr⟩
      | ret => exact ⟨.ret, a₁, w₁, ⟨H', L', s', h1, h2, h3, h4⟩, .pass (x := .inLoop c) rfl (fun _ _ => .inl (by simp)) harr⟩
      | panic ch => exact h4.elim
      | outgrown => exact h4.elim
    intro b k cs
    obtain ⟨e, a', w', hq, harr⟩ := hI H L a w hR ht hd b k cs
    exact ⟨e, a', w', hq, .of_steps (.one step_loop) harr⟩

end
end Go.Proofs.YtlgjbmgmoaphjaaDoor
