/- Regions: one operation behind the other, and in any order. -/
import Derived.Test.YtlgjbmgmoaphjaaDoorAw16
namespace Go.Proofs.YtlgjbmgmoaphjaaDoor
set_option linter.unusedSimpArgs false
set_option linter.unusedVariables false
open Go

section
variable {P : Program} {B : Base} {H : Imm} {L : Lay} {a : Act} {w : World} {q : Bool} {nm : Names}

/-! ### How things are told -/
section
variable {F : Nat → Prop} {s : St}

theorem nrm0_sound (h : Rel B F H L s a w) {fnd : Nat → Option (Nat × Ent)} {ks : List Nat} (hfr : ∀ j g f sz xs, fnd j = some (g, .row f sz xs) → j ∈ ks → j < 1000 → s.sto.find j = some (g, .row true sz xs))
    (x : Option Nat) {v : Value} {p : PV} (hv : Rep H L v p) (hk : ∀ j ∈ nks0 x p, j ∈ ks) : Rep H L v (nrm0 fnd x p) := by
  cases x with
  | none => cases p <;> exact hv
  | some sz =>
    cases p with
    | nilS => cases hv; exact .listNil _ _ _ _
    | row k g n =>
      show Rep H L v (pur0 fnd (.row k g n))
      by_cases hp : (pur0 fnd (.row k g n)).pure = true
      · exact (pur0_sound h hfr hv (by simpa [frz0, nks0] using hk) hp).none
      · have : pur0 fnd (.row k g n) = .row k g n := by
          unfold pur0 at hp ⊢
          simp only at hp ⊢
          split
          · rename_i hf
            simp only [hf] at hp
            split
            · rename_i hc; rw [if_pos hc] at hp; simp [PV.pure] at hp
            · rfl
          · rfl
        rw [this]; exact hv
    | _ => exact hv

theorem nrmL_sound (h : Rel B F H L s a w) {fnd : Nat → Option (Nat × Ent)} {ks : List Nat} (hfr : ∀ j g f sz xs, fnd j = some (g, .row f sz xs) → j ∈ ks → j < 1000 → s.sto.find j = some (g, .row true sz xs)) :
    ∀ (l : Nf) (vs : List Value) (ps : List PV), RepL H L vs ps → (∀ j ∈ nksL l ps, j ∈ ks) → RepL H L vs (nrmL fnd l ps)
  | [], vs, ps, hv, _ => by cases ps <;> exact hv
  | x :: l, vs, [], hv, _ => hv
  | x :: l, _, p :: ps, hv, hk => by
    cases hv with
    | cons _ v _ vs _ h1 h2 =>
      simp only [nksL, List.mem_append] at hk
      exact .cons _ _ _ _ _ (nrm0_sound h hfr x h1 fun j hj => hk j (.inl hj)) (nrmL_sound h hfr l vs ps h2 fun j hj => hk j (.inr hj))

theorem nrm1_sound (h : Rel B F H L s a w) {fnd : Nat → Option (Nat × Ent)} {ks : List Nat} (hfr : ∀ j g f sz xs, fnd j = some (g, .row f sz xs) → j ∈ ks → j < 1000 → s.sto.find j = some (g, .row true sz xs))
    (l : Nf) {v : Value} {p : PV} (hv : Rep H L v p) (hk : ∀ j ∈ nks1 l p, j ∈ ks) : Rep H L v (nrm1 fnd l p) := by
  unfold nrm1
  split
  · rename_i cs
    cases hv with
    | agg _ vs _ hr => exact .agg _ _ _ (nrmL_sound h hfr l vs cs hr (by simpa [nks1] using hk))
  · rename_i hne
    refine nrm0_sound h hfr _ hv fun j hj => hk j ?_
    unfold nks1
    split
    · exact (hne _ rfl).elim
    · exact hj

theorem Rel.act1 (h : Rel B F H L s a w) (d : Nat) (l : Nf) : ∃ H', Rel B F H' L (s.act1 d l) a w := by
  unfold St.act1
  split
  · rename_i k g off hd
    split
    · rename_i g' tv cs hf
      obtain ⟨H', h1, hG⟩ := h.frz (nksL l cs)
      have hf' : (Sto.frz (nksL l cs) s.sto).find k = some (g', .var tv cs) := by rw [frz_find, hf]
      obtain ⟨sl, e1, e2, b, vs, t, e3, e4, e5, e6⟩ := h1.sto k g' _ hf'
      subst e2
      refine ⟨H', h1.setOld (k := k) (sl := sl) (H' := H') e1 (.refl _) h1.agree (fun b c hc => .inl hc) (Nat.le_refl _) (fun _ _ _ => rfl) rfl rfl rfl ⟨b, vs, t, e3, e4, e5, ?_⟩⟩
      exact nrmL_sound h1 (frz_found s.sto _) l vs cs e6 fun j hj => hj
    · exact ⟨H, h⟩
  · obtain ⟨H', h1, hG⟩ := h.frz (nks1 l (s.env.get d))
    refine ⟨H', { h1 with env := fun i => ?_ }⟩
    show Rep H' L _ (if i = d then nrm1 s.sto.find l (s.env.get d) else s.env.get i)
    split
    · rename_i hi
      subst hi
      exact nrm1_sound h1 (frz_found s.sto _) l (h1.env i) fun j hj => hj
    · exact h1.env i

theorem Rel.actq (h : Rel B F H L s a w) (nf : List (Nat × Nf)) (dst : Option Nat) : ∃ H', Rel B F H' L (s.actq q nf dst) a w := by
  cases q with
  | true => exact ⟨H, h⟩
  | false =>
    cases dst with
    | none => exact ⟨H, h⟩
    | some d =>
      simp only [St.actq, St.act]
      cases nfOf nf d with
      | nil => exact ⟨H, h⟩
      | cons x l => exact h.act1 d _
end

/-! ### What follows may be weakened; stamps stay -/
theorem St.back_nx (s : St) (dst : Option Nat) (k g : Nat) (r : PV) : (s.back dst k g r).nx = s.nx := by
  cases r <;> cases dst <;> rfl

theorem Res.wp_mono {s : St} {dst : Option Nat} {k g : Nat} {K K' : St → Prop} (h : ∀ s', s'.nx = s.nx → K s' → K' s') : ∀ (r : Res), r.wp P q s dst k g K → r.wp P q s dst k g K'
  | .val v, hr => h _ (by cases dst <;> rfl) hr
  | .eff v k' g' e, hr => h _ (by cases dst <;> rfl) hr
  | .call f args, hr => by
    rcases hr with ⟨args', r, h1, h2, h3, h4, h5⟩ | ⟨h0, ks, es, args', r, es', h1, h2, h3, h4, h5, h6, h7⟩
    · exact .inl ⟨args', r, h1, h2, h3, h4, h _ (St.back_nx _ _ _ _ _) h5⟩
    · exact .inr ⟨h0, ks, es, args', r, es', h1, h2, h3, h4, h5, h6, h _ (St.back_nx _ _ _ _ _) h7⟩
  | .need p r, hr => ⟨hr.1, Res.wp_mono h r hr.2⟩
  | .ndet p b, hr => ⟨hr.1, fun hp => h _ (by cases dst <;> rfl) (hr.2.1 hp), h _ (by cases dst <;> rfl) hr.2.2⟩
  | .bad, hr => hr.elim

theorem St.act1_nx (s : St) (d : Nat) (l : Nf) : (s.act1 d l).nx = s.nx := by
  unfold St.act1
  split
  · split <;> rfl
  · rfl

theorem St.actq_nx (s : St) (nf : List (Nat × Nf)) (dst : Option Nat) : (s.actq q nf dst).nx = s.nx := by
  cases q with
  | true => rfl
  | false =>
    cases dst with
    | none => rfl
    | some d =>
      simp only [St.actq, St.act]
      cases nfOf nf d with
      | nil => rfl
      | cons x l => exact St.act1_nx s d _

theorem wpQ_none {fp : Option (List Nat)} {s : St} {dst : Option Nat} {k g : Nat} {r : Res} {K : St → Prop} (h : fp = none) : wpQ P q fp s dst k g r K = r.wp P q s dst k g K := by
  subst h; rfl
theorem wpQ_some {fp : List Nat} {s : St} {dst : Option Nat} {k g : Nat} {r : Res} {K : St → Prop} (h : wpQ P q (some fp) s dst k g r K) : r.wp P q s dst k g K ∨ ∃ f args, r = .call f args ∧ callQwp P fp s dst k g f args K := by
  cases r <;> first
    | exact .inl h
    | exact .inr ⟨_, _, rfl, h⟩
theorem wpQ_mono {fp : Option (List Nat)} {s : St} {dst : Option Nat} {k g : Nat} {r : Res} {K K' : St → Prop} (h : ∀ s', s'.nx = s.nx → K s' → K' s') (hr : wpQ P q fp s dst k g r K) : wpQ P q fp s dst k g r K' := by
  cases fp with
  | none => exact Res.wp_mono h _ hr
  | some fp =>
    cases r <;> first
      | exact Res.wp_mono h _ hr
      | (obtain ⟨ks, es, args', r, es', h1, h2, h3, h4, h5, h6, h7, h8⟩ := hr; exact ⟨ks, es, args', r, es', h1, h2, h3, h4, h5, h6, h7, h _ (St.back_nx _ _ _ _ _) h8⟩)
theorem fOf_some {op : Op} {dst : Option Nat} {fp : List Nat} (h : fOf q nm op dst = some fp) : q = true ∧ ∃ c f, op = .call c ∧ c.callee = .value f ∧ fpOf nm.fp dst = some fp := by
  cases q with
  | false => cases h
  | true =>
    refine ⟨rfl, ?_⟩
    simp only [fOf, callF] at h
    split at h
    · rename_i c
      split at h
      · rename_i f hc
        exact ⟨c, f, rfl, hc, h⟩
      · cases h
    · cases h
theorem shutq_call {l : Nf} {c : Call} {f : Operand} {r : Res} (hc : c.callee = .value f) : shutq q l (.call c) r = r := by
  unfold shutq
  have : growsOp (.call c) = false := by simp [growsOp, hc]
  rw [this]
  split <;> simp_all

theorem runWp_mono {i : Nat} {o : Oper} {s : St} {K K' : St → Prop} (h : ∀ s', s'.nx = s.nx → K s' → K' s') (hr : runWp P q nm i o s K) : runWp P q nm i o s K' :=
  ⟨hr.1, hr.2.1, wpQ_mono (fun s' hs' => h _ (by rw [St.actq_nx]; exact hs')) hr.2.2⟩

theorem opWp_mono {ops : List Oper} {i : Nat} {o : Oper} {s : St} {K K' : St → Prop} (h : ∀ s', s'.nx = s.nx → K s' → K' s') (hr : opWp P q nm ops i o s K) : opWp P q nm ops i o s K' := by
  unfold opWp at hr ⊢
  split at hr
  · exact runWp_mono h hr
  · split at hr
    · split at hr
      · exact runWp_mono h hr
      · exact h _ (by cases o.dst <;> rfl) hr
      · exact hr.elim
    · exact hr.elim

theorem opsWp_mono {ops : List Oper} : ∀ (l : List Oper) (i : Nat) (s : St) {K K' : St → Prop}, (∀ s', K s' → K' s') → opsWp P q nm ops l i s K → opsWp P q nm ops l i s K'
  | [], _, s, _, _, h, hr => h s hr
  | o :: l, i, s, _, _, h, hr => opWp_mono (fun s' _ hs' => opsWp_mono l (i + 1) s' h hs') hr

/-! ### Guards -/
theorem getD_bool {a : Act} {d : Nat} {b : Bool} (h : a.tmps.getD d undef = .bool b) : a.tmps[d]? = some (.bool b) := by
  unfold Array.getD at h
  split at h
  · rename_i hlt
    rw [Array.getElem?_eq_getElem hlt]
    exact congrArg some h
  · cases h

theorem gate_true {want : Bool} {v : PV} (h : gate want v = some true) : v = .bool want := by
  unfold gate at h
  split at h
  · simp at h; rw [h]
  · cases h
  · cases h

theorem gate_false {want : Bool} {v : PV} (h : gate want v = some false) : (∃ b, v = .bool b ∧ (b == want) = false) ∨ v = .tup [] := by
  unfold gate at h
  split at h
  · rename_i b; exact .inl ⟨b, rfl, by simpa using h⟩
  · exact .inr rfl
  · cases h

/-- A row that is told as one that is written no more: all that stands for the one state stands for the other one. -/
def ShutTo (K : St → Prop) (s : St) : Prop := ∃ t, K t ∧ t.nx = s.nx ∧ ∀ {B : Base} {F : Nat → Prop} {H : Imm} {L : Lay} {a : Act} {w : World}, Rel B F H L s a w → ∃ H', Rel B F H' L t a w

theorem ShutTo.self {K : St → Prop} {s : St} (h : K s) : ShutTo K s := ⟨s, h, rfl, fun hR => ⟨_, hR⟩⟩

theorem shutR_sound {s : St} {d k g : Nat} {K : St → Prop} {v : PV} {k' g' : Nat} {e : Ent} (h : (shutR v k' g' e).wp P q s (some d) k g K) : ShutTo K ((s.put (some d) v).set k' g' e) := by
  unfold shutR at h
  split at h
  · rename_i k1 g1 n sz xs
    simp only [Res.wp] at h
    obtain ⟨⟨rfl, rfl, hn, hk⟩, h⟩ := h
    refine ⟨_, h, rfl, fun hR => ?_⟩
    obtain ⟨H', h1⟩ := hR.act1 d [some sz]
    refine ⟨H', ?_⟩
    have hf : (s.sto.upd k1 g1 (.row false sz xs)).find k1 = some (g1, .row false sz xs) := Sto.find_upd_same _ _ _ _
    have hact : St.act1 ((s.put (some d) (.row k1 g1 n)).set k1 g1 (.row false sz xs)) d [some sz] = { env := (d, .list sz (xs.take n)) :: (d, .row k1 g1 n) :: s.env, sto := (s.sto.upd k1 g1 (.row false sz xs)).upd k1 g1 (.row true sz xs), nx := s.nx } := by
      simp only [St.act1, St.put, St.set, Env.get, if_true, nrm1, List.headD_cons, nrm0, pur0, hf, hn, hk, and_self, nks1, nks0, Sto.frz, Sto.frzK]
    rw [hact] at h1
    refine { h1 with env := fun i => ?_, sto := fun j g e he => ?_ }
    · have := h1.env i
      by_cases hi : i = d
      · simpa [Env.get, hi, St.put, St.set] using this
      · simpa [Env.get, hi, St.put, St.set] using this
    · refine h1.sto j g e ?_
      simp only [St.put, St.set] at he
      by_cases hj : j = k1
      · subst hj
        rw [Sto.find_upd_same] at he ⊢
        exact he
      · rw [Sto.find_upd_other _ _ _ _ _ hj] at he
        rw [Sto.find_upd_other _ _ _ _ _ hj, Sto.find_upd_other _ _ _ _ _ hj]
        exact he
  · exact h.elim

theorem shut_sound {s : St} {d k g : Nat} {K : St → Prop} : ∀ (r : Res), (r.shut).wp P q s (some d) k g K → r.wp P q s (some d) k g (ShutTo K)
  | .val _, h => ShutTo.self h
  | .eff _ _ _ _, h => shutR_sound h
  | .need _ r, h => ⟨h.1, shut_sound r h.2⟩
  | .call _ _, h => h.elim
  | .ndet _ _, h => h.elim
  | .bad, h => h.elim

theorem shutq_sound {s : St} {dst : Option Nat} {k g : Nat} {K : St → Prop} {op : Op} {r : Res} (h : (shutq q (nfD nm dst) op r).wp P q s dst k g K) : r.wp P q s dst k g (ShutTo K) := by
  cases dst with
  | none =>
    have : shutq q (nfD nm none) op r = r := by unfold shutq; split <;> simp_all [nfD]
    rw [this] at h
    exact Res.wp_mono (fun _ _ h => ShutTo.self h) _ h
  | some d =>
    unfold shutq at h
    split at h
    · exact shut_sound _ h
    · exact Res.wp_mono (fun _ _ h => ShutTo.self h) _ h

/-- An operation that comes up: in the frame and the world. -/
theorem opWp_sound {F : Nat → Prop} {s : St} {K : St → Prop} (hR : Rel B F H L s a w) {ops : Array Oper} {i : Nat} {o : Oper} (hF : F (s.nx + i)) (hk : keyOf nm o.dst < 1000) (hd : ∀ d, o.dst = some d → d < a.tmps.size)
    (h : opWp P q nm ops.toList i o s K) (next : Act → World → Prop) (Q : Exit → Act → World → Prop)
    (hnext : ∀ a' w' H' L' s', Rel B (fun x => F x ∧ x ≠ s.nx + i) H' L' s' a' w' → a'.defers = a.defers → a'.tmps.size = a.tmps.size → K s' → s'.nx = s.nx → next a' w') :
    if Region.wanted o (yielded ops a.tmps) then o.wp P a w next Q ∨ (o.asks P a w ∧ LetsOut Q) else next (a.put o.dst undef) w := by
  have run : runWp P q nm i o s K → o.wp P a w next Q := by
    intro hr
    obtain ⟨q', hq'⟩ : ∃ q', (opRes P q' s (keyOf nm o.dst) (s.nx + i) o.op).wp P q' s o.dst (keyOf nm o.dst) (s.nx + i) fun s' => ShutTo (fun s' => K (s'.actq q nm.nf o.dst)) s' ∧ s'.nx = s.nx := by
      have plain : (shutq q (nfD nm o.dst) o.op (opRes P q s (keyOf nm o.dst) (s.nx + i) o.op)).wp P q s o.dst (keyOf nm o.dst) (s.nx + i) (fun s' => K (s'.actq q nm.nf o.dst)) →
          ∃ q', (opRes P q' s (keyOf nm o.dst) (s.nx + i) o.op).wp P q' s o.dst (keyOf nm o.dst) (s.nx + i) fun s' => ShutTo (fun s' => K (s'.actq q nm.nf o.dst)) s' ∧ s'.nx = s.nx :=
        fun h2 => ⟨q, Res.wp_mono (fun s' h1 h2 => ⟨h2, h1⟩) _ (shutq_sound h2)⟩
      cases hF : fOf q nm o.op o.dst with
      | none =>
        have := hr.2.2
        rw [wpQ_none hF] at this
        exact plain this
      | some fp =>
        have h2 := hr.2.2
        rw [hF] at h2
        rcases wpQ_some h2 with h2 | ⟨f', args, h3, ks, es, args', r, es', _, g1, g2, g3, g4, g5, g6, g7⟩
        · exact plain h2
        · obtain ⟨_, c, f, e1, e2, _⟩ := fOf_some hF
          refine ⟨false, ?_⟩
          rw [e1, shutq_call e2] at h3
          have h4 : opRes P false s (keyOf nm o.dst) (s.nx + i) o.op = .call f' args := by
            rw [e1, ← h3]
            simp only [opRes, e2]
          rw [h4]
          exact .inr ⟨rfl, ks, es, args', r, es', g1, g2, g3, g4, g5, g6, .self g7, St.back_nx _ _ _ _ _⟩
    exact op_sound (K := fun s' => ShutTo (fun s' => K (s'.actq q nm.nf o.dst)) s' ∧ s'.nx = s.nx) hR hF hk o hd hq' next Q (fun a' w' H' L' s' h1 h2 h3 h4 => by
      obtain ⟨⟨t, hK, hnx, hto⟩, hnx'⟩ := h4
      obtain ⟨H1, h1⟩ := hto h1
      obtain ⟨H2, h5⟩ := h1.actq (q := q) nm.nf o.dst
      exact hnext a' w' H2 L' _ h5 h2 h3 hK (by rw [St.actq_nx, hnx]; exact hnx'))
  unfold opWp at h
  split at h
  · rename_i hg
    have : Region.wanted o (yielded ops a.tmps) = true := by simp [Region.wanted, hg]
    rw [if_pos this]
    exact .inl (run h)
  · rename_i j want hg
    split at h
    · rename_i d hslot
      have hslot' : (ops[j]?).bind (·.dst) = some d := by
        unfold guardSlot at hslot
        rwa [Array.getElem?_toList] at hslot
      have henv := hR.env d
      have skip : Region.wanted o (yielded ops a.tmps) = false → K (s.put o.dst (.tup [])) → if Region.wanted o (yielded ops a.tmps) then o.wp P a w next Q ∨ (o.asks P a w ∧ LetsOut Q) else next (a.put o.dst undef) w := by
        intro hw hK
        rw [hw]
        exact hnext _ w H L _ ((hR.put (dst := o.dst) hd (.tup _ [] [] (.nil _))).less (fun _ h => h.1)) (Act.put_defers _ _ _) (Act.put_size _ _ _) hK (by cases o.dst <;> rfl)
      split at h
      · rename_i hget
        rw [gate_true hget] at henv
        generalize hv : a.tmps.getD d undef = v at henv
        cases henv
        have hy : yielded ops a.tmps j = some want := by
          unfold yielded
          rw [hslot']
          simp [getD_bool hv]
        rw [if_pos (by simp [Region.wanted, hg, hy])]
        exact .inl (run h)
      · rename_i hget
        refine skip ?_ h
        rcases gate_false hget with ⟨b, hb, hbw⟩ | hb
        · rw [hb] at henv
          generalize hv : a.tmps.getD d undef = v at henv
          cases henv
          have hy : yielded ops a.tmps j = some b := by
            unfold yielded
            rw [hslot']
            simp [getD_bool hv]
          simp only [Region.wanted, hg, hy]
          cases b <;> cases want <;> first | rfl | cases hbw
        · rw [hb] at henv
          have hy : yielded ops a.tmps j = none := by
            unfold yielded
            rw [hslot']
            simp only [Option.bind_some]
            split
            · rename_i b hb'
              have hv : a.tmps.getD d undef = .bool b := by
                unfold Array.getD
                obtain ⟨hlt, he⟩ := Array.getElem?_eq_some_iff.1 hb'
                rw [dif_pos hlt]
                exact he
              rw [hv] at henv
              cases henv
            · rfl
          simp only [Region.wanted, hg, hy]
          rfl
      · exact h.elim
    · exact h.elim

/-- What a region's operations ask of the frame. -/
def opsOk (nt : Nat) (nm : Names) (ops : List Oper) : Bool := ops.all fun o => match o.dst with
  | some d => decide (d < nt) && decide (nm d < 1000)
  | none => true

theorem opsOk_at {nt : Nat} {ops : List Oper} (h : opsOk nt nm ops = true) {o : Oper} (ho : o ∈ ops) : keyOf nm o.dst < 1000 ∧ ∀ d, o.dst = some d → d < nt := by
  have := List.all_eq_true.1 h o ho
  cases hd : o.dst with
  | none => exact ⟨by simp [keyOf], by simp⟩
  | some d =>
    simp only [hd, Bool.and_eq_true, decide_eq_true_eq] at this
    exact ⟨this.2, fun d' hd' => by cases hd'; exact this.1⟩

theorem ops_sound {ops : Array Oper} {nt : Nat} (hok : opsOk nt nm ops.toList = true) {Q : Exit → Act → World → Prop} {K : St → Prop} {n0 : Nat} {df : List Deferred} : ∀ (l : List Oper) (i : Nat) (H : Imm) (L : Lay) (s : St) (a : Act) (w : World),
    (∀ o ∈ l, o ∈ ops.toList) → s.nx = n0 → a.tmps.size = nt → a.defers = df → Rel B (fun g => n0 + i ≤ g) H L s a w → opsWp P q nm ops.toList l i s K →
    (∀ a' w' H' L' s', Rel B (fun g => n0 + (i + l.length) ≤ g) H' L' s' a' w' → a'.defers = df → a'.tmps.size = nt → K s' → s'.nx = n0 → Q .normal a' w') → wpList P ops Q l a w
  | [], i, H, L, s, a, w, _, hn, ht, hdf, hR, h, hQ => hQ a w H L s (by simpa using hR) hdf ht h hn
  | o :: l, i, H, L, s, a, w, hm, hn, ht, hdf, hR, h, hQ => by
    obtain ⟨h1, h2⟩ := opsOk_at hok (hm o (by simp))
    refine opWp_sound (q := q) (nm := nm) hR (ops := ops) (i := i) (o := o) (show n0 + i ≤ s.nx + i by omega) h1 (by rw [ht]; exact h2) h _ Q ?_
    intro a' w' H' L' s' hR' hd' hs' hK' hnx'
    refine ops_sound hok l (i + 1) H' L' s' a' w' (fun o ho => hm o (by simp [ho])) (by omega) (by omega) (by rw [hd', hdf]) (hR'.less ?_) hK' (fun a' w' H' L' s' h1 h2 h3 h4 h5 => hQ a' w' H' L' s' (h1.less ?_) h2 h3 h4 h5)
    · intro g hg
      have hg' : n0 + (i + 1) ≤ g := hg
      exact ⟨show n0 + i ≤ g by omega, by omega⟩
    · intro g hg
      have hg' : n0 + (i + (o :: l).length) ≤ g := hg
      simp only [List.length_cons] at hg'
      show n0 + (i + 1 + l.length) ≤ g
      omega

end
end Go.Proofs.YtlgjbmgmoaphjaaDoor
