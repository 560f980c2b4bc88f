/- Code, and functions: what the abstract walk shows holds of the program. -/
import Derived.Test.YtafcbjepmjcpgaaAw20
import Derived.Scope
namespace Go.Proofs.Ytafcbjepmjcpgaa
set_option linter.unusedSimpArgs false
set_option linter.unusedVariables false
open Go

section
variable {B : Base} {X : Cx} {nt : Nat} {df : List Deferred}

def codeOk (nt : Nat) (nm : Names) : Code → Bool
  | .region _ ops draw => opsOk nt nm ops.toList && (!draw || drawOk nm ops)
  | .seq a b => codeOk nt nm a && codeOk nt nm b
  | .cond _ a b => codeOk nt nm a && codeOk nt nm b
  | .block _ c => codeOk nt nm c
  | .loop c => codeOk nt nm c
  | .scope c => codeOk nt nm c
  | _ => true

/-- What holds of a frame and a world when it holds of the states that they stand for. -/
def lift (B : Base) (nt : Nat) (df : List Deferred) (Q : AExit → St → Prop) : Exit → Act → World → Prop := fun e a w =>
  ∃ H L s, Rel B (fun g => s.nx ≤ g) H L s a w ∧ a.tmps.size = nt ∧ a.defers = df ∧ match e with
    | .normal => Q .normal s
    | .exit id => Q (.exit id) s
    | .goto l => Q (.goto l) s
    | .ret => Q .ret s
    | _ => False

theorem lift_mono {Q Q' : AExit → St → Prop} (h : ∀ e s, Q e s → Q' e s) (e : Exit) (a : Act) (w : World) (hl : lift B nt df Q e a w) : lift B nt df Q' e a w := by
  obtain ⟨H, L, s, h1, h2, h3, h4⟩ := hl
  refine ⟨H, L, s, h1, h2, h3, ?_⟩
  cases e <;> first
    | exact h _ _ h4
    | exact h4

/-! ### Behind a region -/
theorem keepEnv_get (env : Env) : ∀ (l : List Nat) (i : Nat), (keepEnv env l).get i = env.get i ∨ (keepEnv env l).get i = .undef
  | [], i => .inr rfl
  | j :: l, i => by
    simp only [keepEnv, Env.get]
    split
    · rename_i h; subst h; exact .inl rfl
    · exact keepEnv_get env l i

theorem keepSto_find (sto : Sto) : ∀ (l : List Nat) (k : Nat) (v : Nat × Ent), (keepSto sto l).find k = some v → sto.find k = some v
  | [], k, v, h => by simp [keepSto, Sto.find] at h
  | j :: l, k, v, h => by
    simp only [keepSto] at h
    split at h
    · rename_i x hx
      simp only [Sto.find] at h
      split at h
      · rename_i hk
        subst hk
        rw [hx, h]
      · exact keepSto_find sto l k v h
    · exact keepSto_find sto l k v h

theorem Rel.sub {F : Nat → Prop} {H : Imm} {L : Lay} {s t : St} {a : Act} {w : World} (h : Rel B F H L s a w) (he : ∀ i, t.env.get i = s.env.get i ∨ t.env.get i = .undef) (hs : ∀ k v, t.sto.find k = some v → s.sto.find k = some v) : Rel B F H L t a w :=
  { h with
    env := fun i => by
      rcases he i with h1 | h1
      · rw [h1]; exact h.env i
      · rw [h1]; exact .undef _ _
    sto := fun k g e hf => h.sto k g e (hs k _ hf) }

theorem Rel.thaw1 {H : Imm} {L : Lay} {s : St} {a : Act} {w : World} (h : Rel B (fun g => s.nx ≤ g) H L s a w) (x : Nat × Nat × Nat) : ∃ L', Rel B (fun g => (s.thaw1 x).nx ≤ g) H L' (s.thaw1 x) a w := by
  unfold St.thaw1
  split
  · rename_i hn
    split
    · rename_i hk
      let sl : Slot := ⟨s.nx, none, 0, x.2.2⟩
      have hset := h.setNew (sl := sl) (k := x.2.1) (e := .row false x.2.2 []) (H' := H) (w' := w) hk (Nat.le_refl _) (.refl _) h.agree (fun b c hc => .inl hc) (Nat.le_refl _) (fun _ _ _ => rfl) rfl rfl rfl (by simp [sl])
        ⟨rfl, by simp, by simp, .inl ⟨rfl, rfl⟩⟩
      have hslot := h.env x.1
      rw [hn] at hslot
      generalize hv : a.tmps.getD x.1 undef = v at hslot
      cases hslot
      refine ⟨_, { hset.less (F' := fun g => s.nx + 1 ≤ g) ?_ with env := fun i => ?_ }⟩
      · intro g hg
        have hg' : s.nx + 1 ≤ g := hg
        exact ⟨show s.nx ≤ g by omega, by simp only [sl]; omega⟩
      · show Rep H _ _ (if i = x.1 then PV.row x.2.1 s.nx 0 else s.env.get i)
        split
        · rename_i hi
          rw [hi, hv]
          refine .row _ _ _ _ _ (.inr rfl) ⟨_, _, rfl⟩ fun s' hs' _ => ?_
          simp only [if_true, Option.some.injEq] at hs'
          subst hs'
          rfl
        · exact hset.env i
    · exact ⟨L, h⟩
  · exact ⟨L, h⟩

theorem Rel.thaw : ∀ (l : List (Nat × Nat × Nat)) {H : Imm} {L : Lay} {s : St} {a : Act} {w : World}, Rel B (fun g => s.nx ≤ g) H L s a w → ∃ L', Rel B (fun g => (s.thaw l).nx ≤ g) H L' (s.thaw l) a w
  | [], _, L, _, _, _, h => ⟨L, h⟩
  | x :: l, _, _, _, _, _, h => by
    obtain ⟨L1, h1⟩ := h.thaw1 x
    exact Rel.thaw l h1

theorem Rel.fin {H : Imm} {L : Lay} {s : St} {a : Act} {w : World} {n : Nat} (an : Ann) (h : Rel B (fun g => s.nx + n ≤ g) H L s a w) : ∃ L', Rel B (fun g => (s.fin n an).nx ≤ g) H L' (s.fin n an) a w := by
  have h0 : Rel B (fun g => ({ s with nx := s.nx + n } : St).nx ≤ g) H L { s with nx := s.nx + n } a w := { h with }
  obtain ⟨L', h1⟩ := h0.thaw an.thaw
  exact ⟨L', (h1.sub (t := s.fin n an) (fun i => keepEnv_get _ _ i) (fun k v hk => keepSto_find _ _ k v hk))⟩

/-! ### Code -/
theorem region_sound {P : Program} {nm : Names} (hm : P.follows .mixedOrders = true) {id : Nat} {ops : Array Oper} {draw : Bool} {Q : Exit → Act → World → Prop} {K : St → Prop} (hok : opsOk nt nm ops.toList = true) (hdr : draw = true → drawOk nm ops = true)
    {H : Imm} {L : Lay} {s : St} {a : Act} {w : World} (hR : Rel B (fun g => s.nx ≤ g) H L s a w) (ht : a.tmps.size = nt) (hd : a.defers = df) (h : opsWp P draw nm ops.toList ops.toList 0 s K)
    (hQ : ∀ a' w' H' L' s', Rel B (fun g => s'.nx + ops.size ≤ g) H' L' s' a' w' → a'.tmps.size = nt → a'.defers = df → K s' → Q .normal a' w') : (Code.region id ops draw).wp P Q a w := by
  cases draw with
  | false =>
    refine wp_region_list (ops_sound (q := false) (nt := nt) (nm := nm) (n0 := s.nx) (df := df) hok ops.toList 0 H L s a w (fun _ h => h) rfl ht hd (by simpa using hR) h ?_)
    intro a' w' H' L' s' h1 h2 h3 h4 h5
    refine hQ a' w' H' L' s' (h1.less ?_) h3 h2 h4
    intro g hg
    have hg' : s'.nx + ops.size ≤ g := hg
    show s.nx + (0 + ops.toList.length) ≤ g
    simp only [Array.length_toList]
    omega
  | true =>
    refine wp_region_any hm ?_
    obtain ⟨t, h1, h2⟩ := opsWp_runs ops.toList 0 s (fun j => by simp) h
    have hR' : Rel B (fun g => s.nx + ops.size ≤ g ∨ ∃ i ∈ List.range ops.size, g = s.nx + i) H L s a { w with drawn := w.drawn + 1 } := by
      refine (hR.quiet (.refl _) (hR.agree.quiet (Quiet.drew w)) (fun b c hc => .inl hc) (Quiet.drew w)).less ?_
      rintro g (hg | ⟨i, hi, rfl⟩)
      · show s.nx ≤ g; omega
      · show s.nx ≤ s.nx + i; omega
    refine any_sound (nt := nt) (nm := nm) (df := df) (n0 := s.nx) hok (hdr rfl) (t := t) (fun a' w' H' L' h1' h2' h3' => ?_) ops.size (List.range ops.size) (Array.replicate ops.size false) H L s a _ (by simp) (by simp) (fun j hj => by simp [hj]) (by
      rw [List.range_eq_range']; exact List.pairwise_lt_range') (by simp) (fun j hj o ho => absurd (List.mem_range.2 (Array.getElem?_eq_some_iff.1 ho).1) hj) rfl ht hd hR' (by rw [List.range_eq_range']; simpa using h1)
    have hnx : t.nx = s.nx := by
      have : ∀ (l : List Nat) (s t : St), Runs P nm ops l s t → t.nx = s.nx := by
        intro l
        induction l with
        | nil => intro s t h; exact h.nx.symm
        | cons i l ih =>
          intro s t ⟨o, e, _, _, h3⟩
          rw [ih _ _ h3, app_nx]
      exact this _ _ _ h1
    exact hQ a' w' H' L' t (h1'.less fun g hg => by
      have hg' : t.nx + ops.size ≤ g := hg
      show s.nx + ops.size ≤ g
      omega) h3' h2' h2

theorem awp_sound (hm : X.P.follows .mixedOrders = true) : ∀ (c : Code) (Q : AExit → St → Prop) (H : Imm) (L : Lay) (s : St) (a : Act) (w : World), codeOk nt X.nm c = true → Rel B (fun g => s.nx ≤ g) H L s a w → a.tmps.size = nt → a.defers = df →
    awp X c Q s → c.wp X.P (lift B nt df Q) a w := by
  intro c
  induction c with
  | skip => intro Q H L s a w _ hR ht hd h; exact wp_skip ⟨H, L, s, hR, ht, hd, h⟩
  | label l => intro Q H L s a w _ hR ht hd h; exact wp_label ⟨H, L, s, hR, ht, hd, h⟩
  | exit id => intro Q H L s a w _ hR ht hd h; exact wp_exit ⟨H, L, s, hR, ht, hd, h⟩
  | goto l => intro Q H L s a w _ hR ht hd h; exact wp_goto ⟨H, L, s, hR, ht, hd, h⟩
  | ret => intro Q H L s a w _ hR ht hd h; exact wp_ret ⟨H, L, s, hR, ht, hd, h⟩
  | scope c ih =>
    intro Q H L s a w hok hR ht hd h
    refine wp_scope_straight (wp_mono (ih _ H L s a w hok hR ht hd h) ?_)
    rintro e a' w' ⟨H', L', s', h1, h2, h3, h4⟩
    cases e with
    | normal => exact ⟨H', L', s', h1, h2, h3, h4⟩
    | exit id => exact ⟨H', L', s', h1, h2, h3, h4⟩
    | goto l => exact h4.elim
    | ret => exact ⟨H', L', s', h1, h2, h3, h4⟩
    | panic ch => exact h4.elim
    | outgrown => exact h4.elim
  | refuse why => intro Q H L s a w _ hR ht hd h; exact h.elim
  | rangeFunc f ps c1 c2 ih1 ih2 => intro Q H L s a w _ hR ht hd h; exact h.elim
  | region id ops draw =>
    intro Q H L s a w hok hR ht hd h
    simp only [codeOk, Bool.and_eq_true, Bool.or_eq_true, Bool.not_eq_true'] at hok
    refine region_sound (nm := X.nm) (df := df) hm hok.1 (fun hdraw => by rcases hok.2 with h1 | h1; · rw [hdraw] at h1; cases h1
                                                                          · exact h1) hR ht hd h ?_
    intro a' w' H' L' s' h1 h2 h3 h4
    obtain ⟨L2, h5⟩ := h1.fin (X.an id)
    exact ⟨H', L2, _, h5, h2, h3, h4⟩
  | seq x y ihx ihy =>
    intro Q H L s a w hok hR ht hd h
    simp only [codeOk, Bool.and_eq_true] at hok
    refine wp_seq (wp_mono (ihx _ H L s a w hok.1 hR ht hd h) ?_)
    rintro e a' w' ⟨H', L', s', h1, h2, h3, h4⟩
    cases e with
    | normal => exact ihy _ H' L' s' a' w' hok.2 h1 h2 h3 h4
    | exit id => exact ⟨H', L', s', h1, h2, h3, h4⟩
    | goto l => exact ⟨H', L', s', h1, h2, h3, h4⟩
    | ret => exact ⟨H', L', s', h1, h2, h3, h4⟩
    | panic ch => exact h4.elim
    | outgrown => exact h4.elim
  | cond v x y ihx ihy =>
    intro Q H L s a w hok hR ht hd h
    simp only [codeOk, Bool.and_eq_true] at hok
    have hv := hR.eval v
    simp only [awp, condWp] at h
    split at h
    · rename_i b hb
      rw [hb] at hv
      generalize hav : a.eval v = av at hv
      cases hv
      refine wp_cond hav ?_
      cases b with
      | true => exact ihx _ H L s a w hok.1 hR ht hd (by simpa using h)
      | false => exact ihy _ H L s a w hok.2 hR ht hd (by simpa using h)
    · exact h.elim
  | block id c ih =>
    intro Q H L s a w hok hR ht hd h
    refine wp_block (wp_mono (ih _ H L s a w hok hR ht hd h) ?_)
    rintro e a' w' ⟨H', L', s', h1, h2, h3, h4⟩
    cases e with
    | normal => exact ⟨H', L', s', h1, h2, h3, h4⟩
    | exit id' =>
      simp only [AExit.inBlock] at h4
      simp only [Exit.inBlock]
      split
      · rename_i he
        rw [if_pos he] at h4
        exact ⟨H', L', s', h1, h2, h3, h4⟩
      · rename_i he
        rw [if_neg he] at h4
        exact ⟨H', L', s', h1, h2, h3, h4⟩
    | goto l => exact ⟨H', L', s', h1, h2, h3, h4⟩
    | ret => exact ⟨H', L', s', h1, h2, h3, h4⟩
    | panic ch => exact h4.elim
    | outgrown => exact h4.elim
  | loop c ih =>
    intro Q H L s a w hok hR ht hd h
    let I : St → Prop := fun s => ∀ (H : Imm) (L : Lay) (a : Act) (w : World), Rel B (fun g => s.nx ≤ g) H L s a w → a.tmps.size = nt → a.defers = df → ∀ (b : Frame) (k : List Item) (cs : List Frame),
      ∃ e a' w', lift B nt df Q e a' w' ∧ Arrives X.P (lone (b.at a (.code c :: .inLoop c :: k)) cs w) b k cs e a' w'
    have hI : I s := by
      refine h I fun s hs H L a w hR ht hd b k cs => ?_
      obtain ⟨e, a₁, w₁, ⟨H', L', s', h1, h2, h3, h4⟩, harr⟩ := ih _ H L s a w hok hR ht hd hs b (.inLoop c :: k) cs
      cases e with
      | normal =>
        obtain ⟨e₂, a₂, w₂, hq₂, harr₂⟩ := h4 H' L' a₁ w₁ h1 h2 h3 b k cs
        exact ⟨e₂, a₂, w₂, hq₂, .of_steps (Steps.trans harr (.one step_inLoop)) harr₂⟩
      | exit id => exact ⟨.exit id, a₁, w₁, ⟨H', L', s', h1, h2, h3, h4⟩, .pass (x := .inLoop c) rfl (fun _ _ => .inl (by simp)) harr⟩
      | goto l => exact ⟨.goto l, a₁, w₁, ⟨H', L', s', h1, h2, h3, h4⟩, .pass (x := .inLoop c) rfl (fun _ _ => .inl (by simp)) harr⟩
      | ret => exact ⟨.ret, a₁, w₁, ⟨H', L', s', h1, h2, h3, h4⟩, .pass (x := .inLoop c) rfl (fun _ _ => .inl (by simp)) harr⟩
      | panic ch => exact h4.elim
      | outgrown => exact h4.elim
    intro b k cs
    obtain ⟨e, a', w', hq, harr⟩ := hI H L a w hR ht hd b k cs
    exact ⟨e, a', w', hq, .of_steps (.one step_loop) harr⟩

end
end Go.Proofs.Ytafcbjepmjcpgaa
