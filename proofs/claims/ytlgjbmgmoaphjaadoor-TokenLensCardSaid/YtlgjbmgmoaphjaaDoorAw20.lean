/- Regions that draw their order: one walk of the text's order serves every order (3). -/
import Derived.Test.YtlgjbmgmoaphjaaDoorAw19
import Derived.Still
namespace Go.Proofs.YtlgjbmgmoaphjaaDoor
set_option linter.unusedSimpArgs false
set_option linter.unusedVariables false
open Go

section
variable {P : Program} {nm : Names}

/-- Operations, by their numbers, one behind the other. -/
def Runs (P : Program) (nm : Names) (ops : Array Oper) : List Nat → St → St → Prop
  | [], s, t => Same s t
  | i :: l, s, t => ∃ o e, ops[i]? = some o ∧ Step P nm ops.toList i o s e ∧ Runs P nm ops l (s.app o.dst e) t

theorem runs_same {ops : Array Oper} : ∀ (l : List Nat) {s s' t : St}, Same s s' → Runs P nm ops l s t → Runs P nm ops l s' t
  | [], _, _, _, h, hr => h.symm.trans hr
  | i :: l, _, _, _, h, ⟨o, e, h1, h2, h3⟩ => ⟨o, e, h1, step_same h h2, runs_same l (app_same h _ _) h3⟩

theorem runs_bubble {ops : Array Oper} {i : Nat} {y : Oper} (hy : ops[i]? = some y) : ∀ (pre post : List Nat) {s t : St}, (∀ j ∈ pre, ∀ x, ops[j]? = some x → mayswap nm ops x y = true) →
    Runs P nm ops (pre ++ i :: post) s t → Runs P nm ops (i :: (pre ++ post)) s t
  | [], _, _, _, _, h => h
  | j :: pre, post, s, t, hsw, ⟨x, ex, h1, h2, h3⟩ => by
    obtain ⟨y', ey, h4, h5, h6⟩ := runs_bubble hy pre post (fun j' hj' => hsw j' (by simp [hj'])) h3
    rw [hy] at h4
    cases h4
    obtain ⟨q1, q2, q3⟩ := swap (hsw j (by simp) x h1) h2 h5
    exact ⟨y, ey, hy, q1, x, ex, h1, q2, runs_same _ q3 h6⟩

theorem opsWp_runs {ops : Array Oper} {K : St → Prop} : ∀ (l : List Oper) (i : Nat) (s : St), (∀ j, l[j]? = ops[i + j]?) → opsWp P true nm ops.toList l i s K → ∃ t, Runs P nm ops (List.range' i l.length) s t ∧ K t
  | [], _, s, _, h => ⟨s, Same.refl s, h⟩
  | o :: l, i, s, hl, h => by
    obtain ⟨e, h1, h2⟩ := opWp_step h
    obtain ⟨t, h3, h4⟩ := opsWp_runs l (i + 1) _ (fun j => by have := hl (j + 1); simpa [Nat.add_assoc, Nat.add_comm 1 j] using this) h2
    refine ⟨t, ?_, h4⟩
    rw [List.length_cons, List.range'_succ]
    exact ⟨o, e, by have := hl 0; simpa using this.symm, h1, h3⟩

/-- Does 'j' come ahead of 'i' in every order? -/
def before (ops : Array Oper) : Nat → Nat → Nat → Bool
  | 0, _, _ => false
  | f + 1, j, i => match ops[i]? with
    | none => false
    | some o => o.after.toList.any fun e => Region.binds .any e && (e.on == j || (decide (j < e.on) && before ops f j e.on))

theorem before_sound {ops : Array Oper} {R : List Nat} (hcl : ∀ j, j ∉ R → ∀ o, ops[j]? = some o → ∀ e ∈ o.after, Region.binds .any e = true → e.on ∉ R) : ∀ (f j i : Nat), before ops f j i = true →
    (∀ o, ops[i]? = some o → ∀ e ∈ o.after, Region.binds .any e = true → e.on ∉ R) → j ∉ R
  | 0, _, _, h, _ => by simp [before] at h
  | f + 1, j, i, h, hi => by
    unfold before at h
    split at h
    · cases h
    · rename_i o ho
      obtain ⟨e, he, hb⟩ := List.any_eq_true.1 h
      simp only [Bool.and_eq_true, Bool.or_eq_true, beq_iff_eq] at hb
      have h1 := hi o ho e (by simpa using he) hb.1
      rcases hb.2 with h2 | h2
      · rw [← h2]; exact h1
      · exact before_sound hcl f j e.on h2.2 fun o ho e' he' hb' => hcl _ h1 o ho e' he' hb'

/-- The check of a region that draws its order. -/
def drawOk (nm : Names) (ops : Array Oper) : Bool := (List.range ops.size).all fun i => match ops[i]? with
  | none => true
  | some o => (o.after.all fun e => !Region.binds .any e || decide (e.on < i)) && (List.range i).all fun j => match ops[j]? with
    | none => true
    | some x => mayswap nm ops x o || before ops ops.size j i

theorem drawOk_at {ops : Array Oper} (h : drawOk nm ops = true) {i : Nat} {o : Oper} (ho : ops[i]? = some o) :
    (∀ e ∈ o.after, Region.binds .any e = true → e.on < i) ∧ ∀ j x, j < i → ops[j]? = some x → mayswap nm ops x o = true ∨ before ops ops.size j i = true := by
  have hlt : i < ops.size := (Array.getElem?_eq_some_iff.1 ho).1
  have := List.all_eq_true.1 h i (List.mem_range.2 hlt)
  simp only [ho, Bool.and_eq_true] at this
  obtain ⟨h1, h2⟩ := this
  refine ⟨fun e he hb => ?_, fun j x hj hx => ?_⟩
  · have := Array.all_eq_true_iff_forall_mem.1 h1 e he
    simpa [hb] using this
  · have := List.all_eq_true.1 h2 j (List.mem_range.2 hj)
    simpa only [hx, Bool.or_eq_true] using this

theorem Rel.same {B : Base} {F : Nat → Prop} {H : Imm} {L : Lay} {s t : St} {a : Act} {w : World} (h : Rel B F H L s a w) (hs : Same s t) : Rel B F H L t a w :=
  { h with env := fun i => by rw [← hs.env i]; exact h.env i, sto := fun k g e he => h.sto k g e (by rw [hs.sto]; exact he) }

theorem any_sound {B : Base} {ops : Array Oper} {nt n0 : Nat} {df : List Deferred} (hok : opsOk nt nm ops.toList = true) (hdr : drawOk nm ops = true) {Q : Exit → Act → World → Prop} {t : St}
    (hQ : ∀ a' w' H' L', Rel B (fun g => n0 + ops.size ≤ g) H' L' t a' w' → a'.defers = df → a'.tmps.size = nt → Q .normal a' w') :
    ∀ (fuel : Nat) (R : List Nat) (listed : Array Bool) (H : Imm) (L : Lay) (s : St) (a : Act) (w : World), R.length = fuel → listed.size = ops.size → (∀ j, j < ops.size → (listed.getD j true = false ↔ j ∈ R)) → R.Pairwise (· < ·) → (∀ j ∈ R, j < ops.size) → (∀ j, j ∉ R → ∀ o, ops[j]? = some o → ∀ e ∈ o.after, Region.binds .any e = true → e.on ∉ R) →
      s.nx = n0 → a.tmps.size = nt → a.defers = df → Rel B (fun g => n0 + ops.size ≤ g ∨ ∃ i ∈ R, g = n0 + i) H L s a w → Runs P nm ops R s t → wpAny P .any ops Q fuel listed a w := by
  intro fuel
  induction fuel with
  | zero =>
    intro R listed H L s a w hlen hsz hR hsort hlt hcl hn ht hdf hrel hruns
    have : R = [] := List.eq_nil_of_length_eq_zero hlen
    subst this
    refine ⟨?_, hQ a w H L ((hrel.less fun g hg => .inl hg).same hruns) hdf ht⟩
    unfold Region.ready
    simp only [List.filter_eq_nil_iff, List.mem_range]
    intro i hi
    have := (hR i hi).1
    cases hl : listed.getD i true with
    | true => simp
    | false => exact absurd (this hl) (by simp)
  | succ fuel ih =>
    intro R listed H L s a w hlen hsz hR hsort hlt hcl hn ht hdf hrel hruns
    refine ⟨fun hready => ?_, fun i hi => ?_⟩
    · -- something is always ready
      exfalso
      match R, hlen with
      | i :: R', _ =>
        have hi : i < ops.size := hlt i (by simp)
        have hmem : i ∈ Region.ready .any ops listed := by
          refine mem_ready.2 ⟨(hR i hi).2 (by simp), ops[i], Array.getElem?_eq_getElem hi, fun e he hb => ?_⟩
          have hlt' := (drawOk_at hdr (Array.getElem?_eq_getElem hi)).1 e he hb
          have hnotin : e.on ∉ i :: R' := by
            intro hin
            rcases List.mem_cons.1 hin with h | h
            · omega
            · have := (List.pairwise_cons.1 hsort).1 e.on h
              omega
          have hes : e.on < ops.size := by omega
          have hd : listed.getD e.on true = true := by
            cases hl : listed.getD e.on true with
            | true => rfl
            | false => exact absurd ((hR e.on hes).1 hl) hnotin
          unfold Array.getD at hd ⊢
          split at hd
          · rename_i hlt2; simp only [hlt2, dif_pos]; exact hd
          · omega
        rw [hready] at hmem
        cases hmem
    · obtain ⟨hun, o, ho, hedges⟩ := mem_ready.1 hi
      have his : i < ops.size := (Array.getElem?_eq_some_iff.1 ho).1
      have hiR : i ∈ R := (hR i his).1 hun
      obtain ⟨pre, post, hsplit⟩ := List.append_of_mem hiR
      subst hsplit
      have hdone : ∀ e ∈ o.after, Region.binds .any e = true → e.on ∉ pre ++ i :: post := by
        intro e he hb hin
        have h1 := hedges e he hb
        have h2 := (hR e.on (hlt _ hin)).2 hin
        unfold Array.getD at h1 h2
        split at h1
        · rename_i hlt2
          simp only [hlt2, dif_pos] at h2
          rw [h2] at h1
          cases h1
        · cases h1
      have hsw : ∀ j ∈ pre, ∀ x, ops[j]? = some x → mayswap nm ops x o = true := by
        intro j hj x hx
        have hji : j < i := by
          have := List.pairwise_append.1 hsort
          exact this.2.2 j hj i (by simp)
        rcases (drawOk_at hdr ho).2 j x hji hx with h | h
        · exact h
        · exact absurd (by simp [hj]) (before_sound hcl _ _ _ h fun o2 ho2 e he hb => by
            rw [ho] at ho2
            cases ho2
            exact hdone e he hb)
      obtain ⟨o', e, ho', hstep, hrest⟩ := runs_bubble ho pre post hsw hruns
      rw [ho] at ho'
      cases ho'
      obtain ⟨hk, hd⟩ := opsOk_at hok (o := o) (by rw [← Array.getElem?_toList] at ho; exact List.mem_of_getElem? ho)
      unfold wpOp
      simp only [ho]
      refine opWp_sound (q := true) (nm := nm) (K := fun s' => s' = s.app o.dst e) hrel (ops := ops) (i := i) (o := o) (.inr ⟨i, by simp, by rw [hn]⟩) hk (by rw [ht]; exact hd) (step_opWp hstep rfl) _ Q ?_
      rintro a' w' H' L' s' hR' hd' hs' rfl hnx'
      have hlen' : (pre ++ post).length = fuel := by simp at hlen ⊢; omega
      refine ih (pre ++ post) _ H' L' _ a' w' hlen' (by simpa using hsz) ?_ ?_ ?_ ?_ (by omega) (by omega) (by rw [hd', hdf]) (hR'.less ?_) hrest
      · intro j hj
        by_cases hji : j = i
        · subst hji
          constructor
          · intro h
            unfold Array.getD at h
            simp [hsz, hj] at h
          · intro h
            exfalso
            have hp := List.pairwise_append.1 hsort
            rcases List.mem_append.1 h with h | h
            · have := hp.2.2 j h j (by simp); omega
            · have := (List.pairwise_cons.1 hp.2.1).1 j h; omega
        · have hget : (listed.setIfInBounds i true).getD j true = listed.getD j true := getD_set_ne true (Ne.symm hji)
          rw [hget, hR j hj]
          simp [hji]
      · exact hsort.sublist (List.Sublist.append (List.Sublist.refl _) (List.sublist_cons_self _ _))
      · intro j hj
        refine hlt j ?_
        rcases List.mem_append.1 hj with h | h <;> simp [h]
      · intro j hj o2 ho2 e2 he2 hb2 hin
        have hin' : e2.on ∈ pre ++ i :: post := by
          rcases List.mem_append.1 hin with h | h <;> simp [h]
        by_cases hji : j = i
        · subst hji
          rw [ho] at ho2
          cases ho2
          exact hdone e2 he2 hb2 hin'
        · refine hcl j (fun hjm => hj ?_) o2 ho2 e2 he2 hb2 hin'
          simp only [List.mem_append, List.mem_cons] at hjm ⊢
          rcases hjm with h | h | h
          · exact .inl h
          · exact absurd h hji
          · exact .inr h
      · rintro g (hg | ⟨j, hj, rfl⟩)
        · exact ⟨.inl hg, by omega⟩
        · refine ⟨.inr ⟨j, by rcases List.mem_append.1 hj with h | h <;> simp [h], rfl⟩, ?_⟩
          rw [hn]
          intro h
          have hji : j = i := by omega
          subst hji
          have hp := List.pairwise_append.1 hsort
          rcases List.mem_append.1 hj with h | h
          · have := hp.2.2 j h j (by simp); omega
          · have := (List.pairwise_cons.1 hp.2.1).1 j h; omega

end
end Go.Proofs.YtlgjbmgmoaphjaaDoor
