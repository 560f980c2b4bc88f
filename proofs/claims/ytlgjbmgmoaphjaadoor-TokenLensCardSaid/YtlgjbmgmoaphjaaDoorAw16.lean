/- Each operation does in a frame and a world what it does in a state without memory. -/
import Derived.Test.YtlgjbmgmoaphjaaDoorAw15
namespace Go.Proofs.YtlgjbmgmoaphjaaDoor
set_option linter.unusedSimpArgs false
set_option linter.unusedVariables false
open Go

section
variable {P : Program} {B : Base} {F : Nat → Prop} {H : Imm} {L : Lay} {s : St} {a : Act} {w : World} {q : Bool} {k g : Nat} {K : St → Prop}

theorem array_of_toList {α : Type} {x : Array α} {l : List α} (h : x.toList = l) : x = l.toArray := by
  rw [← h]

theorem builtin_sound {dst : Option Nat} (hR : Rel B F H L s a w) (hF : F g) (hk : k < 1000) (hd : ∀ d, dst = some d → d < a.tmps.size) (b : Builtin) (ts : Array Nat) (args : Array Operand) (ty : Nat) (consts : Array Bool)
    (h : (builtinRes P s.sto.find k g b ts.toList (args.toList.map s.ev)).wp P q s dst k g K) :
    ∃ sem : Sem Value, builtin b ts ty consts (args.map a.eval) = (do pure (Next.value (← sem))) ∧ Good P B F a dst g K sem w := by
  obtain ⟨ts⟩ := ts
  obtain ⟨args⟩ := args
  simp only at h
  unfold builtinRes at h
  split at h
  · split at h
    · rename_i t ts'
      split at h
      · rename_i x hargs
        match args, hargs with
        | [xo], ha =>
          simp only [List.map_cons, List.map_nil, List.cons.injEq, and_true] at ha
          subst ha
          exact ⟨_, rfl, by simpa using len_sound hR hd t ty ts' xo [] h⟩
      · simp [Res.wp] at h
    · simp [Res.wp] at h
  · split at h
    · rename_i t t'
      split at h
      · rename_i x y hargs
        match args, hargs with
        | [xo, yo], ha =>
          simp only [List.map_cons, List.map_nil, List.cons.injEq, and_true] at ha
          obtain ⟨rfl, rfl⟩ := ha
          split at h
          · rename_i e hkd
            exact ⟨_, rfl, by simpa using append_sound hR hF hk hd t t' ty xo yo (by rw [hkd]; trivial) h⟩
          · rename_i hkd
            exact ⟨_, rfl, by simpa using append_sound hR hF hk hd t t' ty xo yo (by rw [hkd]; trivial) h⟩
          · simp [Res.wp] at h
      · simp [Res.wp] at h
    · simp [Res.wp] at h
  · refine ⟨_, rfl, fold_sound hR hd minRes Builtin.min2 minRes_val (fun u v x y z hu hv hz => min2_run hu hv hz) args h _ fun u rest hl => ?_⟩
    unfold Builtin.min_
    simp only [List.map_toArray, hl]
  · refine ⟨_, rfl, fold_sound hR hd maxRes Builtin.max2 maxRes_val (fun u v x y z hu hv hz => max2_run hu hv hz) args h _ fun u rest hl => ?_⟩
    unfold Builtin.max_
    simp only [List.map_toArray, hl]
  · simp [Res.wp] at h

theorem wp_of_good {o : Oper} {next : Act → World → Prop} {Q : Exit → Act → World → Prop} (sem : Sem Value) (he : execOp a.eval o = (do pure (Next.value (← sem)))) (hg : Good P B F a o.dst g K sem w)
    (hnext : ∀ a' w' H' L' s', Rel B (fun x => F x ∧ x ≠ g) H' L' s' a' w' → a'.defers = a.defers → a'.tmps.size = a.tmps.size → K s' → next a' w') : o.wp P a w next Q := by
  obtain ⟨v, w', H', L', s', h1, h2, h3⟩ := hg
  unfold Oper.wp
  rw [he]
  simp only [Sem.run_bind, h1, Result.andThen_ok, Sem.run_pure, Oper.upon]
  exact hnext _ _ _ _ _ h2 (Act.put_defers _ _ _) (Act.put_size _ _ _) h3

theorem op_sound (hR : Rel B F H L s a w) (hF : F g) (hk : k < 1000) (o : Oper) (hd : ∀ d, o.dst = some d → d < a.tmps.size) (h : (opRes P q s k g o.op).wp P q s o.dst k g K) (next : Act → World → Prop) (Q : Exit → Act → World → Prop)
    (hnext : ∀ a' w' H' L' s', Rel B (fun x => F x ∧ x ≠ g) H' L' s' a' w' → a'.defers = a.defers → a'.tmps.size = a.tmps.size → K s' → next a' w') : o.wp P a w next Q := by
  obtain ⟨dst, op, ty, pos, after, guard⟩ := o
  simp only at h hd
  cases op <;> simp only [opRes, Res.wp] at h <;> try exact h.elim
  case move x => exact wp_of_good (pure (a.eval x)) (by rfl) (good_val hR hd rfl (hR.eval x) h) hnext
  case assign x => exact wp_of_good (pure (a.eval x)) (by rfl) (good_val hR hd rfl (hR.eval x) h) hnext
  case pick c x y => exact wp_of_good (do pure (if ← asBool (a.eval c) then a.eval x else a.eval y)) (by simp [execOp]) (pick_sound hR hd c x y h) hnext
  case alloc t => exact wp_of_good _ rfl (alloc_sound hR hF hk hd t h) hnext
  case box t x => exact wp_of_good _ rfl (box_sound (q := q) hR hF hk hd t x (by simpa [Res.wp] using h)) hnext
  case build t parts => exact wp_of_good _ rfl (build_sound hR hd t parts _ h) hnext
  case buildSlice t len parts => exact wp_of_good _ rfl (buildSlice_sound hR hF hk hd t len parts h) hnext
  case load t x => exact wp_of_good _ rfl (load_sound hR hd t x h) hnext
  case store t x y =>
    obtain ⟨w', H', L', s', h1, h2, h3⟩ := store_sound hR hd t x y h
    unfold Oper.wp
    simp only [execOp, Sem.run_bind, h1, Result.andThen_ok, Sem.run_pure, Oper.upon]
    exact hnext _ _ _ _ _ h2 (Act.put_defers _ _ _) (Act.put_size _ _ _) h3
  case binOp op t x y yt => exact wp_of_good _ rfl (binOp_sound hR hd op t x y h) hnext
  case unOp op t x => exact wp_of_good _ rfl (unOp_sound hR hd op x h) hnext
  case convert src dt x => exact wp_of_good _ rfl (convert_sound hR hd src dt x h) hnext
  case slice t x lo hi mx => exact wp_of_good _ rfl (slice_sound hR hd t x lo hi mx h) hnext
  case fieldAddr t x f => exact wp_of_good _ rfl (fieldAddr_sound hR hd t x f h) hnext
  case field t x f => exact wp_of_good _ rfl (field_sound hR hd t x f h) hnext
  case nilCheck x =>
    obtain ⟨b, h1, h2⟩ := nilCheck_sound (k := k) hR hd x h
    exact wp_of_good _ (by simp only [execOp, h1]; rfl) h2 hnext
  case indexAddr t x i => exact wp_of_good _ rfl (indexAddr_sound hR hd t x i h) hnext
  case index t x i => exact wp_of_good _ rfl (strIndex_sound hR hd t x i h) hnext
  case extract x i => exact wp_of_good _ rfl (extract_sound hR hd x i h) hnext
  case range t x => exact wp_of_good _ rfl (range_sound hR hF hk hd t x h) hnext
  case next it isStr =>
    cases isStr with
    | true => exact wp_of_good _ rfl (next_sound hR hd ty it h) hnext
    | false => simp [Res.wp] at h
  case makeFunc fn first captured =>
    split at h
    · rename_i f
      split at h
      · rename_i hfirst
        simp only [Res.wp] at h
        have hfirst' : first = #[] := array_of_toList hfirst
        subst hfirst'
        have hargs : RepL H L (captured.toList.map a.eval) (captured.toList.map s.ev) := by
          clear h
          generalize captured.toList = l
          induction l with
          | nil => exact .nil _
          | cons x l ih => exact .cons _ _ _ _ _ (hR.eval x) ih
        have hv := Rep.fn (H := H) L f _ _ hargs
        refine wp_of_good (pure (.func (.func f) #[] (captured.toList.map a.eval).toArray)) ?_ (good_val hR hd rfl hv h) hnext
        have hcap : (captured.toList.map a.eval).toArray = captured.map a.eval := by apply Array.ext'; simp
        rw [hcap]
        simp [execOp, Instr.makeFunc]
      · simp [Res.wp] at h
    · simp [Res.wp] at h
  case call c =>
    obtain ⟨callee, args, ts⟩ := c
    simp only at h
    cases callee with
    | value f =>
      simp only at h
      have hf := hR.eval f
      split at h
      · rename_i g' caps hfe
        rw [hfe] at hf
        simp only [Res.wp] at h
        generalize hfv : a.eval f = fv at hf
        cases hf with
        | fn _ _ cvs _ hcaps =>
          have hargs : RepL H L (args.toList.map a.eval) (args.toList.map s.ev) := by
            clear h
            generalize args.toList = l
            induction l with
            | nil => exact .nil _
            | cons x l ih => exact .cons _ _ _ _ _ (hR.eval x) ih
          have hvs := hargs.append hcaps
          have hexec : ∀ hc : Callable P g', (execOp a.eval { dst, op := .call { callee := .value f, args, argTypes := ts }, type := ty, pos, after, guard }).run P w = .ok (.enter g' ((args.toList.map a.eval) ++ cvs).toArray) w := by
            intro hc
            simp only [execOp, Sem.run_bind, resolve, hfv, Deferred.ofValue, Sem.run_pure, Result.andThen_ok, invoke]
            rw [run_callFunc hc]
            congr 2
            apply Array.ext'
            simp
          have fin : Callable P g' → Calls P g' ((args.toList.map a.eval) ++ cvs).toArray w (fun
              | .returned v, w'' => next (a.put dst v) w''
              | .panicked chain, w'' => Q (.panic chain) a w''
              | .outgrown, _ => LetsOut Q) → Oper.wp P { dst, op := .call { callee := .value f, args, argTypes := ts }, type := ty, pos, after, guard } a w next Q := by
            intro hc hcalls
            unfold Oper.wp
            rw [hexec hc]
            exact hcalls
          rcases h with ⟨args', r, _, hp, hw, hc, hK⟩ | ⟨_, ks, es, args', r, es', hfind, hnd, hext, hw, hc, hno, hK⟩
          · exact fin hc.1 (pc_sound hR hF hk hd g' _ _ hvs hp hw hc hK _ fun v w' H' L' s' h1 h2 => hnext _ _ _ _ _ h1 (Act.put_defers _ _ _) (Act.put_size _ _ _) h2)
          · exact fin hc.1 (bc_sound hR hF hk hd g' _ _ hvs hfind hnd hext hw hc hno hK _ fun v w' H' L' s' h1 h2 => hnext _ _ _ _ _ h1 (Act.put_defers _ _ _) (Act.put_size _ _ _) h2)
      · simp [Res.wp] at h
    | invoke r name => simp [Res.wp] at h
    | builtin b =>
      simp only at h
      obtain ⟨sem, h1, h2⟩ := builtin_sound hR hF hk hd b ts args ty (args.map fun | .const _ => true | _ => false) h
      refine wp_of_good sem ?_ h2 hnext
      simp only [execOp, resolve, invoke, pure_bind]
      exact h1

end
end Go.Proofs.YtlgjbmgmoaphjaaDoor
