/- Each operation does in a frame and a world what it does in a state without memory: stores, the next code point, slice literals. -/
import Derived.Test.YtlgjbmgmoaphjaaDoorAw11
namespace Go.Proofs.YtlgjbmgmoaphjaaDoor
set_option linter.unusedSimpArgs false
set_option linter.unusedVariables false
open Go

section
variable {P : Program} {B : Base} {F : Nat → Prop} {H : Imm} {L : Lay} {s : St} {a : Act} {w : World} {q : Bool} {dst : Option Nat} {k g : Nat} {K : St → Prop}

theorem next_sound (hR : Rel B F H L s a w) (hd : ∀ d, dst = some d → d < a.tmps.size) (ty : Nat) (x : Operand)
    (h : (nextRes s.sto.find (s.ev x)).wp P q s dst k g K) : Good P B F a dst g K (Instr.next (a.eval x) true ty) w := by
  have hx := hR.eval x
  generalize s.ev x = p at h hx
  generalize a.eval x = v at hx
  unfold nextRes at h
  split at h
  · rename_i k' g'
    split at h
    · rename_i g'' b pos hf
      simp only [Res.wp] at h
      obtain ⟨rfl, h⟩ := h
      obtain ⟨sl, e1, e2, bl, e3, e4, e5⟩ := hR.sto k' g' _ hf
      cases hx with
      | box _ _ _ _ _ hu hs hx =>
        have hv := hx sl bl e1 e2 e3
        subst hv
        have hget : (getObj bl).run P w = .ok (.stringIter ⟨b.toArray⟩ pos) w := by simp [getObj, Sem.run, e5]
        have hsz : (ByteArray.mk b.toArray).size = b.length := by show b.toArray.size = _; simp
        split at h
        · rename_i hlt
          simp only [Res.wp] at h
          let w' : World := { w with heap := w.heap.setIfInBounds bl (.stringIter ⟨b.toArray⟩ (pos + (Utf8.decode ⟨b.toArray⟩ pos).2)) }
          have hset : (setObj bl (.stringIter ⟨b.toArray⟩ (pos + (Utf8.decode ⟨b.toArray⟩ pos).2))).run P w = .ok () w' := by simp [setObj, Sem.run, e5, w']
          have hblt : bl < w.heap.size := hR.low k' sl bl e1 e3
          have hold : ∀ c, c ≠ bl → w'.heap[c]? = w.heap[c]? := by
            intro c hc
            show (w.heap.setIfInBounds bl _)[c]? = _
            rw [Array.getElem?_setIfInBounds]
            simp [Ne.symm hc]
          have hnew : w'.heap[bl]? = some (.stringIter ⟨b.toArray⟩ (pos + (Utf8.decode ⟨b.toArray⟩ pos).2)) := by
            show (w.heap.setIfInBounds bl _)[bl]? = _
            simp [hblt]
          have hA : Agree H w' := by
            intro c d hc
            obtain ⟨t, fr, ht⟩ := hR.agree c d hc
            refine ⟨t, fr, ?_⟩
            rw [hold c (fun e => by subst e; rw [e4] at hc; cases hc)]
            exact ht
          have hs' := hR.setOld (e := .iter b (pos + (Utf8.decode ⟨b.toArray⟩ pos).2)) (H' := H) (w' := w') e1 (.refl _) hA (fun _ _ hc => .inl hc) (by show w.heap.size ≤ (w.heap.setIfInBounds bl _).size; simp)
            (fun c _ hc => hold c (fun e => hc (by rw [e3, e]))) rfl rfl rfl ⟨bl, e3, e4, hnew⟩
          rw [e2] at hs'
          refine ⟨.tuple #[.bool true, goInt pos, .int .i32 ((Utf8.decode ⟨b.toArray⟩ pos).1 : Nat)], w', H, L, _, ?_, (hs'.put (dst := dst) (p := .tup [.bool true, .int .i64 pos, .int .i32 (Utf8.decode ⟨b.toArray⟩ pos).1]) hd ?_).less (fun _ h => h.1), ?_⟩
          · simp only [Instr.next, Sem.run_bind, hget, Result.andThen_ok, hsz, hlt, if_true, hset, Sem.run_pure]
          · exact Rep.tup (H := H) L [_, _, _] _ (.cons _ _ _ _ _ (.bool _ _) (.cons _ _ _ _ _ (.int _ _ _) (.cons _ _ _ _ _ (.int _ _ _) (.nil _))))
          · cases dst <;> exact h
        · rename_i hlt
          simp only [Res.wp] at h
          refine good_val hR hd (v := .tuple #[.bool false]) ?_ (Rep.tup (H := H) L [_] _ (.cons _ _ _ _ _ (.bool _ _) (.nil _))) h
          simp only [Instr.next, Sem.run_bind, hget, Result.andThen_ok, hsz, hlt, if_false, Sem.run_pure]
    · simp [Res.wp] at h
  · simp [Res.wp] at h

/-- A computation that yields nothing, and a state that fits. -/
def GoodU (P : Program) (B : Base) (F : Nat → Prop) (a : Act) (dst : Option Nat) (g : Nat) (K : St → Prop) (sem : Sem Unit) (w : World) : Prop :=
  ∃ w' H' L' s', sem.run P w = .ok () w' ∧ Rel B (fun x => F x ∧ x ≠ g) H' L' s' (a.put dst undef) w' ∧ K s'

theorem run_storeVar_at {t : Nat} (hk : (tyOf P t).kd ≠ .none) (b o : Nat) (cur : Array Value) (et : TypeId) (hb : w.heap[b]? = some (.cells cur et (0, 0))) (v : Value) (hl : v.cells.size = (tyOf P t).size)
    (ho : o + v.cells.size ≤ cur.size) (h1 : ∀ u ∈ v.cells.toList, u.oneCell' = true) :
    (storeVar t ⟨b, o, none⟩ v).run P w = .ok () (w.setRow b (cur.toList.take o ++ v.cells.toList ++ cur.toList.drop (o + v.cells.toList.length)).toArray) := by
  have := run_storeCells_at P b o et v.cells.toList 0 cur w hb (by simpa using ho) h1
  simp only [Nat.add_zero] at this
  simp only [storeVar, Sem.run_bind, run_sizeOf' hk, Result.andThen_ok, hl, ne_eq, not_true_eq_false, if_false, this]

theorem setRow_facts (w : World) (b : Nat) (cur cs : Array Value) (et : TypeId) (hb : w.heap[b]? = some (.cells cur et (0, 0))) :
    (w.setRow b cs).heap[b]? = some (.cells cs et (0, 0)) ∧ (∀ c, c ≠ b → (w.setRow b cs).heap[c]? = w.heap[c]?) :=
  ⟨setRow_heap w b cur cs et _ hb, fun c hc => setRow_other w b c cs hc⟩

theorem agree_setRow (hA : Agree H w) {b : Nat} (hn : H b = none) (cs : Array Value) : Agree H (w.setRow b cs) := by
  intro c d hc
  obtain ⟨t, fr, ht⟩ := hA c d hc
  refine ⟨t, fr, ?_⟩
  rw [setRow_other w b c cs (fun e => by subst e; rw [hn] at hc; cases hc)]
  exact ht

theorem flat_set {sz off : Nat} {us : List PV} {x' : PV} : ∀ (xs : List PV) (i : Nat), (∀ x ∈ xs, x.cells.length = sz) → i < xs.length → x'.cells = setCells (xs.getD i .undef).cells off us → off + us.length ≤ sz →
    (xs.set i x').flatMap PV.cells = setCells (xs.flatMap PV.cells) (i * sz + off) us
  | [], i, _, h, _, _ => by simp at h
  | x :: xs, 0, hs, _, hx, ho => by
    have h0 := hs x (by simp)
    simp only [List.getD_cons_zero] at hx
    simp only [List.set_cons_zero, List.flatMap_cons, hx, setCells, Nat.zero_mul, Nat.zero_add]
    rw [List.take_append_of_le_length (by omega), List.drop_append_of_le_length (by omega)]
    simp [List.append_assoc]
  | x :: xs, i + 1, hs, h, hx, ho => by
    have h0 := hs x (by simp)
    have ih := flat_set xs i (fun y hy => hs y (by simp [hy])) (by simpa using h) (by simpa using hx) ho
    simp only [List.set_cons_succ, List.flatMap_cons, ih, setCells]
    have e1 : (i + 1) * sz + off - x.cells.length = i * sz + off := by rw [h0, Nat.succ_mul]; omega
    have e2 : (i + 1) * sz + off + us.length - x.cells.length = i * sz + off + us.length := by rw [h0, Nat.succ_mul]; omega
    have e3 : x.cells.length ≤ (i + 1) * sz + off := by rw [h0, Nat.succ_mul]; omega
    rw [List.take_append, List.drop_append, e1, e2, List.take_of_length_le e3, List.drop_eq_nil_of_le (Nat.le_trans e3 (Nat.le_add_right _ _))]
    simp [List.append_assoc]

theorem store_sound (hR : Rel B F H L s a w) (hd : ∀ d, dst = some d → d < a.tmps.size) (t : Nat) (x y : Operand)
    (h : (storeRes P s.sto.find t (s.ev x) (s.ev y)).wp P q s dst k g K) : GoodU P B F a dst g K (Instr.storeAt t (a.eval x) (a.eval y)) w := by
  have hx := hR.eval x
  have hy := hR.eval y
  generalize s.ev x = p at h hx
  generalize s.ev y = r at h hy
  generalize a.eval x = u at hx
  generalize a.eval y = v at hy
  unfold storeRes at h
  split at h
  · simp [Res.wp] at h
  · rename_i hkd
    have hk : (tyOf P t).kd ≠ .none := hkd
    simp only [Res.wp] at h
    obtain ⟨⟨hl, hlen⟩, h⟩ := h
    have hc := hy.cells hl
    have ho := hy.ones hl
    have hcl := hc.length
    simp only [Array.length_toList] at hcl
    split at h
    · rename_i k' g' off
      split at h
      · rename_i g'' tv cs hf
        simp only [Res.wp] at h
        obtain ⟨⟨rfl, hoff⟩, h⟩ := h
        obtain ⟨sl, e1, e2, b, vs, _, e3, e4, e5, e6⟩ := hR.sto k' g' _ hf
        have hvl := e6.length
        cases hx with
        | box _ _ _ _ _ hu hs hx =>
          have hv := hx sl b e1 e2 e3
          subst hv
          have hrun := run_storeVar_at (P := P) hk b off vs.toArray tv e5 v (by omega) (by simp; omega) ho
          obtain ⟨f1, f2⟩ := setRow_facts w b vs.toArray (vs.take off ++ v.cells.toList ++ vs.drop (off + v.cells.toList.length)).toArray tv e5
          have hs' := hR.setOld (e := .var tv (setCells cs off r.cells)) (H' := H) (w' := w.setRow b (vs.take off ++ v.cells.toList ++ vs.drop (off + v.cells.toList.length)).toArray) e1 (.refl _) (agree_setRow hR.agree e4 _) (fun _ _ hc => .inl hc) (by simp)
            (fun c _ hc => f2 c (fun e => hc (by rw [e3, e]))) (by simp) (by simp) (by simp) ⟨b, _, tv, e3, e4, f1, repl_setCells e6 hc off⟩
          rw [e2] at hs'
          refine ⟨_, H, L, _, by simpa [Instr.storeAt, Instr.sureAddr] using hrun, (hs'.put (dst := dst) hd (.undef _ _)).less (fun _ h => h.1), ?_⟩
          cases dst <;> exact h
      · simp [Res.wp] at h
    · rename_i k' g' i off
      split at h
      · rename_i g'' sz xs hf
        simp only [Res.wp] at h
        obtain ⟨⟨rfl, hi, hpu⟩, h⟩ := h
        obtain ⟨sl, e1, e2, e3, e4, e5, e6⟩ := hR.sto k' g' _ hf
        rcases e6 with ⟨_, e7⟩ | ⟨b, vs, rest, et, g1, g2, g3, g4, g5, g6⟩
        · omega
        · cases hx with
          | elt _ _ _ _ _ _ hu hs hx =>
            have hv := hx sl b e1 e2 g1
            subst hv
            rw [e3]
            have hvl := g5.length
            rw [flat_length _ e4] at hvl
            have hmul : (i + 1) * sz ≤ xs.length * sz := Nat.mul_le_mul_right _ hi
            rw [Nat.succ_mul] at hmul
            have key : ∀ x' : PV, x'.cells.length = sz → x'.cells = setCells (xs.getD i .undef).cells off r.cells → off + r.cells.length ≤ sz → K ((s.put dst .undef).set k' g' (.row false sz (xs.set i x'))) →
                GoodU P B F a dst g K (Instr.storeAt t (.pointer (some ⟨b, i * sz + off, none⟩)) v) w := by
              intro x' hx1 hx2 hoff hK
              have hrun := run_storeVar_at (P := P) hk b (i * sz + off) (vs ++ rest).toArray et g3 v (by omega) (by simp; omega) ho
              have hcur : ((vs ++ rest).toArray.toList.take (i * sz + off) ++ v.cells.toList ++ (vs ++ rest).toArray.toList.drop (i * sz + off + v.cells.toList.length)) =
                  (vs.take (i * sz + off) ++ v.cells.toList ++ vs.drop (i * sz + off + v.cells.toList.length)) ++ rest := by
                simp only [Array.length_toList]
                rw [List.take_append_of_le_length (by omega), List.drop_append_of_le_length (by omega)]
                simp [List.append_assoc]
              rw [hcur] at hrun
              obtain ⟨f1, f2⟩ := setRow_facts w b (vs ++ rest).toArray ((vs.take (i * sz + off) ++ v.cells.toList ++ vs.drop (i * sz + off + v.cells.toList.length)) ++ rest).toArray et g3
              have hs' := hR.setOld (e := .row false sz (xs.set i x')) (H' := H) (w' := w.setRow b ((vs.take (i * sz + off) ++ v.cells.toList ++ vs.drop (i * sz + off + v.cells.toList.length)) ++ rest).toArray) e1 (.refl _) (agree_setRow hR.agree g2 _) (fun _ _ hc => .inl hc) (by simp)
                (fun c _ hc => f2 c (fun e => hc (by rw [g1, e]))) (by simp) (by simp) (by simp)
                ⟨e3, fun z hz => by
                  rcases List.mem_or_eq_of_mem_set hz with hz | rfl
                  · exact e4 z hz
                  · exact hx1, by simpa using e5, .inr ⟨b, _, rest, et, g1, g2, f1, fun z hz => by
                    simp only [List.mem_append] at hz
                    rcases hz with (hz | hz) | hz
                    · exact g4 z (List.mem_of_mem_take hz)
                    · exact ho z hz
                    · exact g4 z (List.mem_of_mem_drop hz), by
                    rw [flat_set xs i e4 hi hx2 hoff]
                    exact repl_setCells g5 (hc.pure (by cases r <;> simp_all [PV.pure, PV.cells, pureL])) _, by simpa using g6⟩⟩
              rw [e2] at hs'
              refine ⟨_, H, L, _, by simpa [Instr.storeAt, Instr.sureAddr] using hrun, (hs'.put (dst := dst) hd (.undef _ _)).less (fun _ h => h.1), ?_⟩
              cases dst <;> exact hK
            have hxi : (xs.getD i .undef).cells.length = sz := by
              have : xs.getD i .undef ∈ xs := by
                rw [List.getD_eq_getElem?_getD, List.getElem?_eq_getElem hi]
                exact List.getElem_mem hi
              exact e4 _ this
            split at h
            · rename_i ds hds
              simp only [Res.wp] at h
              rw [hds] at hxi
              have hxi' : ds.length = sz := hxi
              have h1 := h.1
              exact key (.agg (setCells ds off r.cells)) (show (setCells ds off r.cells).length = sz by rw [setCells_length _ _ _ (by omega)]; exact hxi') (by rw [hds]; rfl) h.1 h.2
            · simp only [Res.wp] at h
              obtain ⟨⟨rfl, hsz⟩, h⟩ := h
              refine key _ hsz ?_ (by omega) h
              unfold setCells
              simp only [List.take_zero, List.nil_append, Nat.zero_add]
              rw [List.drop_eq_nil_of_le (by omega), List.append_nil]
      · simp [Res.wp] at h
    · simp [Res.wp] at h

end
end Go.Proofs.YtlgjbmgmoaphjaaDoor
