/- Each operation does in a frame and a world what it does in a state without memory: addresses, numbers, texts, slices. -/
import Derived.Test.YtlgjbmgmoaphjaaDoorAw6
namespace Go.Proofs.YtlgjbmgmoaphjaaDoor
set_option linter.unusedSimpArgs false
set_option linter.unusedVariables false
open Go

section
variable {P : Program} {B : Base} {F : Nat → Prop} {H : Imm} {L : Lay} {s : St} {a : Act} {w : World} {q : Bool} {dst : Option Nat} {k g : Nat} {K : St → Prop}

theorem fieldAddr_sound (hR : Rel B F H L s a w) (hd : ∀ d, dst = some d → d < a.tmps.size) (t : Nat) (x : Operand) (f : Nat) (h : (fieldAddrRes P s.sto.find t (s.ev x) f).wp P q s dst k g K) :
    Good P B F a dst g K (Instr.fieldAt t (a.eval x) f) w := by
  have hx := hR.eval x
  generalize s.ev x = p at h hx
  generalize a.eval x = v at hx
  unfold fieldAddrRes at h
  split at h
  · rename_i fs hkd
    obtain ⟨xs, hu, hfs⟩ := und_struct hkd
    split at h
    · rename_i ft fo hf
      simp only [Res.wp] at h
      obtain ⟨hsz, h⟩ := h
      obtain ⟨fl, hfl, hft, hfo⟩ : ∃ fl : Field, xs[f]? = some fl ∧ fl.type = ft ∧ fl.offset = fo := by
        rw [hfs] at hf
        simp only [List.getElem?_map, Array.getElem?_toList] at hf
        cases hq : xs[f]? with
        | none => simp [hq] at hf
        | some fl =>
          simp only [hq, Option.map_some, Option.some.injEq, Prod.mk.injEq] at hf
          exact ⟨fl, rfl, hf.1, hf.2⟩
      subst hft; subst hfo
      have hrun : ∀ b o, (Instr.fieldAt t (.pointer (some ⟨b, o, none⟩)) f).run P w = .ok (.pointer (some ⟨b, o + fl.offset, none⟩)) w := by
        intro b o
        simp only [Instr.fieldAt, Sem.run_bind, run_underlying hu w, Result.andThen_ok, hfl, Instr.sureAddr, Sem.run_pure, fieldPlace, run_sizeOf_ne hsz, hsz, if_false, addr_add]
      split at h
      · rename_i k' g' off
        split at h
        · rename_i g'' cs hf
          simp only [Res.wp] at h
          obtain ⟨rfl, h⟩ := h
          obtain ⟨sl, h1, h2, b, vs, et, h3, h4, h5, h6⟩ := hR.sto k' g' _ hf
          cases hx with
          | box _ _ _ _ _ hu' hs hx =>
            have hv := hx sl b h1 h2 h3
            subst hv
            exact good_val hR hd (hrun b off) (.box _ _ _ _ _ hu' ⟨_, rfl⟩ fun sl' b' h1' h2' h3' => by rw [h1] at h1'; cases h1'; rw [h3] at h3'; cases h3'; rfl) h
        · simp [Res.wp] at h
      · rename_i k' g' i off
        split at h
        · rename_i g'' fr sz ys hf
          simp only [Res.wp] at h
          obtain ⟨⟨rfl, hne⟩, h⟩ := h
          obtain ⟨sl, h1, h2, h3⟩ := hR.sto k' g' _ hf
          obtain ⟨h4, h5, b, c, vs, et, fr, h6, h7, h8, h9, h10⟩ := row_cells hR.agree h3 hne
          cases hx with
          | elt _ _ _ _ _ _ hu' hs hx =>
            have hv := hx sl b h1 h2 h6
            subst hv
            exact good_val hR hd (hrun b _) (.elt _ _ _ _ _ _ hu' ⟨_, rfl⟩ fun sl' b' h1' h2' h3' => by rw [h1] at h1'; cases h1'; rw [h6] at h3'; cases h3'; rw [Nat.add_assoc]) h
        · simp [Res.wp] at h
      · rename_i cs
        simp only [Res.wp] at h
        obtain ⟨hle, h⟩ := h
        cases hx with
        | ref _ b off c vs _ hH hv hr =>
          refine good_val hR hd (hrun b off) (.ref _ _ _ c (vs.drop fl.offset) _ hH (fun i hi => ?_) (hr.drop _)) h
          simp only [List.length_drop] at hi
          rw [Nat.add_assoc, hv (fl.offset + i) (by omega)]
          simp
      · simp [Res.wp] at h
    · simp [Res.wp] at h
  · simp [Res.wp] at h

theorem nilCheck_sound (hR : Rel B F H L s a w) (hd : ∀ d, dst = some d → d < a.tmps.size) (x : Operand) (h : (nilCheckRes s.sto.find (s.ev x)).wp P q s dst k g K) :
    ∃ b, a.eval x = .pointer (some b) ∧ Good P B F a dst g K (pure (.pointer (some b))) w := by
  have hx := hR.eval x
  generalize s.ev x = p at h hx
  generalize a.eval x = u at hx
  unfold nilCheckRes at h
  split at h
  · rename_i k' g' off
    split at h
    · rename_i g'' cs hf
      simp only [Res.wp] at h
      obtain ⟨rfl, h⟩ := h
      obtain ⟨sl, e1, e2, b, vs, t, e3, _⟩ := hR.sto _ _ _ hf
      have hx' := hx
      cases hx with
      | box _ _ _ _ _ hu hs hx =>
        have hv := hx sl b e1 e2 e3
        subst hv
        exact ⟨_, rfl, good_val hR hd rfl hx' h⟩
    · simp [Res.wp] at h
  · rename_i k' g' i off
    split at h
    · rename_i g'' fr sz xs hf
      simp only [Res.wp] at h
      obtain ⟨⟨rfl, hne⟩, h⟩ := h
      obtain ⟨sl, e1, e2, e3⟩ := hR.sto _ _ _ hf
      obtain ⟨b, e4⟩ : ∃ b, sl.block = some b := by
        cases fr with
        | true =>
          obtain ⟨_, _, _, e3⟩ := e3
          rcases e3 with ⟨_, e3⟩ | ⟨b, c, vs, e3, _⟩
          · exact (hne e3).elim
          · exact ⟨b, e3⟩
        | false =>
          obtain ⟨_, _, hcap, e3⟩ := e3
          rcases e3 with ⟨_, e3⟩ | ⟨b, vs, rest, t, e3, _⟩
          · exact (hne (List.eq_nil_of_length_eq_zero (by omega))).elim
          · exact ⟨b, e3⟩
      have hx' := hx
      cases hx with
      | elt _ _ _ _ _ _ hu hs hx =>
        have hv := hx sl b e1 e2 e4
        subst hv
        exact ⟨_, rfl, good_val hR hd rfl hx' h⟩
    · simp [Res.wp] at h
  · rename_i cs
    simp only [Res.wp] at h
    have hx' := hx
    cases hx with
    | ref _ b off c vs ps hH hv hr => exact ⟨_, rfl, good_val hR hd rfl hx' h⟩
  · simp [Res.wp] at h

theorem field_sound (hR : Rel B F H L s a w) (hd : ∀ d, dst = some d → d < a.tmps.size) (t : Nat) (x : Operand) (f : Nat) (h : (fieldRes P t (s.ev x) f).wp P q s dst k g K) :
    Good P B F a dst g K (Instr.field t (a.eval x) f) w := by
  have hx := hR.eval x
  generalize s.ev x = p at h hx
  generalize a.eval x = v at hx
  unfold fieldRes at h
  split at h
  · rename_i fs cs hkd
    obtain ⟨xs, hu, hfs⟩ := und_struct hkd
    split at h
    · rename_i ft fo hf
      obtain ⟨fl, hfl, hft, hfo⟩ : ∃ fl : Field, xs[f]? = some fl ∧ fl.type = ft ∧ fl.offset = fo := by
        rw [hfs] at hf
        simp only [List.getElem?_map, Array.getElem?_toList] at hf
        cases hq : xs[f]? with
        | none => simp [hq] at hf
        | some fl =>
          simp only [hq, Option.map_some, Option.some.injEq, Prod.mk.injEq] at hf
          exact ⟨fl, rfl, hf.1, hf.2⟩
      subst hft; subst hfo
      cases hx with
      | agg _ vs _ hr =>
        have hlen := hr.length
        have hfield : ∀ r, (part fl.type vs.toArray fl.offset).run P w = r → (Instr.field t (.agg vs.toArray) f).run P w = r := by
          intro r hr
          simp only [Instr.field, Sem.run_bind, run_underlying hu w, Result.andThen_ok, hfl, asAgg, Sem.run_pure, hr]
        simp only [Res.wp] at h
        obtain ⟨hz, h⟩ := h
        have hk : (tyOf P fl.type).kd ≠ .none := tyOf_known rfl hz
        cases ha : (tyOf P fl.type).agg with
        | true =>
          simp only [loadv, ha, Res.wp] at h
          obtain ⟨h1, h2⟩ := h
          refine good_val hR hd (hfield _ ?_) (.agg _ _ _ ((hr.drop fl.offset).take (tyOf P fl.type).size)) h2
          simp only [part, Sem.run_bind, run_isAgg hk, Result.andThen_ok, ha, if_true, run_sizeOf' hk, Sem.run_pure]
          congr 2
          apply Array.ext'
          simp
        | false =>
          simp only [loadv, ha, Res.wp] at h
          obtain ⟨h1, h2⟩ := h
          obtain ⟨v, hv1, hv2⟩ := hr.get _ h1
          refine good_val hR hd (hfield _ ?_) hv2 h2
          simp only [part, Sem.run_bind, run_isAgg hk, Result.andThen_ok, ha, Bool.false_eq_true, if_false]
          have : vs.toArray[fl.offset]? = some v := by simpa using hv1
          simp only [this, Sem.run_pure]
    · simp [Res.wp] at h
  · simp [Res.wp] at h

theorem indexAddr_sound (hR : Rel B F H L s a w) (hd : ∀ d, dst = some d → d < a.tmps.size) (t : Nat) (x i : Operand) (h : (indexRes P s.sto.find t (s.ev x) (s.ev i)).wp P q s dst k g K) :
    Good P B F a dst g K (Instr.indexAt t (a.eval x) (a.eval i)) w := by
  have hx := hR.eval x
  have hi := hR.eval i
  generalize s.ev x = p at h hx
  generalize s.ev i = pi at h hi
  generalize a.eval x = v at hx
  generalize a.eval i = vi at hi
  unfold indexRes at h
  split at h
  · rename_i e sz xs ki n hkd
    have hu := und_slice hkd
    simp only [Res.wp] at h
    obtain ⟨⟨h0, hn, hsz, hz⟩, h⟩ := h
    cases hi
    cases hx with
    | listNil => simp at hn; omega
    | list _ b off len cap _ c vs _ hH hlen hcap hs1 h1 hv hr =>
      have hnl : n.toNat < xs.length := by omega
      obtain ⟨x0, hx0⟩ : ∃ x0, x0 ∈ xs := ⟨xs[n.toNat], List.getElem_mem hnl⟩
      have hfl := flat_length xs hs1
      have hlv := hr.length
      have hmul : (n.toNat + 1) * sz ≤ xs.length * sz := Nat.mul_le_mul_right _ hnl
      have hsl : RepL H Lay.none ((vs.drop (n.toNat * sz)).take sz) (xs.getD n.toNat .undef).cells := by
        rw [← flat_get xs n.toNat hs1 hnl]
        exact ((hr.drop _).take _)
      have hrun : (Instr.indexAt t (.slice (some ⟨b, off, none⟩) len cap) (.int ki n)).run P w = .ok (.pointer (some ⟨b, off + n.toNat * sz, none⟩)) w := by
        have hlt : n < (len : Int) := by omega
        rw [hsz] at hz
        simp only [Instr.indexAt, asIntOf, Sem.run_bind, Sem.run_pure, Result.andThen_ok, run_underlying hu w, h0, hlt, and_self, if_true, run_sizeOf_ne hz, addr_add, hsz]
      refine good_val hR hd hrun (.ref _ _ _ c _ _ hH (fun j hj => ?_) hsl) h
      simp only [List.length_take, List.length_drop] at hj
      rw [Nat.add_assoc, hv (n.toNat * sz + j) (by omega), List.getElem?_take]
      simp [show j < sz by omega]
  · rename_i e k' g' m ki n hkd
    have hu := und_slice hkd
    split at h
    · rename_i g'' f sz xs hf
      simp only [Res.wp] at h
      obtain ⟨⟨rfl, hsz, hz, h0, hn, hm⟩, h⟩ := h
      obtain ⟨sl, h1, h2, h3⟩ := hR.sto k' g' _ hf
      obtain ⟨h4, h5, b, c, vs, et, fr, h6, h7, h8, h9, h10⟩ := row_cells hR.agree h3 (by intro e; subst e; simp at hm; omega)
      cases hi
      cases hx with
      | row _ _ _ _ _ hu' hs hx =>
        have hv := hx sl h1 h2
        rw [h6] at hv
        subst hv
        have hrun : (Instr.indexAt t (.slice (some ⟨b, 0, none⟩) m sl.cap) (.int ki n)).run P w = .ok (.pointer (some ⟨b, n.toNat * sz, none⟩)) w := by
          rw [hsz] at hz
          simp only [Instr.indexAt, asIntOf, Sem.run_bind, Sem.run_pure, Result.andThen_ok, run_underlying hu w, h0, hn, and_self, if_true, run_sizeOf_ne hz, addr_add, hsz, Nat.zero_add]
        exact good_val hR hd (by simpa using hrun) (.elt _ _ _ _ _ _ hu' ⟨_, rfl⟩ fun sl' b' h1' h2' h3' => by rw [h1] at h1'; cases h1'; rw [h6] at h3'; cases h3'; rw [h4, Nat.add_zero]) h
    · simp [Res.wp] at h
  · simp [Res.wp] at h

theorem strIndex_sound (hR : Rel B F H L s a w) (hd : ∀ d, dst = some d → d < a.tmps.size) (t : Nat) (x i : Operand) (h : (strIndexRes P t (s.ev x) (s.ev i)).wp P q s dst k g K) :
    Good P B F a dst g K (Instr.index t (a.eval x) (a.eval i)) w := by
  have hx := hR.eval x
  have hi := hR.eval i
  generalize s.ev x = p at h hx
  generalize s.ev i = pi at h hi
  generalize a.eval x = v at hx
  generalize a.eval i = vi at hi
  unfold strIndexRes at h
  split at h
  · rename_i b ki n hkd
    have hu := und_str hkd
    simp only [Res.wp] at h
    obtain ⟨⟨h0, hn⟩, h⟩ := h
    cases hi
    cases hx
    refine good_val hR hd (v := .int .u8 (b.getD n.toNat 0).toNat) ?_ (.int _ _ _) h
    have hlt : n.toNat < b.length := by omega
    have hg : (ByteArray.mk b.toArray)[n.toNat]? = some (b.getD n.toNat 0) := by
      rw [ByteArray.getElem?_lt' _ _ (by show n.toNat < b.toArray.size; simpa using hlt)]
      congr 1
      show b.toArray[n.toNat] = _
      simp [List.getD, List.getElem?_eq_getElem hlt]
    simp only [Instr.index, asIntOf, Sem.run_bind, Sem.run_pure, Result.andThen_ok, run_underlying hu w, h0, if_true, hg]
  · simp [Res.wp] at h

theorem extract_sound (hR : Rel B F H L s a w) (hd : ∀ d, dst = some d → d < a.tmps.size) (x : Operand) (i : Nat) (h : (extractRes (s.ev x) i).wp P q s dst k g K) :
    Good P B F a dst g K (Instr.extract (a.eval x) i) w := by
  have hx := hR.eval x
  generalize s.ev x = p at h hx
  generalize a.eval x = v at hx
  unfold extractRes at h
  split at h
  · rename_i vs
    simp only [Res.wp] at h
    obtain ⟨hi, h⟩ := h
    cases hx with
    | tup _ us _ hr =>
      obtain ⟨v, hv1, hv2⟩ := hr.get i hi
      refine good_val hR hd (v := v) ?_ hv2 h
      have : us.toArray[i]? = some v := by simpa using hv1
      simp only [Instr.extract, this, Sem.run_pure]
  · simp [Res.wp] at h

theorem len_sound (hR : Rel B F H L s a w) (hd : ∀ d, dst = some d → d < a.tmps.size) (t ty : Nat) (ts : List Nat) (x : Operand) (more : List Value)
    (h : (lenRes P t (s.ev x)).wp P q s dst k g K) : Good P B F a dst g K (Builtin.len_ (t :: ts).toArray ty (a.eval x :: more).toArray) w := by
  have hx := hR.eval x
  generalize s.ev x = p at h hx
  generalize a.eval x = v at hx
  unfold lenRes at h
  split at h
  · rename_i hk
    split at h
    · rename_i b
      simp only [Res.wp] at h
      cases hx
      have hs : (ByteArray.mk b.toArray).size = b.length := by show b.toArray.size = _; simp
      refine good_val hR hd (v := .int .i64 b.length) ?_ (.int _ _ _) h
      simp [Builtin.len_, run_underlying (und_str hk) w, goInt, hs]
    · simp [Res.wp] at h
  · rename_i e he
    have hsl : ∀ (ad : Option Addr) (n c : Nat), v = .slice ad n c → (Builtin.len_ (t :: ts).toArray ty (v :: more).toArray).run P w = .ok (.int .i64 n) w := by
      rintro ad n c rfl
      simp [Builtin.len_, run_underlying (und_slice he) w, goInt]
    split at h
    · simp only [Res.wp] at h
      cases hx
      exact good_val hR hd (hsl _ _ _ rfl) (.int _ _ _) h
    · rename_i sz xs
      simp only [Res.wp] at h
      cases hx with
      | listNil => exact good_val hR hd (hsl _ _ _ rfl) (.int _ _ _) h
      | list _ b off len cap _ c vs _ hH hlen hcap hs1 h1 hv hr =>
        subst hlen
        exact good_val hR hd (hsl _ _ _ rfl) (.int _ _ _) h
    · rename_i k' g' n
      simp only [Res.wp] at h
      cases hx with
      | row _ _ _ _ _ hu' hs hx =>
        obtain ⟨ad, c, rfl⟩ := hs
        exact good_val hR hd (hsl _ _ _ rfl) (.int _ _ _) h
    · simp [Res.wp] at h
  · simp [Res.wp] at h

end
end Go.Proofs.YtlgjbmgmoaphjaaDoor
