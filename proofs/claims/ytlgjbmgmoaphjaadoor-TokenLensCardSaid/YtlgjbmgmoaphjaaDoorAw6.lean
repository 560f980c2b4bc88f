/- Each operation does in a frame and a world what it does in a state without memory: reading, addresses, numbers, texts. -/
import Derived.Test.YtlgjbmgmoaphjaaDoorAw5
namespace Go.Proofs.YtlgjbmgmoaphjaaDoor
set_option linter.unusedSimpArgs false
set_option linter.unusedVariables false
open Go

section
variable {P : Program} {B : Base} {F : Nat → Prop} {H : Imm} {L : Lay} {s : St} {a : Act} {w : World} {q : Bool} {dst : Option Nat} {k g : Nat} {K : St → Prop}

theorem Rel.less (h : Rel B F H L s a w) {F' : Nat → Prop} (hF : ∀ g, F' g → F g) : Rel B F' H L s a w := { h with free := fun g hg => h.free g (hF g hg) }

theorem Rel.eval (h : Rel B F H L s a w) (x : Operand) : Rep H L (a.eval x) (s.ev x) := by
  cases x with
  | tmp t => exact h.env t
  | const v => exact Rep.ofConst v
  | global g => exact .undef _ _
  | func f => exact Rep.fn (H := H) L f [] [] (.nil _)

/-- A computation that yields a value, and a state that fits. -/
def Good (P : Program) (B : Base) (F : Nat → Prop) (a : Act) (dst : Option Nat) (g : Nat) (K : St → Prop) (sem : Sem Value) (w : World) : Prop :=
  ∃ v w' H' L' s', sem.run P w = .ok v w' ∧ Rel B (fun x => F x ∧ x ≠ g) H' L' s' (a.put dst v) w' ∧ K s'

theorem good_val (hR : Rel B F H L s a w) (hd : ∀ d, dst = some d → d < a.tmps.size) {sem : Sem Value} {v : Value} {p : PV} (hr : sem.run P w = .ok v w) (hv : Rep H L v p) (hK : K (s.put dst p)) :
    Good P B F a dst g K sem w :=
  ⟨v, w, H, L, _, hr, (hR.put hd hv).less (fun _ h => h.1), hK⟩

/-! ### Types -/
theorem tyOf_facts {t : Nat} (h : (tyOf P t).kd ≠ .none) : ∃ i d, P.info? t = some i ∧ P.underlying t = some d ∧
    tyOf P t = ⟨kdOf d, aggOf d, i.size, i.bytes, i.zero.map fun z => z.cells.toList.map ofCell, flatOf P t d⟩ := by
  unfold tyOf at h ⊢
  split at h
  · rename_i i d h1 h2
    exact ⟨i, d, h1, h2, rfl⟩
  · simp at h

theorem tyOf_und {t : Nat} {kd : Kd} (h : (tyOf P t).kd = kd) (hn : kd ≠ .none) : ∃ i d, P.info? t = some i ∧ P.underlying t = some d ∧ kdOf d = kd ∧ (tyOf P t).size = i.size ∧ (tyOf P t).bytes = i.bytes ∧
    (tyOf P t).agg = aggOf d ∧ (tyOf P t).zero = i.zero.map (fun z => z.cells.toList.map ofCell) ∧ (tyOf P t).flat = flatOf P t d := by
  obtain ⟨i, d, h1, h2, h3⟩ := tyOf_facts (P := P) (t := t) (by rw [h]; exact hn)
  rw [h3] at h ⊢
  exact ⟨i, d, h1, h2, h, rfl, rfl, rfl, rfl, rfl⟩

theorem kdOf_slice {d : TypeDesc} {e : Nat} (h : kdOf d = .slice e) : d = .slice e := by cases d <;> simp_all [kdOf]
theorem kdOf_str {d : TypeDesc} (h : kdOf d = .str) : d = .string := by cases d <;> simp_all [kdOf]
theorem kdOf_bool {d : TypeDesc} (h : kdOf d = .bool) : d = .bool := by cases d <;> simp_all [kdOf]
theorem kdOf_int {d : TypeDesc} {j : IntKind} (h : kdOf d = .int j) : d = .int j := by cases d <;> simp_all [kdOf]
theorem kdOf_struct {d : TypeDesc} {fs : List (Nat × Nat)} (h : kdOf d = .struct fs) : ∃ xs : Array Field, d = .struct xs ∧ fs = xs.toList.map fun f => (f.type, f.offset) := by cases d <;> simp_all [kdOf]
theorem kdOf_iface {d : TypeDesc} (h : kdOf d = .iface) : ∃ ms, d = .interface ms := by cases d <;> simp_all [kdOf]

theorem und_slice {t e : Nat} (h : (tyOf P t).kd = .slice e) : P.underlying t = some (.slice e) := by
  obtain ⟨i, d, _, h2, h3, _⟩ := tyOf_und h (by simp)
  rw [h2, kdOf_slice h3]
theorem und_str {t : Nat} (h : (tyOf P t).kd = .str) : P.underlying t = some .string := by
  obtain ⟨i, d, _, h2, h3, _⟩ := tyOf_und h (by simp)
  rw [h2, kdOf_str h3]
theorem und_bool {t : Nat} (h : (tyOf P t).kd = .bool) : P.underlying t = some .bool := by
  obtain ⟨i, d, _, h2, h3, _⟩ := tyOf_und h (by simp)
  rw [h2, kdOf_bool h3]
theorem und_int {t : Nat} {j : IntKind} (h : (tyOf P t).kd = .int j) : P.underlying t = some (.int j) := by
  obtain ⟨i, d, _, h2, h3, _⟩ := tyOf_und h (by simp)
  rw [h2, kdOf_int h3]
theorem und_struct {t : Nat} {fs : List (Nat × Nat)} (h : (tyOf P t).kd = .struct fs) : ∃ xs : Array Field, P.underlying t = some (.struct xs) ∧ fs = xs.toList.map fun f => (f.type, f.offset) := by
  obtain ⟨i, d, _, h2, h3, _⟩ := tyOf_und h (by simp)
  obtain ⟨xs, rfl, h4⟩ := kdOf_struct h3
  exact ⟨xs, h2, h4⟩
theorem und_iface {t : Nat} (h : (tyOf P t).kd = .iface) : ∃ ms, P.underlying t = some (.interface ms) := by
  obtain ⟨i, d, _, h2, h3, _⟩ := tyOf_und h (by simp)
  obtain ⟨ms, rfl⟩ := kdOf_iface h3
  exact ⟨ms, h2⟩

theorem run_isAgg {t : Nat} (h : (tyOf P t).kd ≠ .none) (w : World) : (isAgg t).run P w = .ok (tyOf P t).agg w := by
  obtain ⟨i, d, h1, h2, h3⟩ := tyOf_facts h
  rw [h3]
  unfold isAgg
  rw [Sem.run_bind, run_underlying h2 w]
  cases d <;> simp [aggOf]

theorem run_sizeOf' {t : Nat} (h : (tyOf P t).kd ≠ .none) (w : World) : (sizeOf t).run P w = .ok (tyOf P t).size w := by
  obtain ⟨i, d, h1, h2, h3⟩ := tyOf_facts h
  rw [h3]
  simp [sizeOf, typeInfo, h1]

/-- The size of a type, also of one that is not known (then it is not 0). -/
theorem run_sizeOf_ne {t : Nat} (h : (tyOf P t).size ≠ 0) (w : World) : (sizeOf t).run P w = .ok (tyOf P t).size w := by
  refine run_sizeOf' (fun hk => h ?_) w
  unfold tyOf at hk ⊢
  split
  · rename_i i d h1 h2
    simp only [h1, h2] at hk
    cases d <;> simp [kdOf] at hk
  · rfl

theorem tyOf_known {t : Nat} {p : Nat} (h : (tyOf P t).size = p) (hp : p ≠ 0) : (tyOf P t).kd ≠ .none := by
  intro hk
  subst h
  unfold tyOf at hk hp
  split at hk
  · rename_i i d h1 h2
    cases d <;> simp [kdOf] at hk
  · rename_i hn
    split at hp
    · rename_i i d h1 h2
      exact (hn i d h1 h2).elim
    · exact hp rfl

/-! ### Loads -/
theorem addr_add (b o i : Nat) : (⟨b, o, none⟩ : Addr).add i = ⟨b, o + i, none⟩ := by
  unfold Addr.add
  split
  · rename_i h; subst h; rfl
  · rfl

theorem cell_at (w : World) (b o : Nat) (c : Array Value) (t : TypeId) (fr : Nat × Nat) (hb : w.heap[b]? = some (.cells c t fr)) : w.cell? ⟨b, o, none⟩ = c[o]? := by
  simp [World.cell?, hb]

theorem run_loadVar_at {t : Nat} (hk : (tyOf P t).kd ≠ .none) (b o : Nat) (c : Array Value) (et : TypeId) (fr : Nat × Nat) (hb : w.heap[b]? = some (.cells c et fr)) :
    ((tyOf P t).agg = true → ∀ vs : List Value, vs.length = (tyOf P t).size → (∀ i, i < vs.length → c[o + i]? = vs[i]?) → (loadVar t ⟨b, o, none⟩).run P w = .ok (.agg vs.toArray) w) ∧
    ((tyOf P t).agg = false → ∀ v, c[o]? = some v → (loadVar t ⟨b, o, none⟩).run P w = .ok v w) := by
  refine ⟨fun ha vs hl hv => ?_, fun ha v hv => ?_⟩
  · have hl' := run_loadCells_list (P := P) w ⟨b, o, none⟩ vs (fun j v hj => by
      have hjl : j < vs.length := by
        rcases Nat.lt_or_ge j vs.length with h | h
        · exact h
        · rw [List.getElem?_eq_none h] at hj; cases hj
      rw [addr_add, cell_at w b _ c et fr hb, hv j hjl, hj])
    simp only [loadVar, Sem.run_bind, run_isAgg hk, Result.andThen_ok, ha, if_true, run_sizeOf' hk, ← hl, hl']
    rfl
  · simp only [loadVar, Sem.run_bind, run_isAgg hk, Result.andThen_ok, ha, Bool.false_eq_true, if_false, run_load, cell_at w b o c et fr hb, hv]

theorem loadv_sound {t : Nat} (hk : (tyOf P t).kd ≠ .none) {b base off : Nat} {c : Array Value} {et : TypeId} {fr : Nat × Nat} (hb : w.heap[b]? = some (.cells c et fr)) {vs : List Value} {cs : List PV}
    (hv : ∀ i, i < vs.length → c[base + i]? = vs[i]?) (hr : RepL H L vs cs) (h : (loadv (tyOf P t) cs off).wp P q s dst k g K) :
    ∃ v p, (loadVar t ⟨b, base + off, none⟩).run P w = .ok v w ∧ Rep H L v p ∧ K (s.put dst p) := by
  have hl := run_loadVar_at hk b (base + off) c et fr hb
  have hlen := hr.length
  cases ha : (tyOf P t).agg with
  | true =>
    simp only [loadv, ha, Res.wp] at h
    obtain ⟨h1, h2⟩ := h
    refine ⟨_, _, hl.1 ha ((vs.drop off).take (tyOf P t).size) (by simp; omega) (fun i hi => ?_), Rep.agg _ _ _ ((hr.drop off).take _), h2⟩
    simp only [List.length_take, List.length_drop] at hi
    rw [Nat.add_assoc, hv (off + i) (by omega), List.getElem?_take]
    simp [show i < (tyOf P t).size by omega]
  | false =>
    simp only [loadv, ha, Res.wp] at h
    obtain ⟨h1, h2⟩ := h
    obtain ⟨v, hv1, hv2⟩ := hr.get off h1
    exact ⟨v, _, hl.2 ha v (by rw [hv off (by omega), hv1]), hv2, h2⟩

/-- Where the cells of an element stand. -/
theorem flat_get {sz : Nat} : ∀ (xs : List PV) (i : Nat), (∀ x ∈ xs, x.cells.length = sz) → i < xs.length → ((xs.flatMap PV.cells).drop (i * sz)).take sz = (xs.getD i .undef).cells
  | [], i, _, h => by simp at h
  | x :: xs, 0, hs, _ => by
    simp only [Nat.zero_mul, List.drop_zero, List.flatMap_cons, List.getD_cons_zero]
    rw [← hs x (by simp), List.take_left]
  | x :: xs, i + 1, hs, h => by
    have h0 := hs x (by simp)
    have ih := flat_get xs i (fun y hy => hs y (by simp [hy])) (by simpa using h)
    simp only [List.flatMap_cons, List.getD_cons_succ]
    have e : (x.cells ++ xs.flatMap PV.cells).drop ((i + 1) * sz) = (xs.flatMap PV.cells).drop (i * sz) := by
      rw [List.drop_append, List.drop_eq_nil_of_le (by rw [h0, Nat.succ_mul]; omega), h0, Nat.succ_mul, List.nil_append]
      congr 1
      omega
    rw [e, ih]

theorem flat_length {sz : Nat} : ∀ (xs : List PV), (∀ x ∈ xs, x.cells.length = sz) → (xs.flatMap PV.cells).length = xs.length * sz
  | [], _ => by simp
  | x :: xs, hs => by
    simp only [List.flatMap_cons, List.length_append, List.length_cons, hs x (by simp), flat_length xs (fun y hy => hs y (by simp [hy])), Nat.succ_mul]
    omega

/-- A row's cells, wherever it lies. -/
theorem row_cells (hA : Agree H w) {sl : Slot} {f : Bool} {sz : Nat} {xs : List PV} (h : EntRep H L w sl (.row f sz xs)) (hx : xs ≠ []) :
    sl.sz = sz ∧ (∀ x ∈ xs, x.cells.length = sz) ∧ ∃ b c vs et fr, sl.block = some b ∧ w.heap[b]? = some (.cells c et fr) ∧ (∀ i, i < vs.length → c[i]? = vs[i]?) ∧ (∀ v ∈ vs, v.oneCell' = true) ∧ RepL H Lay.none vs (xs.flatMap PV.cells) := by
  cases f with
  | false =>
    obtain ⟨h1, h2, h3, h4⟩ := h
    refine ⟨h1, h2, ?_⟩
    rcases h4 with ⟨_, h5⟩ | ⟨b, vs, rest, t, g1, g2, g3, g4, g5, g6⟩
    · exact (hx (List.eq_nil_of_length_eq_zero (by omega))).elim
    · exact ⟨b, _, vs, t, _, g1, g3, fun i hi => by simp [List.getElem?_append_left hi], g4, g5⟩
  | true =>
    obtain ⟨h1, h2, _, h3⟩ := h
    refine ⟨h1, h2, ?_⟩
    rcases h3 with ⟨_, h5⟩ | ⟨b, c, vs, g1, g2, g3, g4, g5⟩
    · exact (hx h5).elim
    · obtain ⟨t, fr, ht⟩ := hA b c g2
      exact ⟨b, c, vs, t, fr, g1, ht, g4, g3, g5⟩

theorem RepL.none {vs : List Value} {ps : List PV} (h : RepL H Lay.none vs ps) : RepL H L vs ps := h.mono (.refl _) (.none _)
theorem Rep.none {v : Value} {p : PV} (h : Rep H Lay.none v p) : Rep H L v p := h.mono (.refl _) (.none _)

theorem load_sound (hR : Rel B F H L s a w) (hd : ∀ d, dst = some d → d < a.tmps.size) (t : Nat) (x : Operand) (h : (loadRes P s.sto.find t (s.ev x)).wp P q s dst k g K) :
    Good P B F a dst g K (Instr.loadAt t (a.eval x)) w := by
  have hx := hR.eval x
  generalize s.ev x = p at h hx
  generalize a.eval x = v at hx
  unfold loadRes at h
  split at h
  · simp [Res.wp] at h
  · rename_i hkd
    have hk : (tyOf P t).kd ≠ .none := hkd
    split at h
    · rename_i k' g' off
      split at h
      · rename_i g'' cs hf
        simp only [Res.wp] at h
        obtain ⟨rfl, h⟩ := h
        obtain ⟨sl, h1, h2, b, vs, et, h3, h4, h5, h6⟩ := hR.sto k' g' _ hf
        cases hx with
        | box _ _ _ _ _ hu hs hx =>
          have hv := hx sl b h1 h2 h3
          subst hv
          obtain ⟨v, p, hr, hp, hK⟩ := loadv_sound hk h5 (base := 0) (vs := vs) (by intro i hi; simp) h6 h
          rw [Nat.zero_add] at hr
          exact good_val hR hd (by simpa [Instr.loadAt, Instr.sureAddr] using hr) hp hK
      · simp [Res.wp] at h
    · rename_i k' g' i off
      split at h
      · rename_i g'' f sz xs hf
        simp only [Res.wp] at h
        obtain ⟨⟨rfl, hi⟩, h⟩ := h
        obtain ⟨sl, h1, h2, h3⟩ := hR.sto k' g' _ hf
        obtain ⟨h4, h5, b, c, vs, et, fr, h6, h7, h8, h9, h10⟩ := row_cells hR.agree h3 (by intro e; subst e; simp at hi)
        cases hx with
        | elt _ _ _ _ _ _ hu hs hx =>
          have hv := hx sl b h1 h2 h6
          subst hv
          have hlen := h10.length
          have hfl := flat_length xs h5
          have hmul : (i + 1) * sz ≤ xs.length * sz := Nat.mul_le_mul_right _ hi
          have hsl : RepL H L ((vs.drop (i * sz)).take sz) (xs.getD i .undef).cells := by
            rw [← flat_get xs i h5 hi]
            exact ((h10.drop _).take _).none
          obtain ⟨v, p, hr, hp, hK⟩ := loadv_sound hk h7 (base := i * sz) (vs := (vs.drop (i * sz)).take sz) (fun j hj => by
            simp only [List.length_take, List.length_drop] at hj
            rw [h8 (i * sz + j) (by omega), List.getElem?_take]
            simp [show j < sz by omega]) hsl h
          rw [h4]
          exact good_val hR hd (by simpa [Instr.loadAt, Instr.sureAddr] using hr) hp hK
      · simp [Res.wp] at h
    · rename_i cs
      cases hx with
      | ref _ b off c vs _ hH hv hr =>
        obtain ⟨et, fr, hb⟩ := hR.agree b c hH
        obtain ⟨v, p, hr', hp, hK⟩ := loadv_sound hk hb (base := off) (vs := vs) hv (hr.none (L := L)) h
        rw [Nat.add_zero] at hr'
        exact good_val hR hd (by simpa [Instr.loadAt, Instr.sureAddr] using hr') hp hK
    · simp [Res.wp] at h

end
end Go.Proofs.YtlgjbmgmoaphjaaDoor
