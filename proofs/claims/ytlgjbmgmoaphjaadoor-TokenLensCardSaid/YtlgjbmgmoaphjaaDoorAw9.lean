/- Each operation does in a frame and a world what it does in a state without memory: slice expressions, conversions, literals. -/
import Derived.Test.YtlgjbmgmoaphjaaDoorAw8
namespace Go.Proofs.YtlgjbmgmoaphjaaDoor
set_option linter.unusedSimpArgs false
set_option linter.unusedVariables false
open Go

section
variable {P : Program} {B : Base} {F : Nat → Prop} {H : Imm} {L : Lay} {s : St} {a : Act} {w : World} {q : Bool} {dst : Option Nat} {k g : Nat} {K : St → Prop}

/-- A bound as it stands in a slice expression, and its number. -/
def BoundIs (v : Option Value) (n dflt : Int) : Prop := (v = none ∧ n = dflt) ∨ ∃ j, v = some (.int j n)

theorem bound_of (hR : Rel B F H L s a w) {x : Option Operand} {n : Int} {j : IntKind} (h : x.map s.ev = some (.int j n)) : x.map a.eval = some (.int j n) := by
  cases x with
  | none => simp at h
  | some x =>
    have hx := hR.eval x
    simp only [Option.map_some, Option.some.injEq] at h ⊢
    rw [h] at hx
    generalize a.eval x = u at hx
    cases hx; rfl

theorem boundsOf_sound (hR : Rel B F H L s a w) {lo hi : Option Operand} {len : Nat} {l h : Int} (hb : boundsOf len (lo.map s.ev) (hi.map s.ev) = some (l, h)) :
    BoundIs (lo.map a.eval) l 0 ∧ BoundIs (hi.map a.eval) h len := by
  unfold boundsOf at hb
  split at hb <;> simp only [Option.some.injEq, Prod.mk.injEq, reduceCtorEq] at hb
  · rename_i h1 h2
    obtain ⟨rfl, rfl⟩ := hb
    exact ⟨.inl ⟨by cases lo <;> simp_all, rfl⟩, .inl ⟨by cases hi <;> simp_all, rfl⟩⟩
  · rename_i h1 h2
    obtain ⟨rfl, rfl⟩ := hb
    exact ⟨.inr ⟨_, bound_of hR h1⟩, .inl ⟨by cases hi <;> simp_all, rfl⟩⟩
  · rename_i h1 h2
    obtain ⟨rfl, rfl⟩ := hb
    exact ⟨.inl ⟨by cases lo <;> simp_all, rfl⟩, .inr ⟨_, bound_of hR h2⟩⟩
  · rename_i h1 h2
    obtain ⟨rfl, rfl⟩ := hb
    exact ⟨.inr ⟨_, bound_of hR h1⟩, .inr ⟨_, bound_of hR h2⟩⟩

theorem run_sliceBounds (isS : Bool) (len cap : Nat) (lo hi : Option Value) (l h : Int) (hl : BoundIs lo l 0) (hh : BoundIs hi h len) (h0 : 0 ≤ l) (h1 : l ≤ h) (h2 : h ≤ cap) :
    (Instr.sliceBounds isS len cap lo hi none).run P w = .ok (l.toNat, h.toNat, cap) w := by
  have hb : ∀ (j : IntKind) (n : Int) (y : Nat) (code : BoundsCode), 0 ≤ n → n ≤ y → (Instr.sliceBound (.int j n) y code).run P w = .ok n.toNat w := by
    intro j n y code g1 g2
    simp [Instr.sliceBound, asIntOf, g1, g2]
  rcases hh with ⟨rfl, rfl⟩ | ⟨j, rfl⟩ <;> rcases hl with ⟨rfl, rfl⟩ | ⟨j', rfl⟩
  · simp [Instr.sliceBounds]
  · have := hb j' l len .sliceB h0 h1
    simp [Instr.sliceBounds, this]
  · have := hb j h cap (if isS = true then .sliceAcap else .sliceAlen) (by omega) h2
    simp [Instr.sliceBounds, this]
  · have g1 := hb j h cap (if isS = true then .sliceAcap else .sliceAlen) (by omega) h2
    have g2 := hb j' l h.toNat .sliceB h0 (by omega)
    simp [Instr.sliceBounds, g1, g2]

theorem run_slice_at {t e : Nat} (hu : P.underlying t = some (.slice e)) (hz : (tyOf P e).kd ≠ .none) (ad : Option Addr) (len cap : Nat) (lo hi : Option Value) (l h : Int)
    (hb : (Instr.sliceBounds true len cap lo hi none).run P w = .ok (l.toNat, h.toNat, cap) w) :
    (Instr.sliceAt t (.slice ad len cap) lo hi none).run P w = .ok (.slice (if cap = l.toNat then ad else ad.map (·.add (l.toNat * (tyOf P e).size))) (h.toNat - l.toNat) (cap - l.toNat)) w := by
  simp only [Instr.sliceAt, Sem.run_bind, run_underlying hu w, Result.andThen_ok, Instr.slice, hb, run_sizeOf' hz, Sem.run_pure]

theorem flat_take {sz : Nat} : ∀ (xs : List PV) (n : Nat), (∀ x ∈ xs, x.cells.length = sz) → (xs.take n).flatMap PV.cells = (xs.flatMap PV.cells).take (n * sz)
  | [], n, _ => by simp
  | x :: xs, 0, _ => by simp
  | x :: xs, n + 1, hs => by
    have h0 := hs x (by simp)
    simp only [List.take_succ_cons, List.flatMap_cons, flat_take xs n (fun y hy => hs y (by simp [hy]))]
    rw [List.take_append, h0, show (n + 1) * sz - sz = n * sz by rw [Nat.succ_mul]; omega, List.take_of_length_le (show x.cells.length ≤ (n + 1) * sz by rw [h0, Nat.succ_mul]; omega)]

theorem flat_drop {sz : Nat} : ∀ (xs : List PV) (n : Nat), (∀ x ∈ xs, x.cells.length = sz) → (xs.drop n).flatMap PV.cells = (xs.flatMap PV.cells).drop (n * sz)
  | [], n, _ => by simp
  | x :: xs, 0, _ => by simp
  | x :: xs, n + 1, hs => by
    have h0 := hs x (by simp)
    simp only [List.drop_succ_cons, List.flatMap_cons, flat_drop xs n (fun y hy => hs y (by simp [hy]))]
    rw [List.drop_append, h0, show (n + 1) * sz - sz = n * sz by rw [Nat.succ_mul]; omega, List.drop_eq_nil_of_le (show x.cells.length ≤ (n + 1) * sz by rw [h0, Nat.succ_mul]; omega), List.nil_append]

/-- A part of a row that is not written any more. -/
theorem rep_part {b off len cap sz : Nat} {c : Array Value} {vs : List Value} {xs : List PV} (hH : H b = some c) (hlen : xs.length = len) (hcap : len ≤ cap) (hsz : ∀ x ∈ xs, x.cells.length = sz) (h1 : ∀ v ∈ vs, v.oneCell' = true)
    (hv : ∀ i, i < vs.length → c[off + i]? = vs[i]?) (hr : RepL H Lay.none vs (xs.flatMap PV.cells)) (l h : Nat) (hl : l ≤ h) (hh : h ≤ len) :
    Rep H L (.slice (if cap = l then some ⟨b, off, none⟩ else (some (⟨b, off, none⟩ : Addr)).map (·.add (l * sz))) (h - l) (cap - l)) (.list sz ((xs.take h).drop l)) := by
  by_cases he : h = l
  · subst he
    have : (xs.take h).drop h = [] := by simp
    rw [this, Nat.sub_self]
    exact .listNil _ _ _ _
  · have hne : cap ≠ l := by omega
    simp only [hne, if_false, Option.map_some, addr_add]
    refine .list _ b (off + l * sz) _ _ sz c ((vs.take (h * sz)).drop (l * sz)) _ hH (by simp; omega) (by omega) (fun x hx => hsz x (List.mem_of_mem_take (List.mem_of_mem_drop hx))) (fun v hv => h1 v (List.mem_of_mem_take (List.mem_of_mem_drop hv))) (fun i hi => ?_) ?_
    · simp only [List.length_drop, List.length_take] at hi
      rw [Nat.add_assoc, hv (l * sz + i) (by omega), List.getElem?_drop, List.getElem?_take]
      simp [show l * sz + i < h * sz by omega]
    · rw [flat_drop (sz := sz) _ _ (fun x hx => hsz x (List.mem_of_mem_take hx)), flat_take _ _ hsz]
      exact (hr.take _).drop _

/-- A row is written no more from here on: what it is from then on. -/
theorem Rel.freeze (h : Rel B F H L s a w) {k g sz : Nat} {f : Bool} {xs : List PV} (hk : k < 1000) (hf : s.sto.find k = some (g, .row f sz xs)) :
    ∃ H', Rel B F H' L (s.set k g (.row true sz xs)) a w ∧ Grow H H' ∧ ∃ sl, L.at_ k = some sl ∧ sl.gen = g ∧ EntRep H' L w sl (.row true sz xs) := by
  obtain ⟨sl, h1, h2, h3⟩ := h.sto k g _ hf
  have same : EntRep H L w sl (.row true sz xs) → ∃ H', Rel B F H' L (s.set k g (.row true sz xs)) a w ∧ Grow H H' ∧ ∃ sl, L.at_ k = some sl ∧ sl.gen = g ∧ EntRep H' L w sl (.row true sz xs) := by
    intro he
    have := h.setOld (e := .row true sz xs) (H' := H) (w' := w) h1 (.refl _) h.agree (fun b c hc => .inl hc) (Nat.le_refl _) (fun _ _ _ => rfl) rfl rfl rfl he
    rw [h2] at this
    exact ⟨H, this, .refl _, sl, h1, h2, he⟩
  cases f with
  | true => exact same h3
  | false =>
    obtain ⟨e1, e2, e3, e4⟩ := h3
    rcases e4 with ⟨e4, e5⟩ | ⟨b, vs, rest, t, g1, g2, g3, g4, g5, g6⟩
    · exact same ⟨e1, e2, e3, .inl ⟨e4, List.eq_nil_of_length_eq_zero (by omega)⟩⟩
    · have hG : Grow H (fun x => if x = b then some (vs ++ rest).toArray else H x) := by
        intro x c hc
        by_cases hx : x = b
        · subst hx; rw [g2] at hc; cases hc
        · simpa [hx] using hc
      have he : EntRep (fun x => if x = b then some (vs ++ rest).toArray else H x) L w sl (.row true sz xs) :=
        ⟨e1, e2, e3, .inr ⟨b, (vs ++ rest).toArray, vs, g1, if_pos rfl, g4, fun i hi => by simp [List.getElem?_append_left hi], g5.mono hG (.refl _)⟩⟩
      have := h.setOld (e := .row true sz xs) (H' := fun x => if x = b then some (vs ++ rest).toArray else H x) (w' := w) h1 hG
        (fun x c hc => by
          by_cases hx : x = b
          · subst hx
            simp only [if_true, Option.some.injEq] at hc
            subst hc
            exact ⟨t, _, g3⟩
          · simp only [hx, if_false] at hc
            exact h.agree x c hc)
        (fun x c hc => by
          by_cases hx : x = b
          · subst hx; exact .inr (.inr ⟨g1, hk⟩)
          · simp only [hx, if_false] at hc
            exact .inl hc)
        (Nat.le_refl _) (fun _ _ _ => rfl) rfl rfl rfl he
      rw [h2] at this
      exact ⟨_, this, hG, sl, h1, h2, he⟩

/-- A frozen row, as a list. -/
theorem rep_frozen {L0 : Lay} {sl : Slot} {sz n : Nat} {xs : List PV} (he : EntRep H L0 w sl (.row true sz xs)) (l h : Nat) (hl : l ≤ h) (hh : h ≤ n) (hn : n ≤ xs.length) :
    Rep H L (.slice (if sl.cap = l then sl.block.map (fun b => (⟨b, 0, none⟩ : Addr)) else (sl.block.map fun b => (⟨b, 0, none⟩ : Addr)).map (·.add (l * sz))) (h - l) (sl.cap - l)) (.list sz ((xs.take h).drop l)) := by
  obtain ⟨e1, e2, e3, e4⟩ := he
  rcases e4 with ⟨e4, e5⟩ | ⟨b, c, vs, g1, g2, g3, g4, g5⟩
  · subst e5
    simp only [List.length_nil, Nat.le_zero] at hn
    have : h = 0 := by omega
    have : l = 0 := by omega
    subst_vars
    simpa using Rep.listNil (H := H) L _ _ _
  · rw [g1]
    simpa using rep_part (L := L) (off := 0) g2 rfl e3 e2 g3 (by simpa using g4) g5 l h hl (by omega)

theorem slice_sound (hR : Rel B F H L s a w) (hd : ∀ d, dst = some d → d < a.tmps.size) (t : Nat) (x : Operand) (lo hi mx : Option Operand)
    (h : (sliceRes P q s.sto.find t (s.ev x) (lo.map s.ev) (hi.map s.ev) (mx.map s.ev)).wp P q s dst k g K) :
    Good P B F a dst g K (Instr.sliceAt t (a.eval x) (lo.map a.eval) (hi.map a.eval) (mx.map a.eval)) w := by
  have hx := hR.eval x
  generalize hp : s.ev x = p at h hx
  generalize a.eval x = v at hx
  unfold sliceRes at h
  split at h
  · simp [Res.wp] at h
  · rename_i hm
    have hm' : mx = none := by cases mx <;> simp_all
    subst hm'
    simp only [Option.map_none]
    split at h
    · rename_i b hkd
      have hu := und_str hkd
      split at h
      · rename_i l r hb
        simp only [Res.wp] at h
        obtain ⟨⟨h0, h1, h2⟩, h⟩ := h
        obtain ⟨g1, g2⟩ := boundsOf_sound hR hb
        cases hx
        refine good_val hR hd (v := .string ⟨((b.take r.toNat).drop l.toNat).toArray⟩) ?_ (.str _ _) h
        have := run_sliceBounds (P := P) (w := w) false b.length b.length _ _ l r g1 g2 h0 h1 (by omega)
        have hs : (ByteArray.mk b.toArray).size = b.length := by show b.toArray.size = _; simp
        simp only [Instr.sliceAt, Sem.run_bind, run_underlying hu w, Result.andThen_ok, Instr.slice, Option.isSome_none, Bool.false_eq_true, if_false, Sem.run_pure, hs, this]
        congr 2
        apply ByteArray.ext
        apply Array.ext'
        simp [List.drop_take]
      · simp [Res.wp] at h
    · rename_i e hkd
      have hu := und_slice hkd
      split at h
      · rename_i l r hb
        simp only [Res.wp] at h
        obtain ⟨⟨rfl, rfl, hz⟩, h⟩ := h
        obtain ⟨g1, g2⟩ := boundsOf_sound hR hb
        cases hx
        refine good_val hR hd (v := .slice none 0 0) ?_ (.nilS _) h
        have hb' := run_sliceBounds (P := P) (w := w) true 0 0 _ _ 0 0 g1 g2 (by omega) (by omega) (by simp)
        have := run_slice_at hu (tyOf_known rfl hz) none 0 0 _ _ 0 0 hb'
        simpa using this
      · simp [Res.wp] at h
    · rename_i e sz xs hkd
      have hu := und_slice hkd
      split at h
      · rename_i l r hb
        simp only [Res.wp] at h
        obtain ⟨⟨h0, h1, h2, h3, hz⟩, h⟩ := h
        obtain ⟨g1, g2⟩ := boundsOf_sound hR hb
        rw [h3] at hz
        cases hx with
        | listNil _ ad c =>
          simp only [List.length_nil] at h2 g2
          have hl0 : l = 0 := by omega
          have hr0 : r = 0 := by omega
          subst hl0; subst hr0
          have hb' := run_sliceBounds (P := P) (w := w) true 0 c _ _ 0 0 g1 g2 (by omega) (by omega) (by omega)
          have := run_slice_at hu (tyOf_known rfl hz) ad 0 c _ _ 0 0 hb'
          exact good_val hR hd this (by simpa using Rep.listNil (H := H) L _ _ sz) h
        | list _ b off len cap _ c vs _ hH hlen hcap hs1 h1' hv hr =>
          subst hlen
          have hb' := run_sliceBounds (P := P) (w := w) true xs.length cap _ _ l r g1 g2 h0 h1 (by omega)
          have hrun := run_slice_at hu (tyOf_known rfl hz) (some ⟨b, off, none⟩) xs.length cap _ _ l r hb'
          rw [← h3] at hrun
          exact good_val hR hd hrun (rep_part hH rfl hcap hs1 h1' hv hr l.toNat r.toNat (by omega) (by omega)) h
      · simp [Res.wp] at h
    · rename_i e k' g' n hkd
      have hu := und_slice hkd
      split at h
      · rename_i g'' f sz xs hf
        split at h
        · rename_i hc
          obtain ⟨rfl, h3, hz⟩ := hc
          obtain ⟨sl, e1, e2, e3⟩ := hR.sto k' g' _ hf
          have hcap : xs.length ≤ sl.cap := by
            cases f
            · exact e3.2.2.1
            · exact e3.2.2.1
          rw [h3] at hz
          cases hx with
          | row _ _ _ _ _ hu' hs hx =>
            have hv := hx sl e1 e2
            subst hv
            split at h
            · rename_i hlo
              have hlo' : lo = none := by cases lo <;> simp_all
              subst hlo'
              split at h
              · rename_i l r hb
                simp only [Res.wp] at h
                obtain ⟨⟨h0, h1, h2⟩, h⟩ := h
                obtain ⟨g1, g2⟩ := boundsOf_sound (lo := none) hR (by simpa using hb)
                have hl0 : l = 0 := by
                  rcases g1 with ⟨_, g1⟩ | ⟨j, g1⟩
                  · exact g1
                  · simp at g1
                subst hl0
                have hb' := run_sliceBounds (P := P) (w := w) true n sl.cap _ _ 0 r g1 g2 (by omega) h0 (by omega)
                have hrun := run_slice_at hu (tyOf_known rfl hz) (sl.block.map fun b => ⟨b, 0, none⟩) n sl.cap _ _ 0 r hb'
                have hval : (if sl.cap = (0 : Int).toNat then (sl.block.map fun b => (⟨b, 0, none⟩ : Addr)) else (sl.block.map fun b => (⟨b, 0, none⟩ : Addr)).map (·.add ((0 : Int).toNat * (tyOf P e).size))) = sl.block.map fun b => (⟨b, 0, none⟩ : Addr) := by
                  split
                  · rfl
                  · cases sl.block <;> simp [Addr.add]
                rw [hval] at hrun
                refine good_val hR hd hrun (.row _ _ _ _ _ hu' ⟨_, _, rfl⟩ fun sl' h1' h2' => ?_) h
                rw [e1] at h1'
                cases h1'
                simp
              · simp [Res.wp] at h
            · rename_i lo' hlo
              split at h
              · rename_i l r hb
                simp only [Res.wp] at h
                obtain ⟨⟨_, h0, h1, h2, h4, h5⟩, h⟩ := h
                obtain ⟨g1, g2⟩ := boundsOf_sound hR hb
                have hb' := run_sliceBounds (P := P) (w := w) true n sl.cap _ _ l r g1 g2 h0 h1 (by omega)
                have hrun := run_slice_at hu (tyOf_known rfl hz) (sl.block.map fun b => ⟨b, 0, none⟩) n sl.cap _ _ l r hb'
                rw [← h3] at hrun
                obtain ⟨H', hR', hG, sl', e1', e2', e3'⟩ := hR.freeze h5 hf
                rw [e1] at e1'
                cases e1'
                have hp := rep_frozen (L := L) (n := n) e3' l.toNat r.toNat (by omega) (by omega) h4
                refine ⟨_, w, H', L, _, hrun, (hR'.put (dst := dst) hd hp).less (fun _ h => h.1), ?_⟩
                cases dst <;> exact h
              · simp [Res.wp] at h
        · simp [Res.wp] at h
      · simp [Res.wp] at h
    · simp [Res.wp] at h

end
end Go.Proofs.YtlgjbmgmoaphjaaDoor
