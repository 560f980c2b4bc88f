/- Laws on what values read as. -/
import Derived.Test.YtlgjbmgmoaphjaaDoorAw3
namespace Go.Proofs.YtlgjbmgmoaphjaaDoor
set_option linter.unusedSimpArgs false
set_option linter.unusedVariables false
open Go

/-- What is known in 'L' is so in 'L''. -/
structure LayLe (L L' : Lay) : Prop where
  used : ∀ g, L.used g → L'.used g
  at_ : ∀ k s, L'.at_ k = some s → L.used s.gen → L.at_ k = some s

theorem LayLe.refl (L : Lay) : LayLe L L := ⟨fun _ h => h, fun _ _ h _ => h⟩
theorem LayLe.none (L : Lay) : LayLe Lay.none L := ⟨fun _ h => h.elim, fun _ _ _ h => h.elim⟩
theorem LayLe.trans {L L' L'' : Lay} (h : LayLe L L') (h' : LayLe L' L'') : LayLe L L'' :=
  ⟨fun g hg => h'.used g (h.used g hg), fun k s hs hu => h.at_ k s (h'.at_ k s hs (h.used _ hu)) hu⟩
theorem Grow.refl (H : Imm) : Grow H H := fun _ _ h => h
theorem Grow.trans {H H' H'' : Imm} (h : Grow H H') (h' : Grow H' H'') : Grow H H'' := fun b c hb => h' b c (h b c hb)

mutual
theorem Rep.mono {H H' : Imm} {L L' : Lay} {v : Value} {p : PV} (hH : Grow H H') (hL : LayLe L L') : Rep H L v p → Rep H' L' v p
  | .undef _ v => .undef _ v
  | .bool _ b => .bool _ b
  | .int _ k n => .int _ k n
  | .str _ s => .str _ s
  | .nilS _ => .nilS _
  | .listNil _ a c sz => .listNil _ a c sz
  | .list _ b off len cap sz c vs xs h hlen hcap hsz h1 hv hr => .list _ b off len cap sz c vs xs (hH _ _ h) hlen hcap hsz h1 hv (RepL.mono hH (.refl _) hr)
  | .row _ v k g n hu hs h => .row _ v k g n (hL.used _ hu) hs (fun s hs' hg => h s (hL.at_ k s hs' (hg ▸ hu)) hg)
  | .agg _ vs ps h => .agg _ vs ps (RepL.mono hH hL h)
  | .tup _ vs ps h => .tup _ vs ps (RepL.mono hH hL h)
  | .ref _ b off c vs ps h hv hr => .ref _ b off c vs ps (hH _ _ h) hv (RepL.mono hH (.refl _) hr)
  | .box _ v k g off hu hs h => .box _ v k g off (hL.used _ hu) hs (fun s b hs' hg => h s b (hL.at_ k s hs' (hg ▸ hu)) hg)
  | .elt _ v k g i off hu hs h => .elt _ v k g i off (hL.used _ hu) hs (fun s b hs' hg => h s b (hL.at_ k s hs' (hg ▸ hu)) hg)
  | .fn _ f vs ps h => .fn _ f vs ps (RepL.mono hH hL h)
  | .nilF _ => .nilF _
  | .nilP _ => .nilP _
  | .nilI _ => .nilI _
  | .iface _ t v p h => .iface _ t v p (Rep.mono hH hL h)
  | .selfP _ v k g hu hs h => .selfP _ v k g (hL.used _ hu) hs (h.imp id fun h s b hs' hg => h s b (hL.at_ k s hs' (hg ▸ hu)) hg)
theorem RepL.mono {H H' : Imm} {L L' : Lay} {vs : List Value} {ps : List PV} (hH : Grow H H') (hL : LayLe L L') : RepL H L vs ps → RepL H' L' vs ps
  | .nil _ => .nil _
  | .cons _ v p vs ps h t => .cons _ v p vs ps (Rep.mono hH hL h) (RepL.mono hH hL t)
end

mutual
theorem Rep.pure {H : Imm} {L L' : Lay} {v : Value} {p : PV} (hp : p.pure = true) : Rep H L v p → Rep H L' v p
  | .undef _ v => .undef _ v
  | .bool _ b => .bool _ b
  | .int _ k n => .int _ k n
  | .str _ s => .str _ s
  | .nilS _ => .nilS _
  | .listNil _ a c sz => .listNil _ a c sz
  | .list _ b off len cap sz c vs xs h hlen hcap hsz h1 hv hr => .list _ b off len cap sz c vs xs h hlen hcap hsz h1 hv hr
  | .row _ v k g n hu hs h => by simp [PV.pure] at hp
  | .agg _ vs ps h => .agg _ vs ps (RepL.pure (by simpa [PV.pure] using hp) h)
  | .tup _ vs ps h => .tup _ vs ps (RepL.pure (by simpa [PV.pure] using hp) h)
  | .ref _ b off c vs ps h hv hr => .ref _ b off c vs ps h hv hr
  | .box _ v k g off hu hs h => by simp [PV.pure] at hp
  | .elt _ v k g i off hu hs h => by simp [PV.pure] at hp
  | .fn _ f vs ps h => .fn _ f vs ps (RepL.pure (by simpa [PV.pure] using hp) h)
  | .nilF _ => .nilF _
  | .nilP _ => .nilP _
  | .nilI _ => .nilI _
  | .iface _ t v p h => .iface _ t v p (Rep.pure (by simpa [PV.pure] using hp) h)
  | .selfP _ v k g hu hs h => by simp [PV.pure] at hp
theorem RepL.pure {H : Imm} {L L' : Lay} {vs : List Value} {ps : List PV} (hp : pureL ps = true) : RepL H L vs ps → RepL H L' vs ps
  | .nil _ => .nil _
  | .cons _ v p vs ps h t => by
    simp only [pureL, Bool.and_eq_true] at hp
    exact .cons _ v p vs ps (Rep.pure hp.1 h) (RepL.pure hp.2 t)
end

/-! ### Rows of values -/
theorem RepL.length {H : Imm} {L : Lay} {vs : List Value} {ps : List PV} (h : RepL H L vs ps) : vs.length = ps.length := by
  induction ps generalizing vs with
  | nil => cases h; rfl
  | cons p ps ih => cases h with | cons _ v _ vs _ h t => simp [ih t]

theorem RepL.get {H : Imm} {L : Lay} {vs : List Value} {ps : List PV} (h : RepL H L vs ps) (i : Nat) (hi : i < ps.length) : ∃ v, vs[i]? = some v ∧ Rep H L v (ps.getD i .undef) := by
  induction ps generalizing vs i with
  | nil => simp at hi
  | cons p ps ih =>
    cases h with
    | cons _ v _ vs _ h t =>
      cases i with
      | zero => exact ⟨v, rfl, by simpa using h⟩
      | succ i => simpa using ih t i (by simpa using hi)

theorem RepL.append {H : Imm} {L : Lay} {vs vs' : List Value} {ps ps' : List PV} (h : RepL H L vs ps) (h' : RepL H L vs' ps') : RepL H L (vs ++ vs') (ps ++ ps') := by
  induction ps generalizing vs with
  | nil => cases h; exact h'
  | cons p ps ih => cases h with | cons _ v _ vs _ h t => exact .cons _ _ _ _ _ h (ih t)

theorem RepL.take {H : Imm} {L : Lay} {vs : List Value} {ps : List PV} (h : RepL H L vs ps) (n : Nat) : RepL H L (vs.take n) (ps.take n) := by
  induction ps generalizing vs n with
  | nil => cases h; simpa using RepL.nil _
  | cons p ps ih =>
    cases h with
    | cons _ v _ vs _ h t =>
      cases n with
      | zero => exact .nil _
      | succ n => simpa using RepL.cons _ _ _ _ _ h (ih t n)

theorem RepL.drop {H : Imm} {L : Lay} {vs : List Value} {ps : List PV} (h : RepL H L vs ps) (n : Nat) : RepL H L (vs.drop n) (ps.drop n) := by
  induction ps generalizing vs n with
  | nil => cases h; simpa using RepL.nil _
  | cons p ps ih =>
    cases h with
    | cons _ v _ vs _ h t =>
      cases n with
      | zero => exact .cons _ _ _ _ _ h t
      | succ n => simpa using ih t n

theorem RepL.of_get {H : Imm} {L : Lay} {vs : List Value} {ps : List PV} (hl : vs.length = ps.length) (h : ∀ i v, vs[i]? = some v → Rep H L v (ps.getD i .undef)) : RepL H L vs ps := by
  induction ps generalizing vs with
  | nil => cases vs with
    | nil => exact .nil _
    | cons v vs => simp at hl
  | cons p ps ih => cases vs with
    | nil => simp at hl
    | cons v vs =>
      refine .cons _ _ _ _ _ (by simpa using h 0 v rfl) (ih (by simpa using hl) fun i u hu => ?_)
      simpa using h (i + 1) u (by simpa using hu)

theorem RepL.map_ofCell {H : Imm} {L : Lay} (vs : List Value) : RepL H L vs (vs.map ofCell) := by
  induction vs with
  | nil => exact .nil _
  | cons v vs ih =>
    refine .cons _ _ _ _ _ ?_ ih
    unfold ofCell
    split <;> first
      | exact .bool _ _
      | exact .int _ _ _
      | exact .nilS _
      | exact .nilP _
      | exact .nilI _
      | exact .nilF _
      | exact .undef _ _
      | (rename_i s; have := Rep.str (H := H) L s.data.toList; simpa using this)

theorem Rep.ofConst {H : Imm} {L : Lay} (v : Value) : Rep H L v (ofConst v) := by
  unfold Go.Proofs.YtlgjbmgmoaphjaaDoor.ofConst
  split
  · rename_i cs
    simpa using Rep.agg (H := H) L cs.toList _ (RepL.map_ofCell cs.toList)
  · have := RepL.map_ofCell (H := H) (L := L) [v]
    cases this with
    | cons _ _ _ _ _ h _ => exact h

/-- Its cells read as its cells. -/
theorem Rep.cells {H : Imm} {L : Lay} {v : Value} {p : PV} (h : Rep H L v p) (hp : p.lies = true) : RepL H L v.cells.toList p.cells := by
  cases h
  case undef => simp [PV.lies, PV.leaf] at hp
  case tup => simp [PV.lies, PV.leaf] at hp
  case agg vs ps h => simpa [Value.cells, PV.cells] using h
  case row k g n hu hs h =>
    obtain ⟨a, c, rfl⟩ := hs
    exact .cons _ _ _ _ _ (.row _ _ _ _ _ hu ⟨_, _, rfl⟩ h) (.nil _)
  case box k g off hu hs h =>
    obtain ⟨a, rfl⟩ := hs
    exact .cons _ _ _ _ _ (.box _ _ _ _ _ hu ⟨_, rfl⟩ h) (.nil _)
  case elt k g i off hu hs h =>
    obtain ⟨a, rfl⟩ := hs
    exact .cons _ _ _ _ _ (.elt _ _ _ _ _ _ hu ⟨_, rfl⟩ h) (.nil _)
  case bool => exact .cons _ _ _ _ _ (.bool _ _) (.nil _)
  case int => exact .cons _ _ _ _ _ (.int _ _ _) (.nil _)
  case str => exact .cons _ _ _ _ _ (.str _ _) (.nil _)
  case nilS => exact .cons _ _ _ _ _ (.nilS _) (.nil _)
  case listNil => exact .cons _ _ _ _ _ (.listNil _ _ _ _) (.nil _)
  case list b off len cap sz c vs xs h hlen hcap hsz h1 hv hr => exact .cons _ _ _ _ _ (.list _ _ _ _ _ _ _ _ _ h hlen hcap hsz h1 hv hr) (.nil _)
  case ref b off c vs ps h hv hr => exact .cons _ _ _ _ _ (.ref _ _ _ _ _ _ h hv hr) (.nil _)
  case fn f vs ps h => exact .cons _ _ _ _ _ (.fn _ _ _ _ h) (.nil _)
  case nilF => exact .cons _ _ _ _ _ (.nilF _) (.nil _)
  case nilP => exact .cons _ _ _ _ _ (.nilP _) (.nil _)
  case nilI => exact .cons _ _ _ _ _ (.nilI _) (.nil _)
  case iface t v p h => exact .cons _ _ _ _ _ (.iface _ _ _ _ h) (.nil _)
  case selfP k g hu hs h =>
    obtain ⟨a, rfl⟩ := hs
    exact .cons _ _ _ _ _ (.selfP _ _ _ _ hu ⟨_, rfl⟩ h) (.nil _)

theorem Rep.one {H : Imm} {L : Lay} {v : Value} {p : PV} (h : Rep H L v p) (hp : p.leaf = true) : v.oneCell' = true := by
  cases h
  case undef => simp [PV.leaf] at hp
  case tup => simp [PV.leaf] at hp
  case agg => simp [PV.leaf] at hp
  case row k g n hu hs h =>
    obtain ⟨a, c, rfl⟩ := hs
    rfl
  case box k g off hu hs h =>
    obtain ⟨a, rfl⟩ := hs
    rfl
  case elt k g i off hu hs h =>
    obtain ⟨a, rfl⟩ := hs
    rfl
  case selfP k g hu hs h =>
    obtain ⟨a, rfl⟩ := hs
    rfl
  all_goals rfl

theorem RepL.one {H : Imm} {L : Lay} {vs : List Value} {ps : List PV} (h : RepL H L vs ps) (hp : ps.all PV.leaf = true) : ∀ v ∈ vs, v.oneCell' = true := by
  induction ps generalizing vs with
  | nil => cases h; simp
  | cons p ps ih =>
    cases h with
    | cons _ v _ vs _ h t =>
      simp only [List.all_cons, Bool.and_eq_true] at hp
      intro u hu
      rcases List.mem_cons.1 hu with rfl | hu
      · exact h.one hp.1
      · exact ih t hp.2 u hu

theorem PV.lies_cells {p : PV} (hp : p.lies = true) : p.cells.all PV.leaf = true := by
  cases p <;> first
    | exact hp
    | (simp only [PV.lies] at hp; simp [PV.cells, hp])

/-- Each of its cells is one cell's value. -/
theorem Rep.ones {H : Imm} {L : Lay} {v : Value} {p : PV} (h : Rep H L v p) (hp : p.lies = true) : ∀ u ∈ v.cells.toList, u.oneCell' = true :=
  (h.cells hp).one (PV.lies_cells hp)

theorem WkL.length {xs ys : List PV} (h : WkL xs ys) : xs.length = ys.length := by
  induction xs generalizing ys with
  | nil => cases h; rfl
  | cons x xs ih => cases h with | cons _ y _ ys _ t => simp [ih t]

theorem WkC.length {xs ys : List PV} (h : WkC xs ys) : xs.length = ys.length := by
  induction xs generalizing ys with
  | nil => cases h; rfl
  | cons x xs ih => cases h with | cons _ y _ ys _ t => simp [ih t]

theorem WkC.sizes {sz : Nat} {xs ys : List PV} (h : WkC xs ys) (hs : ∀ x ∈ xs, x.cells.length = sz) : ∀ y ∈ ys, y.cells.length = sz := by
  induction xs generalizing ys with
  | nil => cases h; simp
  | cons x xs ih =>
    cases h with
    | cons _ y _ ys hh t =>
      intro z hz
      rcases List.mem_cons.1 hz with rfl | hz
      · rw [← hh.length]; exact hs x (by simp)
      · exact ih t (fun x hx => hs x (by simp [hx])) z hz

theorem RepL.split {H : Imm} {L : Lay} {vs : List Value} {ps qs : List PV} (h : RepL H L vs (ps ++ qs)) : ∃ us ws, vs = us ++ ws ∧ RepL H L us ps ∧ RepL H L ws qs := by
  induction ps generalizing vs with
  | nil => exact ⟨[], vs, rfl, .nil _, h⟩
  | cons p ps ih =>
    cases h with
    | cons _ v _ vs _ h t =>
      obtain ⟨us, ws, rfl, h1, h2⟩ := ih t
      exact ⟨v :: us, ws, rfl, .cons _ _ _ _ _ h h1, h2⟩

mutual
theorem Rep.wk {H : Imm} {L : Lay} {v : Value} {p q : PV} (h : Rep H L v p) : Wk p q → Rep H L v q
  | .refl _ => h
  | .nil sz => by cases h; exact .listNil _ _ _ _
  | .list sz xs ys hw => by
    cases h with
    | listNil _ a c _ =>
      cases hw
      exact .listNil _ _ _ _
    | list _ b off len cap _ c vs _ hH hlen hcap hsz h1 hv hr =>
      exact .list _ _ _ _ _ _ c vs ys hH (by rw [← hw.length]; exact hlen) hcap (hw.sizes hsz) h1 hv (RepL.wkC hr hw)
  | .agg xs ys hw => by
    cases h with
    | agg _ vs _ h => exact .agg _ _ _ (RepL.wk h hw)
  | .tup xs ys hw => by
    cases h with
    | tup _ vs _ h => exact .tup _ _ _ (RepL.wk h hw)
theorem RepL.wk {H : Imm} {L : Lay} {vs : List Value} {ps qs : List PV} (h : RepL H L vs ps) : WkL ps qs → RepL H L vs qs
  | .nil => h
  | .cons x y xs ys hw t => by
    cases h with
    | cons _ v _ vs _ h ht => exact .cons _ _ _ _ _ (Rep.wk h hw) (RepL.wk ht t)
theorem RepL.wkC {H : Imm} {L : Lay} {vs : List Value} {ps qs : List PV} (h : RepL H L vs (ps.flatMap PV.cells)) : WkC ps qs → RepL H L vs (qs.flatMap PV.cells)
  | .nil => h
  | .cons x y xs ys hw t => by
    simp only [List.flatMap_cons] at h ⊢
    obtain ⟨us, ws, rfl, h1, h2⟩ := h.split
    exact (RepL.wk h1 hw).append (RepL.wkC h2 t)
end

end Go.Proofs.YtlgjbmgmoaphjaaDoor
