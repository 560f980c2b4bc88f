/- Each operation does in a frame and a world what it does in a state without memory: the least and the greatest, literals, new variables, stores. -/
import Derived.Test.YtlgjbmgmoaphjaaDoorAw10
namespace Go.Proofs.YtlgjbmgmoaphjaaDoor
set_option linter.unusedSimpArgs false
set_option linter.unusedVariables false
open Go

section
variable {P : Program} {B : Base} {F : Nat → Prop} {H : Imm} {L : Lay} {s : St} {a : Act} {w : World} {q : Bool} {dst : Option Nat} {k g : Nat} {K : St → Prop}

/-! ### The least and the greatest -/
theorem min2_run {u v : Value} {x y z : PV} (hu : Rep H L u x) (hv : Rep H L v y) (h : minRes x y = .val z) : ∃ r, (Builtin.min2 u v).run P w = .ok r w ∧ Rep H L r z := by
  unfold minRes at h
  split at h
  · cases hu; cases hv
    simp only [Res.val.injEq] at h
    subst h
    exact ⟨_, by simp [Builtin.min2], .int _ _ _⟩
  · cases h

theorem max2_run {u v : Value} {x y z : PV} (hu : Rep H L u x) (hv : Rep H L v y) (h : maxRes x y = .val z) : ∃ r, (Builtin.max2 u v).run P w = .ok r w ∧ Rep H L r z := by
  unfold maxRes at h
  split at h
  · cases hu; cases hv
    simp only [Res.val.injEq] at h
    subst h
    exact ⟨_, by simp [Builtin.max2], .int _ _ _⟩
  · cases h

theorem minRes_val (x y : PV) : (∃ z, minRes x y = .val z) ∨ minRes x y = .bad := by
  unfold minRes
  split
  · exact .inl ⟨_, rfl⟩
  · exact .inr rfl

theorem maxRes_val (x y : PV) : (∃ z, maxRes x y = .val z) ∨ maxRes x y = .bad := by
  unfold maxRes
  split
  · exact .inl ⟨_, rfl⟩
  · exact .inr rfl

theorem fold_sound (hR : Rel B F H L s a w) (hd : ∀ d, dst = some d → d < a.tmps.size) (f : PV → PV → Res) (f2 : Value → Value → Sem Value) (hval : ∀ x y, (∃ z, f x y = .val z) ∨ f x y = .bad)
    (hf : ∀ (u v : Value) (x y z : PV), Rep H L u x → Rep H L v y → f x y = .val z → ∃ r, (f2 u v).run P w = .ok r w ∧ Rep H L r z)
    (xs : List Operand) (h : (foldRes f (xs.map s.ev)).wp P q s dst k g K) (sem : Sem Value) (hsem : ∀ u rest, xs.map a.eval = u :: rest → sem = rest.foldlM f2 u) : Good P B F a dst g K sem w := by
  match xs, h, hsem with
  | [], h, _ => simp [foldRes, Res.wp] at h
  | [x], h, _ => simp [foldRes, Res.wp] at h
  | [x, y], h, hsem =>
    simp only [List.map_cons, List.map_nil, foldRes] at h
    rcases hval (s.ev x) (s.ev y) with ⟨z, hz⟩ | hb
    · rw [hz] at h
      obtain ⟨r, h1, h2⟩ := hf _ _ _ _ z (hR.eval x) (hR.eval y) hz
      exact good_val hR hd (by rw [hsem _ _ rfl]; simp [List.foldlM_cons, h1]) h2 h
    · rw [hb] at h; exact h.elim
  | [x, y, t], h, hsem =>
    simp only [List.map_cons, List.map_nil, foldRes] at h
    rcases hval (s.ev x) (s.ev y) with ⟨z, hz⟩ | hb
    · rw [hz] at h
      simp only at h
      obtain ⟨r, h1, h2⟩ := hf _ _ _ _ z (hR.eval x) (hR.eval y) hz
      rcases hval z (s.ev t) with ⟨z', hz'⟩ | hb
      · rw [hz'] at h
        obtain ⟨r', h1', h2'⟩ := hf _ _ _ _ z' h2 (hR.eval t) hz'
        exact good_val hR hd (by rw [hsem _ _ rfl]; simp [List.foldlM_cons, h1, h1']) h2' h
      · rw [hb] at h; exact h.elim
    · rw [hb] at h; exact h.elim
  | _ :: _ :: _ :: _ :: _, h, _ => simp [foldRes, Res.wp] at h

/-! ### Cells put in the place of cells -/
theorem foldl_set (off : Nat) : ∀ (vs : List Value) (j : Nat) (cs : Array Value), off + j + vs.length ≤ cs.size →
    ((vs.zipIdx j).foldl (fun (cs : Array Value) (x : Value × Nat) => cs.setIfInBounds (off + x.2) x.1) cs).toList = cs.toList.take (off + j) ++ vs ++ cs.toList.drop (off + j + vs.length)
  | [], j, cs, _ => by simp
  | v :: vs, j, cs, h => by
    simp only [List.length_cons] at h
    rw [List.zipIdx_cons, List.foldl_cons, foldl_set off vs (j + 1) _ (by simp; omega)]
    simp only [Array.toList_setIfInBounds, List.length_cons]
    have hlt : off + j < cs.toList.length := by simp; omega
    rw [show off + (j + 1) = off + j + 1 by omega, List.take_set, List.take_succ_eq_append_getElem hlt, List.set_append_right _ _ (by simp; omega), List.drop_set_of_lt (by omega)]
    simp only [List.length_take, Nat.min_eq_left (Nat.le_of_lt hlt), Nat.sub_self, List.set_cons_zero]
    simp only [List.append_assoc, List.singleton_append]
    congr 3
    omega

theorem setCells_length (cs : List PV) (off : Nat) (vs : List PV) (h : off + vs.length ≤ cs.length) : (setCells cs off vs).length = cs.length := by
  simp [setCells]; omega

theorem repl_setCells {vs us : List Value} {cs ds : List PV} (h : RepL H L vs cs) (h' : RepL H L us ds) (off : Nat) : RepL H L (vs.take off ++ us ++ vs.drop (off + us.length)) (setCells cs off ds) := by
  unfold setCells
  rw [h'.length]
  exact ((h.take off).append h').append (h.drop _)

theorem fill_sound (place : Nat → Option (Nat × Nat)) : ∀ (ps : List (Nat × Value)) (qs : List (Nat × PV)) (cells : Array Value) (cs out : List PV),
    RepL H L cells.toList cs → ps.map (·.1) = qs.map (·.1) → (∀ (i : Nat) (x : Nat × Value) (y : Nat × PV), ps[i]? = some x → qs[i]? = some y → Rep H L x.2 y.2) → fillP place cs qs = some out →
    ∃ r : Array Value, Instr.fill place cells ps = some r ∧ RepL H L r.toList out
  | [], qs, cells, cs, out, hc, hm, _, h => by
    cases qs with
    | nil => simp only [fillP, Option.some.injEq] at h; subst h; exact ⟨cells, rfl, hc⟩
    | cons _ _ => simp at hm
  | (i, v) :: ps, qs, cells, cs, out, hc, hm, hv, h => by
    cases qs with
    | nil => simp at hm
    | cons y qs =>
      obtain ⟨i', p⟩ := y
      simp only [List.map_cons, List.cons.injEq] at hm
      obtain ⟨rfl, hm⟩ := hm
      simp only [fillP] at h
      cases hp : place i with
      | none => simp [hp] at h
      | some os =>
        obtain ⟨off, size⟩ := os
        simp only [hp] at h
        split at h
        · rename_i hcond
          obtain ⟨c1, c2, c3⟩ := hcond
          have h0 := (hv 0 (i, v) (i, p) rfl rfl).cells c1
          have hl0 := h0.length
          have hlc := hc.length
          simp only [Array.length_toList] at hl0 hlc
          have hnot : ¬ ((v.cells.size ≠ size || off + v.cells.size > cells.size) = true) := by simp; omega
          simp only [Instr.fill, hp, hnot]
          refine fill_sound place ps qs _ _ out ?_ hm (fun j x y hx hy => hv (j + 1) x y (by simpa using hx) (by simpa using hy)) h
          have he : (v.cells.zipIdx.foldl (fun (cs : Array Value) (x : Value × Nat) => cs.setIfInBounds (off + x.2) x.1) cells).toList = cells.toList.take off ++ v.cells.toList ++ cells.toList.drop (off + v.cells.toList.length) := by
            rw [← Array.foldl_toList, Array.toList_zipIdx]
            simpa using foldl_set off v.cells.toList 0 cells (by simp; omega)
          have := repl_setCells hc h0 off
          rw [← he] at this
          exact this
        · simp at h

theorem places_of : ∀ (fs : List Field), (fs.all fun f => (tyOf P f.type).size != 0) = true →
    fs.mapM (fun f => (P.info? f.type).map fun i => (f.offset, i.size)) = some (fs.map fun f => (f.offset, (tyOf P f.type).size))
  | [], _ => rfl
  | f :: fs, h => by
    simp only [List.all_cons, Bool.and_eq_true, bne_iff_ne] at h
    obtain ⟨i, d, h1, h2, h3⟩ := tyOf_facts (tyOf_known rfl h.1)
    have hs : (tyOf P f.type).size = i.size := by rw [h3]
    simp [List.mapM_cons, h1, places_of fs h.2, hs]

theorem listC_set : ∀ {z : List PV} {vs : List Value} (off sz : Nat), RepL H L vs z → z[off]? = some .nilS → RepL H L vs (z.set off (.list sz []))
  | [], vs, off, sz, h, hz => by simp at hz
  | p :: ps, vs, 0, sz, h, hz => by
    simp only [List.getElem?_cons_zero, Option.some.injEq] at hz
    subst hz
    cases h with
    | cons _ v _ vs _ hv ht =>
      cases hv
      exact .cons _ _ _ _ _ (.listNil _ _ _ _) ht
  | p :: ps, vs, off + 1, sz, h, hz => by
    simp only [List.getElem?_cons_succ] at hz
    cases h with
    | cons _ v _ vs _ hv ht => exact .cons _ _ _ _ _ hv (listC_set off sz ht hz)
theorem listC_rep {vs : List Value} {z : List PV} (off sz : Nat) (h : RepL H L vs z) : RepL H L vs (listC z off sz) := by
  unfold listC
  split
  · rename_i hz
    exact listC_set off sz h hz
  · exact h
theorem listZ_rep (P : Program) {vs : List Value} : ∀ (fs : List (Nat × Nat)) {z : List PV}, RepL H L vs z → RepL H L vs (listZ P fs z)
  | [], z, h => h
  | (ft, off) :: fs, z, h => by
    unfold listZ
    refine listZ_rep P fs ?_
    split
    · exact listC_rep _ _ h
    · exact h
theorem zeroZ_rep (P : Program) (b : Bool) (fs : List (Nat × Nat)) {vs : List Value} {z : List PV} (h : RepL H L vs z) : RepL H L vs (zeroZ P b fs z) := by
  unfold zeroZ
  split
  · exact listZ_rep P fs h
  · exact h

theorem build_sound (hR : Rel B F H L s a w) (hd : ∀ d, dst = some d → d < a.tmps.size) (t : Nat) (parts : Array (Nat × Operand))
    (b : Bool) (h : (buildRes P b t (parts.toList.map fun p => (p.1, s.ev p.2))).wp P q s dst k g K) : Good P B F a dst g K (Instr.build t (parts.map fun (i, x) => (i, a.eval x))) w := by
  unfold buildRes at h
  simp only at h
  split at h
  · rename_i fs z hkd hz
    simp only [Res.wp] at h
    obtain ⟨hall, h⟩ := h
    split at h
    · rename_i cs hcs
      simp only [Res.wp] at h
      obtain ⟨it, d, e1, e2, e3, e4, e5, e6, e7, e8⟩ := tyOf_und hkd (by simp)
      obtain ⟨xs, rfl, hfs⟩ := kdOf_struct e3
      rw [e7] at hz
      cases hzz : it.zero with
      | none => simp [hzz] at hz
      | some zv =>
        simp only [hzz, Option.map_some, Option.some.injEq] at hz
        have hmapM := places_of (P := P) xs.toList (by rw [hfs] at hall; simpa [List.all_map] using hall)
        have hzero : RepL H L zv.cells.toList z := by rw [← hz]; exact RepL.map_ofCell _
        have hplace : (fun i => (xs.toList.map fun f => (f.offset, (tyOf P f.type).size)).toArray[i]?) = fun (i : Nat) => (fs[i]?).map fun (f : Nat × Nat) => (f.2, (tyOf P f.1).size) := by
          funext i
          rw [hfs]
          simp [List.getElem?_map]
          cases xs[i]? <;> rfl
        obtain ⟨r, hr1, hr2⟩ := fill_sound (H := H) (L := L) (fun i => (fs[i]?).map fun f => (f.2, (tyOf P f.1).size)) (parts.map fun x => (x.1, a.eval x.2)).toList (parts.toList.map fun p => (p.1, s.ev p.2)) zv.cells (zeroZ P b fs z) cs (zeroZ_rep P b fs hzero)
          (by simp) (fun i x y hx hy => by
            simp only [Array.toList_map, List.getElem?_map] at hx hy
            cases hp : parts.toList[i]? with
            | none => simp [hp] at hx
            | some pr =>
              simp only [hp, Option.map_some, Option.some.injEq] at hx hy
              subst hx; subst hy
              exact hR.eval _) hcs
        have hbuilt : P.built t (parts.map fun x => (x.1, a.eval x.2)).toList = some r := by
          simp only [Program.built, e1, e2, hzz, hmapM, hplace, hr1]
        refine good_val hR hd (v := .agg r) (run_build w t _ r hbuilt) ?_ h
        simpa using Rep.agg (H := H) L r.toList _ hr2
    · simp [Res.wp] at h
  · simp [Res.wp] at h

/-! ### What is laid anew -/
theorem fresh_none (hA : Agree H w) : H w.heap.size = none := by
  cases hc : H w.heap.size with
  | none => rfl
  | some c =>
    obtain ⟨t, fr, ht⟩ := hA _ _ hc
    have := (Array.getElem?_eq_some_iff.1 ht).1
    omega

theorem push_get (w : World) (o : Obj) : (w.alloc o).heap[w.heap.size]? = some o := by
  show (w.heap.push o)[w.heap.size]? = _; simp

theorem push_size (w : World) (o : Obj) : (w.alloc o).heap.size = w.heap.size + 1 := by
  show (w.heap.push o).size = _; simp

/-- A new block behind a key. -/
theorem good_new (hR : Rel B F H L s a w) (hF : F g) (hd : ∀ d, dst = some d → d < a.tmps.size) {sem : Sem Value} {v : Value} {o : Obj} {e : Ent} {p : PV} {w1 : World} {cap sz : Nat}
    (hq : Quiet w w1) (hw1 : w1.heap.size = w.heap.size) (hr : sem.run P w = .ok v (w1.alloc o))
    (he : ∀ L', LayLe L L' → L'.used g → (∀ s', L'.at_ k = some s' → s' = ⟨g, some w.heap.size, cap, sz⟩) → EntRep H L' (w1.alloc o) ⟨g, some w.heap.size, cap, sz⟩ e ∧ Rep H L' v p)
    (hK : K ((s.put dst p).set k g e)) : Good P B F a dst g K sem w := by
  have hq2 : Quiet w (w1.alloc o) := hq.trans (Quiet.alloc w1 o)
  let sl : Slot := ⟨g, some w.heap.size, cap, sz⟩
  let L' : Lay := ⟨fun x => L.used x ∨ x = sl.gen, fun j => if j = k then some sl else L.at_ j⟩
  have hL : LayLe L L' := by
    refine ⟨fun g hg => .inl hg, fun j x hx hu => ?_⟩
    by_cases hj : j = k
    · simp only [L', hj, if_true, Option.some.injEq] at hx
      subst hx
      exact (hR.free _ hF hu).elim
    · simpa [L', hj] using hx
  obtain ⟨he1, he2⟩ := he L' hL (.inr rfl) (fun s' hs' => by simpa [L'] using hs'.symm)
  have hset := hR.setNew (sl := sl) (e := e) (H' := H) (w' := w1.alloc o) hF (.refl _) (hR.agree.quiet hq2) (fun b c hc => .inl hc) hq2.size (fun b hb _ => hq2.old b hb (by simp)) hq2.out hq2.os hq2.tape
    (fun b hb => by
      simp only [sl, Option.some.injEq] at hb
      subst hb
      exact ⟨by rw [push_size]; omega, .inl ⟨hR.ext.size, fun j x hx hxb => by have := hR.low j x _ hx hxb; omega⟩⟩) he1
  refine ⟨v, _, H, _, _, hr, hset.put (dst := dst) hd he2, ?_⟩
  cases dst <;> exact hK

theorem alloc_sound (hR : Rel B F H L s a w) (hF : F g) (hk : k < 1000) (hd : ∀ d, dst = some d → d < a.tmps.size) (t : Nat)
    (h : ((match (tyOf P t).zero with | some z => .eff (.box k g 0) k g (.var t z) | none => .bad : Res)).wp P q s dst k g K) : Good P B F a dst g K (Instr.alloc t true (.tuple #[])) w := by
  split at h
  · rename_i z hz
    simp only [Res.wp] at h
    have hkd : (tyOf P t).kd ≠ .none := by
      intro hn
      unfold tyOf at hz hn
      split at hz
      · rename_i i d h1 h2
        simp only [h1, h2] at hn
        cases d <;> simp [kdOf] at hn
      · simp at hz
    obtain ⟨i, d, h1, h2, h3⟩ := tyOf_facts hkd
    rw [h3] at hz
    cases hzz : i.zero with
    | none => simp [hzz] at hz
    | some zv =>
      simp only [hzz, Option.map_some, Option.some.injEq] at hz
      refine good_new hR hF hd (cap := 0) (sz := 0) (w1 := w) (o := .cells zv.cells t) (v := .pointer (some ⟨w.heap.size, 0, none⟩)) (.refl w) rfl ?_ (fun L' hL hu hat => ⟨?_, ?_⟩) h
      · simp [Instr.alloc, zeroValue, typeInfo, h1, hzz, newVar, newRow]
      · exact ⟨w.heap.size, zv.cells.toList, t, rfl, fresh_none hR.agree, by simpa using push_get w _, by rw [← hz]; exact RepL.map_ofCell _⟩
      · refine .box _ _ _ _ _ hu ⟨_, rfl⟩ fun s' b hs' _ hb => ?_
        rw [hat s' hs'] at hb
        simp only [Option.some.injEq] at hb
        subst hb; rfl
  · simp [Res.wp] at h

theorem box_sound (hR : Rel B F H L s a w) (hF : F g) (hk : k < 1000) (hd : ∀ d, dst = some d → d < a.tmps.size) (t : Nat) (x : Operand)
    (h : (Res.need ((s.ev x).lies = true) (.eff (.box k g 0) k g (.var t (s.ev x).cells))).wp P q s dst k g K) : Good P B F a dst g K (Instr.box t (a.eval x)) w := by
  simp only [Res.wp] at h
  obtain ⟨h1, h⟩ := h
  refine good_new hR hF hd (cap := 0) (sz := 0) (w1 := w) (o := .cells (a.eval x).cells t) (v := .pointer (some ⟨w.heap.size, 0, none⟩)) (.refl w) rfl ?_ (fun L' hL hu hat => ⟨?_, ?_⟩) h
  · simp [Instr.box, newVar, newRow]
  · exact ⟨w.heap.size, (a.eval x).cells.toList, t, rfl, fresh_none hR.agree, by simpa using push_get w _, ((hR.eval x).cells h1).mono (.refl _) hL⟩
  · refine .box _ _ _ _ _ hu ⟨_, rfl⟩ fun s' b hs' _ hb => ?_
    rw [hat s' hs'] at hb
    simp only [Option.some.injEq] at hb
    subst hb; rfl

theorem range_sound (hR : Rel B F H L s a w) (hF : F g) (hk : k < 1000) (hd : ∀ d, dst = some d → d < a.tmps.size) (t : Nat) (x : Operand)
    (h : ((match (tyOf P t).kd, s.ev x with | .str, .str b => .eff (.box k g 0) k g (.iter b 0) | _, _ => .bad : Res)).wp P q s dst k g K) : Good P B F a dst g K (Instr.range t (a.eval x)) w := by
  have hx := hR.eval x
  generalize s.ev x = p at h hx
  generalize a.eval x = v at hx
  split at h
  · rename_i b hkd
    simp only [Res.wp] at h
    cases hx
    refine good_new hR hF hd (cap := 0) (sz := 0) (w1 := w) (o := .stringIter ⟨b.toArray⟩ 0) (v := .pointer (some ⟨w.heap.size, 0, none⟩)) (.refl w) rfl ?_ (fun L' hL hu hat => ⟨?_, ?_⟩) h
    · simp [Instr.range, run_underlying (und_str hkd)]
    · exact ⟨w.heap.size, rfl, fresh_none hR.agree, push_get w _⟩
    · refine .box _ _ _ _ _ hu ⟨_, rfl⟩ fun s' b hs' _ hb => ?_
      rw [hat s' hs'] at hb
      simp only [Option.some.injEq] at hb
      subst hb; rfl
  · simp [Res.wp] at h

end
end Go.Proofs.YtlgjbmgmoaphjaaDoor
