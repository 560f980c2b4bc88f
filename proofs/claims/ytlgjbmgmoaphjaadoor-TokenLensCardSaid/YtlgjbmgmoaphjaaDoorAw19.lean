/- Regions that draw their order: one walk of the text's order serves every order (2). -/
import Derived.Test.YtlgjbmgmoaphjaaDoorAw18
namespace Go.Proofs.YtlgjbmgmoaphjaaDoor
set_option linter.unusedSimpArgs false
set_option linter.unusedVariables false
open Go

section
variable {P : Program} {nm : Names}

abbrev Fnd := Nat → Option (Nat × Ent)

/-- More is found. -/
def FLe (f f' : Fnd) : Prop := ∀ k v, f k = some v → f' k = some v

theorem loadRes_le {f f' : Fnd} (hf : FLe f f') (t : Nat) (x : PV) {e : Eff} (h : (loadRes P f t x).does P (fun as => as) e) : (loadRes P f' t x).does P (fun as => as) e := by
  unfold loadRes at h ⊢
  split at h
  · exact h.elim
  · cases x <;> simp only at h ⊢ <;> try exact h
    case box k g off =>
      cases hk : f k with
      | none => simp [hk, Res.does] at h
      | some v => simp only [hk] at h; simp only [hf k v hk]; exact h
    case elt k g i off =>
      cases hk : f k with
      | none => simp [hk, Res.does] at h
      | some v => simp only [hk] at h; simp only [hf k v hk]; exact h

theorem indexRes_le {f f' : Fnd} (hf : FLe f f') (t : Nat) (x i : PV) {e : Eff} (h : (indexRes P f t x i).does P (fun as => as) e) : (indexRes P f' t x i).does P (fun as => as) e := by
  unfold indexRes at h ⊢
  split at h
  · exact h
  · rename_i el k g m kk n hkd
    cases hk : f k with
    | none => simp [hk, Res.does] at h
    | some v => simp only [hk] at h; simp only [hf k v hk]; exact h
  · exact h.elim

theorem nilCheckRes_le {f f' : Fnd} (hf : FLe f f') (x : PV) {e : Eff} (h : (nilCheckRes f x).does P (fun as => as) e) : (nilCheckRes f' x).does P (fun as => as) e := by
  unfold nilCheckRes at h ⊢
  split at h
  · rename_i k g off
    cases hk : f k with
    | none => simp [hk, Res.does] at h
    | some v => simp only [hk] at h; simp only [hf k v hk]; exact h
  · rename_i k g i off
    cases hk : f k with
    | none => simp [hk, Res.does] at h
    | some v => simp only [hk] at h; simp only [hf k v hk]; exact h
  · exact h
  · exact h.elim

theorem fieldAddrRes_le {f f' : Fnd} (hf : FLe f f') (t : Nat) (x : PV) (fi : Nat) {e : Eff} (h : (fieldAddrRes P f t x fi).does P (fun as => as) e) : (fieldAddrRes P f' t x fi).does P (fun as => as) e := by
  unfold fieldAddrRes at h ⊢
  split at h
  · split at h
    · obtain ⟨h0, h⟩ := h
      refine ⟨h0, ?_⟩
      cases x <;> simp only at h ⊢ <;> try exact h
      case box k g off =>
        cases hk : f k with
        | none => simp [hk, Res.does] at h
        | some v => simp only [hk] at h; simp only [hf k v hk]; exact h
      case elt k g i off =>
        cases hk : f k with
        | none => simp [hk, Res.does] at h
        | some v => simp only [hk] at h; simp only [hf k v hk]; exact h
    · exact h.elim
  · exact h.elim

theorem elems_le {f f' : Fnd} (hf : FLe f f') (byt : Bool) (size : Nat) (x : PV) : elems f byt size x = none ∨ elems f' byt size x = elems f byt size x := by
  unfold elems
  cases x <;> simp only <;> try exact .inr trivial
  case row k g n =>
    cases hk : f k with
    | none => exact .inl rfl
    | some v => simp only [hf k v hk]; exact .inr trivial
  all_goals exact .inr rfl

theorem convertRes_le {f f' : Fnd} (hf : FLe f f') (a b : Nat) (x : PV) {e : Eff} (h : (convertRes P f a b x).does P (fun as => as) e) : (convertRes P f' a b x).does P (fun as => as) e := by
  unfold convertRes at h ⊢
  split at h <;> try exact h
  rename_i x _ _ _ el hk1 hk2
  split at h
  · rcases elems_le hf false 1 x with h1 | h1
    · simp [h1, Res.does] at h
    · rw [h1]; exact h
  · rcases elems_le hf false 1 x with h1 | h1
    · simp [h1, Res.does] at h
    · rw [h1]; exact h
  · exact h.elim

theorem sliceRes_le {f f' : Fnd} (hf : FLe f f') (t : Nat) (x : PV) (lo hi mx : Option PV) {e : Eff} (h : (sliceRes P true f t x lo hi mx).does P (fun as => as) e) : (sliceRes P true f' t x lo hi mx).does P (fun as => as) e := by
  unfold sliceRes at h ⊢
  split at h
  · exact h
  · split at h <;> try exact h
    · rename_i el k g n hkd
      cases hk : f k with
      | none => simp [hk, Res.does] at h
      | some v => simp only [hk] at h; simp only [hf k v hk]; exact h

theorem opRes_le {s t : St} {k g : Nat} {op : Op} {e : Eff} (hc : clsOf op = .r) (he : ∀ x ∈ op.operands, s.ev x = t.ev x) (hf : FLe s.sto.find t.sto.find)
    (h : (opRes P true s k g op).does P (fun as => as) e) : (opRes P true t k g op).does P (fun as => as) e := by
  have h1 : (opRes P true { s with sto := t.sto } k g op).does P (fun as => as) e := by
    cases op <;> simp only [clsOf, reduceCtorEq] at hc <;> simp only [opRes] at h ⊢
    case load ty x => exact loadRes_le hf _ _ h
    case convert src dt x => exact convertRes_le hf _ _ _ h
    case slice ty x lo hi mx => exact sliceRes_le hf _ _ _ _ _ h
    case fieldAddr ty x f => exact fieldAddrRes_le hf _ _ _ h
    case nilCheck x => exact nilCheckRes_le hf _ h
    case indexAddr ty x i => exact indexRes_le hf _ _ _ h
    case call c => split at hc <;> cases hc
  rwa [opRes_congr (q := true) (s := { s with sto := t.sto }) (t := t) (fun x hx => he x hx) rfl] at h1

/-! ### Steps -/
/-- States that tell the same. -/
structure Same (s t : St) : Prop where
  env : ∀ i, s.env.get i = t.env.get i
  sto : s.sto.find = t.sto.find
  nx : s.nx = t.nx

theorem Same.refl (s : St) : Same s s := ⟨fun _ => rfl, rfl, rfl⟩
theorem Same.symm {s t : St} (h : Same s t) : Same t s := ⟨fun i => (h.env i).symm, h.sto.symm, h.nx.symm⟩
theorem Same.trans {s t u : St} (h : Same s t) (h' : Same t u) : Same s u := ⟨fun i => (h.env i).trans (h'.env i), h.sto.trans h'.sto, h.nx.trans h'.nx⟩

theorem lays_env : ∀ (l : List (Nat × Nat × Ent)) (s : St), (s.lays l).env = s.env ∧ (s.lays l).nx = s.nx
  | [], s => ⟨rfl, rfl⟩
  | (k, g, x) :: l, s => lays_env l _
/-- What is found behind what was laid. -/
def layF : List (Nat × Nat × Ent) → Nat → Option (Nat × Ent) → Option (Nat × Ent)
  | [], _, o => o
  | (k, g, x) :: l, j, o => layF l j (if j = k then some (g, x) else o)
theorem lays_find : ∀ (l : List (Nat × Nat × Ent)) (s : St) (j : Nat), (s.lays l).sto.find j = layF l j (s.sto.find j)
  | [], s, j => rfl
  | (k, g, x) :: l, s, j => by
    simp only [St.lays, layF]
    rw [lays_find l]
    congr 1
    by_cases hj : j = k
    · subst hj
      simp only [if_true]
      exact Sto.find_upd_same _ _ _ _
    · simp only [hj, if_false]
      exact Sto.find_upd_other _ _ _ _ _ hj
theorem layF_out : ∀ (l : List (Nat × Nat × Ent)) (j : Nat) (o : Option (Nat × Ent)), (∀ x ∈ l, x.1 ≠ j) → layF l j o = o
  | [], j, o, _ => rfl
  | (k, g, x) :: l, j, o, h => by
    have h1 : j ≠ k := fun e => h (k, g, x) (by simp) e.symm
    simp only [layF, h1, if_false]
    exact layF_out l j o fun y hy => h y (by simp [hy])
theorem layF_none : ∀ (l : List (Nat × Nat × Ent)) (j : Nat) (o : Option (Nat × Ent)), layF l j o = none → o = none
  | [], j, o, h => h
  | (k, g, x) :: l, j, o, h => by
    simp only [layF] at h
    have := layF_none l j _ h
    split at this
    · cases this
    · exact this

theorem app_get (s : St) (dst : Option Nat) (e : Eff) (i : Nat) : (s.app dst e).env.get i = if dst = some i then e.v else s.env.get i := by
  have h : ∀ s : St, (s.put dst e.v).env.get i = if dst = some i then e.v else s.env.get i := by
    intro s
    cases dst with
    | none => simp [St.put]
    | some d =>
      by_cases hd : i = d
      · subst hd; simp [St.put, Env.get]
      · simp [St.put, Env.get, hd, Ne.symm hd]
  unfold St.app
  rw [(lays_env _ _).1]
  exact h s

theorem app_find (s : St) (dst : Option Nat) (e : Eff) (j : Nat) : (s.app dst e).sto.find j = layF e.lay j (s.sto.find j) := by
  unfold St.app
  rw [lays_find]
  cases dst <;> rfl

theorem app_find_none (s : St) (dst : Option Nat) (e : Eff) (h : e.lay = []) : (s.app dst e).sto.find = s.sto.find := by
  funext j
  rw [app_find, h]
  rfl

theorem app_find_some (s : St) (dst : Option Nat) (e : Eff) {k g : Nat} {x : Ent} (h : e.lay = [(k, g, x)]) (j : Nat) : (s.app dst e).sto.find j = if j = k then some (g, x) else s.sto.find j := by
  rw [app_find, h]
  rfl

theorem app_nx (s : St) (dst : Option Nat) (e : Eff) : (s.app dst e).nx = s.nx := by
  unfold St.app
  rw [(lays_env _ _).2]
  cases dst <;> rfl

theorem app_same {s t : St} (h : Same s t) (dst : Option Nat) (e : Eff) : Same (s.app dst e) (t.app dst e) := by
  refine ⟨fun i => by rw [app_get, app_get, h.env i], ?_, by rw [app_nx, app_nx, h.nx]⟩
  funext j
  rw [app_find, app_find, h.sto]

theorem findAll_congr {m : Nat → Nat × Nat} {n : Nat} {a b : Sto} : ∀ (ks : List (Nat × Nat)) (es : List Ent), (∀ x ∈ ks, a.find x.1 = b.find x.1) → findAll m n a ks es → findAll m n b ks es
  | [], [], _, h => trivial
  | [], _ :: _, _, h => h.elim
  | (_, _) :: _, [], _, h => h.elim
  | (k, g) :: ks, e :: es, h, hf => by
    refine ⟨?_, hf.2.1, findAll_congr ks es (fun x hx => h x (by simp [hx])) hf.2.2⟩
    rw [← h (k, g) (by simp)]
    exact hf.1
theorem doesQ_congr {fp : Option (List Nat)} {a b : Sto} {k g : Nat} {r : Res} {e : Eff} (h : ∀ l, fp = some l → ∀ j ∈ l, a.find j = b.find j) (hd : doesQ P fp a k g r e) : doesQ P fp b k g r e := by
  cases fp with
  | none => exact hd
  | some l =>
    cases r with
    | call f args =>
      obtain ⟨ks, es, args', r, es', h1, h2, h3, h4, h5, h6, h7, h8⟩ := hd
      exact ⟨ks, es, args', r, es', h1, findAll_congr ks es (fun x hx => h l rfl _ (h1 x hx)) h2, h3, h4, h5, h6, h7, h8⟩
    | val v => exact hd
    | eff v k' g' x => exact hd
    | need p r => exact hd
    | ndet p b => exact hd
    | bad => exact hd

/-- What the run of an operation does. -/
def runDoes (P : Program) (nm : Names) (i : Nat) (o : Oper) (s : St) (e : Eff) : Prop :=
  (laysOp o.op = true → s.sto.find (keyOf nm o.dst) = none) ∧ fpOk2 o s (fpOf nm.fp o.dst) ∧ doesQ P (callF nm o.op o.dst) s.sto (keyOf nm o.dst) (s.nx + i) (shutq true (nfD nm o.dst) o.op (opRes P true s (keyOf nm o.dst) (s.nx + i) o.op)) e

def Step (P : Program) (nm : Names) (ops : List Oper) (i : Nat) (o : Oper) (s : St) (e : Eff) : Prop :=
  match o.guard with
  | none => runDoes P nm i o s e
  | some (j, want) => ∃ d g, guardSlot ops j = some d ∧ gate want (s.env.get d) = some g ∧ ((g = true ∧ runDoes P nm i o s e) ∨ (g = false ∧ e = ⟨.tup [], []⟩))

theorem opWp_step {ops : List Oper} {i : Nat} {o : Oper} {s : St} {K : St → Prop} (h : opWp P true nm ops i o s K) : ∃ e, Step P nm ops i o s e ∧ K (s.app o.dst e) := by
  have run : runWp P true nm i o s K → ∃ e, runDoes P nm i o s e ∧ K (s.app o.dst e) := by
    intro hr
    obtain ⟨e, h1, h2⟩ := wpQ_does _ hr.2.2
    exact ⟨e, ⟨fun hl => hr.1 rfl hl, hr.2.1, h1⟩, h2⟩
  unfold opWp at h
  unfold Step
  split at h
  · rename_i hg
    simp only [hg]
    exact run h
  · rename_i j want hg
    simp only [hg]
    split at h
    · rename_i d hd
      split at h
      · rename_i hb
        obtain ⟨e, h1, h2⟩ := run h
        exact ⟨e, ⟨d, true, hd, hb, .inl ⟨rfl, h1⟩⟩, h2⟩
      · rename_i hb
        exact ⟨⟨.tup [], []⟩, ⟨d, false, hd, hb, .inr ⟨rfl, rfl⟩⟩, h⟩
      · exact h.elim
    · exact h.elim

theorem step_opWp {ops : List Oper} {i : Nat} {o : Oper} {s : St} {K : St → Prop} {e : Eff} (h : Step P nm ops i o s e) (hK : K (s.app o.dst e)) : opWp P true nm ops i o s K := by
  have run : runDoes P nm i o s e → runWp P true nm i o s K := fun hr => ⟨fun _ hl => hr.1 hl, hr.2.1, does_wpQ _ hr.2.2 hK⟩
  unfold Step at h
  unfold opWp
  split at h
  · rename_i hg
    simp only [hg]
    exact run h
  · rename_i j want hg
    simp only [hg]
    obtain ⟨d, b, hd, hb, hor⟩ := h
    simp only [hd, hb]
    rcases hor with ⟨rfl, h2⟩ | ⟨rfl, rfl⟩
    · exact run h2
    · exact hK

/-- What a step hangs on. -/
theorem ev_of_get {s t : St} {x : Operand} (h : ∀ d, x = .tmp d → s.env.get d = t.env.get d) : s.ev x = t.ev x := by
  cases x <;> first
    | rfl
    | exact h _ rfl

theorem looks_operand {ops : Array Oper} {o : Oper} {d : Nat} (h : Operand.tmp d ∈ o.op.operands) : d ∈ o.looksAt ops := by
  unfold Oper.looksAt
  refine List.mem_append.2 (.inl (List.mem_filterMap.2 ⟨.tmp d, by simpa using h, rfl⟩))

theorem looks_guard {ops : Array Oper} {o : Oper} {j d : Nat} {want : Bool} (hg : o.guard = some (j, want)) (hd : guardSlot ops.toList j = some d) : d ∈ o.looksAt ops := by
  unfold Oper.looksAt
  refine List.mem_append.2 (.inr ?_)
  unfold guardSlot at hd
  rw [Array.getElem?_toList] at hd
  simp [hg, hd]

theorem step_of {ops : Array Oper} {i : Nat} {o : Oper} {s t : St} {e : Eff} (henv : ∀ d ∈ o.looksAt ops, s.env.get d = t.env.get d)
    (hrun : (∀ x ∈ o.op.operands, s.ev x = t.ev x) → runDoes P nm i o s e → runDoes P nm i o t e) (h : Step P nm ops.toList i o s e) : Step P nm ops.toList i o t e := by
  have hev : ∀ x ∈ o.op.operands, s.ev x = t.ev x := fun x hx => ev_of_get fun d hd => henv d (looks_operand (hd ▸ hx))
  unfold Step at h ⊢
  split at h
  · exact hrun hev h
  · rename_i j want hg
    obtain ⟨d, b, hd, hb, hor⟩ := h
    refine ⟨d, b, hd, by rw [← henv d (looks_guard hg hd)]; exact hb, ?_⟩
    rcases hor with ⟨h1, h2⟩ | h1
    · exact .inl ⟨h1, hrun hev h2⟩
    · exact .inr h1

theorem topsIn_congr {F : List Nat} {s t : St} : ∀ (l : List Operand), (∀ x ∈ l, s.ev x = t.ev x) → topsIn F s l = topsIn F t l
  | [], _ => rfl
  | x :: l, h => by simp only [topsIn, h x (by simp), topsIn_congr l fun y hy => h y (by simp [hy])]

theorem fpOk2_congr {o : Oper} {s t : St} (he : ∀ x ∈ o.op.operands, s.ev x = t.ev x) {F : Option (List Nat)} (h : fpOk2 o s F) : fpOk2 o t F := by
  cases F with
  | none => trivial
  | some F =>
    show topsIn F t o.op.operands.toList = true
    rw [← topsIn_congr o.op.operands.toList fun x hx => he x (by simpa using hx)]
    exact h

theorem step_same {ops : Array Oper} {i : Nat} {o : Oper} {s t : St} {e : Eff} (hs : Same s t) (h : Step P nm ops.toList i o s e) : Step P nm ops.toList i o t e :=
  step_of (fun d _ => hs.env d) (fun hev hr => ⟨fun hl => by rw [← hs.sto]; exact hr.1 hl, fpOk2_congr hev hr.2.1, by rw [← hs.nx, ← opRes_congr hev hs.sto]; exact doesQ_congr (fun _ _ j _ => by rw [hs.sto]) hr.2.2⟩) h

/-- Kinds of operations: a call with a footprint writes. -/
def clsO (nm : Names) (o : Oper) : Cls :=
  match callF nm o.op o.dst with
  | some _ => .w
  | none => clsOf o.op
theorem clsO_not {o : Oper} (h : clsO nm o ≠ .w) : callF nm o.op o.dst = none ∧ clsO nm o = clsOf o.op := by
  unfold clsO at h ⊢
  cases hc : callF nm o.op o.dst with
  | none => exact ⟨rfl, rfl⟩
  | some l => rw [hc] at h; exact (h rfl).elim

/-- What keys an operation looks at, and what keys it may lay; 'none': not known. -/
def foot (nm : Names) (o : Oper) : Option (List Nat × List Nat) :=
  match clsO nm o with
  | .n => some ([], [])
  | .a => some ([], [keyOf nm o.dst])
  | .r => (fpOf nm.fp o.dst).map fun F => (F, [])
  | .w => (fpOf nm.fp o.dst).map fun F => (F, keyOf nm o.dst :: F)

def disj (a b : List Nat) : Bool := a.all fun k => !b.contains k

def footOk (x y : Option (List Nat × List Nat)) : Bool :=
  match x, y with
  | some (rx, wx), some (ry, wy) => disj wx ry && disj wx wy && disj wy rx
  | _, _ => false

/-- Two operations that may be swapped. -/
def mayswap (nm : Names) (ops : Array Oper) (x y : Oper) : Bool :=
  x.apart ops y && ((swapOk (clsO nm x) (clsO nm y) && (clsO nm x != .a || clsO nm y != .a || keyOf nm x.dst != keyOf nm y.dst)) || footOk (foot nm x) (foot nm y))

theorem disj_spec {a b : List Nat} (h : disj a b = true) {k : Nat} (ha : k ∈ a) : k ∉ b := by
  have := List.all_eq_true.1 h k ha
  simpa using this

theorem run_lay {i : Nat} {o : Oper} {s : St} {e : Eff} (h : runDoes P nm i o s e) :
    ((clsO nm o = .n ∨ clsO nm o = .r) → e.lay = []) ∧ (clsO nm o = .a → s.sto.find (keyOf nm o.dst) = none ∧ ∃ x, e.lay = [(keyOf nm o.dst, s.nx + i, x)]) :=
  ⟨fun hc => by
    obtain ⟨h1, h2⟩ := clsO_not (o := o) (fun e => by rcases hc with hc | hc <;> rw [e] at hc <;> cases hc)
    rw [h2] at hc
    have h3 := h.2.2
    rw [h1, shutq_same hc] at h3
    exact lay_none hc h3, fun hc => by
    obtain ⟨g1, g2⟩ := clsO_not (o := o) (fun e => by rw [e] at hc; cases hc)
    rw [g2] at hc
    have g3 := h.2.2
    rw [g1] at g3
    obtain ⟨e0, h0, hor⟩ := shutq_does (A := fun as => as) g3
    obtain ⟨h1, x, h2⟩ := lay_own hc h0
    refine ⟨h.1 h1, ?_⟩
    rcases hor with rfl | ⟨k, g, x0, x', h3, h4⟩
    · exact ⟨x, h2⟩
    · rw [h3] at h2; cases h2; exact ⟨x', h4⟩⟩

theorem lays_cls' {op : Op} (h : laysOp op = true) : clsOf op = .a := by cases op <;> first | rfl | cases h
theorem lays_cls {o : Oper} (h : laysOp o.op = true) : clsO nm o = .a := by
  have h1 := lays_cls' h
  unfold clsO
  cases hc : callF nm o.op o.dst with
  | none => exact h1
  | some l =>
    unfold callF at hc
    split at hc
    · rename_i c heq; rw [heq] at h; cases h
    · cases hc

theorem step_lay {ops : List Oper} {i : Nat} {o : Oper} {s : St} {e : Eff} (h : Step P nm ops i o s e) :
    ((clsO nm o = .n ∨ clsO nm o = .r) → e.lay = []) ∧ (clsO nm o = .a → e.lay = [] ∨ (s.sto.find (keyOf nm o.dst) = none ∧ ∃ x, e.lay = [(keyOf nm o.dst, s.nx + i, x)])) := by
  unfold Step at h
  split at h
  · exact ⟨(run_lay h).1, fun hc => .inr ((run_lay h).2 hc)⟩
  · obtain ⟨d, b, hd, hb, hor⟩ := h
    rcases hor with ⟨_, h2⟩ | ⟨_, rfl⟩
    · exact ⟨(run_lay h2).1, fun hc => .inr ((run_lay h2).2 hc)⟩
    · exact ⟨fun _ => rfl, fun _ => .inl rfl⟩

theorem topsIn_mem {F : List Nat} {s : St} : ∀ (l : List Operand), topsIn F s l = true → ∀ x ∈ l, ∀ k, (s.ev x).top = some k → k ∈ F
  | [], _, x, hx, _, _ => by cases hx
  | y :: l, h, x, hx, k, hk => by
    simp only [topsIn, Bool.and_eq_true] at h
    rcases List.mem_cons.1 hx with rfl | hx
    · rw [hk] at h
      simpa [topIn] using h.1
    · exact topsIn_mem l h.2 x hx k hk

/-- What keys are looked at. -/
theorem foot_reads {o : Oper} {s : St} {R W : List Nat} (hf : foot nm o = some (R, W)) (hfp : fpOk2 o s (fpOf nm.fp o.dst)) : (clsO nm o = .n ∨ clsO nm o = .a) ∨ ∀ x ∈ o.op.operands, ∀ k, (s.ev x).top = some k → k ∈ R := by
  unfold foot at hf
  cases hc : clsO nm o with
  | n => exact .inl (.inl rfl)
  | a => exact .inl (.inr rfl)
  | r =>
    simp only [hc] at hf
    cases hF : fpOf nm.fp o.dst with
    | none => simp [hF] at hf
    | some F =>
      simp only [hF, Option.map_some, Option.some.injEq, Prod.mk.injEq] at hf
      obtain ⟨rfl, rfl⟩ := hf
      rw [hF] at hfp
      exact .inr fun x hx => topsIn_mem _ hfp x (by simpa using hx)
  | w =>
    simp only [hc] at hf
    cases hF : fpOf nm.fp o.dst with
    | none => simp [hF] at hf
    | some F =>
      simp only [hF, Option.map_some, Option.some.injEq, Prod.mk.injEq] at hf
      obtain ⟨rfl, rfl⟩ := hf
      rw [hF] at hfp
      exact .inr fun x hx => topsIn_mem _ hfp x (by simpa using hx)

theorem appendRes_key {fnd : Fnd} {k g t : Nat} {s x : PV} {e : Eff} (h : (appendRes P fnd k g t s x).does P (fun as => as) e) : e.lay = [] ∨ ∃ k' g' z, e.lay = [(k', g', z)] ∧ (k' = k ∨ s.top = some k') := by
  unfold appendRes at h
  split at h
  · simp only at h
    split at h
    · exact h.elim
    · obtain ⟨_, h⟩ := h
      split at h
      · obtain ⟨_, h⟩ := h
        cases h
        exact .inr ⟨_, _, _, rfl, .inl rfl⟩
      · rename_i k' g' n
        split at h
        · obtain ⟨_, h⟩ := h
          split at h
          · obtain ⟨_, h⟩ := h
            cases h
            exact .inr ⟨_, _, _, rfl, .inr rfl⟩
          · obtain ⟨_, h⟩ := h
            cases h
            exact .inr ⟨_, _, _, rfl, .inr rfl⟩
        · split at h
          · obtain ⟨_, h⟩ := h
            cases h
            exact .inr ⟨_, _, _, rfl, .inr rfl⟩
          · exact h.elim
        · exact h.elim
      · obtain ⟨_, h⟩ := h
        cases h
        exact .inl rfl
      · exact h.elim
  · exact h.elim

theorem storeRes_key {fnd : Fnd} {t : Nat} {x v : PV} {e : Eff} (h : (storeRes P fnd t x v).does P (fun as => as) e) : e.lay = [] ∨ ∃ k' g' z, e.lay = [(k', g', z)] ∧ x.top = some k' := by
  unfold storeRes at h
  split at h
  · exact h.elim
  · obtain ⟨_, h⟩ := h
    split at h
    · split at h
      · obtain ⟨_, h⟩ := h
        cases h
        exact .inr ⟨_, _, _, rfl, rfl⟩
      · exact h.elim
    · split at h
      · obtain ⟨_, h⟩ := h
        split at h
        · obtain ⟨_, h⟩ := h
          cases h
          exact .inr ⟨_, _, _, rfl, rfl⟩
        · obtain ⟨_, h⟩ := h
          cases h
          exact .inr ⟨_, _, _, rfl, rfl⟩
      · exact h.elim
    · exact h.elim

theorem nextRes_key {fnd : Fnd} {x : PV} {e : Eff} (h : (nextRes fnd x).does P (fun as => as) e) : e.lay = [] ∨ ∃ k' g' z, e.lay = [(k', g', z)] ∧ x.top = some k' := by
  unfold nextRes at h
  split at h
  · split at h
    · obtain ⟨_, h⟩ := h
      split at h
      · cases h
        exact .inr ⟨_, _, _, rfl, rfl⟩
      · cases h
        exact .inl rfl
    · exact h.elim
  · exact h.elim

/-- What is written lies behind a key that an operand tells, or behind the operation's own. -/
theorem lay_w {s : St} {k g : Nat} {op : Op} {e : Eff} (hc : clsOf op = .w) (h : (opRes P true s k g op).does P (fun as => as) e) : e.lay = [] ∨ ∃ k' g' z, e.lay = [(k', g', z)] ∧ (k' = k ∨ ∃ x ∈ op.operands, (s.ev x).top = some k') := by
  cases op <;> simp only [clsOf, reduceCtorEq] at hc <;> simp only [opRes] at h
  case store ty x v =>
    rcases storeRes_key h with h1 | ⟨k', g', z, h1, h2⟩
    · exact .inl h1
    · exact .inr ⟨k', g', z, h1, .inr ⟨x, by simp [Op.operands], h2⟩⟩
  case next it b =>
    cases b with
    | true =>
      rcases nextRes_key h with h1 | ⟨k', g', z, h1, h2⟩
      · exact .inl h1
      · exact .inr ⟨k', g', z, h1, .inr ⟨it, by simp [Op.operands], h2⟩⟩
    | false => exact h.elim
  case call c =>
    cases hcc : c.callee with
    | value f => simp [hcc] at hc
    | invoke r m => simp [hcc] at hc
    | builtin b =>
      simp only [hcc] at h hc
      cases b <;> simp only [reduceCtorEq] at hc
      unfold builtinRes at h
      simp only at h
      split at h
      · rename_i ts t1 t2 _
        split at h
        · rename_i as a1 a2 heq
          split at h
          · rcases appendRes_key h with h1 | ⟨k', g', z, h1, h2 | h2⟩
            · exact .inl h1
            · exact .inr ⟨k', g', z, h1, .inl h2⟩
            · refine .inr ⟨k', g', z, h1, .inr ?_⟩
              have : a1 ∈ c.args.toList.map s.ev := by rw [heq]; simp
              obtain ⟨x, hx, rfl⟩ := List.mem_map.1 this
              exact ⟨x, by simp only [Op.operands, Call.operands, Array.mem_append]; exact .inr (by simpa using hx), h2⟩
          · rcases appendRes_key h with h1 | ⟨k', g', z, h1, h2 | h2⟩
            · exact .inl h1
            · exact .inr ⟨k', g', z, h1, .inl h2⟩
            · refine .inr ⟨k', g', z, h1, .inr ?_⟩
              have : a1 ∈ c.args.toList.map s.ev := by rw [heq]; simp
              obtain ⟨x, hx, rfl⟩ := List.mem_map.1 this
              exact ⟨x, by simp only [Op.operands, Call.operands, Array.mem_append]; exact .inr (by simpa using hx), h2⟩
          · exact h.elim
        · exact h.elim
      · exact h.elim

/-- What keys are laid. -/
theorem foot_lays {ops : List Oper} {i : Nat} {o : Oper} {s : St} {e : Eff} {R W : List Nat} (hf : foot nm o = some (R, W)) (h : Step P nm ops i o s e) : ∀ x ∈ e.lay, x.1 ∈ W := by
  have run : runDoes P nm i o s e → ∀ x ∈ e.lay, x.1 ∈ W := by
    intro hr
    unfold foot at hf
    cases hc : clsO nm o with
    | n => rw [(run_lay hr).1 (.inl hc)]; simp
    | r => rw [(run_lay hr).1 (.inr hc)]; simp
    | a =>
      simp only [hc, Option.some.injEq, Prod.mk.injEq] at hf
      obtain ⟨rfl, rfl⟩ := hf
      obtain ⟨_, x, hx⟩ := (run_lay hr).2 hc
      rw [hx]
      simp
    | w =>
      simp only [hc] at hf
      cases hF : fpOf nm.fp o.dst with
      | none => simp [hF] at hf
      | some F =>
        simp only [hF, Option.map_some, Option.some.injEq, Prod.mk.injEq] at hf
        obtain ⟨rfl, rfl⟩ := hf
        have hfp := hr.2.1
        rw [hF] at hfp
        have hd := hr.2.2
        cases hcf : callF nm o.op o.dst with
        | none =>
          rw [hcf] at hd
          have hc' : clsOf o.op = .w := by
            unfold clsO at hc
            rw [hcf] at hc
            exact hc
          obtain ⟨e0, h0, hor⟩ := shutq_does (A := fun as => as) hd
          have hl0 : e0.lay = [] ∨ ∃ k' g' z, e0.lay = [(k', g', z)] ∧ k' ∈ keyOf nm o.dst :: F := by
            rcases lay_w hc' h0 with h1 | ⟨k', g', z, h1, rfl | ⟨x, hx, hk⟩⟩
            · exact .inl h1
            · exact .inr ⟨_, _, _, h1, by simp⟩
            · exact .inr ⟨_, _, _, h1, by simp [topsIn_mem _ hfp x (by simpa using hx) k' hk]⟩
          rcases hor with rfl | ⟨k, g, x0, x, h1, h2⟩
          · rcases hl0 with h3 | ⟨k', g', z, h3, h4⟩
            · rw [h3]; simp
            · rw [h3]; simpa using h4
          · rcases hl0 with h3 | ⟨k', g', z, h3, h4⟩
            · rw [h3] at h1; cases h1
            · rw [h3] at h1; cases h1; rw [h2]; simpa using h4
        | some l =>
          rw [hcf] at hd
          obtain ⟨_, c, f, e1, e2, e3⟩ := fOf_some (q := true) hcf
          rw [hF] at e3
          cases e3
          rw [e1, shutq_call e2] at hd
          have hres : opRes P true s (keyOf nm o.dst) (s.nx + i) (.call c) = .bad ∨ ∃ f' args, opRes P true s (keyOf nm o.dst) (s.nx + i) (.call c) = .call f' args := by
            simp only [opRes, e2]
            split
            · exact .inr ⟨_, _, rfl⟩
            · exact .inl rfl
          rcases hres with hres | ⟨f', args, hres⟩
          · rw [hres] at hd; exact hd.elim
          · rw [hres] at hd
            obtain ⟨ks, es, args', r, es', h1, _, _, _, _, _, _, rfl⟩ := hd
            intro x hx
            rcases effB_lay _ _ _ _ _ x hx with h2 | ⟨y, h2, h3⟩
            · rw [h2]; simp
            · have : y.1 ∈ (newKs (s.nx + i) ks es').map (·.1) := List.mem_map.2 ⟨y, h2, rfl⟩
              rw [newKs_fst] at this
              obtain ⟨z, h4, h5⟩ := List.mem_map.1 this
              have := h1 z h4
              rw [h5, h3] at this
              simp [this]
  unfold Step at h
  split at h
  · exact run h
  · obtain ⟨d, b, hd, hb, hor⟩ := h
    rcases hor with ⟨_, h2⟩ | ⟨_, rfl⟩
    · exact run h2
    · simp

/-- A step is the same where what it looks at is the same. -/
theorem step_foot {ops : Array Oper} {i : Nat} {o : Oper} {s t : St} {e : Eff} {R W : List Nat} (hf : foot nm o = some (R, W)) (henv : ∀ d ∈ o.looksAt ops, s.env.get d = t.env.get d) (hnx : s.nx = t.nx)
    (hfind : ∀ k ∈ R, s.sto.find k = t.sto.find k) (hkey : laysOp o.op = true → s.sto.find (keyOf nm o.dst) = none → t.sto.find (keyOf nm o.dst) = none) (h : Step P nm ops.toList i o s e) : Step P nm ops.toList i o t e := by
  refine step_of henv (fun hev hr => ?_) h
  refine ⟨fun hl => hkey hl (hr.1 hl), fpOk2_congr hev hr.2.1, ?_⟩
  rw [← hnx]
  have hd := hr.2.2
  cases hcf : callF nm o.op o.dst with
  | some l =>
    rw [hcf] at hd
    obtain ⟨_, c, f, e1, e2, e3⟩ := fOf_some (q := true) hcf
    have hR : ∀ j ∈ l, s.sto.find j = t.sto.find j := by
      intro j hj
      refine hfind j ?_
      unfold foot at hf
      have hc : clsO nm o = .w := by unfold clsO; rw [hcf]
      simp only [hc, e3, Option.map_some, Option.some.injEq, Prod.mk.injEq] at hf
      rw [← hf.1]
      exact hj
    rw [← opRes_nofnd (op := o.op) (.inl (by rw [e1]; simp [clsOf, e2])) hev]
    exact doesQ_congr (fun l' hl' j hj => by cases hl'; exact hR j hj) hd
  | none =>
    rw [hcf] at hd
    have hcl : clsO nm o = clsOf o.op := by unfold clsO; rw [hcf]
    rcases foot_reads hf hr.2.1 with hc | hR
    · rw [hcl] at hc
      rw [← opRes_nofnd hc hev]; exact hd
    · rw [← opRes_foot hev fun x hx k hk => hfind k (hR x hx k hk)]; exact hd

theorem find_app {s : St} {dst : Option Nat} {e : Eff} {W : List Nat} (h : ∀ x ∈ e.lay, x.1 ∈ W) {k : Nat} (hk : k ∉ W) : (s.app dst e).sto.find k = s.sto.find k := by
  rw [app_find]
  exact layF_out _ _ _ fun x hx e => hk (e ▸ h x hx)

theorem swap_foot {ops : Array Oper} {ix iy : Nat} {x y : Oper} {s : St} {ex ey : Eff} (hap : x.apart ops y = true) (hm : footOk (foot nm x) (foot nm y) = true) (hx : Step P nm ops.toList ix x s ex) (hy : Step P nm ops.toList iy y (s.app x.dst ex) ey) :
    Step P nm ops.toList iy y s ey ∧ Step P nm ops.toList ix x (s.app y.dst ey) ex ∧ Same ((s.app x.dst ex).app y.dst ey) ((s.app y.dst ey).app x.dst ex) := by
  obtain ⟨a1, a2, a3⟩ := Oper.apart_spec hap
  unfold footOk at hm
  split at hm
  case h_2 => cases hm
  rename_i rx wx ry wy hfx hfy
  simp only [Bool.and_eq_true] at hm
  obtain ⟨⟨d1, d2⟩, d3⟩ := hm
  have hlx := foot_lays hfx hx
  have hly := foot_lays hfy hy
  have h1 : Step P nm ops.toList iy y s ey := by
    refine step_foot hfy (fun d hd => ?_) (app_nx _ _ _) (fun k hk => ?_) (fun hl h0 => ?_) hy
    · rw [app_get, if_neg]
      intro hxd
      exact a1 d hxd hd
    · refine find_app hlx fun hw => disj_spec d1 hw hk
    · rw [app_find] at h0
      exact layF_none _ _ _ h0
  refine ⟨h1, ?_, ?_⟩
  · refine step_foot hfx (fun d hd => ?_) (app_nx _ _ _).symm (fun k hk => ?_) (fun hl h0 => ?_) hx
    · rw [app_get, if_neg]
      intro hyd
      exact a3 d hyd hd
    · exact (find_app hly fun hw => disj_spec d3 hw hk).symm
    · rw [find_app hly]
      · exact h0
      · intro hw
        have hwx : keyOf nm x.dst ∈ wx := by
          have hc := lays_cls (nm := nm) hl
          unfold foot at hfx
          simp only [hc, Option.some.injEq, Prod.mk.injEq] at hfx
          obtain ⟨_, rfl⟩ := hfx
          simp
        exact disj_spec d2 hwx hw
  · refine ⟨fun i => ?_, ?_, by simp only [app_nx]⟩
    · simp only [app_get]
      by_cases hi : y.dst = some i
      · by_cases hi' : x.dst = some i
        · exact (a2 i hi' hi).elim
        · simp [hi, hi']
      · simp [hi]
    · funext j
      by_cases hjx : j ∈ wx
      · have hjy : j ∉ wy := disj_spec d2 hjx
        rw [find_app hly hjy, app_find, app_find, find_app hly hjy]
      · rw [find_app hlx hjx, app_find, find_app hlx hjx, app_find]

theorem swap {ops : Array Oper} {ix iy : Nat} {x y : Oper} {s : St} {ex ey : Eff} (hm : mayswap nm ops x y = true) (hx : Step P nm ops.toList ix x s ex) (hy : Step P nm ops.toList iy y (s.app x.dst ex) ey) :
    Step P nm ops.toList iy y s ey ∧ Step P nm ops.toList ix x (s.app y.dst ey) ex ∧ Same ((s.app x.dst ex).app y.dst ey) ((s.app y.dst ey).app x.dst ex) := by
  simp only [mayswap, Bool.and_eq_true, Bool.or_eq_true, bne_iff_ne, ne_eq] at hm
  obtain ⟨hap, ⟨hsw, hkey⟩ | hfoot⟩ := hm
  case inr => exact swap_foot hap hfoot hx hy
  obtain ⟨a1, a2, a3⟩ := Oper.apart_spec hap
  have hlx := step_lay hx
  have hly := step_lay hy
  -- what is found ahead of the first, and behind it
  have hxnone : clsO nm x = .n ∨ clsO nm x = .r → (s.app x.dst ex).sto.find = s.sto.find := fun hc => app_find_none _ _ _ (hlx.1 hc)
  -- the second one, ahead of the first
  have h1 : Step P nm ops.toList iy y s ey := by
    refine step_of (fun d hd => ?_) (fun hev hr => ?_) hy
    · rw [app_get]
      rw [if_neg]
      intro hxd
      exact a1 d hxd hd
    · refine ⟨fun hl => ?_, fpOk2_congr hev hr.2.1, ?_⟩
      · have h0 := hr.1 hl
        rw [app_find] at h0
        exact layF_none _ _ _ h0
      · rw [← app_nx s x.dst ex]
        have hcases : (clsO nm x = .n ∨ clsO nm x = .r) ∨ (clsO nm y = .n ∨ clsO nm y = .a) := by
          cases hcx : clsO nm x <;> cases hcy : clsO nm y <;> simp_all [swapOk]
        rcases hcases with hc | hc
        · rw [← opRes_congr hev (hxnone hc)]; exact doesQ_congr (fun _ _ j _ => by rw [hxnone hc]) hr.2.2
        · obtain ⟨g1, g2⟩ := clsO_not (nm := nm) (o := y) (fun e => by rcases hc with hc | hc <;> rw [e] at hc <;> cases hc)
          have hd := hr.2.2
          rw [g1] at hd ⊢
          rw [g2] at hc
          rw [← opRes_nofnd hc hev]; exact hd
  have hly' := step_lay h1
  refine ⟨h1, ?_, ?_⟩
  · -- the first one, behind the second
    refine step_of (fun d hd => ?_) (fun hev hr => ?_) hx
    · rw [app_get]
      rw [if_neg]
      intro hyd
      exact a3 d hyd hd
    · have hyl : clsO nm y = .n ∨ clsO nm y = .r → (s.app y.dst ey).sto.find = s.sto.find := fun hc => app_find_none _ _ _ (hly'.1 hc)
      refine ⟨fun hl => ?_, fpOk2_congr hev hr.2.1, ?_⟩
      · have hca := lays_cls (nm := nm) hl
        have h0 := hr.1 hl
        have hcy : clsO nm y = .n ∨ clsO nm y = .a := by
          cases hcy : clsO nm y <;> simp_all [swapOk]
        rcases hcy with hc | hc
        · rw [hyl (.inl hc)]; exact h0
        · rcases hly'.2 hc with hn | ⟨hfr, z, hz⟩
          · rw [app_find_none _ _ _ hn]; exact h0
          · rw [app_find_some _ _ _ hz]
            rcases hkey with (hk | hk) | hk
            · exact (hk hca).elim
            · exact (hk hc).elim
            · rw [if_neg hk]; exact h0
      · rw [app_nx s y.dst ey]
        have hcases : (clsO nm y = .n ∨ clsO nm y = .r) ∨ (clsO nm x = .n ∨ clsO nm x = .a) ∨ (clsO nm x = .r ∧ clsO nm y = .a) := by
          cases hcx : clsO nm x <;> cases hcy : clsO nm y <;> simp_all [swapOk]
        rcases hcases with hc | hc | ⟨hc, hc'⟩
        · rw [← opRes_congr hev (hyl hc).symm]; exact doesQ_congr (fun _ _ j _ => by rw [hyl hc]) hr.2.2
        · obtain ⟨g1, g2⟩ := clsO_not (nm := nm) (o := x) (fun e => by rcases hc with hc | hc <;> rw [e] at hc <;> cases hc)
          have hd := hr.2.2
          rw [g1] at hd ⊢
          rw [g2] at hc
          rw [← opRes_nofnd hc hev]; exact hd
        · obtain ⟨g1, g2⟩ := clsO_not (nm := nm) (o := x) (fun e => by rw [e] at hc; cases hc)
          have hr2 := hr.2.2
          rw [g1] at hr2 ⊢
          rw [g2] at hc
          rw [shutq_same (.inr hc)] at hr2 ⊢
          refine opRes_le hc hev (fun j v hj => ?_) hr2
          rcases hly'.2 hc' with hn | ⟨hfr, z, hz⟩
          · rw [app_find_none _ _ _ hn]; exact hj
          · rw [app_find_some _ _ _ hz, if_neg]
            · exact hj
            · intro hjk
              rw [hjk, hfr] at hj
              cases hj
  · -- both come to the same
    refine ⟨fun i => ?_, ?_, by simp only [app_nx]⟩
    · simp only [app_get]
      by_cases hi : y.dst = some i
      · by_cases hi' : x.dst = some i
        · exact (a2 i hi' hi).elim
        · simp [hi, hi']
      · simp [hi]
    · funext j
      simp only [app_find]
      by_cases hex : ex.lay = []
      · simp only [hex, layF]
      · by_cases hey : ey.lay = []
        · simp only [hey, layF]
        · have hcx : clsO nm x = .a ∧ clsO nm y = .a := by
            have nx : ¬ (clsO nm x = .n ∨ clsO nm x = .r) := fun h => hex (hlx.1 h)
            have ny : ¬ (clsO nm y = .n ∨ clsO nm y = .r) := fun h => hey (hly.1 h)
            cases hcx : clsO nm x <;> cases hcy : clsO nm y <;> simp_all [swapOk]
          rcases hlx.2 hcx.1 with hn | ⟨_, z, hz⟩
          · exact (hex hn).elim
          · rcases hly.2 hcx.2 with hn | ⟨_, z', hz'⟩
            · exact (hey hn).elim
            · have hne : keyOf nm x.dst ≠ keyOf nm y.dst := by
                rcases hkey with (hk | hk) | hk
                · exact (hk hcx.1).elim
                · exact (hk hcx.2).elim
                · exact hk
              simp only [hz, hz', layF]
              by_cases hj : j = keyOf nm y.dst
              · subst hj
                simp [Ne.symm hne]
              · simp [hj]

end
end Go.Proofs.YtlgjbmgmoaphjaaDoor
