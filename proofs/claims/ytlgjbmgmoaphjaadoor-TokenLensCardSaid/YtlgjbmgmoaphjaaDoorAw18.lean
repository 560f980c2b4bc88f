/- Regions that draw their order: one walk of the text's order serves every order. -/
import Derived.Test.YtlgjbmgmoaphjaaDoorAw17
namespace Go.Proofs.YtlgjbmgmoaphjaaDoor
set_option linter.unusedSimpArgs false
set_option linter.unusedVariables false
open Go

/-! ### What an operation does, told apart from what follows -/
/-- A value, and what is laid behind a key. -/
structure Eff where
  v : PV
  lay : List (Nat × Nat × Ent)

def St.lays : St → List (Nat × Nat × Ent) → St
  | s, [] => s
  | s, (k, g, x) :: l => St.lays (s.set k g x) l

def St.app (s : St) (dst : Option Nat) (e : Eff) : St := (s.put dst e.v).lays e.lay

def Res.does (P : Program) (args : List PV → List PV) : Res → Eff → Prop
  | .val v, e => e = ⟨v, []⟩
  | .eff v k g x, e => e = ⟨v, [(k, g, x)]⟩
  | .call f as, e => ∃ args' r, as.flatMap frz1 = [] ∧ notOwn r = true ∧ pureL (args as) = true ∧ WkL (args as) args' ∧ PC P f args' r ∧ e = ⟨r, []⟩
  | .need p r, e => p ∧ Res.does P args r e
  | .ndet _ _, _ => False
  | .bad, _ => False

theorem pur0_id (fnd : Nat → Option (Nat × Ent)) (p : PV) (h : frz0 p = []) : pur0 fnd p = p := by
  cases p <;> simp_all [frz0, pur0]

theorem pur1_id (fnd : Nat → Option (Nat × Ent)) (p : PV) (h : frz1 p = []) : pur1 fnd p = p := by
  unfold pur1
  split
  · rename_i cs
    simp only [frz1, List.flatMap_eq_nil_iff] at h
    congr 1
    induction cs with
    | nil => rfl
    | cons c cs ih =>
      simp only [List.map_cons, List.cons.injEq]
      exact ⟨pur0_id fnd c (h c (by simp)), ih (fun x hx => h x (by simp [hx]))⟩
  · rename_i hne
    refine pur0_id fnd p ?_
    cases p <;> first
      | exact h
      | exact (hne _ rfl).elim

theorem pur1_ids (fnd : Nat → Option (Nat × Ent)) : ∀ (ps : List PV), ps.flatMap frz1 = [] → ps.map (pur1 fnd) = ps
  | [], _ => rfl
  | p :: ps, h => by
    simp only [List.flatMap_cons, List.append_eq_nil_iff] at h
    simp only [List.map_cons, pur1_id fnd p h.1, pur1_ids fnd ps h.2]

theorem back_not_own (s : St) (dst : Option Nat) (k g : Nat) (r : PV) (h : notOwn r = true) : s.back dst k g r = s.put dst r := by
  cases r <;> first
    | rfl
    | simp [notOwn] at h

/-- In a region that draws its order: what an operation may do. -/
theorem Res.wp_does {P : Program} {s : St} {dst : Option Nat} {k g : Nat} {K : St → Prop} : ∀ (r : Res), r.wp P true s dst k g K → ∃ e, r.does P (fun as => as) e ∧ K (s.app dst e)
  | .val v, h => ⟨_, rfl, h⟩
  | .eff v k' g' x, h => ⟨_, rfl, h⟩
  | .call f as, h => by
    rcases h with ⟨args', r, h1, h2, h3, h4, h5⟩ | ⟨h0, _⟩
    · obtain ⟨h6, h7⟩ := h1 rfl
      rw [pur1_ids _ _ h6] at h2 h3
      refine ⟨_, ⟨args', r, h6, h7, h2, h3, h4, rfl⟩, ?_⟩
      rw [back_not_own _ _ _ _ _ h7, h6] at h5
      exact h5
    · cases h0
  | .ndet p b, h => by cases h.1
  | .need p r, h => by
    obtain ⟨e, h1, h2⟩ := Res.wp_does r h.2
    exact ⟨e, ⟨h.1, h1⟩, h2⟩
  | .bad, h => h.elim

theorem Res.does_wp {P : Program} {s : St} {dst : Option Nat} {k g : Nat} {K : St → Prop} {e : Eff} : ∀ (r : Res), r.does P (fun as => as) e → K (s.app dst e) → r.wp P true s dst k g K
  | .val v, h, hK => by cases h; exact hK
  | .eff v k' g' x, h, hK => by cases h; exact hK
  | .call f as, h, hK => by
    obtain ⟨args', r, h6, h7, h2, h3, h4, rfl⟩ := h
    refine .inl ⟨args', r, fun _ => ⟨h6, h7⟩, by rw [pur1_ids _ _ h6]; exact h2, by rw [pur1_ids _ _ h6]; exact h3, h4, ?_⟩
    rw [back_not_own _ _ _ _ _ h7, h6]
    exact hK
  | .need p r, h, hK => ⟨h.1, Res.does_wp r h.2 hK⟩
  | .ndet _ _, h, _ => h.elim
  | .bad, h, _ => h.elim

/-! ### Kinds of operations -/
inductive Cls where
  /-- looks at no memory -/
  | n
  /-- reads -/
  | r
  /-- lays anew -/
  | a
  /-- writes -/
  | w
  deriving DecidableEq

def clsOf : Op → Cls
  | .alloc _ | .box _ _ | .buildSlice _ _ _ | .range _ _ => .a
  | .store _ _ _ | .next _ _ => .w
  | .load _ _ | .indexAddr _ _ _ | .slice _ _ _ _ _ | .fieldAddr _ _ _ | .convert _ _ _ | .nilCheck _ => .r
  | .call c => match c.callee with
    | .builtin .append => .w
    | _ => .n
  | _ => .n

/-- May the second be carried out ahead of the first? -/
def swapOk (x y : Cls) : Bool :=
  match x, y with
  | .n, _ | _, .n | .r, .r | .r, .a | .a, .a => true
  | _, _ => false

section
variable {P : Program} {nm : Names}

/-- What an operation does hangs on its operands, and on what it finds. -/
theorem opRes_congr {q : Bool} {s t : St} {k g : Nat} {op : Op} (he : ∀ x ∈ op.operands, s.ev x = t.ev x) (hf : s.sto.find = t.sto.find) : opRes P q s k g op = opRes P q t k g op := by
  have hparts : ∀ (l : List (Nat × Operand)), (∀ p ∈ l, s.ev p.2 = t.ev p.2) → (l.map fun p => (p.1, s.ev p.2)) = l.map fun p => (p.1, t.ev p.2) := by
    intro l hl
    exact List.map_congr_left fun p hp => by rw [hl p hp]
  have hopt : ∀ (o : Option Operand), (∀ x, o = some x → s.ev x = t.ev x) → o.map s.ev = o.map t.ev := by
    intro o ho
    cases o with
    | none => rfl
    | some x => simp [ho x rfl]
  cases op <;> simp only [Op.operands, List.mem_toArray, List.mem_cons, List.not_mem_nil, or_false, forall_eq_or_imp, forall_eq, Array.mem_append] at he <;> simp only [opRes, hf, he]
  case build ty parts => rw [hparts _ (fun p hp => he _ (List.mem_map.2 ⟨p, hp, rfl⟩))]
  case buildSlice ty len parts => rw [hparts _ (fun p hp => he _ (List.mem_map.2 ⟨p, hp, rfl⟩))]
  case slice ty x lo hi mx =>
    rw [he x (by simp), hopt lo (fun y hy => he y (by simp [hy])), hopt hi (fun y hy => he y (by simp [hy])), hopt mx (fun y hy => he y (by simp [hy]))]
  case makeFunc fn first captured =>
    have : captured.toList.map s.ev = captured.toList.map t.ev := List.map_congr_left fun x hx => he x (.inr (by simpa using hx))
    rw [this]
  case call c =>
    have hargs : c.args.toList.map s.ev = c.args.toList.map t.ev := List.map_congr_left fun x hx => he x (by
      simp only [Call.operands, Array.mem_append]
      exact .inr (by simpa using hx))
    rw [hargs]
    cases hc : c.callee with
    | value f =>
      have hfe : s.ev f = t.ev f := he f (by simp [Call.operands, hc])
      simp only [hfe]
    | _ => rfl

/-- Of what looks at no memory, and of what lays anew, no memory is asked. -/
theorem opRes_nofnd {q : Bool} {s t : St} {k g : Nat} {op : Op} (hc : clsOf op = .n ∨ clsOf op = .a) (he : ∀ x ∈ op.operands, s.ev x = t.ev x) : opRes P q s k g op = opRes P q t k g op := by
  have h1 : opRes P q s k g op = opRes P q { s with sto := t.sto } k g op := by
    cases op <;> simp only [clsOf, reduceCtorEq, or_self, or_true, true_or] at hc <;> try rfl
    case call c =>
      simp only [opRes]
      cases hcc : c.callee with
      | value f => rfl
      | invoke r m => rfl
      | builtin b =>
        cases b <;> first
          | rfl
          | (simp only [hcc] at hc; simp at hc)
  rw [h1]
  exact opRes_congr (fun x hx => he x hx) rfl

/-! ### What only reads lays nothing -/
def Res.still : Res → Prop
  | .eff _ _ _ _ => False
  | .need _ r => r.still
  | _ => True

theorem Res.does_still {e : Eff} : ∀ (r : Res), r.still → r.does P (fun as => as) e → e.lay = []
  | .val v, _, h => by cases h; rfl
  | .eff _ _ _ _, h, _ => h.elim
  | .call f as, _, h => by
    obtain ⟨args', r, h6, h7, h2, h3, h4, rfl⟩ := h
    rfl
  | .need p r, hs, h => Res.does_still r hs h.2
  | .ndet _ _, _, h => h.elim
  | .bad, _, h => h.elim

theorem intOp_still (op : BinOp) (k : IntKind) (x y : Int) : (intOp op k x y).still := by cases op <;> trivial
theorem strOp_still (op : BinOp) (x y : List UInt8) : (strOp op x y).still := by cases op <;> trivial
theorem loadv_still (ty : Ty) (cs : List PV) (off : Nat) : (loadv ty cs off).still := by unfold loadv; split <;> trivial
theorem eqOp_still (ty : Ty) (neg : Bool) (x y : PV) : (eqOp P ty neg x y).still := by
  unfold eqOp
  split <;> try trivial
  split <;> try trivial
  split <;> trivial
theorem nilOp_still (neg : Bool) (x : PV) (y : Operand) : (nilOp neg x y).still := by
  unfold nilOp
  split <;> try trivial
  split <;> trivial
theorem binRes_still (ty : Ty) (op : BinOp) (x y : PV) (yo : Operand) : (binRes P ty op x y yo).still := by
  unfold binRes
  split
  · split
    · exact intOp_still _ _ _ _
    · trivial
  · exact strOp_still _ _ _
  · split <;> first
      | exact nilOp_still _ _ _
      | exact eqOp_still _ _ _ _
      | trivial
theorem unRes_still (op : UnOp) (x : PV) : (unRes op x).still := by unfold unRes; split <;> trivial
theorem minRes_still (x y : PV) : (minRes x y).still := by unfold minRes; split <;> trivial
theorem maxRes_still (x y : PV) : (maxRes x y).still := by unfold maxRes; split <;> trivial
theorem foldRes_still (f : PV → PV → Res) (hf : ∀ x y, (f x y).still) (l : List PV) : (foldRes f l).still := by
  unfold foldRes
  split
  · exact hf _ _
  · split
    · exact hf _ _
    · trivial
  · trivial
theorem lenRes_still (t : Nat) (x : PV) : (lenRes P t x).still := by
  unfold lenRes
  split
  · split <;> trivial
  · split <;> trivial
  · trivial
theorem extractRes_still (x : PV) (i : Nat) : (extractRes x i).still := by unfold extractRes; split <;> trivial
theorem strIndexRes_still (t : Nat) (x i : PV) : (strIndexRes P t x i).still := by unfold strIndexRes; split <;> trivial
theorem buildRes_still (b : Bool) (t : Nat) (l : List (Nat × PV)) : (buildRes P b t l).still := by
  unfold buildRes
  simp only
  split
  · show Res.still _
    split <;> trivial
  · trivial
theorem fieldRes_still (t : Nat) (x : PV) (f : Nat) : (fieldRes P t x f).still := by
  unfold fieldRes
  split
  · split
    · exact loadv_still _ _ _
    · trivial
  · trivial
theorem loadRes_still (fnd : Nat → Option (Nat × Ent)) (t : Nat) (x : PV) : (loadRes P fnd t x).still := by
  unfold loadRes
  split
  · trivial
  · split
    · split
      · exact loadv_still _ _ _
      · trivial
    · split
      · exact loadv_still _ _ _
      · trivial
    · exact loadv_still _ _ _
    · trivial
theorem indexRes_still (fnd : Nat → Option (Nat × Ent)) (t : Nat) (x i : PV) : (indexRes P fnd t x i).still := by
  unfold indexRes
  split
  · trivial
  · split <;> trivial
  · trivial
theorem nilCheckRes_still (fnd : Nat → Option (Nat × Ent)) (x : PV) : (nilCheckRes fnd x).still := by
  unfold nilCheckRes
  repeat' split
  all_goals trivial

theorem fieldAddrRes_still (fnd : Nat → Option (Nat × Ent)) (t : Nat) (x : PV) (f : Nat) : (fieldAddrRes P fnd t x f).still := by
  unfold fieldAddrRes
  split
  · split
    · show Res.still _
      split
      · split <;> trivial
      · split <;> trivial
      · trivial
      · trivial
    · trivial
  · trivial
theorem convertRes_still (fnd : Nat → Option (Nat × Ent)) (a b : Nat) (x : PV) : (convertRes P fnd a b x).still := by
  unfold convertRes
  split <;> try trivial
  · split <;> trivial
  · split
    · split
      · unfold strOf; split <;> trivial
      · trivial
    · split
      · unfold strOf; split <;> trivial
      · trivial
    · trivial
/-- A slice expression, in a region that draws its order: it lays nothing (else it asks what is false). -/
theorem sliceRes_lay (fnd : Nat → Option (Nat × Ent)) (t : Nat) (x : PV) (lo hi mx : Option PV) {e : Eff} (h : (sliceRes P true fnd t x lo hi mx).does P (fun as => as) e) : e.lay = [] := by
  unfold sliceRes at h
  split at h
  · exact h.elim
  · split at h
    · split at h
      · exact Res.does_still (P := P) _ (by trivial) h
      · exact h.elim
    · split at h
      · exact Res.does_still (P := P) _ (by trivial) h
      · exact h.elim
    · split at h
      · exact Res.does_still (P := P) _ (by trivial) h
      · exact h.elim
    · split at h
      · split at h
        · split at h
          · split at h
            · exact Res.does_still (P := P) _ (by trivial) h
            · exact h.elim
          · split at h
            · obtain ⟨⟨h0, _⟩, _⟩ := h
              cases h0
            · exact h.elim
        · exact h.elim
      · exact h.elim
    · exact h.elim

theorem lay_none {s : St} {k g : Nat} {op : Op} {e : Eff} (hc : clsOf op = .n ∨ clsOf op = .r) (h : (opRes P true s k g op).does P (fun as => as) e) : e.lay = [] := by
  cases op <;> simp only [clsOf, reduceCtorEq, or_self, or_true, true_or] at hc <;> simp only [opRes] at h <;> try exact h.elim
  case move x => cases h; rfl
  case assign x => cases h; rfl
  case pick c a b =>
    split at h
    · cases h; rfl
    · exact h.elim
  case build t parts => exact Res.does_still (P := P) _ (buildRes_still _ _ _) h
  case load t x => exact Res.does_still (P := P) _ (loadRes_still _ _ _) h
  case binOp op t x y yt => exact Res.does_still (P := P) _ (binRes_still _ _ _ _ _) h
  case unOp op t x => exact Res.does_still (P := P) _ (unRes_still _ _) h
  case convert src dt x => exact Res.does_still (P := P) _ (convertRes_still _ _ _ _) h
  case slice t x lo hi mx => exact sliceRes_lay _ _ _ _ _ _ h
  case fieldAddr t x f => exact Res.does_still (P := P) _ (fieldAddrRes_still _ _ _ _) h
  case nilCheck x => exact Res.does_still (P := P) _ (nilCheckRes_still _ _) h
  case field t x f => exact Res.does_still (P := P) _ (fieldRes_still _ _ _) h
  case indexAddr t x i => exact Res.does_still (P := P) _ (indexRes_still _ _ _ _) h
  case index t x i => exact Res.does_still (P := P) _ (strIndexRes_still _ _ _) h
  case extract x i => exact Res.does_still (P := P) _ (extractRes_still _ _) h
  case makeFunc fn first captured =>
    split at h
    · split at h
      · cases h; rfl
      · exact h.elim
    · exact h.elim
  case call c =>
    split at h
    · split at h
      · exact Res.does_still (P := P) _ (by trivial) h
      · exact h.elim
    · rename_i b hb
      unfold builtinRes at h
      split at h
      · split at h
        · split at h
          · exact Res.does_still (P := P) _ (lenRes_still _ _) h
          · exact h.elim
        · exact h.elim
      · simp [hb] at hc
      · exact Res.does_still (P := P) _ (foldRes_still _ minRes_still _) h
      · exact Res.does_still (P := P) _ (foldRes_still _ maxRes_still _) h
      · exact h.elim
    · exact h.elim

/-- What an operation does hangs on what it finds behind the keys that its operands tell. -/
abbrev Fnd' := Nat → Option (Nat × Ent)

theorem loadRes_foot {f f' : Fnd'} (t : Nat) (x : PV) (h : ∀ k, x.top = some k → f k = f' k) : loadRes P f t x = loadRes P f' t x := by
  cases x <;> first
    | rfl
    | (unfold loadRes; simp only [h _ rfl]; done)
    | (simp only [loadRes]; done)
    | (unfold loadRes; rfl)

theorem storeRes_foot {f f' : Fnd'} (t : Nat) (x v : PV) (h : ∀ k, x.top = some k → f k = f' k) : storeRes P f t x v = storeRes P f' t x v := by
  cases x <;> first
    | rfl
    | (unfold storeRes; simp only [h _ rfl]; done)
    | (simp only [storeRes]; done)
    | (unfold storeRes; rfl)

theorem indexRes_foot {f f' : Fnd'} (t : Nat) (x i : PV) (h : ∀ k, x.top = some k → f k = f' k) : indexRes P f t x i = indexRes P f' t x i := by
  cases x <;> first
    | rfl
    | (unfold indexRes; simp only [h _ rfl]; done)
    | (simp only [indexRes]; done)
    | (unfold indexRes; generalize (tyOf P t).kd = kd; cases kd <;> first | rfl | (cases i <;> first | rfl | (simp only [h _ rfl]; done)))

theorem nilCheckRes_foot {f f' : Fnd'} (x : PV) (h : ∀ k, x.top = some k → f k = f' k) : nilCheckRes f x = nilCheckRes f' x := by
  cases x <;> first
    | rfl
    | (unfold nilCheckRes; simp only [h _ rfl]; done)
    | (simp only [nilCheckRes]; done)
    | (unfold nilCheckRes; rfl)

theorem fieldAddrRes_foot {f f' : Fnd'} (t : Nat) (x : PV) (fi : Nat) (h : ∀ k, x.top = some k → f k = f' k) : fieldAddrRes P f t x fi = fieldAddrRes P f' t x fi := by
  cases x <;> first
    | rfl
    | (unfold fieldAddrRes; simp only [h _ rfl]; done)
    | (simp only [fieldAddrRes]; done)
    | (unfold fieldAddrRes; rfl)

theorem elems_foot {f f' : Fnd'} (byt : Bool) (size : Nat) (x : PV) (h : ∀ k, x.top = some k → f k = f' k) : elems f byt size x = elems f' byt size x := by
  cases x <;> first
    | rfl
    | (unfold elems; simp only [h _ rfl]; done)
    | (simp only [elems]; done)
    | (unfold elems; rfl)

theorem convertRes_foot {f f' : Fnd'} (a b : Nat) (x : PV) (h : ∀ k, x.top = some k → f k = f' k) : convertRes P f a b x = convertRes P f' a b x := by
  unfold convertRes
  split <;> first
    | rfl
    | (rename_i x _ _ _ el hk1 hk2; rw [elems_foot false 1 _ h])
    | (rw [elems_foot false 1 _ h])

theorem sliceRes_foot {f f' : Fnd'} {q : Bool} (t : Nat) (x : PV) (lo hi mx : Option PV) (h : ∀ k, x.top = some k → f k = f' k) : sliceRes P q f t x lo hi mx = sliceRes P q f' t x lo hi mx := by
  cases x <;> first
    | rfl
    | (unfold sliceRes; simp only [h _ rfl]; done)
    | (simp only [sliceRes]; done)
    | (unfold sliceRes; generalize (tyOf P t).kd = kd; cases kd <;> first | rfl | (simp only [h _ rfl]; done))
    | (unfold sliceRes; cases mx <;> generalize (tyOf P t).kd = kd <;> cases kd <;> first | rfl | (simp only [h _ rfl]; done))

theorem nextRes_foot {f f' : Fnd'} (x : PV) (h : ∀ k, x.top = some k → f k = f' k) : nextRes f x = nextRes f' x := by
  unfold nextRes
  split
  · rename_i k g
    rw [h k rfl]
  · rfl

theorem appendRes_foot {f f' : Fnd'} (k g t : Nat) (s x : PV) (h1 : ∀ k, s.top = some k → f k = f' k) (h2 : ∀ k, x.top = some k → f k = f' k) : appendRes P f k g t s x = appendRes P f' k g t s x := by
  unfold appendRes
  simp only [elems_foot _ _ x h2]
  cases s <;> first
    | rfl
    | simp only [h1 _ rfl]

theorem opRes_foot {q : Bool} {s t : St} {k g : Nat} {op : Op} (he : ∀ x ∈ op.operands, s.ev x = t.ev x) (hf : ∀ x ∈ op.operands, ∀ j, (s.ev x).top = some j → s.sto.find j = t.sto.find j) : opRes P q s k g op = opRes P q t k g op := by
  have h1 : opRes P q s k g op = opRes P q { s with sto := t.sto } k g op := by
    cases op <;> try rfl
    case load ty x => exact loadRes_foot _ _ (hf x (by simp [Op.operands]))
    case store ty x v => exact storeRes_foot _ _ _ (hf x (by simp [Op.operands]))
    case convert src dt x => exact convertRes_foot _ _ _ (hf x (by simp [Op.operands]))
    case slice ty x lo hi mx => exact sliceRes_foot _ _ _ _ _ (hf x (by simp [Op.operands]))
    case fieldAddr ty x fi => exact fieldAddrRes_foot _ _ _ (hf x (by simp [Op.operands]))
    case nilCheck x => exact nilCheckRes_foot _ (hf x (by simp [Op.operands]))
    case indexAddr ty x i => exact indexRes_foot _ _ _ (hf x (by simp [Op.operands]))
    case next it b =>
      cases b with
      | true => exact nextRes_foot _ (hf it (by simp [Op.operands]))
      | false => rfl
    case call c =>
      simp only [opRes]
      cases hc : c.callee with
      | value f => rfl
      | invoke r m => rfl
      | builtin b =>
        show builtinRes P s.sto.find k g b c.argTypes.toList (c.args.toList.map s.ev) = builtinRes P t.sto.find k g b c.argTypes.toList (c.args.toList.map s.ev)
        have hall : ∀ v ∈ c.args.toList.map s.ev, ∀ j, v.top = some j → s.sto.find j = t.sto.find j := by
          intro v hv
          obtain ⟨x, hx, rfl⟩ := List.mem_map.1 hv
          exact hf x (by simp only [Op.operands, Call.operands, Array.mem_append]; exact .inr (by simpa using hx))
        cases b <;> try rfl
        unfold builtinRes
        simp only
        split
        · rename_i ts t1 t2
          split
          · rename_i as a1 a2
            rw [appendRes_foot _ _ _ _ _ (hall _ (by simp_all)) (hall _ (by simp_all))]
          · rfl
        · rfl
  rw [h1]
  exact opRes_congr (fun x hx => he x hx) rfl

/-- What is laid anew lies behind the key that is its own. -/
theorem lay_own {s : St} {k g : Nat} {op : Op} {e : Eff} (hc : clsOf op = .a) (h : (opRes P true s k g op).does P (fun as => as) e) : laysOp op = true ∧ ∃ x, e.lay = [(k, g, x)] := by
  cases op <;> simp only [clsOf, reduceCtorEq] at hc <;> simp only [opRes] at h
  case alloc t =>
    split at h
    · cases h; exact ⟨rfl, _, rfl⟩
    · exact h.elim
  case box t x =>
    obtain ⟨_, h⟩ := h
    cases h; exact ⟨rfl, _, rfl⟩
  case buildSlice t len parts =>
    refine ⟨rfl, ?_⟩
    unfold buildSliceRes at h
    split at h
    · split at h
      · obtain ⟨_, h⟩ := h
        split at h
        · cases h; exact ⟨_, rfl⟩
        · exact h.elim
      · exact h.elim
    · exact h.elim
  case range t x =>
    split at h
    · cases h; exact ⟨rfl, _, rfl⟩
    · exact h.elim
  case call c =>
    split at hc <;> cases hc

/-! ### Rows that are told as ones that are written no more -/
theorem shutq_same {q : Bool} {l : Nf} {op : Op} {r : Res} (hc : clsOf op = .n ∨ clsOf op = .r) : shutq q l op r = r := by
  have : growsOp op = false := by
    cases op <;> first
      | rfl
      | (simp [clsOf] at hc; done)
      | skip
    case call c =>
      cases hcc : c.callee with
      | value f => simp [growsOp, hcc]
      | invoke r m => simp [growsOp, hcc]
      | builtin b =>
        cases b <;> first
          | (simp [growsOp, hcc]; done)
          | (exfalso; simp [clsOf, hcc] at hc; done)
  unfold shutq
  rw [this]
  split <;> simp_all

theorem shut_does {A : List PV → List PV} {e : Eff} : ∀ (r : Res), (r.shut).does P A e → ∃ e0, r.does P A e0 ∧ (e0 = e ∨ ∃ k g x0 x, e0.lay = [(k, g, x0)] ∧ e.lay = [(k, g, x)])
  | .val v, h => ⟨e, h, .inl rfl⟩
  | .eff v k g x, h => by
    simp only [Res.shut, shutR] at h
    split at h
    · obtain ⟨_, h⟩ := h
      cases h
      exact ⟨_, rfl, .inr ⟨_, _, _, _, rfl, rfl⟩⟩
    · exact h.elim
  | .need p r, h => by
    obtain ⟨e0, h1, h2⟩ := shut_does r h.2
    exact ⟨e0, ⟨h.1, h1⟩, h2⟩
  | .call _ _, h => h.elim
  | .ndet _ _, h => h.elim
  | .bad, h => h.elim

theorem shutq_does {q : Bool} {l : Nf} {op : Op} {A : List PV → List PV} {e : Eff} {r : Res} (h : (shutq q l op r).does P A e) : ∃ e0, r.does P A e0 ∧ (e0 = e ∨ ∃ k g x0 x, e0.lay = [(k, g, x0)] ∧ e.lay = [(k, g, x)]) := by
  unfold shutq at h
  split at h
  · exact shut_does _ h
  · exact ⟨e, h, .inl rfl⟩

/-! ### Calls that write, in regions that draw their order -/
def zipLay : List (Nat × Nat) → List Ent → List (Nat × Nat × Ent)
  | (k, g) :: ks, e :: es => (k, g, e) :: zipLay ks es
  | _, _ => []
theorem lays_app (s : St) : ∀ (l m : List (Nat × Nat × Ent)), s.lays (l ++ m) = (s.lays l).lays m := by
  intro l
  induction l generalizing s with
  | nil => intro m; rfl
  | cons x l ih => intro m; obtain ⟨k, g, x⟩ := x; exact ih _ m
theorem lays_zip : ∀ (ks : List (Nat × Nat)) (es : List Ent) (s : St), s.lays (zipLay ks es) = { s with sto := setAll s.sto ks es }
  | [], es, s => by cases es <;> rfl
  | (k, g) :: ks, [], s => rfl
  | (k, g) :: ks, e :: es, s => by
    simp only [zipLay, St.lays, setAll]
    rw [lays_zip ks es]
    rfl
theorem zip_mem : ∀ (ks : List (Nat × Nat)) (es : List Ent) (x : Nat × Nat × Ent), x ∈ zipLay ks es → ∃ y ∈ ks, y.1 = x.1
  | [], es, x, h => by cases es <;> simp [zipLay] at h
  | (k, g) :: ks, [], x, h => by simp [zipLay] at h
  | (k, g) :: ks, e :: es, x, h => by
    simp only [zipLay, List.mem_cons] at h
    rcases h with rfl | h
    · exact ⟨(k, g), by simp, rfl⟩
    · obtain ⟨y, h1, h2⟩ := zip_mem ks es x h
      exact ⟨y, by simp [h1], h2⟩

/-- What such a call does. -/
def effB (k g : Nat) (ks : List (Nat × Nat)) (es : List Ent) : PV → Eff
  | .own sz xs => ⟨.row k g xs.length, zipLay ks es ++ [(k, g, .row false sz xs)]⟩
  | r => ⟨r, zipLay ks es⟩
theorem effB_app (s : St) (dst : Option Nat) (k g : Nat) (ks : List (Nat × Nat)) (es : List Ent) (r : PV) : s.app dst (effB k g ks es r) = ({ s with sto := setAll s.sto ks es } : St).back dst k g r := by
  unfold St.app
  by_cases h : ∃ sz xs, r = .own sz xs
  · obtain ⟨sz, xs, rfl⟩ := h
    simp only [effB, lays_app, lays_zip, St.lays, St.back]
    cases dst <;> rfl
  · have e1 : effB k g ks es r = ⟨r, zipLay ks es⟩ := by
      cases r <;> first
        | rfl
        | exact (h ⟨_, _, rfl⟩).elim
    have e2 : ({ s with sto := setAll s.sto ks es } : St).back dst k g r = ({ s with sto := setAll s.sto ks es } : St).put dst r := by
      cases r <;> first
        | rfl
        | exact (h ⟨_, _, rfl⟩).elim
    rw [e1, e2]
    simp only [lays_zip]
    cases dst <;> rfl
theorem effB_lay (k g : Nat) (ks : List (Nat × Nat)) (es : List Ent) (r : PV) : ∀ x ∈ (effB k g ks es r).lay, x.1 = k ∨ ∃ y ∈ ks, y.1 = x.1 := by
  intro x hx
  by_cases h : ∃ sz xs, r = .own sz xs
  · obtain ⟨sz, xs, rfl⟩ := h
    simp only [effB, List.mem_append, List.mem_singleton] at hx
    rcases hx with hx | rfl
    · exact .inr (zip_mem _ _ _ hx)
    · exact .inl rfl
  · have e1 : effB k g ks es r = ⟨r, zipLay ks es⟩ := by
      cases r <;> first
        | rfl
        | exact (h ⟨_, _, rfl⟩).elim
    rw [e1] at hx
    exact .inr (zip_mem _ _ _ hx)

def DoesB (P : Program) (fp : List Nat) (fnd : Sto) (k g f : Nat) (args : List PV) (e : Eff) : Prop :=
  ∃ ks es args' r es', (∀ x ∈ ks, x.1 ∈ fp) ∧ findAll (keyAt ks) ks.length fnd ks es ∧ (ks.map (·.1)).Nodup ∧ extOkL ks.length args' = true ∧ WkL args (instL (keyAt ks) args') ∧ BC P f args' es r es' ∧ (notOwn r || !anyMoves es') = true ∧
    e = effB k g (newKs g ks es') (es'.map (Ent.inst (keyAt (newKs g ks es')))) r

def doesQ (P : Program) (fp : Option (List Nat)) (fnd : Sto) (k g : Nat) (r : Res) (e : Eff) : Prop :=
  match fp, r with
  | some fp, .call f args => DoesB P fp fnd k g f args e
  | _, r => r.does P (fun as => as) e

theorem wpQ_does {P : Program} {fp : Option (List Nat)} {s : St} {dst : Option Nat} {k g : Nat} {K : St → Prop} (r : Res) (h : wpQ P true fp s dst k g r K) : ∃ e, doesQ P fp s.sto k g r e ∧ K (s.app dst e) := by
  cases fp with
  | none => exact Res.wp_does r h
  | some fp =>
    cases r with
    | val v => exact Res.wp_does (P := P) (k := k) (g := g) (.val v) h
    | eff v k' g' e => exact Res.wp_does (P := P) (k := k) (g := g) (.eff v k' g' e) h
    | need p r => exact Res.wp_does (P := P) (k := k) (g := g) (.need p r) h
    | ndet p b => exact Res.wp_does (P := P) (k := k) (g := g) (.ndet p b) h
    | bad => exact Res.wp_does (P := P) (k := k) (g := g) .bad h
    | call f args =>
      obtain ⟨ks, es, args', r, es', h1, h2, h3, h4, h5, h6, h7, h8⟩ := h
      exact ⟨_, ⟨ks, es, args', r, es', h1, h2, h3, h4, h5, h6, h7, rfl⟩, by rw [effB_app]; exact h8⟩
theorem does_wpQ {P : Program} {fp : Option (List Nat)} {s : St} {dst : Option Nat} {k g : Nat} {K : St → Prop} {e : Eff} (r : Res) (h : doesQ P fp s.sto k g r e) (hK : K (s.app dst e)) : wpQ P true fp s dst k g r K := by
  cases fp with
  | none => exact Res.does_wp r h hK
  | some fp =>
    cases r with
    | val v => exact Res.does_wp (P := P) (k := k) (g := g) (.val v) h hK
    | eff v k' g' e => exact Res.does_wp (P := P) (k := k) (g := g) (.eff v k' g' e) h hK
    | need p r => exact Res.does_wp (P := P) (k := k) (g := g) (.need p r) h hK
    | ndet p b => exact Res.does_wp (P := P) (k := k) (g := g) (.ndet p b) h hK
    | bad => exact Res.does_wp (P := P) (k := k) (g := g) .bad h hK
    | call f args =>
      obtain ⟨ks, es, args', r, es', h1, h2, h3, h4, h5, h6, h7, rfl⟩ := h
      exact ⟨ks, es, args', r, es', h1, h2, h3, h4, h5, h6, h7, by rw [← effB_app]; exact hK⟩

end
end Go.Proofs.YtlgjbmgmoaphjaaDoor
