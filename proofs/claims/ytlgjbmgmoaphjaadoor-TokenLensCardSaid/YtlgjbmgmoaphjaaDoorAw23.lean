/- The abstract walk, for its users: what is weaker follows, loops unroll, calls by contract. -/
import Derived.Test.YtlgjbmgmoaphjaaDoorAw22
import Derived.Laws.BitsLemmas
namespace Go.Proofs.YtlgjbmgmoaphjaaDoor
set_option linter.unusedSimpArgs false
set_option linter.unusedVariables false
open Go

/-! ### What is weaker follows -/
theorem awp_mono {X : Cx} : ∀ (c : Code) {Q Q' : AExit → St → Prop} (s : St) (_ : ∀ e s, Q e s → Q' e s), awp X c Q s → awp X c Q' s := by
  intro c
  induction c with
  | skip => intro Q Q' s hQ h; exact hQ _ _ h
  | label l => intro Q Q' s hQ h; exact hQ _ _ h
  | exit id => intro Q Q' s hQ h; exact hQ _ _ h
  | goto l => intro Q Q' s hQ h; exact hQ _ _ h
  | ret => intro Q Q' s hQ h; exact hQ _ _ h
  | scope c ih =>
    intro Q Q' s hQ h
    refine ih s ?_ h
    intro e s h
    cases e <;> first
      | exact hQ _ _ h
      | exact h
  | refuse why => intro Q Q' s hQ h; exact h
  | rangeFunc f ps c1 c2 ih1 ih2 => intro Q Q' s hQ h; exact h
  | region id ops draw => intro Q Q' s hQ h; obtain ⟨t, hl, h⟩ := h; exact ⟨t, hl, opsWp_mono _ _ _ (fun s' h' => hQ _ _ h') h⟩
  | seq x y ihx ihy =>
    intro Q Q' s hQ h
    refine ihx s ?_ h
    intro e s h
    cases e <;> first
      | exact hQ _ _ h
      | (obtain ⟨t, hl, h⟩ := h; exact ⟨t, hl, ihy t hQ h⟩)
  | cond v x y ihx ihy =>
    intro Q Q' s hQ h
    simp only [awp, condWp] at h ⊢
    split
    · rename_i b hb
      rw [hb] at h
      simp only at h
      split
      · rename_i hb'; rw [if_pos hb'] at h; exact ihx s hQ h
      · rename_i hb'; rw [if_neg hb'] at h; exact ihy s hQ h
    · rename_i hb
      split at h
      · rename_i b hb'; exact (hb b hb').elim
      · exact h
  | block id c ih =>
    intro Q Q' s hQ h
    refine ih s ?_ h
    intro e s h
    cases e with
    | exit id' =>
      simp only [AExit.inBlock] at h ⊢
      split
      · rename_i he; rw [if_pos he] at h; exact hQ _ _ h
      · rename_i he; rw [if_neg he] at h; exact hQ _ _ h
    | normal => exact hQ _ _ h
    | goto l => exact hQ _ _ h
    | ret => exact hQ _ _ h
  | loop c ih =>
    intro Q Q' s hQ h
    obtain ⟨t, hl, h⟩ := h
    refine ⟨t, hl, fun I hI => ?_⟩
    refine h I fun s hs => hI s (ih s ?_ hs)
    intro e s h
    cases e <;> first
      | exact hQ _ _ h
      | exact h

theorem Less.refl (s : St) : Less s s := ⟨fun _ => .inl rfl, fun _ _ h => h, rfl⟩
theorem Less.trans {s t u : St} (h : Less s t) (h' : Less t u) : Less s u :=
  ⟨fun i => by rcases h'.env i with h1 | h1
               · rw [h1]; exact h.env i
               · exact .inr h1, fun k v hv => h.sto k v (h'.sto k v hv), h'.nx.trans h.nx⟩
theorem less_cut (s : St) (l ks : List Nat) : Less s (s.cut l ks) := ⟨fun i => keepEnv_get _ _ i, fun k v h => keepSto_find _ _ k v h, rfl⟩
theorem cut_id {K : St → Prop} {s : St} (h : K s) : CutTo K s := ⟨s, .less (.refl s), h⟩
theorem cut_to {K : St → Prop} {s t : St} (hl : Less s t) (h : K t) : CutTo K s := ⟨t, .less hl, h⟩
theorem cut_awp {X : Cx} {c : Code} {Q : AExit → St → Prop} {s : St} (h : awp X c Q s) : CutTo (awp X c Q) s := ⟨s, .less (.refl s), h⟩

/-! ### Walking -/
theorem awp_seq {X : Cx} {a b : Code} {Q : AExit → St → Prop} {s : St} (h : awp X a (AExit.then (CutTo (awp X b Q)) Q) s) : awp X (.seq a b) Q s := h

theorem awp_block {X : Cx} {id : Nat} {c : Code} {Q : AExit → St → Prop} {s : St} (h : awp X c (AExit.inBlock id Q) s) : awp X (.block id c) Q s := h

theorem awp_scope {X : Cx} {c : Code} {Q : AExit → St → Prop} {s : St} (h : awp X c (AExit.noGoto Q) s) : awp X (.scope c) Q s := h

theorem awp_region {X : Cx} {id : Nat} {ops : Array Oper} {draw : Bool} {Q : AExit → St → Prop} {s : St}
    (h : ∀ (K : Env → Sto → Prop) (m : Nat), (∀ e t, (∀ n, Q .normal ⟨e, t, n⟩) → K e t) → opsWp X.P draw X.nm ops.toList ops.toList 0 s fun s' => K (s'.fin m (X.an id)).env (s'.fin m (X.an id)).sto) : awp X (.region id ops draw) Q s := by
  exact ⟨s, .less (.refl s), opsWp_mono _ _ _ (fun s' hs' => hs' _) (h (fun e t => ∀ n, Q .normal ⟨e, t, n⟩) ops.size fun e t h => h)⟩

/-- Ahead of a region what is there may be told otherwise. -/
theorem region_fact {X : Cx} {id : Nat} {ops : Array Oper} {draw : Bool} {Q : AExit → St → Prop} {s : St} (x : FAct) (h : awp X (.region id ops draw) Q (s.fact x)) : awp X (.region id ops draw) Q s := by
  obtain ⟨t, hl, h⟩ := h
  exact ⟨t, .trans (.fact s x) hl, h⟩
theorem first_fact {X : Cx} {id : Nat} {ops : Array Oper} {draw : Bool} {b : Code} {Q : AExit → St → Prop} {s : St} (x : FAct) (h : awp X (.seq (.region id ops draw) b) Q (s.fact x)) : awp X (.seq (.region id ops draw) b) Q s :=
  region_fact (Q := AExit.then (CutTo (awp X b Q)) Q) x h

theorem awp_first {X : Cx} {id : Nat} {ops : Array Oper} {draw : Bool} {b : Code} {Q : AExit → St → Prop} {s : St}
    (h : ∀ (K : Env → Sto → Prop) (m : Nat), (∀ e t, (∀ n, awp X b Q ⟨e, t, n⟩) → K e t) → opsWp X.P draw X.nm ops.toList ops.toList 0 s fun s' => K (s'.fin m (X.an id)).env (s'.fin m (X.an id)).sto) : awp X (.seq (.region id ops draw) b) Q s :=
  awp_seq (awp_region fun K m hK => h K m fun e t he => hK e t fun n => cut_id (he n))

theorem then_n {K : St → Prop} {Q : AExit → St → Prop} {s : St} (h : K s) : AExit.then K Q .normal s := h
theorem then_r {K : St → Prop} {Q : AExit → St → Prop} {s : St} (h : Q .ret s) : AExit.then K Q .ret s := h
theorem then_e {K : St → Prop} {Q : AExit → St → Prop} {s : St} {id : Nat} (h : Q (.exit id) s) : AExit.then K Q (.exit id) s := h
theorem block_n {id : Nat} {Q : AExit → St → Prop} {s : St} (h : Q .normal s) : AExit.inBlock id Q .normal s := h
theorem block_r {id : Nat} {Q : AExit → St → Prop} {s : St} (h : Q .ret s) : AExit.inBlock id Q .ret s := h
theorem scope_n {Q : AExit → St → Prop} {s : St} (h : Q .normal s) : AExit.noGoto Q .normal s := h
theorem scope_r {Q : AExit → St → Prop} {s : St} (h : Q .ret s) : AExit.noGoto Q .ret s := h
theorem scope_e {Q : AExit → St → Prop} {s : St} {id : Nat} (h : Q (.exit id) s) : AExit.noGoto Q (.exit id) s := h

theorem awp_cond {X : Cx} {v : Operand} {x y : Code} {Q : AExit → St → Prop} {s : St} {b : Bool} (hv : s.ev v = .bool b) (ht : b = true → awp X x Q s) (hf : b = false → awp X y Q s) : awp X (.cond v x y) Q s := by
  simp only [awp, hv, condWp]
  cases b with
  | true => exact ht rfl
  | false => exact hf rfl

theorem awp_ret {X : Cx} {Q : AExit → St → Prop} {s : St} (h : Q .ret s) : awp X .ret Q s := h
theorem awp_skip {X : Cx} {Q : AExit → St → Prop} {s : St} (h : Q .normal s) : awp X .skip Q s := h
theorem awp_label {X : Cx} {l : Nat} {Q : AExit → St → Prop} {s : St} (h : Q .normal s) : awp X (.label l) Q s := h
theorem awp_exit {X : Cx} {id : Nat} {Q : AExit → St → Prop} {s : St} (h : Q (.exit id) s) : awp X (.exit id) Q s := h
theorem exit_here {id : Nat} {Q : AExit → St → Prop} {s : St} (h : Q .normal s) : AExit.inBlock id Q (.exit id) s := by
  simp only [AExit.inBlock, if_true]; exact h
theorem exit_on {id id' : Nat} {Q : AExit → St → Prop} {s : St} (hn : (id' == id) = false) (h : Q (.exit id') s) : AExit.inBlock id Q (.exit id') s := by
  simp only [AExit.inBlock]; rw [if_neg (by simpa using hn)]; exact h

theorem body_ret {P : Program} {rs : List RV} {r : PV} {s : St} {vs : List PV} (hv : rvsRes P s rs = some vs) (h : RetOk s (tupOf vs) r) : bodyR P rs r [] .ret s := by
  show bodyK P rs r [] s
  unfold bodyK
  rw [hv]
  exact ⟨h, [], trivial⟩

/-- The keys that were handed over, and the stamps that they bear. -/
def endKs (sto : Sto) : Nat → List Ent → List (Nat × Nat)
  | _, [] => []
  | i, _ :: es => (extKey i, stampOf (sto.find (extKey i))) :: endKs sto (i + 1) es
where stampOf : Option (Nat × Ent) → Nat
  | some (g, _) => g
  | none => 0

theorem body_retB {P : Program} {rs : List RV} {r : PV} {s : St} {vs : List PV} {es' : List Ent} (hv : rvsRes P s rs = some vs) (h : RetOk s (tupOf vs) r) (he : entsOk (keyAt (endKs s.sto 0 es')) es'.length s.sto 0 (endKs s.sto 0 es') es') : bodyR P rs r es' .ret s := by
  show bodyK P rs r es' s
  unfold bodyK
  rw [hv]
  exact ⟨h, _, he⟩
/-- The end of a body without 'return'. -/
theorem body_end {P : Program} {rs : List RV} {r : PV} {s : St} {es' : List Ent} (h : bodyR P rs r es' .ret s) : bodyR P rs r es' .normal s := cut_id (K := bodyK P rs r es') h
theorem body_less {P : Program} {rs : List RV} {r : PV} {s t : St} {es' : List Ent} (hl : Told s t) (h : bodyR P rs r es' .normal t) : bodyR P rs r es' .normal s := by
  obtain ⟨u, h1, h2⟩ := h
  exact ⟨u, .trans hl h1, h2⟩

theorem awp_true {X : Cx} {v : Operand} {x y : Code} {Q : AExit → St → Prop} {s : St} (hv : s.ev v = .bool true) (h : awp X x Q s) : awp X (.cond v x y) Q s := by
  simp only [awp, hv, condWp, if_true]; exact h
theorem awp_false {X : Cx} {v : Operand} {x y : Code} {Q : AExit → St → Prop} {s : St} (hv : s.ev v = .bool false) (h : awp X y Q s) : awp X (.cond v x y) Q s := by
  simp only [awp, hv, condWp, Bool.false_eq_true, if_false]; exact h

theorem wk_eq {a b : PV} (h : a = b) : Wk a b := h ▸ .refl _

/-! ### Operations, one by one -/
theorem ev_tmp {s : St} {t : Nat} : s.ev (.tmp t) = s.env.get t := rfl
theorem ev_const {s : St} {v : Value} : s.ev (.const v) = ofConst v := rfl
theorem ev_func {s : St} {f : Nat} : s.ev (.func f) = .fn f [] := rfl

section
variable {P : Program} {q : Bool} {nm : Names} {ops : List Oper}

/-- What follows on what an operation does. -/
def stepWp (P : Program) (q : Bool) (nm : Names) (ops r : List Oper) (i : Nat) (s : St) (dst : Option Nat) (k g : Nat) (res : Res) (K : St → Prop) : Prop :=
  res.wp P q s dst k g fun s' => opsWp P q nm ops r (i + 1) (s'.actq q nm.nf dst) K

/-- The same where a call may touch keys of a footprint. -/
def stepQ (P : Program) (q : Bool) (nm : Names) (ops r : List Oper) (i : Nat) (s : St) (dst : Option Nat) (k g : Nat) (fp : Option (List Nat)) (res : Res) (K : St → Prop) : Prop :=
  wpQ P q fp s dst k g res fun s' => opsWp P q nm ops r (i + 1) (s'.actq q nm.nf dst) K
theorem stepQ_none {r : List Oper} {i : Nat} {s : St} {dst : Option Nat} {k g : Nat} {res : Res} {K : St → Prop} : stepQ P q nm ops r i s dst k g none res K = stepWp P q nm ops r i s dst k g res K := propext ⟨fun h => h, fun h => h⟩
theorem fOf_f {op : Op} {dst : Option Nat} : fOf false nm op dst = none := rfl
theorem fOf_t {op : Op} {dst : Option Nat} : fOf true nm op dst = callF nm op dst := rfl

theorem ops_nil {i : Nat} {s : St} {K : St → Prop} : opsWp P q nm ops [] i s K = K s := propext ⟨fun h => h, fun h => h⟩

theorem ops_run {dst : Option Nat} {op : Op} {ty : Nat} {pos : String} {aft : Array Edge} {r : List Oper} {i : Nat} {s : St} {K : St → Prop} :
    opsWp P q nm ops (⟨dst, op, ty, pos, aft, none⟩ :: r) i s K = ((q = true → laysOp op = true → s.sto.find (keyOf nm dst) = none) ∧ fpOk q nm ⟨dst, op, ty, pos, aft, none⟩ s ∧ stepQ P q nm ops r i s dst (keyOf nm dst) (s.nx + i) (fOf q nm op dst) (shutq q (nfD nm dst) op (opRes P q s (keyOf nm dst) (s.nx + i) op)) K) := propext ⟨fun h => h, fun h => h⟩

theorem shutq_f {l : Nf} {op : Op} {r : Res} : shutq false l op r = r := by unfold shutq; split <;> simp_all
theorem shutq_n {q : Bool} {op : Op} {r : Res} : shutq q [] op r = r := by unfold shutq; split <;> simp_all
theorem shutq_b {x : Option Nat} {l : Nf} {t n : Nat} {p : Array (Nat × Operand)} {r : Res} : shutq true (x :: l) (.buildSlice t n p) r = r.shut := rfl
theorem shutq_a {x : Option Nat} {l : Nf} {as : Array Operand} {ts : Array Nat} {r : Res} : shutq true (x :: l) (.call { callee := .builtin .append, args := as, argTypes := ts }) r = r.shut := rfl
theorem nfD_some {nm : Names} {d : Nat} : nfD nm (some d) = nfOf nm.nf d := rfl
theorem nfD_none {nm : Names} : nfD nm none = [] := rfl

theorem step_val {r : List Oper} {i : Nat} {s : St} {dst : Option Nat} {k g : Nat} {v : PV} {K : St → Prop} : stepWp P q nm ops r i s dst k g (.val v) K = opsWp P q nm ops r (i + 1) ((s.put dst v).actq q nm.nf dst) K := propext ⟨fun h => h, fun h => h⟩
theorem step_eff {r : List Oper} {i : Nat} {s : St} {dst : Option Nat} {k g k' g' : Nat} {v : PV} {e : Ent} {K : St → Prop} : stepWp P q nm ops r i s dst k g (.eff v k' g' e) K = opsWp P q nm ops r (i + 1) (((s.put dst v).set k' g' e).actq q nm.nf dst) K := propext ⟨fun h => h, fun h => h⟩
theorem step_need {r : List Oper} {i : Nat} {s : St} {dst : Option Nat} {k g : Nat} {p : Prop} {res : Res} {K : St → Prop} : stepWp P q nm ops r i s dst k g (.need p res) K = (p ∧ stepWp P q nm ops r i s dst k g res K) := propext ⟨fun h => h, fun h => h⟩
theorem step_ndet {r : List Oper} {i : Nat} {s : St} {dst : Option Nat} {k g : Nat} {p : Prop} {b : Bool} {K : St → Prop} : stepWp P q nm ops r i s dst k g (.ndet p b) K = (q = false ∧ (p → opsWp P q nm ops r (i + 1) ((s.put dst (.bool b)).actq q nm.nf dst) K) ∧ opsWp P q nm ops r (i + 1) ((s.put dst (.bool !b)).actq q nm.nf dst) K) := propext ⟨fun h => h, fun h => h⟩
theorem step_bad {r : List Oper} {i : Nat} {s : St} {dst : Option Nat} {k g : Nat} {K : St → Prop} : stepWp P q nm ops r i s dst k g .bad K = False := propext ⟨fun h => h, fun h => h⟩

def guardVal (ops : List Oper) (s : St) (j : Nat) : PV :=
  match guardSlot ops j with
  | some d => s.env.get d
  | none => .undef

/-- A guarded operation. -/
def guardWp (P : Program) (q : Bool) (nm : Names) (ops : List Oper) (o : Oper) (r : List Oper) (i : Nat) (s : St) (b : PV) (want : Bool) (K : St → Prop) : Prop :=
  match gate want b with
  | some true => opsWp P q nm ops ({ o with guard := none } :: r) i s K
  | some false => opsWp P q nm ops r (i + 1) (s.put o.dst (.tup [])) K
  | none => False

theorem ops_guard {dst : Option Nat} {op : Op} {ty : Nat} {pos : String} {aft : Array Edge} {r : List Oper} {i j : Nat} {want : Bool} {s : St} {K : St → Prop} :
    opsWp P q nm ops (⟨dst, op, ty, pos, aft, some (j, want)⟩ :: r) i s K = guardWp P q nm ops ⟨dst, op, ty, pos, aft, none⟩ r i s (guardVal ops s j) want K := by
  simp only [opsWp, opWp, guardWp, guardVal]
  cases guardSlot ops j <;> rfl

theorem guard_tt {o : Oper} {r : List Oper} {i : Nat} {s : St} {K : St → Prop} : guardWp P q nm ops o r i s (.bool true) true K = opsWp P q nm ops ({ o with guard := none } :: r) i s K := propext ⟨fun h => h, fun h => h⟩
theorem guard_ff {o : Oper} {r : List Oper} {i : Nat} {s : St} {K : St → Prop} : guardWp P q nm ops o r i s (.bool false) false K = opsWp P q nm ops ({ o with guard := none } :: r) i s K := propext ⟨fun h => h, fun h => h⟩
theorem guard_tf {o : Oper} {r : List Oper} {i : Nat} {s : St} {K : St → Prop} : guardWp P q nm ops o r i s (.bool true) false K = opsWp P q nm ops r (i + 1) (s.put o.dst (.tup [])) K := propext ⟨fun h => h, fun h => h⟩
theorem guard_ft {o : Oper} {r : List Oper} {i : Nat} {s : St} {K : St → Prop} : guardWp P q nm ops o r i s (.bool false) true K = opsWp P q nm ops r (i + 1) (s.put o.dst (.tup [])) K := propext ⟨fun h => h, fun h => h⟩

theorem guard_un {o : Oper} {r : List Oper} {i : Nat} {s : St} {K : St → Prop} {want : Bool} : guardWp P q nm ops o r i s (.tup []) want K = opsWp P q nm ops r (i + 1) (s.put o.dst (.tup [])) K := propext ⟨fun h => h, fun h => h⟩

theorem split_f {o : Oper} {r : List Oper} {i : Nat} {s : St} {K : St → Prop} {b : Bool} (h1 : b = false → opsWp P q nm ops ({ o with guard := none } :: r) i s K) (h2 : b = true → opsWp P q nm ops r (i + 1) (s.put o.dst (.tup [])) K) : guardWp P q nm ops o r i s (.bool b) false K := by
  cases b with
  | false => exact h1 rfl
  | true => exact h2 rfl

theorem split_t {o : Oper} {r : List Oper} {i : Nat} {s : St} {K : St → Prop} {b : Bool} (h1 : b = true → opsWp P q nm ops ({ o with guard := none } :: r) i s K) (h2 : b = false → opsWp P q nm ops r (i + 1) (s.put o.dst (.tup [])) K) : guardWp P q nm ops o r i s (.bool b) true K := by
  cases b with
  | false => exact h2 rfl
  | true => exact h1 rfl

/-- A call of what writes nothing of ours. -/
theorem step_call {r : List Oper} {i : Nat} {s : St} {dst : Option Nat} {k g f : Nat} {args args' as : List PV} {v : PV} {ks : List Nat} {K : St → Prop} (hc : PC P f args' v) (ha : args.map (pur1 s.sto.find) = as) (hw : WkL as args') (hp : pureL as = true) (hk : args.flatMap frz1 = ks)
    (hq : (!q || (ks.isEmpty && notOwn v)) = true) (h : opsWp P q nm ops r (i + 1) ((({ s with sto := Sto.frz ks s.sto } : St).back dst k g v).actq q nm.nf dst) K) : stepWp P q nm ops r i s dst k g (.call f args) K := by
  subst ha hk
  refine .inl ⟨args', v, fun hq' => ?_, hp, hw, hc, h⟩
  subst hq'
  simpa using hq

/-- A call of what writes behind keys that are handed over. -/
theorem step_callB {r : List Oper} {i : Nat} {s : St} {dst : Option Nat} {k g f : Nat} {args args' : List PV} {v : PV} {es es' : List Ent} {K : St → Prop} (ks : List (Nat × Nat)) (hc : BC P f args' es v es') (hf : findAll (keyAt ks) ks.length s.sto ks es) (hn : (ks.map (·.1)).Nodup)
    (he : extOkL ks.length args' = true) (hw : WkL args (instL (keyAt ks) args')) (hm : (notOwn v || !anyMoves es') = true)
    (h : opsWp P false nm ops r (i + 1) ((({ s with sto := setAll s.sto (newKs g ks es') (es'.map (Ent.inst (keyAt (newKs g ks es')))) } : St).back dst k g v).actq false nm.nf dst) K) : stepWp P false nm ops r i s dst k g (.call f args) K :=
  .inr ⟨rfl, ks, es, args', v, es', hf, hn, he, hw, hc, hm, h⟩

/-- The same in a region that draws its order: keys of the footprint. -/
theorem step_callQ {r : List Oper} {i : Nat} {s : St} {dst : Option Nat} {k g f : Nat} {args args' : List PV} {v : PV} {es es' : List Ent} {fp : List Nat} {K : St → Prop} (ks : List (Nat × Nat)) (hfp : ∀ x ∈ ks, x.1 ∈ fp) (hc : BC P f args' es v es') (hf : findAll (keyAt ks) ks.length s.sto ks es) (hn : (ks.map (·.1)).Nodup)
    (he : extOkL ks.length args' = true) (hw : WkL args (instL (keyAt ks) args')) (hm : (notOwn v || !anyMoves es') = true)
    (h : opsWp P q nm ops r (i + 1) ((({ s with sto := setAll s.sto (newKs g ks es') (es'.map (Ent.inst (keyAt (newKs g ks es')))) } : St).back dst k g v).actq q nm.nf dst) K) : stepQ P q nm ops r i s dst k g (some fp) (.call f args) K :=
  ⟨ks, es, args', v, es', hfp, hf, hn, he, hw, hc, hm, h⟩

end

theorem fpOk_f {nm : Names} {o : Oper} {s : St} : fpOk false nm o s = True := rfl
theorem fpOk_t {nm : Names} {o : Oper} {s : St} : fpOk true nm o s = fpOk2 o s (fpOf nm.fp o.dst) := rfl
theorem fpOk2_n {o : Oper} {s : St} : fpOk2 o s none = True := rfl
theorem fpOk2_s {o : Oper} {s : St} {F : List Nat} : fpOk2 o s (some F) = (topsIn F s o.op.operands.toList = true) := rfl
theorem fpOf_n {fp : List (Nat × List Nat)} : fpOf fp none = none := rfl
theorem fpOf_s {fp : List (Nat × List Nat)} {d : Nat} : fpOf fp (some d) = fpIn fp d := rfl
theorem opd_slice0 {t : Nat} {x : Operand} : (Op.slice t x none none none).operands.toList = [x] := rfl
theorem opd_slice1 {t : Nat} {x y : Operand} : (Op.slice t x (some y) none none).operands.toList = [x, y] := rfl
theorem opd_slice2 {t : Nat} {x y : Operand} : (Op.slice t x none (some y) none).operands.toList = [x, y] := rfl
theorem opd_slice3 {t : Nat} {x y z : Operand} : (Op.slice t x (some y) (some z) none).operands.toList = [x, y, z] := rfl
theorem opd_load {t : Nat} {x : Operand} : (Op.load t x).operands.toList = [x] := rfl
theorem opd_conv {a b : Nat} {x : Operand} : (Op.convert a b x).operands.toList = [x] := rfl
theorem opd_field {t f : Nat} {x : Operand} : (Op.fieldAddr t x f).operands.toList = [x] := rfl
theorem opd_index {t : Nat} {x i : Operand} : (Op.indexAddr t x i).operands.toList = [x, i] := rfl
theorem opd_append {x y : Operand} {ts : Array Nat} : (Op.call { callee := .builtin .append, args := #[x, y], argTypes := ts }).operands.toList = [x, y] := rfl
theorem fpIn_n {d : Nat} : fpIn [] d = none := rfl
theorem fpIn_c {j d : Nat} {l : List Nat} {r : List (Nat × List Nat)} : fpIn ((j, l) :: r) d = if d = j then some l else fpIn r d := rfl
theorem actq_t {nf : List (Nat × Nf)} {d : Option Nat} {s : St} : s.actq true nf d = s := rfl
theorem actq_none {nf : List (Nat × Nf)} {s : St} : s.actq false nf none = s := rfl
theorem actq_some {nf : List (Nat × Nf)} {d : Nat} {s : St} : s.actq false nf (some d) = s.act2 d (nfOf nf d) := rfl
theorem act2_nil {d : Nat} {s : St} : s.act2 d [] = s := rfl
theorem act2_cons {d : Nat} {x : Option Nat} {l : Nf} {s : St} : s.act2 d (x :: l) = s.act1 d (x :: l) := rfl
theorem nfOf_nil {d : Nat} : nfOf [] d = [] := rfl
theorem nfOf_cons {j d : Nat} {l : Nf} {r : List (Nat × Nf)} : nfOf ((j, l) :: r) d = if d = j then l else nfOf r d := rfl

/-! ### Weaker -/
theorem WkL.refl : ∀ (l : List PV), WkL l l
  | [] => .nil
  | p :: l => .cons _ _ _ _ (.refl p) (WkL.refl l)

/-! ### A row that is handed over and not written any more -/
theorem PC.list {P : Program} {f : Nat} {args : List PV} {sz : Nat} {xs : List PV} (h : PC P f args (.own sz xs)) : PC P f args (.list sz xs) := by
  obtain ⟨h1, h2, h3⟩ := h
  refine ⟨h1, h2, fun H w ss vs ha hg hl hb hd he hr => ?_⟩
  refine (h3 H w ss vs ha hg hl hb hd he hr).mono fun e w' ⟨v, H', ss', e1, e2, e3, e4, e5, eM, e6, e7⟩ => ?_
  have hss : ss = [] := List.eq_nil_of_length_eq_zero (by simpa using hl)
  subst hss
  obtain ⟨g1, g2⟩ := e7
  rcases g2 with ⟨rfl, rfl⟩ | ⟨b, cap, us, rest, t, k1, k2, rfl, k4, k5, k6, k7, k8⟩
  · exact ⟨_, H', ss', e1, e2, e3, e4, e5, eM, by simp, .listNil _ _ _ _⟩
  · refine ⟨_, fun b' => if b' = b then some (us ++ rest).toArray else H' b', ss', e1, fun b' c hc => ?_, fun b' c hc => ?_, fun b' c hc => ?_, e5, eM, by simp, ?_⟩
    · show (if b' = b then some (us ++ rest).toArray else H' b') = some c
      rw [if_neg (fun hbb => by subst hbb; have := e2 _ _ hc; rw [k2] at this; cases this)]
      exact e2 _ _ hc
    · simp only at hc
      split at hc
      · rename_i hbb
        subst hbb
        cases hc
        exact ⟨t, (0, 0), k4⟩
      · exact e3 _ _ hc
    · simp only at hc
      split at hc
      · rename_i hbb
        subst hbb
        exact .inr k1
      · exact e4 _ _ hc
    · refine Rep.list _ b 0 xs.length cap sz (us ++ rest).toArray us xs (by simp) rfl k8 g1 k5 (fun i hi => ?_) (k6.mono (fun b' c hc => ?_) (.refl _))
      · simp [List.getElem?_append_left hi]
      · show (if b' = b then some (us ++ rest).toArray else H' b') = some c
        rw [if_neg (fun hbb => by subst hbb; rw [k2] at hc; cases hc)]
        exact hc

/-! ### Whole numbers -/
theorem wrapI {n : Int} (h : -9223372036854775808 ≤ n ∧ n ≤ 9223372036854775807) : IntKind.wrap .i64 n = n := by
  rw [IntKind.wrap_i64]; omega

/-! ### Rows, walked from end to end -/
theorem take_map {α : Type} (f : α → PV) (pre suf : List α) : ((pre ++ suf).map f).take pre.length = pre.map f := by
  rw [List.map_append, List.take_left' (by simp)]

theorem len_le {α : Type} (pre suf : List α) : (pre.length : Int) ≤ ((pre ++ suf).length : Int) := by simp; omega

theorem more {α : Type} {pre suf : List α} (hb : decide ((pre.length : Int) < ((pre ++ suf).length : Int)) = true) : ∃ r s', suf = r :: s' := by
  have := of_decide_eq_true hb
  cases suf with
  | nil => simp at this
  | cons r s' => exact ⟨r, s', rfl⟩

theorem noMore {α : Type} {pre suf : List α} (hb : decide ((pre.length : Int) < ((pre ++ suf).length : Int)) = false) : suf = [] := by
  have := of_decide_eq_false hb
  cases suf with
  | nil => rfl
  | cons r s' => simp at this; omega

theorem at_map {α : Type} (f : α → PV) (pre suf : List α) (r : α) : ((pre ++ r :: suf).map f).getD pre.length .undef = f r := by simp

end Go.Proofs.YtlgjbmgmoaphjaaDoor
