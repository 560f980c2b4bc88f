/- The abstract walk, for its users: what is weaker follows, loops unroll, calls by contract. -/
import Derived.Test.YtafcbjepmjcpgaaAw22
import Derived.Laws.BitsLemmas
namespace Go.Proofs.Ytafcbjepmjcpgaa
set_option linter.unusedSimpArgs false
set_option linter.unusedVariables false
open Go

/-! ### What is weaker follows -/
theorem awp_mono {X : Cx} : ∀ (c : Code) {Q Q' : AExit → St → Prop} (s : St) (_ : ∀ e s, Q e s → Q' e s), awp X c Q s → awp X c Q' s := by
  intro c
  induction c with
  | skip => intro Q Q' s hQ h; exact hQ _ _ h
  | label l => intro Q Q' s hQ h; exact hQ _ _ h
  | exit id => intro Q Q' s hQ h; exact hQ _ _ h
  | goto l => intro Q Q' s hQ h; exact hQ _ _ h
  | ret => intro Q Q' s hQ h; exact hQ _ _ h
  | scope c ih =>
    intro Q Q' s hQ h
    refine ih s ?_ h
    intro e s h
    cases e <;> first
      | exact hQ _ _ h
      | exact h
  | refuse why => intro Q Q' s hQ h; exact h
  | rangeFunc f ps c1 c2 ih1 ih2 => intro Q Q' s hQ h; exact h
  | region id ops draw => intro Q Q' s hQ h; exact opsWp_mono _ _ _ (fun s' h' => hQ _ _ h') h
  | seq x y ihx ihy =>
    intro Q Q' s hQ h
    refine ihx s ?_ h
    intro e s h
    cases e <;> first
      | exact hQ _ _ h
      | exact ihy s hQ h
  | cond v x y ihx ihy =>
    intro Q Q' s hQ h
    simp only [awp, condWp] at h ⊢
    split
    · rename_i b hb
      rw [hb] at h
      simp only at h
      split
      · rename_i hb'; rw [if_pos hb'] at h; exact ihx s hQ h
      · rename_i hb'; rw [if_neg hb'] at h; exact ihy s hQ h
    · rename_i hb
      split at h
      · rename_i b hb'; exact (hb b hb').elim
      · exact h
  | block id c ih =>
    intro Q Q' s hQ h
    refine ih s ?_ h
    intro e s h
    cases e with
    | exit id' =>
      simp only [AExit.inBlock] at h ⊢
      split
      · rename_i he; rw [if_pos he] at h; exact hQ _ _ h
      · rename_i he; rw [if_neg he] at h; exact hQ _ _ h
    | normal => exact hQ _ _ h
    | goto l => exact hQ _ _ h
    | ret => exact hQ _ _ h
  | loop c ih =>
    intro Q Q' s hQ h I hI
    refine h I fun s hs => hI s (ih s ?_ hs)
    intro e s h
    cases e <;> first
      | exact hQ _ _ h
      | exact h

/-! ### Walking -/
theorem awp_seq {X : Cx} {a b : Code} {Q : AExit → St → Prop} {s : St} (h : awp X a (AExit.then (awp X b Q) Q) s) : awp X (.seq a b) Q s := h

/-- A loop: one round, and the loop again. -/
theorem awp_loop {X : Cx} {c : Code} {Q : AExit → St → Prop} {s : St} (h : awp X c (AExit.then (awp X (.loop c) Q) Q) s) : awp X (.loop c) Q s := by
  intro I hI
  refine hI s (awp_mono c s ?_ h)
  intro e s h
  cases e <;> first
    | exact h I hI
    | exact h

theorem awp_block {X : Cx} {id : Nat} {c : Code} {Q : AExit → St → Prop} {s : St} (h : awp X c (AExit.inBlock id Q) s) : awp X (.block id c) Q s := h

theorem awp_scope {X : Cx} {c : Code} {Q : AExit → St → Prop} {s : St} (h : awp X c (AExit.noGoto Q) s) : awp X (.scope c) Q s := h

theorem awp_region {X : Cx} {id : Nat} {ops : Array Oper} {draw : Bool} {Q : AExit → St → Prop} {s : St}
    (h : ∀ (K : Env → Sto → Prop) (m : Nat), (∀ e t, (∀ n, Q .normal ⟨e, t, n⟩) → K e t) → opsWp X.P draw X.nm ops.toList ops.toList 0 s fun s' => K (s'.fin m (X.an id)).env (s'.fin m (X.an id)).sto) : awp X (.region id ops draw) Q s := by
  exact opsWp_mono _ _ _ (fun s' hs' => hs' _) (h (fun e t => ∀ n, Q .normal ⟨e, t, n⟩) ops.size fun e t h => h)

theorem awp_first {X : Cx} {id : Nat} {ops : Array Oper} {draw : Bool} {b : Code} {Q : AExit → St → Prop} {s : St}
    (h : ∀ (K : Env → Sto → Prop) (m : Nat), (∀ e t, (∀ n, awp X b Q ⟨e, t, n⟩) → K e t) → opsWp X.P draw X.nm ops.toList ops.toList 0 s fun s' => K (s'.fin m (X.an id)).env (s'.fin m (X.an id)).sto) : awp X (.seq (.region id ops draw) b) Q s :=
  awp_seq (awp_region h)

theorem then_n {K : St → Prop} {Q : AExit → St → Prop} {s : St} (h : K s) : AExit.then K Q .normal s := h
theorem then_r {K : St → Prop} {Q : AExit → St → Prop} {s : St} (h : Q .ret s) : AExit.then K Q .ret s := h
theorem then_e {K : St → Prop} {Q : AExit → St → Prop} {s : St} {id : Nat} (h : Q (.exit id) s) : AExit.then K Q (.exit id) s := h
theorem block_n {id : Nat} {Q : AExit → St → Prop} {s : St} (h : Q .normal s) : AExit.inBlock id Q .normal s := h
theorem block_r {id : Nat} {Q : AExit → St → Prop} {s : St} (h : Q .ret s) : AExit.inBlock id Q .ret s := h
theorem scope_n {Q : AExit → St → Prop} {s : St} (h : Q .normal s) : AExit.noGoto Q .normal s := h
theorem scope_r {Q : AExit → St → Prop} {s : St} (h : Q .ret s) : AExit.noGoto Q .ret s := h
theorem scope_e {Q : AExit → St → Prop} {s : St} {id : Nat} (h : Q (.exit id) s) : AExit.noGoto Q (.exit id) s := h

theorem awp_cond {X : Cx} {v : Operand} {x y : Code} {Q : AExit → St → Prop} {s : St} {b : Bool} (hv : s.ev v = .bool b) (ht : b = true → awp X x Q s) (hf : b = false → awp X y Q s) : awp X (.cond v x y) Q s := by
  simp only [awp, hv, condWp]
  cases b with
  | true => exact ht rfl
  | false => exact hf rfl

theorem awp_ret {X : Cx} {Q : AExit → St → Prop} {s : St} (h : Q .ret s) : awp X .ret Q s := h
theorem awp_skip {X : Cx} {Q : AExit → St → Prop} {s : St} (h : Q .normal s) : awp X .skip Q s := h
theorem awp_label {X : Cx} {l : Nat} {Q : AExit → St → Prop} {s : St} (h : Q .normal s) : awp X (.label l) Q s := h
theorem awp_exit {X : Cx} {id : Nat} {Q : AExit → St → Prop} {s : St} (h : Q (.exit id) s) : awp X (.exit id) Q s := h
theorem exit_here {id : Nat} {Q : AExit → St → Prop} {s : St} (h : Q .normal s) : AExit.inBlock id Q (.exit id) s := by
  simp only [AExit.inBlock, if_true]; exact h
theorem exit_on {id id' : Nat} {Q : AExit → St → Prop} {s : St} (hn : (id' == id) = false) (h : Q (.exit id') s) : AExit.inBlock id Q (.exit id') s := by
  simp only [AExit.inBlock]; rw [if_neg (by simpa using hn)]; exact h

/-- A loop by what holds ahead of each round, and a number that falls. -/
theorem awp_while {X : Cx} {c : Code} {Q : AExit → St → Prop} (I : Nat → St → Prop) (h : ∀ n s, I n s → awp X c (AExit.then (fun s' => ∃ m, m < n ∧ I m s') Q) s) (n : Nat) {s : St} (h0 : I n s) : awp X (.loop c) Q s := by
  induction n using Nat.strongRecOn generalizing s with
  | _ n ih =>
    refine awp_loop (awp_mono c s ?_ (h n s h0))
    intro e s' h'
    cases e with
    | normal => obtain ⟨m, h1, h2⟩ := h'; exact ih m h1 h2
    | exit id => exact h'
    | goto l => exact h'
    | ret => exact h'

theorem body_ret {rs : List Nat} {r : PV} {s : St} (h : RetOk s (resOf s.env rs) r) : bodyQ rs r [] .ret s := ⟨h, trivial⟩

theorem awp_true {X : Cx} {v : Operand} {x y : Code} {Q : AExit → St → Prop} {s : St} (hv : s.ev v = .bool true) (h : awp X x Q s) : awp X (.cond v x y) Q s := by
  simp only [awp, hv, condWp, if_true]; exact h
theorem awp_false {X : Cx} {v : Operand} {x y : Code} {Q : AExit → St → Prop} {s : St} (hv : s.ev v = .bool false) (h : awp X y Q s) : awp X (.cond v x y) Q s := by
  simp only [awp, hv, condWp, Bool.false_eq_true, if_false]; exact h

/-- Two pieces of code, by what holds between them. -/
theorem awp_mid {X : Cx} {a b : Code} {Q : AExit → St → Prop} {s : St} (M : St → Prop) (h1 : awp X a (AExit.then M Q) s) (h2 : ∀ s, M s → awp X b Q s) : awp X (.seq a b) Q s := by
  refine awp_mono a s ?_ h1
  intro e s' h
  cases e <;> first
    | exact h2 s' h
    | exact h

theorem wk_eq {a b : PV} (h : a = b) : Wk a b := h ▸ .refl _

/-! ### Operations, one by one -/
theorem ev_tmp {s : St} {t : Nat} : s.ev (.tmp t) = s.env.get t := rfl
theorem ev_const {s : St} {v : Value} : s.ev (.const v) = ofConst v := rfl
theorem ev_func {s : St} {f : Nat} : s.ev (.func f) = .fn f [] := rfl

section
variable {P : Program} {q : Bool} {nm : Names} {ops : List Oper}

/-- What follows on what an operation does. -/
def stepWp (P : Program) (q : Bool) (nm : Names) (ops r : List Oper) (i : Nat) (s : St) (dst : Option Nat) (k g : Nat) (res : Res) (K : St → Prop) : Prop :=
  res.wp P q s dst k g fun s' => opsWp P q nm ops r (i + 1) s' K

theorem ops_nil {i : Nat} {s : St} {K : St → Prop} : opsWp P q nm ops [] i s K = K s := propext ⟨fun h => h, fun h => h⟩

theorem ops_run {dst : Option Nat} {op : Op} {ty : Nat} {pos : String} {aft : Array Edge} {r : List Oper} {i : Nat} {s : St} {K : St → Prop} :
    opsWp P q nm ops (⟨dst, op, ty, pos, aft, none⟩ :: r) i s K = ((q = true → laysOp op = true → s.sto.find (keyOf nm dst) = none) ∧ stepWp P q nm ops r i s dst (keyOf nm dst) (s.nx + i) (opRes P q s (keyOf nm dst) (s.nx + i) op) K) := propext ⟨fun h => h, fun h => h⟩

theorem step_val {r : List Oper} {i : Nat} {s : St} {dst : Option Nat} {k g : Nat} {v : PV} {K : St → Prop} : stepWp P q nm ops r i s dst k g (.val v) K = opsWp P q nm ops r (i + 1) (s.put dst v) K := propext ⟨fun h => h, fun h => h⟩
theorem step_eff {r : List Oper} {i : Nat} {s : St} {dst : Option Nat} {k g k' g' : Nat} {v : PV} {e : Ent} {K : St → Prop} : stepWp P q nm ops r i s dst k g (.eff v k' g' e) K = opsWp P q nm ops r (i + 1) ((s.put dst v).set k' g' e) K := propext ⟨fun h => h, fun h => h⟩
theorem step_need {r : List Oper} {i : Nat} {s : St} {dst : Option Nat} {k g : Nat} {p : Prop} {res : Res} {K : St → Prop} : stepWp P q nm ops r i s dst k g (.need p res) K = (p ∧ stepWp P q nm ops r i s dst k g res K) := propext ⟨fun h => h, fun h => h⟩
theorem step_bad {r : List Oper} {i : Nat} {s : St} {dst : Option Nat} {k g : Nat} {K : St → Prop} : stepWp P q nm ops r i s dst k g .bad K = False := propext ⟨fun h => h, fun h => h⟩

def guardVal (ops : List Oper) (s : St) (j : Nat) : PV :=
  match guardSlot ops j with
  | some d => s.env.get d
  | none => .undef

/-- A guarded operation. -/
def guardWp (P : Program) (q : Bool) (nm : Names) (ops : List Oper) (o : Oper) (r : List Oper) (i : Nat) (s : St) (b : PV) (want : Bool) (K : St → Prop) : Prop :=
  match gate want b with
  | some true => opsWp P q nm ops ({ o with guard := none } :: r) i s K
  | some false => opsWp P q nm ops r (i + 1) (s.put o.dst (.tup [])) K
  | none => False

theorem ops_guard {dst : Option Nat} {op : Op} {ty : Nat} {pos : String} {aft : Array Edge} {r : List Oper} {i j : Nat} {want : Bool} {s : St} {K : St → Prop} :
    opsWp P q nm ops (⟨dst, op, ty, pos, aft, some (j, want)⟩ :: r) i s K = guardWp P q nm ops ⟨dst, op, ty, pos, aft, none⟩ r i s (guardVal ops s j) want K := by
  simp only [opsWp, opWp, guardWp, guardVal]
  cases guardSlot ops j <;> rfl

theorem guard_tt {o : Oper} {r : List Oper} {i : Nat} {s : St} {K : St → Prop} : guardWp P q nm ops o r i s (.bool true) true K = opsWp P q nm ops ({ o with guard := none } :: r) i s K := propext ⟨fun h => h, fun h => h⟩
theorem guard_ff {o : Oper} {r : List Oper} {i : Nat} {s : St} {K : St → Prop} : guardWp P q nm ops o r i s (.bool false) false K = opsWp P q nm ops ({ o with guard := none } :: r) i s K := propext ⟨fun h => h, fun h => h⟩
theorem guard_tf {o : Oper} {r : List Oper} {i : Nat} {s : St} {K : St → Prop} : guardWp P q nm ops o r i s (.bool true) false K = opsWp P q nm ops r (i + 1) (s.put o.dst (.tup [])) K := propext ⟨fun h => h, fun h => h⟩
theorem guard_ft {o : Oper} {r : List Oper} {i : Nat} {s : St} {K : St → Prop} : guardWp P q nm ops o r i s (.bool false) true K = opsWp P q nm ops r (i + 1) (s.put o.dst (.tup [])) K := propext ⟨fun h => h, fun h => h⟩

theorem guard_un {o : Oper} {r : List Oper} {i : Nat} {s : St} {K : St → Prop} {want : Bool} : guardWp P q nm ops o r i s (.tup []) want K = opsWp P q nm ops r (i + 1) (s.put o.dst (.tup [])) K := propext ⟨fun h => h, fun h => h⟩

theorem split_f {o : Oper} {r : List Oper} {i : Nat} {s : St} {K : St → Prop} {b : Bool} (h1 : b = false → opsWp P q nm ops ({ o with guard := none } :: r) i s K) (h2 : b = true → opsWp P q nm ops r (i + 1) (s.put o.dst (.tup [])) K) : guardWp P q nm ops o r i s (.bool b) false K := by
  cases b with
  | false => exact h1 rfl
  | true => exact h2 rfl

theorem split_t {o : Oper} {r : List Oper} {i : Nat} {s : St} {K : St → Prop} {b : Bool} (h1 : b = true → opsWp P q nm ops ({ o with guard := none } :: r) i s K) (h2 : b = false → opsWp P q nm ops r (i + 1) (s.put o.dst (.tup [])) K) : guardWp P q nm ops o r i s (.bool b) true K := by
  cases b with
  | false => exact h2 rfl
  | true => exact h1 rfl

/-- A call of what writes nothing of ours. -/
theorem step_call {r : List Oper} {i : Nat} {s : St} {dst : Option Nat} {k g f : Nat} {args args' as : List PV} {v : PV} {ks : List Nat} {K : St → Prop} (hc : PC P f args' v) (ha : args.map (pur1 s.sto.find) = as) (hw : WkL as args') (hp : pureL as = true) (hk : args.flatMap frz1 = ks)
    (hq : (!q || (ks.isEmpty && notOwn v)) = true) (h : opsWp P q nm ops r (i + 1) (({ s with sto := Sto.frz ks s.sto } : St).back dst k g v) K) : stepWp P q nm ops r i s dst k g (.call f args) K := by
  subst ha hk
  refine .inl ⟨args', v, fun hq' => ?_, hp, hw, hc, h⟩
  subst hq'
  simpa using hq

end

/-! ### Weaker -/
theorem WkL.refl : ∀ (l : List PV), WkL l l
  | [] => .nil
  | p :: l => .cons _ _ _ _ (.refl p) (WkL.refl l)

/-! ### Whole numbers -/
theorem wrapI {n : Int} (h : -9223372036854775808 ≤ n ∧ n ≤ 9223372036854775807) : IntKind.wrap .i64 n = n := by
  rw [IntKind.wrap_i64]; omega

theorem body_own {t k g n sz : Nat} {xs ys : List PV} {s : St} (h : s.env.get t = .row k g n) (hk : (decide (k < 1000)) = true) (hf : s.sto.find k = some (g, .row false sz xs)) (hn : n = xs.length) (hx : xs = ys) : bodyQ [t] (.own sz ys) [] .ret s := by
  subst hn hx
  exact ⟨.inr (.inl ⟨k, g, sz, xs, h, of_decide_eq_true hk, hf, rfl⟩), trivial⟩

/-! ### Rows, walked from end to end -/
theorem take_map {α : Type} (f : α → PV) (pre suf : List α) : ((pre ++ suf).map f).take pre.length = pre.map f := by
  rw [List.map_append, List.take_left' (by simp)]

theorem len_le {α : Type} (pre suf : List α) : (pre.length : Int) ≤ ((pre ++ suf).length : Int) := by simp; omega

theorem more {α : Type} {pre suf : List α} (hb : decide ((pre.length : Int) < ((pre ++ suf).length : Int)) = true) : ∃ r s', suf = r :: s' := by
  have := of_decide_eq_true hb
  cases suf with
  | nil => simp at this
  | cons r s' => exact ⟨r, s', rfl⟩

theorem noMore {α : Type} {pre suf : List α} (hb : decide ((pre.length : Int) < ((pre ++ suf).length : Int)) = false) : suf = [] := by
  have := of_decide_eq_false hb
  cases suf with
  | nil => rfl
  | cons r s' => simp at this; omega

theorem at_map {α : Type} (f : α → PV) (pre suf : List α) (r : α) : ((pre ++ r :: suf).map f).getD pre.length .undef = f r := by simp

end Go.Proofs.Ytafcbjepmjcpgaa
