/- Texts of the proof of stepThroughCard -/
import Derived.Test.YtclohbgnaopjfaaDoorAw24
namespace Go.Proofs.YtclohbgnaopjfaaDoor
set_option linter.unusedSimpArgs false
set_option linter.unusedVariables false
open Go
abbrev Str := List UInt8
abbrev w64 (x : Int) : Int := IntKind.wrap .i64 x
section
variable {α β : Type}
def chk (p : Prop) [Decidable p] (x : Option α) : Option α := if p then x else none
def rd (l : List α) (i : Int) : Option α := if 0 ≤ i then l[i.toNat]? else none
def sl (l : List α) (a b : Int) : Option (List α) := if 0 ≤ a ∧ a ≤ b ∧ b ≤ l.length then some ((l.take b.toNat).drop a.toNat) else none
def app (z : Nat) (l ys : List α) : Option (List α) := if (l.length + ys.length) * z ≤ 140737488355328 then some (l ++ ys) else none
def wr (l : List α) (i : Int) (x : α) : Option (List α) := if 0 ≤ i ∧ i < l.length then some (l.set i.toNat x) else none
noncomputable def lim (g : Nat → Option α) : Option α :=
  open Classical in if h : ∃ r, ∃ K, ∀ k, K ≤ k → g k = some r then some h.choose else none
theorem qa {p : Prop} [Decidable p] {x : Option α} {r : α} (h : chk p x = some r) : p ∧ x = some r := by
  unfold chk at h; split at h
  · exact ⟨by assumption, h⟩
  · cases h
theorem ze {x : Option α} {f : α → Option β} {r : β} (h : x.bind f = some r) : ∃ y, x = some y ∧ f y = some r := Option.bind_eq_some_iff.1 h
theorem rd_some {l : List α} {i : Int} {x : α} (h : rd l i = some x) : 0 ≤ i ∧ i < (l.length : Int) ∧ l[i.toNat]? = some x := by
  unfold rd at h; split at h
  · have := (List.getElem?_eq_some_iff.1 h).1
    exact ⟨by assumption, by omega, h⟩
  · cases h
theorem vD {f : α → PV} {l : List α} {i : Int} {x : α} (h : l[i.toNat]? = some x) : (l.map f).getD i.toNat .undef = f x := by
  simp [List.getD, h]
theorem wY {f : α → PV} {l : List α} {i : Int} {x : α} (h : l[i.toNat]? = some x) : i.toNat < l.length ∧ ¬ l.map f = [] := by
  have := (List.getElem?_eq_some_iff.1 h).1
  refine ⟨this, fun h0 => ?_⟩
  have h1 : l = [] := by simpa using h0
  subst h1
  simp at this
theorem Wm {l r : List α} {a b : Int} (h : sl l a b = some r) : (0 ≤ a ∧ a ≤ b ∧ b ≤ (l.length : Int)) ∧ (l.take b.toNat).drop a.toNat = r := by
  unfold sl at h; split at h
  · exact ⟨by assumption, by simpa using h⟩
  · cases h
theorem aaB {l : List α} {a b : Int} (h : 0 ≤ a ∧ a ≤ b ∧ b ≤ (l.length : Int)) : b.toNat ≤ l.length := by omega
theorem abV {f : α → PV} {l : List α} : (l.map f).take l.length = l.map f := by rw [List.take_of_length_le (by simp)]
theorem ak9 {f : α → PV} {l : List α} {n : Nat} (h : l.length = n) : (l.map f).take n = l.map f := by subst h; exact abV
theorem ap6 {l : List α} {n z m : Nat} (e : l.length = n) (h : n * z ≤ m) : l.length * z ≤ m := by rw [e]; exact h
theorem atp {f : α → PV} {l r : List α} {a b : Nat} (h : (l.take b).drop a = r) : ((l.map f).take b).drop a = r.map f := by
  rw [← h, List.map_drop, List.map_take]
theorem YW {f : α → PV} {l r : List α} {b : Nat} (h : (l.take b).drop 0 = r) : (l.map f).take b = r.map f := by
  rw [← h, List.drop_zero, List.map_take]
theorem akr {f : α → PV} {l r : List α} {a : Nat} (h : (l.take l.length).drop a = r) : (l.map f).drop a = r.map f := by
  rw [← h, List.take_length, List.map_drop]
theorem z8 {z : Nat} {l ys r : List α} (h : app z l ys = some r) : (l.length + ys.length) * z ≤ 140737488355328 ∧ l ++ ys = r := by
  unfold app at h; split at h
  · exact ⟨by assumption, by simpa using h⟩
  · cases h
theorem qO {f : α → PV} {l ys r : List α} (h : l ++ ys = r) : l.map f ++ ys.map f = r.map f := by
  rw [← h, List.map_append]
theorem qQ {l ys r : List α} (h : l ++ ys = r) : l.length + ys.length = r.length := by rw [← h, List.length_append]
theorem Y3 {l r : List α} {i : Int} {x : α} (h : wr l i x = some r) : (0 ≤ i ∧ i < (l.length : Int)) ∧ l.set i.toNat x = r := by
  unfold wr at h; split at h
  · exact ⟨by assumption, by simpa using h⟩
  · cases h
theorem adq {l r : List α} {i : Nat} {x : α} (h : l.set i x = r) : l.length = r.length := by rw [← h, List.length_set]
theorem adS {f : α → PV} {l r : List α} {i : Nat} {x : α} (h : l.set i x = r) : (l.map f).set i (f x) = r.map f := by
  rw [← h, List.map_set]
theorem y8 {g : Nat → Option α} {r : α} (h : lim g = some r) : ∃ k, g k = some r := by
  unfold lim at h; split at h
  · rename_i hh
    obtain ⟨K, hK⟩ := hh.choose_spec
    have := hK K (Nat.le_refl _)
    cases h
    exact ⟨K, this⟩
  · cases h
theorem VM {g : Nat → Option α} {r : α} (K : Nat) (h : ∀ k, K ≤ k → g k = some r) : lim g = some r := by
  have hh : ∃ r, ∃ K, ∀ k, K ≤ k → g k = some r := ⟨r, K, h⟩
  unfold lim
  rw [dif_pos hh]
  obtain ⟨K', hK'⟩ := hh.choose_spec
  have h1 := hK' (max K K') (Nat.le_max_right _ _)
  rw [h _ (Nat.le_max_left _ _)] at h1
  exact h1.symm
end
def runes (s : Str) : List Int := (Conv.runesFrom ⟨s.toArray⟩ s.length 0 #[]).toList.map fun | .int _ n => n | _ => 0
abbrev apT (s : Str) (pos : Nat) : Nat := (Utf8.decode ⟨s.toArray⟩ pos).2
def zo (n : Int) : Str := (Utf8.encode n).data.toList
def zK (l : List Int) : Str := l.flatMap zo
theorem aaW (b : ByteArray) : ∀ (n i : Nat) (acc : Array Value), (∀ v ∈ acc.toList, ∃ k, v = .int .i32 k) → ∀ v ∈ (Conv.runesFrom b n i acc).toList, ∃ k, v = .int .i32 k
  | 0, i, acc, h => h
  | n + 1, i, acc, h => by
    unfold Conv.runesFrom
    split
    · refine aaW b n _ _ ?_
      intro v hv
      simp only [Array.toList_push, List.mem_append, List.mem_singleton] at hv
      rcases hv with hv | rfl
      · exact h v hv
      · exact ⟨_, rfl⟩
    · exact h
theorem amt (s : Str) : acy s = (runes s).map (PV.int .i32) := by
  unfold acy runes
  rw [List.map_map]
  refine List.map_congr_left fun v hv => ?_
  obtain ⟨k, rfl⟩ := aaW _ _ _ _ (by simp) v hv
  rfl
theorem aaR : ∀ l : List Int, ZL (l.map (PV.int .i32)) = some (zK l)
  | [] => rfl
  | n :: l => by
    simp only [List.map_cons, ZL, aaR l]
    rfl
def avE (l : List Int) : Str := l.map fun n => UInt8.ofNat n.toNat
theorem aae : ∀ l : List Int, ZT (l.map (PV.int .u8)) = some (avE l)
  | [] => rfl
  | n :: l => by
    simp only [List.map_cons, ZT, aae l]
    rfl
theorem zf {P : Program} {q : Bool} {nm : Names} {ops : List Oper} {r : List Oper} {i : Nat} {s : St} {dst : Option Nat} {k g f : Nat} {args args' : List PV} {v : PV} {ks : List Nat} {K : St → Prop} (hc : PC P f args' v) (hw : WkL (args.map (XD s.sto.find)) args' ∧ xW (args.map (XD s.sto.find)) = true) (hk : args.flatMap Yc = ks)
    (hq : (!q || (ks.isEmpty && jJ v)) = true) (h : vL P q nm ops r (i + 1) ((({ s with sto := Sto.frz ks s.sto } : St).back dst k g v).QG q nm.nf dst) K) : KI P q nm ops r i s dst k g (.call f args) K :=
  aoR hc rfl hw.1 hw.2 hk hq h
def agU (N : St → Prop) (E : Nat → St → Prop) (Rt : St → Prop) : qp → St → Prop
  | .normal, s => N s
  | .exit i, s => E i s
  | .ret, s => Rt s
  | .goto _, _ => False
theorem kg {N : St → Prop} {E : Nat → St → Prop} {Rt : St → Prop} {s : St} (h : N s) : agU N E Rt .normal s := h
theorem arP {N : St → Prop} {E : Nat → St → Prop} {Rt : St → Prop} {s : St} {i : Nat} (h : E i s) : agU N E Rt (.exit i) s := h
theorem xZ {N : St → Prop} {E : Nat → St → Prop} {Rt : St → Prop} {s : St} (h : Rt s) : agU N E Rt .ret s := h
theorem Vd {X : Cx} {c : Code} {K : St → Prop} {Q : qp → St → Prop} {s : St} (N : St → Prop) (E : Nat → St → Prop) (Rt : St → Prop) (h : awp X c (agU (wS N) E Rt) s)
    (hN : ∀ s, N s → K s) (hE : ∀ i s, E i s → Q (.exit i) s) (hR : ∀ s, Rt s → Q .ret s) : awp X c (qp.then (wS K) Q) s :=
  akD c s (fun e s h => match e, h with
    | .normal, ⟨t, hl, h⟩ => ⟨t, hl, hN t h⟩
    | .exit i, h => hE i s h
    | .ret, h => hR s h
    | .goto _, h => h.elim) h
theorem qx {X : Cx} {c : Code} {Q : qp → St → Prop} {s : St} (N : St → Prop) (E : Nat → St → Prop) (Rt : St → Prop) (h : awp X c (agU N E Rt) s)
    (hN : ∀ s, N s → Q .normal s) (hE : ∀ i s, E i s → Q (.exit i) s) (hR : ∀ s, Rt s → Q .ret s) : awp X c Q s :=
  akD c s (fun e s h => match e, h with
    | .normal, h => hN s h
    | .exit i, h => hE i s h
    | .ret, h => hR s h
    | .goto _, h => h.elim) h
theorem qR {K : St → Prop} {s t : St} (hl : Told s t) (h : wS K t) : wS K s := by
  obtain ⟨u, h1, h2⟩ := h
  exact ⟨u, .trans hl h1, h2⟩
theorem qC {N : St → Prop} {E : Nat → St → Prop} {Rt : St → Prop} {s t : St} (hl : Told s t) (h : agU (wS N) E Rt .normal t) : agU (wS N) E Rt .normal s := qR (K := N) hl h
theorem atE {X : Cx} {c : Code} {Q : qp → St → Prop} {s t : St} (h : awp X c Q t) (he : s = t) : awp X c Q s := he ▸ h
theorem qo {X : Cx} {c : Code} {Q : qp → St → Prop} {s : St} (h : ∀ I : St → Prop, (∀ s, awp X c (qp.then (wS I) Q) s → I s) → I s) : awp X (.loop c) Q s := ⟨_, .less (.refl s), h⟩
theorem walk_nil {α : Type} {l pre : List α} {i : Int} (h : l = pre ++ []) (hi : i = (pre.length : Int)) : decide (i < (l.length : Int)) = false := by
  subst hi h; simp
theorem qD {α : Type} {f : α → PV} {l pre suf : List α} {x : α} {i : Int} (h : l = pre ++ x :: suf) (hi : i = (pre.length : Int)) (hl : l.length ≤ 9223372036854775807) :
    0 ≤ i ∧ i < (l.length : Int) ∧ (l.map f).getD i.toNat .undef = f x ∧ IntKind.wrap .i64 (i + 1) = i + 1 ∧ decide (i < (l.length : Int)) = true := by
  subst hi h
  simp only [List.length_append, List.length_cons] at hl ⊢
  refine ⟨by omega, by omega, by simp [List.getD], as9 (by omega), by simp; omega⟩
theorem aoB {P : Program} {rs : List RV} {r : PV} {s : St} (h : match qV P s rs with
    | some vs => Wk (yl s.sto.find (kM vs)) r
    | none => False) (h3 : r.pure = true) : zS P rs r [] .ret s := by
  split at h
  · rename_i vs hv; exact agx hv (.inl ⟨h, h3⟩)
  · exact h.elim
theorem YT {P : Program} {t k g n sz : Nat} {xs ys : List PV} {s : St} (h : s.env.get t = .row k g n) (hk : (decide (k < 1000)) = true) (hf : s.sto.find k = some (g, .row false sz xs)) (hn : n = xs.length) (hx : xs = ys) : zS P [.tmp t] (.own sz ys) [] .ret s := by
  subst hn hx
  exact agx (vs := [.row k g xs.length]) (by simp only [qV, jf, h]) (.inr (.inl ⟨k, g, sz, xs, rfl, of_decide_eq_true hk, hf, rfl⟩))
abbrev aiG (x y : Int) : Int := IntKind.i64.wrap ((BitVec.ofInt IntKind.i64.bits x &&& BitVec.ofInt IntKind.i64.bits y).toNat : Int)
theorem XK {P : Program} {t sz : Nat} {s : St} (h : s.env.get t = .kK) : zS P [.tmp t] (.own sz []) [] .ret s :=
  agx (vs := [.kK]) (by simp only [qV, jf, h]) (.inr (.inr (.inl ⟨sz, rfl, rfl⟩)))
def qM (sto : Sto) : List Nat → List (Nat × Nat)
  | [] => []
  | k :: ks => (k, aes.stampOf (sto.find k)) :: qM sto ks
theorem QW (sto : Sto) : ∀ kl : List Nat, (qM sto kl).map (·.1) = kl
  | [] => rfl
  | k :: ks => by simp only [qM, List.map_cons, QW sto ks]
theorem xc {P : Program} {nm : Names} {ops : List Oper} {r : List Oper} {i : Nat} {s : St} {dst : Option Nat} {k g f : Nat} {args args' : List PV} {v : PV} {es es' : List Ent} {K : St → Prop} (kl : List Nat) (hn : kl.Nodup) (hc : BC P f args' es v es')
    (hf : findAll (qA (qM s.sto kl)) (qM s.sto kl).length s.sto (qM s.sto kl) es ∧ jZ (qM s.sto kl).length args' = true ∧ WkL args (Zu (qA (qM s.sto kl)) args')) (hm : (jJ v || !qz es') = true)
    (h : vL P false nm ops r (i + 1) ((({ s with sto := wW s.sto (zU g (qM s.sto kl) es') (es'.map (Ent.inst (qA (zU g (qM s.sto kl) es')))) } : St).back dst k g v).QG false nm.nf dst) K) : KI P false nm ops r i s dst k g (.call f args) K :=
  am7 (qM s.sto kl) hc hf.1 (by rw [QW]; exact hn) hf.2.1 hf.2.2 hm h
theorem abm {P : Program} {q : Bool} {nm : Names} {ops : List Oper} {r : List Oper} {i : Nat} {s : St} {dst : Option Nat} {k g f : Nat} {args args' : List PV} {v : PV} {es es' : List Ent} {fp : List Nat} {K : St → Prop} (kl : List Nat) (hn : kl.Nodup) (hfp : ∀ x ∈ kl, x ∈ fp) (hc : BC P f args' es v es')
    (hf : findAll (qA (qM s.sto kl)) (qM s.sto kl).length s.sto (qM s.sto kl) es ∧ jZ (qM s.sto kl).length args' = true ∧ WkL args (Zu (qA (qM s.sto kl)) args')) (hm : ((jJ v || !qz es') && ak2 v) = true) (hQ : WO fp = false)
    (h : vL P q nm ops r (i + 1) ((({ s with sto := wW s.sto (zU g (qM s.sto kl) es') (es'.map (Ent.inst (qA (zU g (qM s.sto kl) es')))) } : St).back dst k g v).QG q nm.nf dst) K) : aiF P q nm ops r i s dst k g (some fp) (.call f args) K :=
  amW (qM s.sto kl) (fun x hx => hfp x.1 (by have h9 : x.1 ∈ (qM s.sto kl).map (·.1) := List.mem_map.2 ⟨x, hx, rfl⟩; rwa [QW] at h9)) hc hf.1 (by rw [QW]; exact hn) hf.2.1 hf.2.2 hm hQ h
theorem abE {P : Program} {q : Bool} {nm : Names} {ops : List Oper} {r : List Oper} {i : Nat} {s : St} {dst : Option Nat} {k g f : Nat} {args args' : List PV} {v : PV} {es : List Ent} {fp : List Nat} {K : St → Prop} (kl : List Nat) (hn : kl.Nodup) (hfp : ∀ x ∈ kl, x ∈ fp) (hc : BC P f args' es v es)
    (hf : findAll (qA (qM s.sto kl)) (qM s.sto kl).length s.sto (qM s.sto kl) es ∧ jZ (qM s.sto kl).length args' = true ∧ WkL args (Zu (qA (qM s.sto kl)) args')) (hm : (!qz es && ak2 v) = true) (hQ : WO fp = true)
    (h : vL P q nm ops r (i + 1) ((s.back dst k g v).QG q nm.nf dst) K) : aiF P q nm ops r i s dst k g (some fp) (.call f args) K :=
  als (qM s.sto kl) (fun x hx => hfp x.1 (by have h9 : x.1 ∈ (qM s.sto kl).map (·.1) := List.mem_map.2 ⟨x, hx, rfl⟩; rwa [QW] at h9)) hc hf.1 (by rw [QW]; exact hn) hf.2.1 hf.2.2 hm hQ h
theorem ku {P : Program} {rs : List RV} {r : PV} {s : St} {es' : List Ent} (h : match qV P s rs with
    | some vs => Wk (yl s.sto.find (kM vs)) r
    | none => False) (h3 : r.pure = true) (he : adH (qA (aes s.sto 0 es')) es'.length s.sto 0 (aes s.sto 0 es') es') : zS P rs r es' .ret s := by
  split at h
  · rename_i vs hv; exact aps hv (.inl ⟨h, h3⟩) he
  · exact h.elim
theorem aoI {f : Operand} {ts : Array Nat} : (Op.call { callee := .value f, args := #[], argTypes := ts }).operands.toList = [f] := rfl
theorem apr {f x : Operand} {ts : Array Nat} : (Op.call { callee := .value f, args := #[x], argTypes := ts }).operands.toList = [f, x] := rfl
theorem apz {f x y : Operand} {ts : Array Nat} : (Op.call { callee := .value f, args := #[x, y], argTypes := ts }).operands.toList = [f, x, y] := rfl
theorem aor {f x y z : Operand} {ts : Array Nat} : (Op.call { callee := .value f, args := #[x, y, z], argTypes := ts }).operands.toList = [f, x, y, z] := rfl
theorem aoq {f x y z u : Operand} {ts : Array Nat} : (Op.call { callee := .value f, args := #[x, y, z, u], argTypes := ts }).operands.toList = [f, x, y, z, u] := rfl
theorem akn {x : Operand} : (Op.nilCheck x).operands.toList = [x] := rfl
attribute [go_sem] qM aoI apr apz aor aoq akn
attribute [go_sem ↓] reduceIte
attribute [go_sem] reduceCtorEq Nat.reduceEqDiff Nat.reduceAdd Nat.reduceMul Nat.reduceSub Nat.reduceLT Nat.reduceLeDiff Nat.reducePow Nat.reduceBEq Nat.reduceBNe Int.reduceNeg Int.reduceBEq Int.reduceBNe Int.reduceAdd Int.reduceSub Int.reduceMul Int.reduceLT Int.reduceLE Int.reduceToNat Int.reduceEq Int.reduceNe List.take_length abV amt aaR aae
section
variable {K : St → Prop} {Q : qp → St → Prop} {s : St} {G : Prop}
theorem alm (f : G → K s) : G → qp.then K Q .normal s := f
theorem alU (f : G → Q .ret s) : G → qp.then K Q .ret s := f
theorem alL {id : Nat} (f : G → Q (.exit id) s) : G → qp.then K Q (.exit id) s := f
theorem aiE {id : Nat} (f : G → Q .normal s) : G → qp.inBlock id Q .normal s := f
theorem aij {id : Nat} (f : G → Q .ret s) : G → qp.inBlock id Q .ret s := f
theorem aeH {id : Nat} (f : G → Q .normal s) : G → qp.inBlock id Q (.exit id) s := fun g => aox (f g)
theorem ait {id id' : Nat} (hn : (id' == id) = false) (f : G → Q (.exit id') s) : G → qp.inBlock id Q (.exit id') s := fun g => aso hn (f g)
theorem aic (f : G → Q .normal s) : G → qp.noGoto Q .normal s := f
theorem ain (f : G → Q .ret s) : G → qp.noGoto Q .ret s := f
theorem aiq {id : Nat} (f : G → Q (.exit id) s) : G → qp.noGoto Q (.exit id) s := f
theorem avu {X : Cx} {c : Code} (f : G → awp X c Q s) : G → wS (awp X c Q) s := fun g => wT (f g)
end
theorem nmx {A G : Prop} (h : G) (t : G → A := by (repeat (with_reducible first | apply alm | apply alU | apply alL | apply aiE | apply aij | apply aeH | apply ait rfl | apply aic | apply ain | apply aiq | apply avu)); exact id) : A := t h
theorem nmy {A G : Prop} (h : G) (t : G → A := by (repeat (with_reducible first | apply alm | apply alU | apply alL | apply aiE | apply aij | apply aeH | apply ait rfl | apply aic | apply ain | apply aiq)); exact id) : A := t h
theorem sd {p q : Prop} (h : q) (hp : p := by first | assumption | (try simp only [List.length_append, List.length_cons, List.length_nil] at *; omega)) : p ∧ q := ⟨hp, h⟩
theorem wkl {G : Prop} (t : G := by (repeat (first | exact WkL.refl _ | exact Wk.refl _ | exact Wk.nil _ | refine WkL.cons _ _ _ _ ?_ ?_ | exact WkL.nil | refine Wk.agg _ _ ?_ | refine Wk.tup _ _ ?_))) : G := t
theorem wkb {G : Prop} (t : G := by (repeat (with_reducible first | exact trivial | exact rfl | exact WkL.refl _ | exact Wk.refl _ | exact Wk.nil _ | refine And.intro ?_ ?_ | refine WkL.cons _ _ _ _ ?_ ?_ | exact WkL.nil | refine Wk.agg _ _ ?_ | refine Wk.tup _ _ ?_))) : G := t
theorem wkw {G : Prop} (t : G := by (repeat (first | exact Wk.refl _ | exact WkL.refl _ | exact Wk.nil _ | refine Wk.agg _ _ ?_ | refine Wk.tup _ _ ?_ | refine WkL.cons _ _ _ _ ?_ ?_ | exact WkL.nil))) : G := t
theorem zy {P : Program} {rs : List RV} {r : PV} {s : St} (h : match qV P s rs with
    | some vs => Wk (yl s.sto.find (kM vs)) r
    | none => False := by simp only [go_sem, qV, jf, wP, kM, yl, List.map_cons, List.map_append, List.head?_cons]; (repeat (first | exact Wk.refl _ | exact WkL.refl _ | exact Wk.nil _ | refine Wk.agg _ _ ?_ | refine Wk.tup _ _ ?_ | refine WkL.cons _ _ _ _ ?_ ?_ | exact WkL.nil))) (h3 : r.pure = true := by rfl) : zS P rs r [] .ret s := aoB h h3
end Go.Proofs.YtclohbgnaopjfaaDoor
