/- Texts of the proof of diffLeastCard -/
import Derived.Test.YtclohbgnaopjfaaDoorAw24
namespace Go.Proofs.YtclohbgnaopjfaaDoor
set_option linter.unusedSimpArgs false
set_option linter.unusedVariables false
open Go
abbrev Str := List UInt8
abbrev w64 (x : Int) : Int := IntKind.wrap .i64 x
section
variable {α β : Type}
def chk (p : Prop) [Decidable p] (x : Option α) : Option α := if p then x else none
def rd (l : List α) (i : Int) : Option α := if 0 ≤ i then l[i.toNat]? else none
def sl (l : List α) (a b : Int) : Option (List α) := if 0 ≤ a ∧ a ≤ b ∧ b ≤ l.length then some ((l.take b.toNat).drop a.toNat) else none
def app (z : Nat) (l ys : List α) : Option (List α) := if (l.length + ys.length) * z ≤ 140737488355328 then some (l ++ ys) else none
def wr (l : List α) (i : Int) (x : α) : Option (List α) := if 0 ≤ i ∧ i < l.length then some (l.set i.toNat x) else none
noncomputable def lim (g : Nat → Option α) : Option α :=
 open Classical in if h : ∃ r, ∃ K, ∀ k, K ≤ k → g k = some r then some h.choose else none
theorem qf {p : Prop} [Decidable p] {x : Option α} {r : α} (h : chk p x = some r) : p ∧ x = some r := by
 unfold chk at h; split at h
 ·exact ⟨by assumption, h⟩
 ·cases h
theorem zf {x : Option α} {f : α → Option β} {r : β} (h : x.bind f = some r) : ∃ y, x = some y ∧ f y = some r := Option.bind_eq_some_iff.1 h
theorem rd_some {l : List α} {i : Int} {x : α} (h : rd l i = some x) : 0 ≤ i ∧ i < (l.length : Int) ∧ l[i.toNat]? = some x := by
 unfold rd at h; split at h
 ·have := (List.getElem?_eq_some_iff.1 h).1
  exact ⟨by assumption, by omega, h⟩
 ·cases h
theorem wN {f : α → PV} {l : List α} {i : Int} {x : α} (h : l[i.toNat]? = some x) : (l.map f).getD i.toNat .undef = f x := by
 simp [List.getD, h]
theorem qG {f : α → PV} {l : List α} {i : Int} {x : α} (h : l[i.toNat]? = some x) : i.toNat < l.length ∧ ¬ l.map f = [] := by
 have := (List.getElem?_eq_some_iff.1 h).1
 refine ⟨this, fun h0 => ?_⟩
 have h1 : l = [] := by simpa using h0
 subst h1
 simp at this
theorem yn {l r : List α} {a b : Int} (h : sl l a b = some r) : (0 ≤ a ∧ a ≤ b ∧ b ≤ (l.length : Int)) ∧ (l.take b.toNat).drop a.toNat = r := by
 unfold sl at h; split at h
 ·exact ⟨by assumption, by simpa using h⟩
 ·cases h
theorem VW {l : List α} {a b : Int} (h : 0 ≤ a ∧ a ≤ b ∧ b ≤ (l.length : Int)) : b.toNat ≤ l.length := by omega
theorem adb {f : α → PV} {l : List α} : (l.map f).take l.length = l.map f := by rw [List.take_of_length_le (by simp)]
theorem alv {f : α → PV} {l : List α} {n : Nat} (h : l.length = n) : (l.map f).take n = l.map f := by subst h; exact adb
theorem as0 {l : List α} {n z m : Nat} (e : l.length = n) (h : n * z ≤ m) : l.length * z ≤ m := by rw [e]; exact h
theorem anm {f : α → PV} {l r : List α} {a b : Nat} (h : (l.take b).drop a = r) : ((l.map f).take b).drop a = r.map f := by
 rw [← h, List.map_drop, List.map_take]
theorem V3 {f : α → PV} {l r : List α} {b : Nat} (h : (l.take b).drop 0 = r) : (l.map f).take b = r.map f := by
 rw [← h, List.drop_zero, List.map_take]
theorem ajR {f : α → PV} {l r : List α} {a : Nat} (h : (l.take l.length).drop a = r) : (l.map f).drop a = r.map f := by
 rw [← h, List.take_length, List.map_drop]
theorem zW {z : Nat} {l ys r : List α} (h : app z l ys = some r) : (l.length + ys.length) * z ≤ 140737488355328 ∧ l ++ ys = r := by
 unfold app at h; split at h
 ·exact ⟨by assumption, by simpa using h⟩
 ·cases h
theorem qM {f : α → PV} {l ys r : List α} (h : l ++ ys = r) : l.map f ++ ys.map f = r.map f := by
 rw [← h, List.map_append]
theorem qL {l ys r : List α} (h : l ++ ys = r) : l.length + ys.length = r.length := by rw [← h, List.length_append]
theorem XC {l r : List α} {i : Int} {x : α} (h : wr l i x = some r) : (0 ≤ i ∧ i < (l.length : Int)) ∧ l.set i.toNat x = r := by
 unfold wr at h; split at h
 ·exact ⟨by assumption, by simpa using h⟩
 ·cases h
theorem abQ {l r : List α} {i : Nat} {x : α} (h : l.set i x = r) : l.length = r.length := by rw [← h, List.length_set]
theorem abY {f : α → PV} {l r : List α} {i : Nat} {x : α} (h : l.set i x = r) : (l.map f).set i (f x) = r.map f := by
 rw [← h, List.map_set]
theorem jH {g : Nat → Option α} {r : α} (h : lim g = some r) : ∃ k, g k = some r := by
 unfold lim at h; split at h
 ·rename_i hh
  obtain ⟨K, hK⟩ := hh.choose_spec
  have := hK K (Nat.le_refl _)
  cases h
  exact ⟨K, this⟩
 ·cases h
theorem ZR {g : Nat → Option α} {r : α} (K : Nat) (h : ∀ k, K ≤ k → g k = some r) : lim g = some r := by
 have hh : ∃ r, ∃ K, ∀ k, K ≤ k → g k = some r := ⟨r, K, h⟩
 unfold lim
 rw [dif_pos hh]
 obtain ⟨K', hK'⟩ := hh.choose_spec
 have h1 := hK' (max K K') (Nat.le_max_right _ _)
 rw [h _ (Nat.le_max_left _ _)] at h1
 exact h1.symm
end
def runes (s : Str) : List Int := (Conv.runesFrom ⟨s.toArray⟩ s.length 0 #[]).toList.map fun | .int _ n => n | _ => 0
abbrev asR (s : Str) (pos : Nat) : Nat := (Utf8.decode ⟨s.toArray⟩ pos).2
def zo (n : Int) : Str := (Utf8.encode n).data.toList
def zN (l : List Int) : Str := l.flatMap zo
theorem abb (b : ByteArray) : ∀ (n i : Nat) (acc : Array Value), (∀ v ∈ acc.toList, ∃ k, v = .int .i32 k) → ∀ v ∈ (Conv.runesFrom b n i acc).toList, ∃ k, v = .int .i32 k
 | 0, i, acc, h => h
 | n + 1, i, acc, h => by
  unfold Conv.runesFrom
  split
  ·refine abb b n _ _ ?_
   intro v hv
   simp only [Array.toList_push, List.mem_append, List.mem_singleton] at hv
   rcases hv with hv | rfl
   ·exact h v hv
   ·exact ⟨_, rfl⟩
  ·exact h
theorem ano (s : Str) : adf s = (runes s).map (PV.int .i32) := by
 unfold adf runes
 rw [List.map_map]
 refine List.map_congr_left fun v hv => ?_
 obtain ⟨k, rfl⟩ := abb _ _ _ _ (by simp) v hv
 rfl
theorem aaZ : ∀ l : List Int, Z8 (l.map (PV.int .i32)) = some (zN l)
 | [] => rfl
 | n :: l => by
  simp only [List.map_cons, Z8, aaZ l]
  rfl
def axd (l : List Int) : Str := l.map fun n => UInt8.ofNat n.toNat
theorem aaY : ∀ l : List Int, ZX (l.map (PV.int .u8)) = some (axd l)
 | [] => rfl
 | n :: l => by
  simp only [List.map_cons, ZX, aaY l]
  rfl
theorem zg {P : Program} {q : Bool} {nm : Names} {ops : List Oper} {r : List Oper} {i : Nat} {s : St} {dst : Option Nat} {k g f : Nat} {args args' : List PV} {v : PV} {ks : List Nat} {K : St → Prop} (hc : PC P f args' v) (hw : WkL (args.map (X0 s.sto.find)) args' ∧ xP (args.map (X0 s.sto.find)) = true) (hk : args.flatMap Yg = ks)
  (hq : (!q || (ks.isEmpty && jO v)) = true) (h : vV P q nm ops r (i + 1) ((({ s with sto := Sto.frz ks s.sto } : St).back dst k g v).QQ q nm.nf dst) K) : Vm P q nm ops r i s dst k g (.call f args) K :=
 apT hc rfl hw.1 hw.2 hk hq h
def agZ (N : St → Prop) (E : Nat → St → Prop) (Rt : St → Prop) : qw → St → Prop
 | .normal, s => N s
 | .exit i, s => E i s
 | .ret, s => Rt s
 | .goto _, _ => False
theorem wU {N : St → Prop} {E : Nat → St → Prop} {Rt : St → Prop} {s : St} (h : N s) : agZ N E Rt .normal s := h
theorem as3 {N : St → Prop} {E : Nat → St → Prop} {Rt : St → Prop} {s : St} {i : Nat} (h : E i s) : agZ N E Rt (.exit i) s := h
theorem QF {N : St → Prop} {E : Nat → St → Prop} {Rt : St → Prop} {s : St} (h : Rt s) : agZ N E Rt .ret s := h
theorem Qv {X : Cx} {c : Code} {K : St → Prop} {Q : qw → St → Prop} {s : St} (N : St → Prop) (E : Nat → St → Prop) (Rt : St → Prop) (h : awp X c (agZ (w9 N) E Rt) s)
  (hN : ∀ s, N s → K s) (hE : ∀ i s, E i s → Q (.exit i) s) (hR : ∀ s, Rt s → Q .ret s) : awp X c (qw.then (w9 K) Q) s :=
 alN c s (fun e s h => match e, h with
  | .normal, ⟨t, hl, h⟩ => ⟨t, hl, hN t h⟩
  | .exit i, h => hE i s h
  | .ret, h => hR s h
  | .goto _, h => h.elim) h
theorem qH {X : Cx} {c : Code} {Q : qw → St → Prop} {s : St} (N : St → Prop) (E : Nat → St → Prop) (Rt : St → Prop) (h : awp X c (agZ N E Rt) s)
  (hN : ∀ s, N s → Q .normal s) (hE : ∀ i s, E i s → Q (.exit i) s) (hR : ∀ s, Rt s → Q .ret s) : awp X c Q s :=
 alN c s (fun e s h => match e, h with
  | .normal, h => hN s h
  | .exit i, h => hE i s h
  | .ret, h => hR s h
  | .goto _, h => h.elim) h
theorem wG {K : St → Prop} {s t : St} (hl : Told s t) (h : w9 K t) : w9 K s := by
 obtain ⟨u, h1, h2⟩ := h
 exact ⟨u, .trans hl h1, h2⟩
theorem qP {N : St → Prop} {E : Nat → St → Prop} {Rt : St → Prop} {s t : St} (hl : Told s t) (h : agZ (w9 N) E Rt .normal t) : agZ (w9 N) E Rt .normal s := wG (K := N) hl h
theorem avr {X : Cx} {c : Code} {Q : qw → St → Prop} {s t : St} (h : awp X c Q t) (he : s = t) : awp X c Q s := he ▸ h
theorem qb {X : Cx} {c : Code} {Q : qw → St → Prop} {s : St} (h : ∀ I : St → Prop, (∀ s, awp X c (qw.then (w9 I) Q) s → I s) → I s) : awp X (.loop c) Q s := ⟨_, .less (.refl s), h⟩
theorem walk_nil {α : Type} {l pre : List α} {i : Int} (h : l = pre ++ []) (hi : i = (pre.length : Int)) : decide (i < (l.length : Int)) = false := by
 subst hi h; simp
theorem qX {α : Type} {f : α → PV} {l pre suf : List α} {x : α} {i : Int} (h : l = pre ++ x :: suf) (hi : i = (pre.length : Int)) (hl : l.length ≤ 9223372036854775807) :
  0 ≤ i ∧ i < (l.length : Int) ∧ (l.map f).getD i.toNat .undef = f x ∧ IntKind.wrap .i64 (i + 1) = i + 1 ∧ decide (i < (l.length : Int)) = true := by
 subst hi h
 simp only [List.length_append, List.length_cons] at hl ⊢
 refine ⟨by omega, by omega, by simp [List.getD], auq (by omega), by simp; omega⟩
theorem apg {P : Program} {rs : List RV} {r : PV} {s : St} (h : match wI P s rs with
  | some vs => Wk (ZQ s.sto.find (vY vs)) r
  | none => False) (h3 : r.pure = true) : zS P rs r [] .ret s := by
 split at h
 ·rename_i vs hv; exact adt hv (.inl ⟨h, h3⟩)
 ·exact h.elim
theorem XB {P : Program} {t k g n sz : Nat} {xs ys : List PV} {s : St} (h : s.env.get t = .row k g n) (hk : (decide (k < 1000)) = true) (hf : s.sto.find k = some (g, .row false sz xs)) (hn : n = xs.length) (hx : xs = ys) : zS P [.tmp t] (.own sz ys) [] .ret s := by
 subst hn hx
 exact adt (vs := [.row k g xs.length]) (by simp only [wI, jU, h]) (.inr (.inl ⟨k, g, sz, xs, rfl, of_decide_eq_true hk, hf, rfl⟩))
abbrev aiw (x y : Int) : Int := IntKind.i64.wrap ((BitVec.ofInt IntKind.i64.bits x &&& BitVec.ofInt IntKind.i64.bits y).toNat : Int)
theorem aso {P : Program} {t k g ty n gr kr sz : Nat} {pre post xs : List PV} {r : PV} {s : St} (h : s.env.get t = .box k g 0) (hk : (decide (k < 1000)) = true) (hk' : (decide (kr < 1000)) = true) (hne : k ≠ kr) (hf : s.sto.find k = some (g, .var ty (pre ++ .row kr gr n :: post)))
  (hf' : s.sto.find kr = some (gr, .row false sz xs)) (hp : xP pre = true) (hp' : xP post = true) (hx : n = xs.length ∧ .acN ty pre sz xs post = r) : zS P [.tmp t] r [] .ret s := by
 obtain ⟨rfl, rfl⟩ := hx
 exact adt (vs := [.box k g 0]) (by simp only [wI, jU, h]) (.inr (.inr (.inr (.inr ⟨k, g, ty, pre, post, kr, gr, sz, xs, rfl, of_decide_eq_true hk, of_decide_eq_true hk', hne, hf, hf', hp, hp', rfl⟩))))
theorem VQ {P : Program} {t sz : Nat} {s : St} (h : s.env.get t = .kD) : zS P [.tmp t] (.own sz []) [] .ret s :=
 adt (vs := [.kD]) (by simp only [wI, jU, h]) (.inr (.inr (.inl ⟨sz, rfl, rfl⟩)))
def qZ (sto : Sto) : List Nat → List (Nat × Nat)
 | [] => []
 | k :: ks => (k, aeO.stampOf (sto.find k)) :: qZ sto ks
theorem Wn (sto : Sto) : ∀ kl : List Nat, (qZ sto kl).map (·.1) = kl
 | [] => rfl
 | k :: ks => by simp only [qZ, List.map_cons, Wn sto ks]
theorem ZP {P : Program} {nm : Names} {ops : List Oper} {r : List Oper} {i : Nat} {s : St} {dst : Option Nat} {k g f : Nat} {args args' : List PV} {v : PV} {es es' : List Ent} {K : St → Prop} (kl : List Nat) (hn : kl.Nodup) (hc : BC P f args' es v es')
  (hf : findAll (qD (qZ s.sto kl)) (qZ s.sto kl).length s.sto (qZ s.sto kl) es ∧ xn (qZ s.sto kl).length args' = true ∧ WkL args (Zy (qD (qZ s.sto kl)) args')) (hm : (jO v || !qE es') = true)
  (h : vV P false nm ops r (i + 1) ((({ s with sto := kg s.sto (zX g (qZ s.sto kl) es') (es'.map (Ent.inst (qD (zX g (qZ s.sto kl) es')))) } : St).back dst k g v).QQ false nm.nf dst) K) : Vm P false nm ops r i s dst k g (.call f args) K :=
 anq (qZ s.sto kl) hc hf.1 (by rw [Wn]; exact hn) hf.2.1 hf.2.2 hm h
theorem Xt {P : Program} {q : Bool} {nm : Names} {ops : List Oper} {r : List Oper} {i : Nat} {s : St} {dst : Option Nat} {k g f : Nat} {args args' : List PV} {v : PV} {es es' : List Ent} {fp : List Nat} {K : St → Prop} (kl : List Nat) (hn : kl.Nodup) (hfp : ∀ x ∈ kl, x ∈ fp) (hc : BC P f args' es v es')
  (hf : findAll (qD (qZ s.sto kl)) (qZ s.sto kl).length s.sto (qZ s.sto kl) es ∧ xn (qZ s.sto kl).length args' = true ∧ WkL args (Zy (qD (qZ s.sto kl)) args')) (hm : ((jO v || !qE es') && amB v) = true) (hQ : Kk fp = false)
  (h : vV P q nm ops r (i + 1) ((({ s with sto := kg s.sto (zX g (qZ s.sto kl) es') (es'.map (Ent.inst (qD (zX g (qZ s.sto kl) es')))) } : St).back dst k g v).QQ q nm.nf dst) K) : ajA P q nm ops r i s dst k g (some fp) (.call f args) K :=
 an2 (qZ s.sto kl) (fun x hx => hfp x.1 (by have h9 : x.1 ∈ (qZ s.sto kl).map (·.1) := List.mem_map.2 ⟨x, hx, rfl⟩; rwa [Wn] at h9)) hc hf.1 (by rw [Wn]; exact hn) hf.2.1 hf.2.2 hm hQ h
theorem abR {P : Program} {q : Bool} {nm : Names} {ops : List Oper} {r : List Oper} {i : Nat} {s : St} {dst : Option Nat} {k g f : Nat} {args args' : List PV} {v : PV} {es : List Ent} {fp : List Nat} {K : St → Prop} (kl : List Nat) (hn : kl.Nodup) (hfp : ∀ x ∈ kl, x ∈ fp) (hc : BC P f args' es v es)
  (hf : findAll (qD (qZ s.sto kl)) (qZ s.sto kl).length s.sto (qZ s.sto kl) es ∧ xn (qZ s.sto kl).length args' = true ∧ WkL args (Zy (qD (qZ s.sto kl)) args')) (hm : (!qE es && amB v) = true) (hQ : Kk fp = true)
  (h : vV P q nm ops r (i + 1) ((s.back dst k g v).QQ q nm.nf dst) K) : ajA P q nm ops r i s dst k g (some fp) (.call f args) K :=
 alZ (qZ s.sto kl) (fun x hx => hfp x.1 (by have h9 : x.1 ∈ (qZ s.sto kl).map (·.1) := List.mem_map.2 ⟨x, hx, rfl⟩; rwa [Wn] at h9)) hc hf.1 (by rw [Wn]; exact hn) hf.2.1 hf.2.2 hm hQ h
theorem vZ {P : Program} {rs : List RV} {r : PV} {s : St} {es' : List Ent} (h : match wI P s rs with
  | some vs => Wk (ZQ s.sto.find (vY vs)) r
  | none => False) (h3 : r.pure = true) (he : aed (qD (aeO s.sto 0 es')) es'.length s.sto 0 (aeO s.sto 0 es') es') : zS P rs r es' .ret s := by
 split at h
 ·rename_i vs hv; exact apk hv (.inl ⟨h, h3⟩) he
 ·exact h.elim
theorem apE {f : Operand} {ts : Array Nat} : (Op.call { callee := .value f, args := #[], argTypes := ts }).operands.toList = [f] := rfl
theorem apD {f x : Operand} {ts : Array Nat} : (Op.call { callee := .value f, args := #[x], argTypes := ts }).operands.toList = [f, x] := rfl
theorem apO {f x y : Operand} {ts : Array Nat} : (Op.call { callee := .value f, args := #[x, y], argTypes := ts }).operands.toList = [f, x, y] := rfl
theorem apr {f x y z : Operand} {ts : Array Nat} : (Op.call { callee := .value f, args := #[x, y, z], argTypes := ts }).operands.toList = [f, x, y, z] := rfl
theorem aqo {f x y z u : Operand} {ts : Array Nat} : (Op.call { callee := .value f, args := #[x, y, z, u], argTypes := ts }).operands.toList = [f, x, y, z, u] := rfl
theorem akV {x : Operand} : (Op.nilCheck x).operands.toList = [x] := rfl
attribute [go_sem] qZ apE apD apO apr aqo akV
attribute [go_sem ↓] reduceIte
attribute [go_sem] reduceCtorEq Nat.reduceEqDiff Nat.reduceAdd Nat.reduceMul Nat.reduceSub Nat.reduceLT Nat.reduceLeDiff Nat.reducePow Nat.reduceBEq Nat.reduceBNe Int.reduceNeg Int.reduceBEq Int.reduceBNe Int.reduceAdd Int.reduceSub Int.reduceMul Int.reduceLT Int.reduceLE Int.reduceToNat Int.reduceEq Int.reduceNe List.take_length adb ano aaZ aaY
section
variable {K : St → Prop} {Q : qw → St → Prop} {s : St} {G : Prop}
theorem amO (f : G → K s) : G → qw.then K Q .normal s := f
theorem al8 (f : G → Q .ret s) : G → qw.then K Q .ret s := f
theorem aly {id : Nat} (f : G → Q (.exit id) s) : G → qw.then K Q (.exit id) s := f
theorem ajw {id : Nat} (f : G → Q .normal s) : G → qw.inBlock id Q .normal s := f
theorem ajm {id : Nat} (f : G → Q .ret s) : G → qw.inBlock id Q .ret s := f
theorem ae4 {id : Nat} (f : G → Q .normal s) : G → qw.inBlock id Q (.exit id) s := fun g => ap9 (f g)
theorem ai4 {id id' : Nat} (hn : (id' == id) = false) (f : G → Q (.exit id') s) : G → qw.inBlock id Q (.exit id') s := fun g => atu hn (f g)
theorem aiF (f : G → Q .normal s) : G → qw.noGoto Q .normal s := f
theorem aiD (f : G → Q .ret s) : G → qw.noGoto Q .ret s := f
theorem aiq {id : Nat} (f : G → Q (.exit id) s) : G → qw.noGoto Q (.exit id) s := f
theorem avZ {X : Cx} {c : Code} (f : G → awp X c Q s) : G → w9 (awp X c Q) s := fun g => ku (f g)
end
theorem nmx {A G : Prop} (h : G) (t : G → A := by (repeat (with_reducible first | apply amO | apply al8 | apply aly | apply ajw | apply ajm | apply ae4 | apply ai4 rfl | apply aiF | apply aiD | apply aiq | apply avZ)); exact id) : A := t h
theorem nmy {A G : Prop} (h : G) (t : G → A := by (repeat (with_reducible first | apply amO | apply al8 | apply aly | apply ajw | apply ajm | apply ae4 | apply ai4 rfl | apply aiF | apply aiD | apply aiq)); exact id) : A := t h
theorem sd {p q : Prop} (h : q) (hp : p := by first | assumption | (try simp only [List.length_append, List.length_cons, List.length_nil] at *; omega)) : p ∧ q := ⟨hp, h⟩
theorem wkl {G : Prop} (t : G := by (repeat (first | exact WkL.refl _ | exact Wk.refl _ | exact Wk.nil _ | refine WkL.cons _ _ _ _ ?_ ?_ | exact WkL.nil | refine Wk.agg _ _ ?_ | refine Wk.tup _ _ ?_))) : G := t
theorem wkb {G : Prop} (t : G := by (repeat (with_reducible first | exact trivial | exact rfl | exact WkL.refl _ | exact Wk.refl _ | exact Wk.nil _ | refine And.intro ?_ ?_ | refine WkL.cons _ _ _ _ ?_ ?_ | exact WkL.nil | refine Wk.agg _ _ ?_ | refine Wk.tup _ _ ?_))) : G := t
theorem wkw {G : Prop} (t : G := by (repeat (first | exact Wk.refl _ | exact WkL.refl _ | exact Wk.nil _ | refine Wk.agg _ _ ?_ | refine Wk.tup _ _ ?_ | refine WkL.cons _ _ _ _ ?_ ?_ | exact WkL.nil))) : G := t
theorem zy {P : Program} {rs : List RV} {r : PV} {s : St} (h : match wI P s rs with
  | some vs => Wk (ZQ s.sto.find (vY vs)) r
  | none => False := by simp only [go_sem, wI, jU, kP, vY, ZQ, List.map_cons, List.map_append, List.head?_cons]; (repeat (first | exact Wk.refl _ | exact WkL.refl _ | exact Wk.nil _ | refine Wk.agg _ _ ?_ | refine Wk.tup _ _ ?_ | refine WkL.cons _ _ _ _ ?_ ?_ | exact WkL.nil))) (h3 : r.pure = true := by rfl) : zS P rs r [] .ret s := apg h h3
end Go.Proofs.YtclohbgnaopjfaaDoor
