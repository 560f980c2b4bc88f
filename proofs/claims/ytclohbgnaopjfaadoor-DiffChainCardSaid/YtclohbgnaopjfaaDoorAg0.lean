/- Texts of the proof of diffChainCard -/
import Derived.Test.YtclohbgnaopjfaaDoorAw24
namespace Go.Proofs.YtclohbgnaopjfaaDoor
set_option linter.unusedSimpArgs false
set_option linter.unusedVariables false
open Go
abbrev Str := List UInt8
abbrev w64 (x : Int) : Int := IntKind.wrap .i64 x
section
variable {α β : Type}
def chk (p : Prop) [Decidable p] (x : Option α) : Option α := if p then x else none
def rd (l : List α) (i : Int) : Option α := if 0 ≤ i then l[i.toNat]? else none
def sl (l : List α) (a b : Int) : Option (List α) := if 0 ≤ a ∧ a ≤ b ∧ b ≤ l.length then some ((l.take b.toNat).drop a.toNat) else none
def app (z : Nat) (l ys : List α) : Option (List α) := if (l.length + ys.length) * z ≤ 140737488355328 then some (l ++ ys) else none
def wr (l : List α) (i : Int) (x : α) : Option (List α) := if 0 ≤ i ∧ i < l.length then some (l.set i.toNat x) else none
noncomputable def lim (g : Nat → Option α) : Option α :=
 open Classical in if h : ∃ r, ∃ K, ∀ k, K ≤ k → g k = some r then some h.choose else none
theorem qf {p : Prop} [Decidable p] {x : Option α} {r : α} (h : chk p x = some r) : p ∧ x = some r := by
 unfold chk at h; split at h
 ·exact ⟨by assumption, h⟩
 ·cases h
theorem zf {x : Option α} {f : α → Option β} {r : β} (h : x.bind f = some r) : ∃ y, x = some y ∧ f y = some r := Option.bind_eq_some_iff.1 h
theorem rd_some {l : List α} {i : Int} {x : α} (h : rd l i = some x) : 0 ≤ i ∧ i < (l.length : Int) ∧ l[i.toNat]? = some x := by
 unfold rd at h; split at h
 ·have := (List.getElem?_eq_some_iff.1 h).1
  exact ⟨by assumption, by omega, h⟩
 ·cases h
theorem kE {f : α → PV} {l : List α} {i : Int} {x : α} (h : l[i.toNat]? = some x) : (l.map f).getD i.toNat .undef = f x := by
 simp [List.getD, h]
theorem wo {f : α → PV} {l : List α} {i : Int} {x : α} (h : l[i.toNat]? = some x) : i.toNat < l.length ∧ ¬ l.map f = [] := by
 have := (List.getElem?_eq_some_iff.1 h).1
 refine ⟨this, fun h0 => ?_⟩
 have h1 : l = [] := by simpa using h0
 subst h1
 simp at this
theorem yP {l r : List α} {a b : Int} (h : sl l a b = some r) : (0 ≤ a ∧ a ≤ b ∧ b ≤ (l.length : Int)) ∧ (l.take b.toNat).drop a.toNat = r := by
 unfold sl at h; split at h
 ·exact ⟨by assumption, by simpa using h⟩
 ·cases h
theorem Jn {l : List α} {a b : Int} (h : 0 ≤ a ∧ a ≤ b ∧ b ≤ (l.length : Int)) : b.toNat ≤ l.length := by omega
theorem adg {f : α → PV} {l : List α} : (l.map f).take l.length = l.map f := by rw [List.take_of_length_le (by simp)]
theorem ank {f : α → PV} {l : List α} {n : Nat} (h : l.length = n) : (l.map f).take n = l.map f := by subst h; exact adg
theorem as1 {l : List α} {n z m : Nat} (e : l.length = n) (h : n * z ≤ m) : l.length * z ≤ m := by rw [e]; exact h
theorem ap6 {f : α → PV} {l r : List α} {a b : Nat} (h : (l.take b).drop a = r) : ((l.map f).take b).drop a = r.map f := by
 rw [← h, List.map_drop, List.map_take]
theorem JD {f : α → PV} {l r : List α} {b : Nat} (h : (l.take b).drop 0 = r) : (l.map f).take b = r.map f := by
 rw [← h, List.drop_zero, List.map_take]
theorem alI {f : α → PV} {l r : List α} {a : Nat} (h : (l.take l.length).drop a = r) : (l.map f).drop a = r.map f := by
 rw [← h, List.take_length, List.map_drop]
theorem zV {z : Nat} {l ys r : List α} (h : app z l ys = some r) : (l.length + ys.length) * z ≤ 140737488355328 ∧ l ++ ys = r := by
 unfold app at h; split at h
 ·exact ⟨by assumption, by simpa using h⟩
 ·cases h
theorem qI {f : α → PV} {l ys r : List α} (h : l ++ ys = r) : l.map f ++ ys.map f = r.map f := by
 rw [← h, List.map_append]
theorem qK {l ys r : List α} (h : l ++ ys = r) : l.length + ys.length = r.length := by rw [← h, List.length_append]
theorem XY {l r : List α} {i : Int} {x : α} (h : wr l i x = some r) : (0 ≤ i ∧ i < (l.length : Int)) ∧ l.set i.toNat x = r := by
 unfold wr at h; split at h
 ·exact ⟨by assumption, by simpa using h⟩
 ·cases h
theorem acN {l r : List α} {i : Nat} {x : α} (h : l.set i x = r) : l.length = r.length := by rw [← h, List.length_set]
theorem acR {f : α → PV} {l r : List α} {i : Nat} {x : α} (h : l.set i x = r) : (l.map f).set i (f x) = r.map f := by
 rw [← h, List.map_set]
theorem jU {g : Nat → Option α} {r : α} (h : lim g = some r) : ∃ k, g k = some r := by
 unfold lim at h; split at h
 ·rename_i hh
  obtain ⟨K, hK⟩ := hh.choose_spec
  have := hK K (Nat.le_refl _)
  cases h
  exact ⟨K, this⟩
 ·cases h
theorem yV {g : Nat → Option α} {r : α} (K : Nat) (h : ∀ k, K ≤ k → g k = some r) : lim g = some r := by
 have hh : ∃ r, ∃ K, ∀ k, K ≤ k → g k = some r := ⟨r, K, h⟩
 unfold lim
 rw [dif_pos hh]
 obtain ⟨K', hK'⟩ := hh.choose_spec
 have h1 := hK' (max K K') (Nat.le_max_right _ _)
 rw [h _ (Nat.le_max_left _ _)] at h1
 exact h1.symm
end
def runes (s : Str) : List Int := (Conv.runesFrom ⟨s.toArray⟩ s.length 0 #[]).toList.map fun | .int _ n => n | _ => 0
abbrev atC (s : Str) (pos : Nat) : Nat := (Utf8.decode ⟨s.toArray⟩ pos).2
def zq (n : Int) : Str := (Utf8.encode n).data.toList
def zJ (l : List Int) : Str := l.flatMap zq
theorem ab7 (b : ByteArray) : ∀ (n i : Nat) (acc : Array Value), (∀ v ∈ acc.toList, ∃ k, v = .int .i32 k) → ∀ v ∈ (Conv.runesFrom b n i acc).toList, ∃ k, v = .int .i32 k
 | 0, i, acc, h => h
 | n + 1, i, acc, h => by
  unfold Conv.runesFrom
  split
  ·refine ab7 b n _ _ ?_
   intro v hv
   simp only [Array.toList_push, List.mem_append, List.mem_singleton] at hv
   rcases hv with hv | rfl
   ·exact h v hv
   ·exact ⟨_, rfl⟩
  ·exact h
theorem apZ (s : Str) : adO s = (runes s).map (PV.int .i32) := by
 unfold adO runes
 rw [List.map_map]
 refine List.map_congr_left fun v hv => ?_
 obtain ⟨k, rfl⟩ := ab7 _ _ _ _ (by simp) v hv
 rfl
theorem abT : ∀ l : List Int, Qh (l.map (PV.int .i32)) = some (zJ l)
 | [] => rfl
 | n :: l => by
  simp only [List.map_cons, Qh, abT l]
  rfl
def azj (l : List Int) : Str := l.map fun n => UInt8.ofNat n.toNat
theorem abY : ∀ l : List Int, Qy (l.map (PV.int .u8)) = some (azj l)
 | [] => rfl
 | n :: l => by
  simp only [List.map_cons, Qy, abY l]
  rfl
theorem zg {P : Program} {q : Bool} {nm : Names} {ops : List Oper} {r : List Oper} {i : Nat} {s : St} {dst : Option Nat} {k g f : Nat} {args args' : List PV} {v : PV} {ks : List Nat} {K : St → Prop} (hc : PC P f args' v) (hw : WkL (args.map (YI s.sto.find)) args' ∧ yj (args.map (YI s.sto.find)) = true) (hk : args.flatMap aas = ks)
  (hq : (!q || (ks.isEmpty && xk v)) = true) (h : jf P q nm ops r (i + 1) ((({ s with sto := Sto.frz ks s.sto } : St).back dst k g v).Ws q nm.nf dst) K) : VC P q nm ops r i s dst k g (.call f args) K :=
 ari hc rfl hw.1 hw.2 hk hq h
def ajf (N : St → Prop) (E : Nat → St → Prop) (Rt : St → Prop) : qF → St → Prop
 | .normal, s => N s
 | .exit i, s => E i s
 | .ret, s => Rt s
 | .goto _, _ => False
theorem wX {N : St → Prop} {E : Nat → St → Prop} {Rt : St → Prop} {s : St} (h : N s) : ajf N E Rt .normal s := h
theorem auo {N : St → Prop} {E : Nat → St → Prop} {Rt : St → Prop} {s : St} {i : Nat} (h : E i s) : ajf N E Rt (.exit i) s := h
theorem yN {N : St → Prop} {E : Nat → St → Prop} {Rt : St → Prop} {s : St} (h : Rt s) : ajf N E Rt .ret s := h
theorem QR {X : Cx} {c : Code} {K : St → Prop} {Q : qF → St → Prop} {s : St} (N : St → Prop) (E : Nat → St → Prop) (Rt : St → Prop) (h : awp X c (ajf (kC N) E Rt) s)
  (hN : ∀ s, N s → K s) (hE : ∀ i s, E i s → Q (.exit i) s) (hR : ∀ s, Rt s → Q .ret s) : awp X c (qF.then (kC K) Q) s :=
 aoj c s (fun e s h => match e, h with
  | .normal, ⟨t, hl, h⟩ => ⟨t, hl, hN t h⟩
  | .exit i, h => hE i s h
  | .ret, h => hR s h
  | .goto _, h => h.elim) h
theorem qp {X : Cx} {c : Code} {Q : qF → St → Prop} {s : St} (N : St → Prop) (E : Nat → St → Prop) (Rt : St → Prop) (h : awp X c (ajf N E Rt) s)
  (hN : ∀ s, N s → Q .normal s) (hE : ∀ i s, E i s → Q (.exit i) s) (hR : ∀ s, Rt s → Q .ret s) : awp X c Q s :=
 aoj c s (fun e s h => match e, h with
  | .normal, h => hN s h
  | .exit i, h => hE i s h
  | .ret, h => hR s h
  | .goto _, h => h.elim) h
theorem wh {K : St → Prop} {s t : St} (hl : Told s t) (h : kC K t) : kC K s := by
 obtain ⟨u, h1, h2⟩ := h
 exact ⟨u, .trans hl h1, h2⟩
theorem qD {N : St → Prop} {E : Nat → St → Prop} {Rt : St → Prop} {s t : St} (hl : Told s t) (h : ajf (kC N) E Rt .normal t) : ajf (kC N) E Rt .normal s := wh (K := N) hl h
theorem axo {X : Cx} {c : Code} {Q : qF → St → Prop} {s t : St} (h : awp X c Q t) (he : s = t) : awp X c Q s := he ▸ h
theorem qd {X : Cx} {c : Code} {Q : qF → St → Prop} {s : St} (h : ∀ I : St → Prop, (∀ s, awp X c (qF.then (kC I) Q) s → I s) → I s) : awp X (.loop c) Q s := ⟨_, .less (.refl s), h⟩
theorem walk_nil {α : Type} {l pre : List α} {i : Int} (h : l = pre ++ []) (hi : i = (pre.length : Int)) : decide (i < (l.length : Int)) = false := by
 subst hi h; simp
theorem qM {α : Type} {f : α → PV} {l pre suf : List α} {x : α} {i : Int} (h : l = pre ++ x :: suf) (hi : i = (pre.length : Int)) (hl : l.length ≤ 9223372036854775807) :
  0 ≤ i ∧ i < (l.length : Int) ∧ (l.map f).getD i.toNat .undef = f x ∧ IntKind.wrap .i64 (i + 1) = i + 1 ∧ decide (i < (l.length : Int)) = true := by
 subst hi h
 simp only [List.length_append, List.length_cons] at hl ⊢
 refine ⟨by omega, by omega, by simp [List.getD], awX (by omega), by simp; omega⟩
theorem ark {P : Program} {rs : List RV} {r : PV} {s : St} (h : match wR P s rs with
  | some vs => Wk (Qb s.sto.find (je vs)) r
  | none => False) (h3 : r.pure = true) : zS P rs r [] .ret s := by
 split at h
 ·rename_i vs hv; exact aei hv (.inl ⟨h, h3⟩)
 ·exact h.elim
theorem X6 {P : Program} {t k g n sz : Nat} {xs ys : List PV} {s : St} (h : s.env.get t = .row k g n) (hk : (decide (k < 1000)) = true) (hf : s.sto.find k = some (g, .row false sz xs)) (hn : n = xs.length) (hx : xs = ys) : zS P [.tmp t] (.own sz ys) [] .ret s := by
 subst hn hx
 exact aei (vs := [.row k g xs.length]) (by simp only [wR, xE, h]) (.inr (.inl ⟨k, g, sz, xs, rfl, of_decide_eq_true hk, hf, rfl⟩))
abbrev ajO (x y : Int) : Int := IntKind.i64.wrap ((BitVec.ofInt IntKind.i64.bits x &&& BitVec.ofInt IntKind.i64.bits y).toNat : Int)
theorem aum {P : Program} {t k g ty n gr kr sz : Nat} {pre post xs : List PV} {r : PV} {s : St} (h : s.env.get t = .box k g 0) (hk : (decide (k < 1000)) = true) (hk' : (decide (kr < 1000)) = true) (hne : k ≠ kr) (hf : s.sto.find k = some (g, .var ty (pre ++ .row kr gr n :: post)))
  (hf' : s.sto.find kr = some (gr, .row false sz xs)) (hp : yj pre = true) (hp' : yj post = true) (hx : n = xs.length ∧ .adx ty pre sz xs post = r) : zS P [.tmp t] r [] .ret s := by
 obtain ⟨rfl, rfl⟩ := hx
 exact aei (vs := [.box k g 0]) (by simp only [wR, xE, h]) (.inr (.inr (.inr (.inr ⟨k, g, ty, pre, post, kr, gr, sz, xs, rfl, of_decide_eq_true hk, of_decide_eq_true hk', hne, hf, hf', hp, hp', rfl⟩))))
theorem Js {P : Program} {t sz : Nat} {s : St} (h : s.env.get t = .kS) : zS P [.tmp t] (.own sz []) [] .ret s :=
 aei (vs := [.kS]) (by simp only [wR, xE, h]) (.inr (.inr (.inl ⟨sz, rfl, rfl⟩)))
def wB (sto : Sto) : List Nat → List (Nat × Nat)
 | [] => []
 | k :: ks => (k, afO.stampOf (sto.find k)) :: wB sto ks
theorem WV (sto : Sto) : ∀ kl : List Nat, (wB sto kl).map (·.1) = kl
 | [] => rfl
 | k :: ks => by simp only [wB, List.map_cons, WV sto ks]
theorem Qc {P : Program} {nm : Names} {ops : List Oper} {r : List Oper} {i : Nat} {s : St} {dst : Option Nat} {k g f : Nat} {args args' : List PV} {v : PV} {es es' : List Ent} {K : St → Prop} (kl : List Nat) (hn : kl.Nodup) (hc : BC P f args' es v es')
  (hf : findAll (qV (wB s.sto kl)) (wB s.sto kl).length s.sto (wB s.sto kl) es ∧ xK (wB s.sto kl).length args' = true ∧ WkL args (Z7 (qV (wB s.sto kl)) args')) (hm : (xk v || !qQ es') = true)
  (h : jf P false nm ops r (i + 1) ((({ s with sto := kN s.sto (zZ g (wB s.sto kl) es') (es'.map (Ent.inst (qV (zZ g (wB s.sto kl) es')))) } : St).back dst k g v).Ws false nm.nf dst) K) : VC P false nm ops r i s dst k g (.call f args) K :=
 ao6 (wB s.sto kl) hc hf.1 (by rw [WV]; exact hn) hf.2.1 hf.2.2 hm h
theorem XO {P : Program} {q : Bool} {nm : Names} {ops : List Oper} {r : List Oper} {i : Nat} {s : St} {dst : Option Nat} {k g f : Nat} {args args' : List PV} {v : PV} {es es' : List Ent} {fp : List Nat} {K : St → Prop} (kl : List Nat) (hn : kl.Nodup) (hfp : ∀ x ∈ kl, x ∈ fp) (hc : BC P f args' es v es')
  (hf : findAll (qV (wB s.sto kl)) (wB s.sto kl).length s.sto (wB s.sto kl) es ∧ xK (wB s.sto kl).length args' = true ∧ WkL args (Z7 (qV (wB s.sto kl)) args')) (hm : ((xk v || !qQ es') && anz v) = true) (hQ : KR fp = false)
  (h : jf P q nm ops r (i + 1) ((({ s with sto := kN s.sto (zZ g (wB s.sto kl) es') (es'.map (Ent.inst (qV (zZ g (wB s.sto kl) es')))) } : St).back dst k g v).Ws q nm.nf dst) K) : akr P q nm ops r i s dst k g (some fp) (.call f args) K :=
 apU (wB s.sto kl) (fun x hx => hfp x.1 (by have h9 : x.1 ∈ (wB s.sto kl).map (·.1) := List.mem_map.2 ⟨x, hx, rfl⟩; rwa [WV] at h9)) hc hf.1 (by rw [WV]; exact hn) hf.2.1 hf.2.2 hm hQ h
theorem acQ {P : Program} {q : Bool} {nm : Names} {ops : List Oper} {r : List Oper} {i : Nat} {s : St} {dst : Option Nat} {k g f : Nat} {args args' : List PV} {v : PV} {es : List Ent} {fp : List Nat} {K : St → Prop} (kl : List Nat) (hn : kl.Nodup) (hfp : ∀ x ∈ kl, x ∈ fp) (hc : BC P f args' es v es)
  (hf : findAll (qV (wB s.sto kl)) (wB s.sto kl).length s.sto (wB s.sto kl) es ∧ xK (wB s.sto kl).length args' = true ∧ WkL args (Z7 (qV (wB s.sto kl)) args')) (hm : (!qQ es && anz v) = true) (hQ : KR fp = true)
  (h : jf P q nm ops r (i + 1) ((s.back dst k g v).Ws q nm.nf dst) K) : akr P q nm ops r i s dst k g (some fp) (.call f args) K :=
 am4 (wB s.sto kl) (fun x hx => hfp x.1 (by have h9 : x.1 ∈ (wB s.sto kl).map (·.1) := List.mem_map.2 ⟨x, hx, rfl⟩; rwa [WV] at h9)) hc hf.1 (by rw [WV]; exact hn) hf.2.1 hf.2.2 hm hQ h
theorem ji {P : Program} {rs : List RV} {r : PV} {s : St} {es' : List Ent} (h : match wR P s rs with
  | some vs => Wk (Qb s.sto.find (je vs)) r
  | none => False) (h3 : r.pure = true) (he : afm (qV (afO s.sto 0 es')) es'.length s.sto 0 (afO s.sto 0 es') es') : zS P rs r es' .ret s := by
 split at h
 ·rename_i vs hv; exact arA hv (.inl ⟨h, h3⟩) he
 ·exact h.elim
theorem asM {f : Operand} {ts : Array Nat} : (Op.call { callee := .value f, args := #[], argTypes := ts }).operands.toList = [f] := rfl
theorem arJ {f x : Operand} {ts : Array Nat} : (Op.call { callee := .value f, args := #[x], argTypes := ts }).operands.toList = [f, x] := rfl
theorem arp {f x y : Operand} {ts : Array Nat} : (Op.call { callee := .value f, args := #[x, y], argTypes := ts }).operands.toList = [f, x, y] := rfl
theorem asJ {f x y z : Operand} {ts : Array Nat} : (Op.call { callee := .value f, args := #[x, y, z], argTypes := ts }).operands.toList = [f, x, y, z] := rfl
theorem ar2 {f x y z u : Operand} {ts : Array Nat} : (Op.call { callee := .value f, args := #[x, y, z, u], argTypes := ts }).operands.toList = [f, x, y, z, u] := rfl
theorem al5 {x : Operand} : (Op.nilCheck x).operands.toList = [x] := rfl
attribute [go_sem] wB asM arJ arp asJ ar2 al5
attribute [go_sem ↓] reduceIte
attribute [go_sem] reduceCtorEq Nat.reduceEqDiff Nat.reduceAdd Nat.reduceMul Nat.reduceSub Nat.reduceLT Nat.reduceLeDiff Nat.reducePow Nat.reduceBEq Nat.reduceBNe Int.reduceNeg Int.reduceBEq Int.reduceBNe Int.reduceAdd Int.reduceSub Int.reduceMul Int.reduceLT Int.reduceLE Int.reduceToNat Int.reduceEq Int.reduceNe List.take_length adg apZ abT abY
section
variable {K : St → Prop} {Q : qF → St → Prop} {s : St} {G : Prop}
theorem anS (f : G → K s) : G → qF.then K Q .normal s := f
theorem aoo (f : G → Q .ret s) : G → qF.then K Q .ret s := f
theorem am7 {id : Nat} (f : G → Q (.exit id) s) : G → qF.then K Q (.exit id) s := f
theorem akV {id : Nat} (f : G → Q .normal s) : G → qF.inBlock id Q .normal s := f
theorem akb {id : Nat} (f : G → Q .ret s) : G → qF.inBlock id Q .ret s := f
theorem afQ {id : Nat} (f : G → Q .normal s) : G → qF.inBlock id Q (.exit id) s := fun g => arh (f g)
theorem ak0 {id id' : Nat} (hn : (id' == id) = false) (f : G → Q (.exit id') s) : G → qF.inBlock id Q (.exit id') s := fun g => avF hn (f g)
theorem ajY (f : G → Q .normal s) : G → qF.noGoto Q .normal s := f
theorem aky (f : G → Q .ret s) : G → qF.noGoto Q .ret s := f
theorem ajP {id : Nat} (f : G → Q (.exit id) s) : G → qF.noGoto Q (.exit id) s := f
theorem ay8 {X : Cx} {c : Code} (f : G → awp X c Q s) : G → kC (awp X c Q) s := fun g => ku (f g)
end
theorem nmx {A G : Prop} (h : G) (t : G → A := by (repeat (with_reducible first | apply anS | apply aoo | apply am7 | apply akV | apply akb | apply afQ | apply ak0 rfl | apply ajY | apply aky | apply ajP | apply ay8)); exact id) : A := t h
theorem nmy {A G : Prop} (h : G) (t : G → A := by (repeat (with_reducible first | apply anS | apply aoo | apply am7 | apply akV | apply akb | apply afQ | apply ak0 rfl | apply ajY | apply aky | apply ajP)); exact id) : A := t h
theorem sd {p q : Prop} (h : q) (hp : p := by first | assumption | (try simp only [List.length_append, List.length_cons, List.length_nil] at *; omega)) : p ∧ q := ⟨hp, h⟩
theorem wkl {G : Prop} (t : G := by (repeat (first | exact WkL.refl _ | exact Wk.refl _ | exact Wk.nil _ | refine WkL.cons _ _ _ _ ?_ ?_ | exact WkL.nil | refine Wk.agg _ _ ?_ | refine Wk.tup _ _ ?_))) : G := t
theorem wkb {G : Prop} (t : G := by (repeat (with_reducible first | exact trivial | exact rfl | exact WkL.refl _ | exact Wk.refl _ | exact Wk.nil _ | refine And.intro ?_ ?_ | refine WkL.cons _ _ _ _ ?_ ?_ | exact WkL.nil | refine Wk.agg _ _ ?_ | refine Wk.tup _ _ ?_))) : G := t
theorem wkw {G : Prop} (t : G := by (repeat (first | exact Wk.refl _ | exact WkL.refl _ | exact Wk.nil _ | refine Wk.agg _ _ ?_ | refine Wk.tup _ _ ?_ | refine WkL.cons _ _ _ _ ?_ ?_ | exact WkL.nil))) : G := t
theorem zz {P : Program} {rs : List RV} {r : PV} {s : St} (h : match wR P s rs with
  | some vs => Wk (Qb s.sto.find (je vs)) r
  | none => False := by simp only [go_sem, wR, xE, vg, je, Qb, List.map_cons, List.map_append, List.head?_cons]; (repeat (first | exact Wk.refl _ | exact WkL.refl _ | exact Wk.nil _ | refine Wk.agg _ _ ?_ | refine Wk.tup _ _ ?_ | refine WkL.cons _ _ _ _ ?_ ?_ | exact WkL.nil))) (h3 : r.pure = true := by rfl) : zS P rs r [] .ret s := ark h h3
end Go.Proofs.YtclohbgnaopjfaaDoor
