/- Texts of the proof of stepAttrsCard -/
import Derived.Test.YtclohbgnaopjfaaDoorAw24
namespace Go.Proofs.YtclohbgnaopjfaaDoor
set_option linter.unusedSimpArgs false
set_option linter.unusedVariables false
open Go
abbrev Str := List UInt8
abbrev w64 (x : Int) : Int := IntKind.wrap .i64 x
section
variable {α β : Type}
def chk (p : Prop) [Decidable p] (x : Option α) : Option α := if p then x else none
def rd (l : List α) (i : Int) : Option α := if 0 ≤ i then l[i.toNat]? else none
def sl (l : List α) (a b : Int) : Option (List α) := if 0 ≤ a ∧ a ≤ b ∧ b ≤ l.length then some ((l.take b.toNat).drop a.toNat) else none
def app (z : Nat) (l ys : List α) : Option (List α) := if (l.length + ys.length) * z ≤ 140737488355328 then some (l ++ ys) else none
def wr (l : List α) (i : Int) (x : α) : Option (List α) := if 0 ≤ i ∧ i < l.length then some (l.set i.toNat x) else none
noncomputable def lim (g : Nat → Option α) : Option α :=
  open Classical in if h : ∃ r, ∃ K, ∀ k, K ≤ k → g k = some r then some h.choose else none
theorem zZ {p : Prop} [Decidable p] {x : Option α} {r : α} (h : chk p x = some r) : p ∧ x = some r := by
  unfold chk at h; split at h
  · exact ⟨by assumption, h⟩
  · cases h
theorem ze {x : Option α} {f : α → Option β} {r : β} (h : x.bind f = some r) : ∃ y, x = some y ∧ f y = some r := Option.bind_eq_some_iff.1 h
theorem rd_some {l : List α} {i : Int} {x : α} (h : rd l i = some x) : 0 ≤ i ∧ i < (l.length : Int) ∧ l[i.toNat]? = some x := by
  unfold rd at h; split at h
  · have := (List.getElem?_eq_some_iff.1 h).1
    exact ⟨by assumption, by omega, h⟩
  · cases h
theorem kZ {f : α → PV} {l : List α} {i : Int} {x : α} (h : l[i.toNat]? = some x) : (l.map f).getD i.toNat .undef = f x := by
  simp [List.getD, h]
theorem wO {f : α → PV} {l : List α} {i : Int} {x : α} (h : l[i.toNat]? = some x) : i.toNat < l.length ∧ ¬ l.map f = [] := by
  have := (List.getElem?_eq_some_iff.1 h).1
  refine ⟨this, fun h0 => ?_⟩
  have h1 : l = [] := by simpa using h0
  subst h1
  simp at this
theorem Q7 {l r : List α} {a b : Int} (h : sl l a b = some r) : (0 ≤ a ∧ a ≤ b ∧ b ≤ (l.length : Int)) ∧ (l.take b.toNat).drop a.toNat = r := by
  unfold sl at h; split at h
  · exact ⟨by assumption, by simpa using h⟩
  · cases h
theorem aam {l : List α} {a b : Int} (h : 0 ≤ a ∧ a ≤ b ∧ b ≤ (l.length : Int)) : b.toNat ≤ l.length := by omega
theorem abR {f : α → PV} {l : List α} : (l.map f).take l.length = l.map f := by rw [List.take_of_length_le (by simp)]
theorem akl {f : α → PV} {l : List α} {n : Nat} (h : l.length = n) : (l.map f).take n = l.map f := by subst h; exact abR
theorem ari {l : List α} {n z m : Nat} (e : l.length = n) (h : n * z ≤ m) : l.length * z ≤ m := by rw [e]; exact h
theorem atC {f : α → PV} {l r : List α} {a b : Nat} (h : (l.take b).drop a = r) : ((l.map f).take b).drop a = r.map f := by
  rw [← h, List.map_drop, List.map_take]
theorem YJ {f : α → PV} {l r : List α} {b : Nat} (h : (l.take b).drop 0 = r) : (l.map f).take b = r.map f := by
  rw [← h, List.drop_zero, List.map_take]
theorem ajO {f : α → PV} {l r : List α} {a : Nat} (h : (l.take l.length).drop a = r) : (l.map f).drop a = r.map f := by
  rw [← h, List.take_length, List.map_drop]
theorem zX {z : Nat} {l ys r : List α} (h : app z l ys = some r) : (l.length + ys.length) * z ≤ 140737488355328 ∧ l ++ ys = r := by
  unfold app at h; split at h
  · exact ⟨by assumption, by simpa using h⟩
  · cases h
theorem qH {f : α → PV} {l ys r : List α} (h : l ++ ys = r) : l.map f ++ ys.map f = r.map f := by
  rw [← h, List.map_append]
theorem qG {l ys r : List α} (h : l ++ ys = r) : l.length + ys.length = r.length := by rw [← h, List.length_append]
theorem YC {l r : List α} {i : Int} {x : α} (h : wr l i x = some r) : (0 ≤ i ∧ i < (l.length : Int)) ∧ l.set i.toNat x = r := by
  unfold wr at h; split at h
  · exact ⟨by assumption, by simpa using h⟩
  · cases h
theorem adw {l r : List α} {i : Nat} {x : α} (h : l.set i x = r) : l.length = r.length := by rw [← h, List.length_set]
theorem adH {f : α → PV} {l r : List α} {i : Nat} {x : α} (h : l.set i x = r) : (l.map f).set i (f x) = r.map f := by
  rw [← h, List.map_set]
theorem xV {g : Nat → Option α} {r : α} (h : lim g = some r) : ∃ k, g k = some r := by
  unfold lim at h; split at h
  · rename_i hh
    obtain ⟨K, hK⟩ := hh.choose_spec
    have := hK K (Nat.le_refl _)
    cases h
    exact ⟨K, this⟩
  · cases h
theorem KU {g : Nat → Option α} {r : α} (K : Nat) (h : ∀ k, K ≤ k → g k = some r) : lim g = some r := by
  have hh : ∃ r, ∃ K, ∀ k, K ≤ k → g k = some r := ⟨r, K, h⟩
  unfold lim
  rw [dif_pos hh]
  obtain ⟨K', hK'⟩ := hh.choose_spec
  have h1 := hK' (max K K') (Nat.le_max_right _ _)
  rw [h _ (Nat.le_max_left _ _)] at h1
  exact h1.symm
end
def runes (s : Str) : List Int := (Conv.runesFrom ⟨s.toArray⟩ s.length 0 #[]).toList.map fun | .int _ n => n | _ => 0
abbrev aqz (s : Str) (pos : Nat) : Nat := (Utf8.decode ⟨s.toArray⟩ pos).2
def zo (n : Int) : Str := (Utf8.encode n).data.toList
def zN (l : List Int) : Str := l.flatMap zo
theorem aaN (b : ByteArray) : ∀ (n i : Nat) (acc : Array Value), (∀ v ∈ acc.toList, ∃ k, v = .int .i32 k) → ∀ v ∈ (Conv.runesFrom b n i acc).toList, ∃ k, v = .int .i32 k
  | 0, i, acc, h => h
  | n + 1, i, acc, h => by
    unfold Conv.runesFrom
    split
    · refine aaN b n _ _ ?_
      intro v hv
      simp only [Array.toList_push, List.mem_append, List.mem_singleton] at hv
      rcases hv with hv | rfl
      · exact h v hv
      · exact ⟨_, rfl⟩
    · exact h
theorem alS (s : Str) : acF s = (runes s).map (PV.int .i32) := by
  unfold acF runes
  rw [List.map_map]
  refine List.map_congr_left fun v hv => ?_
  obtain ⟨k, rfl⟩ := aaN _ _ _ _ (by simp) v hv
  rfl
theorem aaE : ∀ l : List Int, ZT (l.map (PV.int .i32)) = some (zN l)
  | [] => rfl
  | n :: l => by
    simp only [List.map_cons, ZT, aaE l]
    rfl
def avk (l : List Int) : Str := l.map fun n => UInt8.ofNat n.toNat
theorem YW : ∀ l : List Int, ZF (l.map (PV.int .u8)) = some (avk l)
  | [] => rfl
  | n :: l => by
    simp only [List.map_cons, ZF, YW l]
    rfl
theorem zg {P : Program} {q : Bool} {nm : Names} {ops : List Oper} {r : List Oper} {i : Nat} {s : St} {dst : Option Nat} {k g f : Nat} {args args' : List PV} {v : PV} {ks : List Nat} {K : St → Prop} (hc : PC P f args' v) (hw : WkL (args.map (Xn s.sto.find)) args' ∧ xM (args.map (Xn s.sto.find)) = true) (hk : args.flatMap X7 = ks)
    (hq : (!q || (ks.isEmpty && jC v)) = true) (h : vO P q nm ops r (i + 1) ((({ s with sto := Sto.frz ks s.sto } : St).back dst k g v).Qz q nm.nf dst) K) : KV P q nm ops r i s dst k g (.call f args) K :=
  apj hc rfl hw.1 hw.2 hk hq h
def agp (N : St → Prop) (E : Nat → St → Prop) (Rt : St → Prop) : qg → St → Prop
  | .normal, s => N s
  | .exit i, s => E i s
  | .ret, s => Rt s
  | .goto _, _ => False
theorem kL {N : St → Prop} {E : Nat → St → Prop} {Rt : St → Prop} {s : St} (h : N s) : agp N E Rt .normal s := h
theorem aqJ {N : St → Prop} {E : Nat → St → Prop} {Rt : St → Prop} {s : St} {i : Nat} (h : E i s) : agp N E Rt (.exit i) s := h
theorem Z9 {N : St → Prop} {E : Nat → St → Prop} {Rt : St → Prop} {s : St} (h : Rt s) : agp N E Rt .ret s := h
theorem Jz {X : Cx} {c : Code} {K : St → Prop} {Q : qg → St → Prop} {s : St} (N : St → Prop) (E : Nat → St → Prop) (Rt : St → Prop) (h : awp X c (agp (wS N) E Rt) s)
    (hN : ∀ s, N s → K s) (hE : ∀ i s, E i s → Q (.exit i) s) (hR : ∀ s, Rt s → Q .ret s) : awp X c (qg.then (wS K) Q) s :=
  ali c s (fun e s h => match e, h with
    | .normal, ⟨t, hl, h⟩ => ⟨t, hl, hN t h⟩
    | .exit i, h => hE i s h
    | .ret, h => hR s h
    | .goto _, h => h.elim) h
theorem qy {X : Cx} {c : Code} {Q : qg → St → Prop} {s : St} (N : St → Prop) (E : Nat → St → Prop) (Rt : St → Prop) (h : awp X c (agp N E Rt) s)
    (hN : ∀ s, N s → Q .normal s) (hE : ∀ i s, E i s → Q (.exit i) s) (hR : ∀ s, Rt s → Q .ret s) : awp X c Q s :=
  ali c s (fun e s h => match e, h with
    | .normal, h => hN s h
    | .exit i, h => hE i s h
    | .ret, h => hR s h
    | .goto _, h => h.elim) h
theorem wh {K : St → Prop} {s t : St} (hl : Told s t) (h : wS K t) : wS K s := by
  obtain ⟨u, h1, h2⟩ := h
  exact ⟨u, .trans hl h1, h2⟩
theorem qF {N : St → Prop} {E : Nat → St → Prop} {Rt : St → Prop} {s t : St} (hl : Told s t) (h : agp (wS N) E Rt .normal t) : agp (wS N) E Rt .normal s := wh (K := N) hl h
theorem atm {X : Cx} {c : Code} {Q : qg → St → Prop} {s t : St} (h : awp X c Q t) (he : s = t) : awp X c Q s := he ▸ h
theorem qi {X : Cx} {c : Code} {Q : qg → St → Prop} {s : St} (h : ∀ I : St → Prop, (∀ s, awp X c (qg.then (wS I) Q) s → I s) → I s) : awp X (.loop c) Q s := ⟨_, .less (.refl s), h⟩
theorem walk_nil {α : Type} {l pre : List α} {i : Int} (h : l = pre ++ []) (hi : i = (pre.length : Int)) : decide (i < (l.length : Int)) = false := by
  subst hi h; simp
theorem qD {α : Type} {f : α → PV} {l pre suf : List α} {x : α} {i : Int} (h : l = pre ++ x :: suf) (hi : i = (pre.length : Int)) (hl : l.length ≤ 9223372036854775807) :
    0 ≤ i ∧ i < (l.length : Int) ∧ (l.map f).getD i.toNat .undef = f x ∧ IntKind.wrap .i64 (i + 1) = i + 1 ∧ decide (i < (l.length : Int)) = true := by
  subst hi h
  simp only [List.length_append, List.length_cons] at hl ⊢
  refine ⟨by omega, by omega, by simp [List.getD], asM (by omega), by simp; omega⟩
theorem anZ {P : Program} {rs : List RV} {r : PV} {s : St} (h : match wu P s rs with
    | some vs => Wk (yP s.sto.find (ve vs)) r
    | none => False) (h3 : r.pure = true) : zR P rs r [] .ret s := by
  split at h
  · rename_i vs hv; exact af4 hv (.inl ⟨h, h3⟩)
  · exact h.elim
theorem Yy {P : Program} {t k g n sz : Nat} {xs ys : List PV} {s : St} (h : s.env.get t = .row k g n) (hk : (decide (k < 1000)) = true) (hf : s.sto.find k = some (g, .row false sz xs)) (hn : n = xs.length) (hx : xs = ys) : zR P [.tmp t] (.own sz ys) [] .ret s := by
  subst hn hx
  exact af4 (vs := [.row k g xs.length]) (by simp only [wu, jA, h]) (.inr (.inl ⟨k, g, sz, xs, rfl, of_decide_eq_true hk, hf, rfl⟩))
abbrev ahO (x y : Int) : Int := IntKind.i64.wrap ((BitVec.ofInt IntKind.i64.bits x &&& BitVec.ofInt IntKind.i64.bits y).toNat : Int)
theorem XW {P : Program} {t sz : Nat} {s : St} (h : s.env.get t = .kM) : zR P [.tmp t] (.own sz []) [] .ret s :=
  af4 (vs := [.kM]) (by simp only [wu, jA, h]) (.inr (.inr (.inl ⟨sz, rfl, rfl⟩)))
abbrev pvB (b : UInt8) : PV := .int .u8 b.toNat
def qN (sto : Sto) : List Nat → List (Nat × Nat)
  | [] => []
  | k :: ks => (k, adU.stampOf (sto.find k)) :: qN sto ks
theorem QV (sto : Sto) : ∀ kl : List Nat, (qN sto kl).map (·.1) = kl
  | [] => rfl
  | k :: ks => by simp only [qN, List.map_cons, QV sto ks]
theorem jm {P : Program} {nm : Names} {ops : List Oper} {r : List Oper} {i : Nat} {s : St} {dst : Option Nat} {k g f : Nat} {args args' : List PV} {v : PV} {es es' : List Ent} {K : St → Prop} (kl : List Nat) (hn : kl.Nodup) (hc : BC P f args' es v es')
    (hf : findAll (qp (qN s.sto kl)) (qN s.sto kl).length s.sto (qN s.sto kl) es ∧ jg (qN s.sto kl).length args' = true ∧ WkL args (Zp (qp (qN s.sto kl)) args')) (hm : (jC v || !qo es') = true)
    (h : vO P false nm ops r (i + 1) ((({ s with sto := wW s.sto (zU g (qN s.sto kl) es') (es'.map (Ent.inst (qp (zU g (qN s.sto kl) es')))) } : St).back dst k g v).Qz false nm.nf dst) K) : KV P false nm ops r i s dst k g (.call f args) K :=
  amw (qN s.sto kl) hc hf.1 (by rw [QV]; exact hn) hf.2.1 hf.2.2 hm h
theorem aaY {P : Program} {q : Bool} {nm : Names} {ops : List Oper} {r : List Oper} {i : Nat} {s : St} {dst : Option Nat} {k g f : Nat} {args args' : List PV} {v : PV} {es es' : List Ent} {fp : List Nat} {K : St → Prop} (kl : List Nat) (hn : kl.Nodup) (hfp : ∀ x ∈ kl, x ∈ fp) (hc : BC P f args' es v es')
    (hf : findAll (qp (qN s.sto kl)) (qN s.sto kl).length s.sto (qN s.sto kl) es ∧ jg (qN s.sto kl).length args' = true ∧ WkL args (Zp (qp (qN s.sto kl)) args')) (hm : ((jC v || !qo es') && alk v) = true) (hQ : WE fp = false)
    (h : vO P q nm ops r (i + 1) ((({ s with sto := wW s.sto (zU g (qN s.sto kl) es') (es'.map (Ent.inst (qp (zU g (qN s.sto kl) es')))) } : St).back dst k g v).Qz q nm.nf dst) K) : ah1 P q nm ops r i s dst k g (some fp) (.call f args) K :=
  amn (qN s.sto kl) (fun x hx => hfp x.1 (by have h9 : x.1 ∈ (qN s.sto kl).map (·.1) := List.mem_map.2 ⟨x, hx, rfl⟩; rwa [QV] at h9)) hc hf.1 (by rw [QV]; exact hn) hf.2.1 hf.2.2 hm hQ h
theorem aa6 {P : Program} {q : Bool} {nm : Names} {ops : List Oper} {r : List Oper} {i : Nat} {s : St} {dst : Option Nat} {k g f : Nat} {args args' : List PV} {v : PV} {es : List Ent} {fp : List Nat} {K : St → Prop} (kl : List Nat) (hn : kl.Nodup) (hfp : ∀ x ∈ kl, x ∈ fp) (hc : BC P f args' es v es)
    (hf : findAll (qp (qN s.sto kl)) (qN s.sto kl).length s.sto (qN s.sto kl) es ∧ jg (qN s.sto kl).length args' = true ∧ WkL args (Zp (qp (qN s.sto kl)) args')) (hm : (!qo es && alk v) = true) (hQ : WE fp = true)
    (h : vO P q nm ops r (i + 1) ((s.back dst k g v).Qz q nm.nf dst) K) : ah1 P q nm ops r i s dst k g (some fp) (.call f args) K :=
  akV (qN s.sto kl) (fun x hx => hfp x.1 (by have h9 : x.1 ∈ (qN s.sto kl).map (·.1) := List.mem_map.2 ⟨x, hx, rfl⟩; rwa [QV] at h9)) hc hf.1 (by rw [QV]; exact hn) hf.2.1 hf.2.2 hm hQ h
theorem kR {P : Program} {rs : List RV} {r : PV} {s : St} {es' : List Ent} (h : match wu P s rs with
    | some vs => Wk (yP s.sto.find (ve vs)) r
    | none => False) (h3 : r.pure = true) (he : ada (qp (adU s.sto 0 es')) es'.length s.sto 0 (adU s.sto 0 es') es') : zR P rs r es' .ret s := by
  split at h
  · rename_i vs hv; exact an6 hv (.inl ⟨h, h3⟩) he
  · exact h.elim
theorem apc {f : Operand} {ts : Array Nat} : (Op.call { callee := .value f, args := #[], argTypes := ts }).operands.toList = [f] := rfl
theorem aoI {f x : Operand} {ts : Array Nat} : (Op.call { callee := .value f, args := #[x], argTypes := ts }).operands.toList = [f, x] := rfl
theorem aoM {f x y : Operand} {ts : Array Nat} : (Op.call { callee := .value f, args := #[x, y], argTypes := ts }).operands.toList = [f, x, y] := rfl
theorem aoJ {f x y z : Operand} {ts : Array Nat} : (Op.call { callee := .value f, args := #[x, y, z], argTypes := ts }).operands.toList = [f, x, y, z] := rfl
theorem apd {f x y z u : Operand} {ts : Array Nat} : (Op.call { callee := .value f, args := #[x, y, z, u], argTypes := ts }).operands.toList = [f, x, y, z, u] := rfl
theorem aiV {x : Operand} : (Op.nilCheck x).operands.toList = [x] := rfl
attribute [go_sem] qN apc aoI aoM aoJ apd aiV
attribute [go_sem ↓] reduceIte
attribute [go_sem] reduceCtorEq Nat.reduceEqDiff Nat.reduceAdd Nat.reduceMul Nat.reduceSub Nat.reduceLT Nat.reduceLeDiff Nat.reducePow Nat.reduceBEq Nat.reduceBNe Int.reduceNeg Int.reduceBEq Int.reduceBNe Int.reduceAdd Int.reduceSub Int.reduceMul Int.reduceLT Int.reduceLE Int.reduceToNat Int.reduceEq Int.reduceNe List.take_length abR alS aaE YW
section
variable {K : St → Prop} {Q : qg → St → Prop} {s : St} {G : Prop}
theorem akd (f : G → K s) : G → qg.then K Q .normal s := f
theorem akf (f : G → Q .ret s) : G → qg.then K Q .ret s := f
theorem akJ {id : Nat} (f : G → Q (.exit id) s) : G → qg.then K Q (.exit id) s := f
theorem aiw {id : Nat} (f : G → Q .normal s) : G → qg.inBlock id Q .normal s := f
theorem aih {id : Nat} (f : G → Q .ret s) : G → qg.inBlock id Q .ret s := f
theorem aew {id : Nat} (f : G → Q .normal s) : G → qg.inBlock id Q (.exit id) s := fun g => aob (f g)
theorem ahE {id id' : Nat} (hn : (id' == id) = false) (f : G → Q (.exit id') s) : G → qg.inBlock id Q (.exit id') s := fun g => arS hn (f g)
theorem aim (f : G → Q .normal s) : G → qg.noGoto Q .normal s := f
theorem ahR (f : G → Q .ret s) : G → qg.noGoto Q .ret s := f
theorem ah7 {id : Nat} (f : G → Q (.exit id) s) : G → qg.noGoto Q (.exit id) s := f
theorem aui {X : Cx} {c : Code} (f : G → awp X c Q s) : G → wS (awp X c Q) s := fun g => kg (f g)
end
theorem nmx {A G : Prop} (h : G) (t : G → A := by (repeat (with_reducible first | apply akd | apply akf | apply akJ | apply aiw | apply aih | apply aew | apply ahE rfl | apply aim | apply ahR | apply ah7 | apply aui)); exact id) : A := t h
theorem nmy {A G : Prop} (h : G) (t : G → A := by (repeat (with_reducible first | apply akd | apply akf | apply akJ | apply aiw | apply aih | apply aew | apply ahE rfl | apply aim | apply ahR | apply ah7)); exact id) : A := t h
theorem sd {p q : Prop} (h : q) (hp : p := by first | assumption | (try simp only [List.length_append, List.length_cons, List.length_nil] at *; omega)) : p ∧ q := ⟨hp, h⟩
theorem wkl {G : Prop} (t : G := by (repeat (first | exact WkL.refl _ | exact Wk.refl _ | exact Wk.nil _ | refine WkL.cons _ _ _ _ ?_ ?_ | exact WkL.nil | refine Wk.agg _ _ ?_ | refine Wk.tup _ _ ?_))) : G := t
theorem wkb {G : Prop} (t : G := by (repeat (with_reducible first | exact trivial | exact rfl | exact WkL.refl _ | exact Wk.refl _ | exact Wk.nil _ | refine And.intro ?_ ?_ | refine WkL.cons _ _ _ _ ?_ ?_ | exact WkL.nil | refine Wk.agg _ _ ?_ | refine Wk.tup _ _ ?_))) : G := t
theorem wkw {G : Prop} (t : G := by (repeat (first | exact Wk.refl _ | exact WkL.refl _ | exact Wk.nil _ | refine Wk.agg _ _ ?_ | refine Wk.tup _ _ ?_ | refine WkL.cons _ _ _ _ ?_ ?_ | exact WkL.nil))) : G := t
theorem zy {P : Program} {rs : List RV} {r : PV} {s : St} (h : match wu P s rs with
    | some vs => Wk (yP s.sto.find (ve vs)) r
    | none => False := by simp only [go_sem, wu, jA, ku, ve, yP, List.map_cons, List.map_append, List.head?_cons]; (repeat (first | exact Wk.refl _ | exact WkL.refl _ | exact Wk.nil _ | refine Wk.agg _ _ ?_ | refine Wk.tup _ _ ?_ | refine WkL.cons _ _ _ _ ?_ ?_ | exact WkL.nil))) (h3 : r.pure = true := by rfl) : zR P rs r [] .ret s := anZ h h3
end Go.Proofs.YtclohbgnaopjfaaDoor
