/- Texts of the proof of diffChainCard -/
import Derived.Test.YtclohbgnaopjfaaDoorLwA
namespace Go.Proofs.YtclohbgnaopjfaaDoor
set_option linter.unusedSimpArgs false
set_option linter.unusedVariables false
open Go Classical
inductive Does : za → List zo → za → Prop
 | nil (n : za) : Does n [] n
 | cons (n a b : za) (s : zo) (l : List zo) (h1 : qH n s = some (a, 0)) (h2 : Does a l b) : Does n (s :: l) b
theorem axq {n b : za} {l : List zo} (h : Does n l b) : ∀ v, y9 l v n = some (.inr b) := by
 induction h with
 | nil n => intro v; rfl
 | cons n a b s l h1 h2 ih =>
  intro v
  rw [y9, h1]
  simp only [Option.bind_some]
  rw [if_neg (by decide), ih]
theorem anE {n b : za} {l : List zo} (h : Does n l b) (hl : l.length ≤ 9223372036854775807) : Xc n l = some (b, 0) := by
 unfold Xc
 rw [qB hl, axq h]
 rfl
theorem Does.app {n a b : za} {l r : List zo} (h : Does n l a) (h2 : Does a r b) : Does n (l ++ r) b := by
 induction h with
 | nil n => exact h2
 | cons n a' b' s l h1 _ ih => exact .cons _ _ _ _ _ h1 (ih h2)
def TOk (T : List Tk) : Prop := ∀ c m, Tk.sgn c m ∈ T → vW m = true
theorem al9 : ∀ (l : List za), (∀ n ∈ l, TOk (tkN n)) → TOk (tkL l)
 | [], _ => by intro c m h; simp [tkL] at h
 | n :: l, h => by
  intro c m hc
  rw [tkL, List.mem_append] at hc
  rcases hc with hc | hc
  ·exact h n (by simp) c m hc
  ·exact al9 l (fun x hx => h x (by simp [hx])) c m hc
theorem avl (n : za) : qg n = true → TOk (tkN n) := by
 induction n using za.ind with
 | h n ih =>
  intro hf c m hc
  rw [kg] at hc
  cases ht : isT n with
  | true =>
   rw [if_pos ht, List.mem_map] at hc
   obtain ⟨x, _, hx⟩ := hc
   cases hx
   exact (yI hf ht).2.2.1
  | false =>
   have hr := kM hf ht
   simp only [ht, Bool.false_eq_true, if_false, List.mem_cons, reduceCtorEq, false_or, List.mem_append, List.not_mem_nil, or_false] at hc
   exact al9 n.Kids (fun x hx => ih x hx (hr.form x hx)) c m hc
theorem TD.tok {n T} (h : TD n T) : TOk T := by rw [← h.tk]; exact al9 _ fun x hx => avl x (h.row.form x hx)
theorem ayj {x : Str} {m : List Str} (hm : vW m = true) (hx : isName x = true) : mkS 109 x (mkS 109 x m) = mkS 109 x m := by
 obtain ⟨a1, a2, _⟩ := ak3 hm hx
 obtain ⟨b1, b2, _⟩ := ak3 a1 hx
 refine Xy b1 a1 fun y => ?_
 rw [b2, a2]
 constructor
 ·rintro (h | h)
  ·exact .inl h
  ·exact h
 ·exact .inr
theorem awz {k : Int} (hk : k = 109 ∨ k = 117) {x : Str} {m : List Str} (hm : vW m = true) (hx : isName x = true) (hc : mkS k x m ≠ m) : mkS (226 - k) x (mkS k x m) = m := by
 rcases hk with rfl | rfl
 ·obtain ⟨a1, a2, a3⟩ := ak3 hm hx
  have hnot : x ∉ m := by
   have := amz 109 hm hx
   rw [a3] at this
   have h2 := of_decide_eq_true (this.trans (decide_eq_true hc))
   exact h2
  obtain ⟨b1, b2, _⟩ := aeY (k := 226 - 109) (by decide) a1 (x := x)
  refine Xy b1 hm fun y => ?_
  rw [b2, a2]
  constructor
  ·rintro ⟨h1, h2 | h2⟩
   ·exact absurd h2 h1
   ·exact h2
  ·intro h
   exact ⟨fun e => hnot (e ▸ h), .inr h⟩
 ·obtain ⟨a1, a2, a3⟩ := aeY (k := 117) (by decide) hm (x := x)
  have hin : x ∈ m := by
   have := amz 117 hm hx
   rw [a3] at this
   exact of_decide_eq_true (this.trans (decide_eq_true hc))
  have e : (226 - 117 : Int) = 109 := by decide
  rw [e]
  obtain ⟨b1, b2, _⟩ := ak3 a1 hx
  refine Xy b1 hm fun y => ?_
  rw [b2, a2]
  constructor
  ·rintro (rfl | h)
   ·exact hin
   ·exact h.2
  ·intro h
   by_cases e : y = x
   ·exact .inl e
   ·exact .inr ⟨e, h⟩
theorem aw5 (W : Nat) : ∀ l : List za, (∀ n ∈ l, tw (tkN n) ≤ nwt n * (W + 10)) → tw (tkL l) ≤ zN l * (W + 10) := amd W
theorem axK (W : Nat) (n : za) : (∀ c m, Tk.sgn c m ∈ tkN n → wQ m ≤ W) → tw (tkN n) ≤ nwt n * (W + 10) := by
 induction n using za.ind with
 | h n ih =>
  intro hm
  have e := qi n
  rw [kg] at hm ⊢
  cases ht : isT n with
  | true =>
   simp only [ht, if_true] at hm ⊢
   rw [alG]
   have hr := ami n.Text
   rw [← Zk] at hr
   by_cases h0 : runes n.Text = []
   ·rw [h0]; simp
   ·obtain ⟨c, l, hcl⟩ := List.exists_cons_of_ne_nil h0
    have hmm := hm c n.Marks (by rw [hcl]; simp)
    exact Nat.mul_le_mul (by omega) (by omega)
  | false =>
   simp only [ht, Bool.false_eq_true, if_false] at hm ⊢
   have h1 := amd W n.Kids fun x hx => ih x hx fun c m hc => hm c m (by
    have : Tk.sgn c m ∈ tkL n.Kids := by
     obtain ⟨i, hi⟩ := List.mem_iff_getElem?.1 hx
     rw [VN hi]
     simp [hc]
    simp [this])
   simp only [tw, ajm, JQ]
   have h2 : (2 + n.Kind.length + wM n.zh) ≤ (2 + n.Kind.length + wM n.zh) * (W + 10) := Nat.le_mul_of_pos_right _ (by omega)
   have h3 : (2 + n.Kind.length + wM n.zh + zN n.Kids) * (W + 10) ≤ nwt n * (W + 10) := Nat.mul_le_mul_right _ (by omega)
   rw [Nat.add_mul] at h3
   omega
end Go.Proofs.YtclohbgnaopjfaaDoor
namespace Go.Proofs.YtclohbgnaopjfaaDoor
set_option linter.unusedSimpArgs false
set_option linter.unusedVariables false
open Go Classical
theorem afy {n : za} {T P S : List Tk} {Y : List It} (h : TD n T) (hw : wD n T ≤ 100000000) (hT : T = P ++ (tkI Y ++ S)) (fy : FI Y) {l : List za} (hl : vD l) (hlw : zN l ≤ 268435400) :
  ∃ N, qg N = true ∧ isT N = false ∧ N.Kind = n.Kind ∧ N.zh = n.zh ∧ tkL N.Kids = P ++ (tkL l ++ S) ∧ qH n ⟨114, (P.length : Int), ((P.length + szI Y : Nat) : Int), l, [], []⟩ = some (if checkN N = 0 then (N, 0) else (afA, checkN N)) := by
 obtain ⟨N, h1, h2, h3, h4, h5, h6⟩ := avK h hw hT fy hl.form (by omega)
 have hsm := h.small
 have hln : P.length + szI Y ≤ T.length := by rw [hT]; simp only [List.length_append, Yn]; omega
 refine ⟨N, h1, h2, h3, h4, h5, ?_⟩
 rw [WO h hw _ (ajU hl hlw (by omega) (by omega))]
 simp only
 rw [if_pos (by decide), h6]
 by_cases hc : checkN N = 0
 ·rw [if_pos hc]; rfl
 ·rw [if_neg hc]; rfl
theorem aus {n N : za} {f t : Int} {l : List za} {c : List za} (h1 : qH n ⟨114, f, t, l, [], []⟩ = some (N, 0)) (h2 : WW n f t = some (c, 0)) (hw : zN l ≤ 1099511627776) : jo n ⟨114, f, t, l, [], []⟩ = some ([⟨114, f, w64 (f + (zC l : Int)), c, [], []⟩], 0) := by
 unfold jo
 rw [h1]
 simp only [Option.bind_some, bne_self_eq_false, Bool.false_eq_true, if_false]
 rw [if_pos (by decide), h2]
 simp only [Option.bind_some]
 rw [QN l hw]
 rfl
theorem arL {n N : za} {T P S : List Tk} {Y : List It} (h : TD n T) (hw : wD n T ≤ 40000000) (hT : T = P ++ (tkI Y ++ S)) (fy : FI Y) {l : List za} (hl : vD l) (hlw : tw (tkL l) ≤ 10000000) (hN : TD N (P ++ (tkL l ++ S))) (hk : N.Kind = n.Kind) (ha : N.zh = n.zh)
  (h1 : qH n ⟨114, (P.length : Int), ((P.length + szI Y : Nat) : Int), l, [], []⟩ = some (N, 0)) :
  ∃ c, jo n ⟨114, (P.length : Int), ((P.length + szI Y : Nat) : Int), l, [], []⟩ = some ([c], 0) ∧ qH N c = some (n, 0) := by
 have hlt := al3 hl
 have hwt := h.wt
 obtain ⟨c, c1, c2, c3, c4⟩ := avB h (by omega) hT fy
 have hsm := h.small
 have hsn := hN.small
 have hsl : (tkL l).length = zC l := yR l
 simp only [List.length_append] at hsn
 have e1 : w64 ((P.length : Int) + (zC l : Int)) = ((P.length + szI (items l) : Nat) : Int) := by
  rw [yc, zW (by omega)]; omega
 have hu := aus h1 c1 (by omega)
 rw [e1] at hu
 refine ⟨_, hu, ?_⟩
 have hwN : wD N (P ++ (tkL l ++ S)) ≤ 100000000 := by
  unfold wD at hw ⊢
  rw [hk, ha]
  rw [hT] at hw
  simp only [JQ] at hw ⊢
  omega
 obtain ⟨M, m1, m2, m3, m4, m5, m6⟩ := afy (Y := items l) hN hwN (by rw [vB]) (ZL hl.form) c2 (by omega)
 have hM : M = n := by
  refine atm m1 h.form m2 h.nt (by rw [m3, hk]) (by rw [m4, ha]) ?_
  rw [m5, h.tk, hT, ← vB c, c3]
 subst hM
 rw [h.ok] at m6
 exact m6
theorem anX {n : za} {T : List Tk} (h : TD n T) (hw : wD n T ≤ 100000000) {f t : Nat} (hft : f ≤ t) (ht : t ≤ T.length) {l : List za} (hl : vD l) (hlw : zN l ≤ 268435400) :
  (∃ P Y S, T = P ++ (tkI Y ++ S) ∧ FI Y ∧ P.length = f ∧ P.length + szI Y = t) ∨ qH n ⟨114, (f : Int), (t : Int), l, [], []⟩ = some (afA, 10) := by
 have hn := h.rn hw
 have hlen := h.len
 have hwt := h.wt
 have hsm := h.small
 obtain ⟨s1, e1, o1⟩ := Qe h.nt (by omega) f (by omega)
 obtain ⟨s2, e2, o2⟩ := Qe h.nt (by omega) t (by omega)
 by_cases hp : s1.Path = s2.Path
 ·left
  obtain ⟨q, m, a, X, Y, Z, hF, _⟩ := aq9 hn hft o1 o2 hp
  obtain ⟨P1, S1, g1, g2, _⟩ := at_end hF.at_
  rw [h.tk, ← vB m.Kids, hF.it, Vm, Vm] at g2
  have x1 := Yn X
  have x2 := hF.sx
  have x3 := hF.sy
  have fm := kM (hF.at_.form hn.form) hF.nt
  have fi := ZL fm.form
  rw [hF.it] at fi
  refine ⟨P1 ++ tkI X, Y, tkI Z ++ S1, by rw [g2]; simp only [List.append_assoc], fun x hx => fi x (by simp [hx]), by simp only [List.length_append]; omega, by simp only [List.length_append]; omega⟩
 ·right
  have hwh := anR hn hft o1 e1 e2 hp
  rw [WO h hw _ (ajU hl hlw hft (by omega))]
  simp only
  rw [if_pos (by decide)]
  have hput : Zl n (f : Int) (t : Int) l = some (afA, 10) := by
   have g2 := atE (afB hl.form).1
   have hjw := Y7 l
   have hxw : nwt (⟨[120], [], [], [], yF l⟩ : za) ≤ 1099511627776 := by
    rw [qi]; simp only [wQ, wM, List.length_cons, List.length_nil]; omega
   unfold Zl
   rw [hwh]
   simp only [Option.bind_some]
   have z2 : ((10 : Int) == 2) = false := rfl
   have z3 : ((10 : Int) != 0) = true := rfl
   simp only [z2, Bool.false_eq_true, if_false]
   rw [ade l (by omega)]
   simp only [Option.bind_some]
   rw [Y0 _ hxw]
   have g2' : (checkN (⟨[120], [], [], [], yF l⟩ : za) == 2) = false := by simpa using g2
   simp only [Option.bind_some, g2', Bool.false_eq_true, if_false, z3, if_true]
  rw [hput]
  rfl
end Go.Proofs.YtclohbgnaopjfaaDoor
namespace Go.Proofs.YtclohbgnaopjfaaDoor
set_option linter.unusedSimpArgs false
set_option linter.unusedVariables false
open Go Classical
def alx (T : List Tk) (p : Nat) (nm : Str) (k : Str) (aa : List ze) (i : Nat) (a : ze) : Prop := T[p]? = some (.opn k aa) ∧ aa[i]? = some a ∧ a.Name = nm
theorem aoZ {n : za} {T : List Tk} (h : TD n T) (hw : wD n T ≤ 100000000) (p : Nat) (hp : p ≤ 1048576) {nm v : Str} (hn : isName nm = true) (hv : isValue v = true) :
  (∃ k aa i a, alx T p nm k aa i a) ∨ ∃ e, e ≠ 0 ∧ qH n ⟨97, (p : Int), 0, [], nm, v⟩ = some (afA, e) := by
 by_cases ho : ∃ k aa i a, alx T p nm k aa i a
 ·exact .inl ho
 ·right
  obtain ⟨e, he, hs⟩ := axm h hw ⟨97, (p : Int), 0, [], nm, v⟩ (by simp) fun k aa hk a ha hnm => by
   obtain ⟨i, hi⟩ := List.mem_iff_getElem?.1 ha
   exact ho ⟨k, aa, i, a, by simpa using hk, hi, hnm⟩
  refine ⟨e, he, ?_⟩
  rw [WO h hw _ (acJ hn hv (by omega) (by omega) (by have := YN hn; omega))]
  simp only
  rw [if_neg (by decide), if_pos (by decide), hs]
  rfl
theorem als {n : za} {T : List Tk} (h : TD n T) (hw : wD n T ≤ 100000000) {p : Nat} {nm : Str} {k : Str} {aa : List ze} {i : Nat} {a : ze} (ha : alx T p nm k aa i a) {v : Str} (hv : isValue v = true) :
  ∃ N, qH n ⟨97, (p : Int), 0, [], nm, v⟩ = some (N, 0) ∧ jS n ⟨97, (p : Int), 0, [], nm, v⟩ = some (N, a.Value, 0) ∧ TD N (T.set p (.opn k (Wt aa i v))) ∧ N.Kind = n.Kind ∧ N.zh = n.zh ∧ wD N (T.set p (.opn k (Wt aa i v))) ≤ wD n T + 40 := by
 obtain ⟨h1, h2, rfl⟩ := ha
 obtain ⟨N, g1, g2, g3, g4, g5, g6⟩ := apu h hw h1 h2 hv
 have := afv hv
 exact ⟨N, g1, g2, g3, g4, g5, by omega⟩
theorem ako {n : za} {T : List Tk} (h : TD n T) (hw : wD n T ≤ 100000000) {p : Nat} {k : Str} {aa : List ze} (hp : T[p]? = some (.opn k aa)) : aa.all (fun x => isValue x.Value) = true ∧ vW (aa.map (·.Name)) = true := by
 obtain ⟨q, x, _, hx, ht, _, rfl⟩ := XM h hw hp
 obtain ⟨f1, _, _, _, f5, _⟩ := aba (hx.form h.form) ht
 exact ⟨f1, f5⟩
theorem asc {aa : List ze} {i : Nat} {a : ze} (h : aa[i]? = some a) (v : Str) : Wt (Wt aa i v) i a.Value = aa := by
 refine List.ext_getElem? fun j => ?_
 rw [XE, XE]
 by_cases e : j = i
 ·subst e
  rw [if_pos rfl, if_pos rfl, h]
  rfl
 ·rw [if_neg e, XE, if_neg e]
theorem azo {T : List Tk} {p : Nat} {nm k : Str} {aa : List ze} {i : Nat} {a : ze} (h : alx T p nm k aa i a) (v : Str) : (T.set p (.opn k (Wt aa i v)))[p]? = some (.opn k (Wt aa i v)) := by
 have hl := (List.getElem?_eq_some_iff.1 h.1).1
 rw [List.getElem?_set_self hl]
theorem alx.set {T : List Tk} {p : Nat} {nm k : Str} {aa : List ze} {i : Nat} {a : ze} (h : alx T p nm k aa i a) (v : Str) : alx (T.set p (.opn k (Wt aa i v))) p nm k (Wt aa i v) i { a with Value := v } := by
 refine ⟨azo h v, ?_, h.2.2⟩
 rw [XE, if_pos rfl, h.2.1]
 rfl
theorem arO {n N : za} {s : zo} {w : Str} (hk : s.Kind = 97) (h1 : qH n s = some (N, 0)) (h2 : jS n s = some (N, w, 0)) : jo n s = some ([⟨97, s.From, 0, [], s.Name, w⟩], 0) := by
 unfold jo
 rw [h1]
 simp only [Option.bind_some, bne_self_eq_false, Bool.false_eq_true, if_false]
 rw [hk, if_neg (by decide), if_pos (by decide), h2]
 rfl
theorem aea {n N : za} {s : zo} {e : Int} (he : e ≠ 0) (h1 : qH n s = some (N, e)) : jo n s = some ([], e) := by
 unfold jo
 rw [h1]
 simp only [Option.bind_some]
 rw [if_pos (by simpa using he)]
theorem aog {T : List Tk} {p : Nat} {nm k : Str} {aa : List ze} {i : Nat} {a : ze} (h : alx T p nm k aa i a) {v : Str} : (T.set p (.opn k (Wt aa i v))).set p (.opn k (Wt (Wt aa i v) i a.Value)) = T := by
 rw [asc h.2.1, List.set_set]
 obtain ⟨_, hg⟩ := List.getElem?_eq_some_iff.1 h.1
 rw [← hg, List.set_getElem_self]
end Go.Proofs.YtclohbgnaopjfaaDoor
namespace Go.Proofs.YtclohbgnaopjfaaDoor
set_option linter.unusedSimpArgs false
set_option linter.unusedVariables false
open Go Classical
inductive anB (T : List Tk) : zo → Prop
 | rep (f t : Nat) (l : List za) (hft : f ≤ t) (ht : t ≤ T.length) (hl : vD l) (hw : tw (tkL l) ≤ 1000000) : anB T ⟨114, (f : Int), (t : Int), l, [], []⟩
 | attr (p : Int) (nm v : Str) (h1 : -1 ≤ p) (h2 : p ≤ T.length) (hn : isName nm = true) (hv : isValue v = true) : anB T ⟨97, p, 0, [], nm, v⟩
 | mark (k : Int) (x : Str) (a b : Nat) (hk : k = 109 ∨ k = 117) (hx : isName x = true) (hab : a ≤ b) (hb : b ≤ T.length) : anB T ⟨k, (a : Int), (b : Int), [], x, []⟩
end Go.Proofs.YtclohbgnaopjfaaDoor
namespace Go.Proofs.YtclohbgnaopjfaaDoor
set_option linter.unusedSimpArgs false
set_option linter.unusedVariables false
open Go
def af0 (x : Option Bool) (p : Prop) : Prop := ∃ b, x = some b ∧ (b = true ↔ p)
theorem af0.yes {x : Option Bool} {p : Prop} (h : af0 x p) (hp : p) : x = some true := by
 obtain ⟨b, rfl, hb⟩ := h
 rw [hb.2 hp]
theorem af0.no {x : Option Bool} {p : Prop} (h : af0 x p) (hp : ¬ p) : x = some false := by
 obtain ⟨b, rfl, hb⟩ := h
 cases b with
 | false => rfl
 | true => exact (hp (hb.1 rfl)).elim
end Go.Proofs.YtclohbgnaopjfaaDoor
namespace Go.Proofs.YtclohbgnaopjfaaDoor
set_option linter.unusedSimpArgs false
set_option linter.unusedVariables false
open Go
theorem auh (b : List ze) : ∀ (suf pre : List ze) (i : Int), i = (pre.length : Int) → b.length = pre.length + suf.length → b.take pre.length = pre → qa b suf i = some (if pre ++ suf = b then .inr () else .inl false)
 | [], pre, i, hi, hl, ht => by
  have : pre = b := by
   rw [← ht, List.take_of_length_le]
   simp at hl; omega
  simp [qa, this]
 | y :: suf, pre, i, hi, hl, ht => by
  simp only [List.length_cons] at hl
  obtain ⟨x, hx⟩ : ∃ x, b[pre.length]? = some x := ⟨b[pre.length], List.getElem?_eq_getElem (by omega)⟩
  rw [qa, hi, xM hx]
  simp only [Option.bind_some]
  have htk : b.take (pre.length + 1) = pre ++ [x] := by
   rw [List.take_add_one, ht, hx]
   rfl
  by_cases hxy : y = x
  ·subst hxy
   simp only [beq_self_eq_true, Bool.and_self, bne_self_eq_false, Bool.false_eq_true, if_false]
   rw [auh b suf (pre ++ [y]) _ (by simp) (by simp; omega) (by simpa using htk)]
   simp
  ·have hn : ¬ pre ++ y :: suf = b := by
    intro h
    rw [← h] at hx
    simp at hx
    exact hxy hx
   have g : (((y.Name == x.Name) && (y.Value == x.Value)) != true) = true := by
    rw [bne_iff_ne, ne_eq, Bool.and_eq_true, beq_iff_eq, beq_iff_eq]
    rintro ⟨h1, h2⟩
    apply hxy
    cases y; cases x
    simp_all
   rw [if_pos g, if_neg hn]
theorem axs (a b : List ze) (h : a.length ≤ 9223372036854775807) : af0 (wZ a b) (a = b) := by
 unfold wZ
 by_cases hl : a.length = b.length
 ·simp only [hl, bne_self_eq_false, Bool.false_eq_true, if_false]
  rw [qB (by omega), auh b a [] 0 rfl (by simp [hl]) (by simp)]
  by_cases e : a = b
  ·exact ⟨true, by simp [e], by simp [e]⟩
  ·exact ⟨false, by simp [e], by simp [e]⟩
 ·have h1 : ((a.length : Int) != (b.length : Int)) = true := by simp; omega
  have h2 : ¬ a = b := fun e => hl (by rw [e])
  rw [if_pos h1]
  exact ⟨false, rfl, by simp [h2]⟩
theorem auP (f : za → za → Option Bool) (b : List za) : ∀ (suf pre : List za) (i : Int), i = (pre.length : Int) → b.length = pre.length + suf.length → b.take pre.length = pre → (∀ x ∈ suf, ∀ y, af0 (f x y) (x = y)) → ∃ r, zL b f suf i = some r ∧ ((r = .inr () ∧ pre ++ suf = b) ∨ (r = .inl false ∧ pre ++ suf ≠ b))
 | [], pre, i, hi, hl, ht, _ => by
  have : pre = b := by
   rw [← ht, List.take_of_length_le]
   simp at hl; omega
  exact ⟨_, rfl, .inl ⟨rfl, by simp [this]⟩⟩
 | y :: suf, pre, i, hi, hl, ht, hf => by
  simp only [List.length_cons] at hl
  obtain ⟨x, hx⟩ : ∃ x, b[pre.length]? = some x := ⟨b[pre.length], List.getElem?_eq_getElem (by omega)⟩
  rw [zL, hi, xM hx]
  simp only [Option.bind_some]
  have htk : b.take (pre.length + 1) = pre ++ [x] := by
   rw [List.take_add_one, ht, hx]
   rfl
  by_cases hxy : y = x
  ·subst hxy
   rw [(hf y (by simp) y).yes rfl]
   simp only [Option.bind_some, Bool.not_true, Bool.false_eq_true, if_false]
   obtain ⟨r, h1, h2⟩ := auP f b suf (pre ++ [y]) ((pre.length : Int) + 1) (by simp) (by simp; omega) (by simpa using htk) fun z hz => hf z (by simp [hz])
   exact ⟨r, h1, by simpa using h2⟩
  ·have hn : ¬ pre ++ y :: suf = b := by
    intro h
    rw [← h] at hx
    simp at hx
    exact hxy hx
   rw [(hf y (by simp) x).no hxy]
   exact ⟨_, rfl, .inr ⟨rfl, hn⟩⟩
theorem aqA (n : za) : nwt n ≤ 1099511627776 → ∀ kr, 2 * yS n ≤ kr → ∀ m, af0 (vF kr n m) (n = m) := by
 induction n using za.ind with
 | h n ih =>
  intro hw kr hk m
  have hd := xy n
  obtain ⟨kr, rfl⟩ : ∃ j, kr = j + 1 + 1 := ⟨kr - 2, by omega⟩
  have hwt := qi n
  have hl := qw n.Kids
  have hs := aa9 n.Marks
  have ha := xx n.zh
  have key : n = m ↔ n.Kind = m.Kind ∧ n.Text = m.Text ∧ n.Marks = m.Marks ∧ n.zh = m.zh ∧ n.Kids = m.Kids := by
   cases n; cases m; simp
  rw [vF]
  by_cases h1 : n.Kind = m.Kind
  ·by_cases h2 : n.Text = m.Text
   ·simp only [h1, h2, beq_self_eq_true, if_true]
    rw [auW _ _ (by omega)]
    simp only [Option.bind_some]
    by_cases h3 : n.Marks = m.Marks
    ·simp only [h3, decide_true, if_true]
     obtain ⟨b, e4, h4⟩ := axs n.zh m.zh (by omega)
     rw [e4]
     simp only [Option.bind_some]
     cases b with
     | true =>
      have h4' := h4.1 rfl
      simp only [if_true]
      rw [zY]
      by_cases hkl : n.Kids.length = m.Kids.length
      ·simp only [hkl, bne_self_eq_false, Bool.false_eq_true, if_false]
       obtain ⟨r, e5, h5⟩ := auP (vF kr) m.Kids n.Kids [] 0 rfl (by simp [hkl]) (by simp) fun k hkk y => ih k hkk (by have := jI hkk; omega) kr (by have := xR hkk; omega) y
       rw [qB (by omega), e5]
       simp only [List.nil_append] at h5
       rcases h5 with ⟨rfl, h5⟩ | ⟨rfl, h5⟩
       ·exact ⟨true, rfl, by simp [key, h1, h2, h3, h4', h5]⟩
       ·exact ⟨false, rfl, by simp [key, h5]⟩
      ·have g : ((n.Kids.length : Int) != (m.Kids.length : Int)) = true := by simp; omega
       rw [if_pos g]
       exact ⟨false, rfl, by
        simp only [Bool.false_eq_true, false_iff]
        rintro rfl
        exact hkl rfl⟩
     | false =>
      have h4' : ¬ n.zh = m.zh := fun e => by have := h4.2 e; cases this
      exact ⟨false, by simp, by simp [key, h4']⟩
    ·exact ⟨false, by simp [h3], by simp [key, h3]⟩
   ·exact ⟨false, by simp [h1, h2], by simp [key, h2]⟩
  ·exact ⟨false, by simp [h1], by simp [key, h1]⟩
theorem aot (n m : za) (h : nwt n ≤ 1099511627776) : af0 (jQ n m) (n = m) := by
 by_cases e : n = m
 ·refine ⟨true, ?_, by simp [e]⟩
  unfold jQ
  exact yV (2 * yS n) fun k hk => (aqA n h k hk m).yes e
 ·refine ⟨false, ?_, by simp [e]⟩
  unfold jQ
  exact yV (2 * yS n) fun k hk => (aqA n h k hk m).no e
end Go.Proofs.YtclohbgnaopjfaaDoor
namespace Go.Proofs.YtclohbgnaopjfaaDoor
set_option linter.unusedSimpArgs false
set_option linter.unusedVariables false
open Go Classical
noncomputable def cH : List za → List za → Nat
 | x :: l, y :: r => if x = y then cH l r + 1 else 0
 | _, _ => 0
theorem awP : ∀ l r : List za, cH l r ≤ l.length ∧ cH l r ≤ r.length
 | [], r => by simp [cH]
 | x :: l, [] => by simp [cH]
 | x :: l, y :: r => by
  have := awP l r
  rw [cH]
  split <;> simp <;> omega
noncomputable def cT (x y : List za) (h : Nat) : Nat := min (cH x.reverse y.reverse) (min x.length y.length - h)
theorem anK (x y : za) (h : nwt x ≤ 1099511627776) : jQ x y = some (decide (x = y)) := by
 obtain ⟨b, h1, h2⟩ := aot x y h
 rw [h1]
 by_cases e : x = y
 ·rw [h2.2 e]; simp [e]
 ·cases b with
  | false => simp [e]
  | true => exact (e (h2.1 rfl)).elim
theorem awI (x y : List za) (hw : zN x ≤ 1099511627776) (hy : y.length ≤ 1099511627776) : ∀ (sx sy px py : List za) (k : Nat), x = px ++ sx → y = py ++ sy → px.length = py.length → sx.length < k → xI x y k (px.length : Int) = some ((px.length + cH sx sy : Nat) : Int)
 | [], sy, px, py, k, hx, hy', hl, hk => by
  obtain ⟨k, rfl⟩ : ∃ j, k = j + 1 := ⟨k - 1, by omega⟩
  have hxl := congrArg List.length hx
  simp only [List.length_append, List.length_nil] at hxl
  have g : decide ((px.length : Int) < (if (y.length : Int) < (x.length : Int) then (y.length : Int) else (x.length : Int))) = false := by
   simp; split <;> omega
  rw [xI, g]
  simp [cH]
 | a :: sx, [], px, py, k, hx, hy', hl, hk => by
  obtain ⟨k, rfl⟩ : ∃ j, k = j + 1 := ⟨k - 1, by omega⟩
  have hyl := congrArg List.length hy'
  simp only [List.length_append, List.length_nil] at hyl
  have g : decide ((px.length : Int) < (if (y.length : Int) < (x.length : Int) then (y.length : Int) else (x.length : Int))) = false := by
   simp; split <;> omega
  rw [xI, g]
  simp [cH]
 | a :: sx, b :: sy, px, py, k, hx, hy', hl, hk => by
  obtain ⟨k, rfl⟩ : ∃ j, k = j + 1 := ⟨k - 1, by omega⟩
  have hxl := congrArg List.length hx
  have hyl := congrArg List.length hy'
  simp only [List.length_append, List.length_cons] at hxl hyl hk
  have hlen := qw x
  have g : decide ((px.length : Int) < (if (y.length : Int) < (x.length : Int) then (y.length : Int) else (x.length : Int))) = true := by
   simp; split <;> omega
  have r1 : rd x (px.length : Int) = some a := by rw [hx]; exact Qf _ _ _
  have r2 : rd y (px.length : Int) = some b := by rw [hy', hl]; exact Qf _ _ _
  have hwa : nwt a ≤ zN x := jI (by rw [hx]; simp)
  rw [xI, g]
  simp only [if_true, r1, r2, Option.bind_some]
  rw [anK a b (by omega)]
  simp only [Option.bind_some]
  by_cases e : a = b
  ·have ih := awI x y hw hy sx sy (px ++ [a]) (py ++ [b]) k (by simp [hx]) (by simp [hy']) (by simp [hl]) (by omega)
   have e1 : w64 ((px.length : Int) + 1) = ((px ++ [a]).length : Int) := by rw [zW (by omega)]; simp
   rw [if_pos (by simp [e]), e1, ih, cH, if_pos e]
   simp; omega
  ·rw [if_neg (by simp [e]), cH, if_neg e]
   simp
theorem ax4 (x y : List za) (h : Nat) (hw : zN x ≤ 1099511627776) (hyl : y.length ≤ 1099511627776) (hh : h ≤ x.length ∧ h ≤ y.length) : ∀ (u v tx ty : List za) (k : Nat), x = u.reverse ++ tx → y = v.reverse ++ ty → tx.length = ty.length → tx.length ≤ min x.length y.length - h → u.length < k →
  yw x y (h : Int) k (tx.length : Int) = some ((tx.length + min (cH u v) (min x.length y.length - h - tx.length) : Nat) : Int) := by
 have hlen := qw x
 have hlim : w64 ((if (y.length : Int) < (x.length : Int) then (y.length : Int) else (x.length : Int)) - (h : Int)) = ((min x.length y.length - h : Nat) : Int) := by
  have : (if (y.length : Int) < (x.length : Int) then (y.length : Int) else (x.length : Int)) = ((min x.length y.length : Nat) : Int) := by split <;> omega
  rw [this, zW (by omega)]
  omega
 intro u
 induction u with
 | nil =>
  intro v tx ty k hx hy hl ht hk
  obtain ⟨k, rfl⟩ : ∃ j, k = j + 1 := ⟨k - 1, by omega⟩
  have hxl := congrArg List.length hx
  simp at hxl
  have g : decide ((tx.length : Int) < ((min x.length y.length - h : Nat) : Int)) = decide (tx.length < min x.length y.length - h) := by simp
  rw [yw, hlim]
  by_cases c : tx.length < min x.length y.length - h
  ·omega
  ·have g : decide ((tx.length : Int) < ((min x.length y.length - h : Nat) : Int)) = false := by simp; omega
   rw [g]
   simp [cH]
 | cons a u ih =>
  intro v tx ty k hx hy hl ht hk
  obtain ⟨k, rfl⟩ : ∃ j, k = j + 1 := ⟨k - 1, by omega⟩
  have hxl := congrArg List.length hx
  have hyl' := congrArg List.length hy
  simp only [List.length_append, List.length_reverse, List.length_cons] at hxl hyl' hk
  rw [yw, hlim]
  by_cases c : tx.length < min x.length y.length - h
  ·have g : decide ((tx.length : Int) < ((min x.length y.length - h : Nat) : Int)) = true := by simp; omega
   cases v with
   | nil => simp at hyl'; omega
   | cons b v =>
    simp only [List.length_cons] at hyl'
    have hx' : x = u.reverse ++ a :: tx := by rw [hx]; simp
    have hy' : y = v.reverse ++ b :: ty := by rw [hy]; simp
    have i1 : w64 (w64 ((x.length : Int) - 1) - (tx.length : Int)) = (u.reverse.length : Int) := by
     rw [zW (x := (x.length : Int) - 1) (by omega), zW (by omega)]; simp; omega
    have i2 : w64 (w64 ((y.length : Int) - 1) - (tx.length : Int)) = (v.reverse.length : Int) := by
     rw [zW (x := (y.length : Int) - 1) (by omega), zW (by omega)]; simp; omega
    have r1 : rd x (u.reverse.length : Int) = some a := by rw [hx']; exact Qf _ _ _
    have r2 : rd y (v.reverse.length : Int) = some b := by rw [hy']; exact Qf _ _ _
    have hwa : nwt a ≤ zN x := jI (by rw [hx']; simp)
    rw [g]
    simp only [if_true, i1, i2, r1, r2, Option.bind_some]
    rw [anK a b (by omega)]
    simp only [Option.bind_some]
    by_cases e : a = b
    ·have := ih v (a :: tx) (b :: ty) k hx' hy' (by simp [hl]) (by simp; omega) (by omega)
     have e1 : w64 ((tx.length : Int) + 1) = ((a :: tx).length : Int) := by rw [zW (by omega)]; simp
     rw [if_pos (by simp [e]), e1, this, cH, if_pos e]
     simp only [List.length_cons, Option.some.injEq]
     omega
    ·rw [if_neg (by simp [e]), cH, if_neg e]
     simp
  ·have g : decide ((tx.length : Int) < ((min x.length y.length - h : Nat) : Int)) = false := by simp; omega
   rw [g]
   simp only [Bool.false_eq_true, if_false, Option.some.injEq]
   omega
end Go.Proofs.YtclohbgnaopjfaaDoor
namespace Go.Proofs.YtclohbgnaopjfaaDoor
set_option linter.unusedSimpArgs false
set_option linter.unusedVariables false
open Go Classical
def alD (a b : za) : Bool := decide (a.Kind = b.Kind) && !isT a && decide (a.zh.map (·.Name) = b.zh.map (·.Name))
theorem au0 (b : List ze) : ∀ (suf pre : List ze) (tb pb : List ze) (i : Int), i = (pre.length : Int) → b = pb ++ tb → pb.length = pre.length → suf.length = tb.length → zM b suf i = some (if suf.map (·.Name) = tb.map (·.Name) then .inr () else .inl false)
 | [], pre, tb, pb, i, hi, hb, hl, hs => by
  have : tb = [] := List.eq_nil_of_length_eq_zero (by simpa using hs.symm)
  subst this
  simp [zM]
 | y :: suf, pre, [], pb, i, hi, hb, hl, hs => by simp at hs
 | y :: suf, pre, x :: tb, pb, i, hi, hb, hl, hs => by
  simp only [List.length_cons] at hs
  have hx : rd b (pre.length : Int) = some x := by rw [hb, ← hl]; exact Qf _ _ _
  rw [zM, hi, hx]
  simp only [Option.bind_some, Vn]
  by_cases e : y.Name = x.Name
  ·rw [if_neg (by simp [e]), au0 b suf (pre ++ [y]) tb (pb ++ [x]) _ (by simp) (by simp [hb]) (by simp [hl]) (by omega)]
   simp [e]
  ·rw [if_pos (by simp [e])]
   simp [e]
theorem alg (a b : za) (h : a.zh.length ≤ 9223372036854775807) : WT a b = some (alD a b) := by
 unfold WT alD
 by_cases hk : a.Kind = b.Kind
 ·rw [if_pos (by simp [hk])]
  cases ht : isT a with
  | true =>
   have : (!(a.Kind == ([116, 101, 120, 116] : Str))) = false := by rw [Qa, ht]; rfl
   rw [this]
   simp
  | false =>
   have : (!(a.Kind == ([116, 101, 120, 116] : Str))) = true := by rw [Qa, ht]; rfl
   rw [this]
   simp only [if_true]
   unfold wu
   by_cases hl : a.zh.length = b.zh.length
   ·simp only [hl, bne_self_eq_false, Bool.false_eq_true, if_false]
    rw [qB (by omega), au0 b.zh a.zh [] b.zh [] 0 rfl rfl rfl hl]
    by_cases e : a.zh.map (·.Name) = b.zh.map (·.Name)
    ·simp [e, hk]
    ·simp [e, hk]
   ·have h1 : ((a.zh.length : Int) != (b.zh.length : Int)) = true := by simp; omega
    have h2 : ¬ a.zh.map (·.Name) = b.zh.map (·.Name) := fun e => hl (by simpa using congrArg List.length e)
    rw [if_pos h1]
    simp [h2, hk]
 ·rw [if_neg (by simp [hk])]
  simp [hk]
theorem aq0 (l : List za) (f : za → Option za) (hf : ∀ x ∈ l, f x = some x) (hl : l.length ≤ 1099511627776) : ∀ (d i k : Nat), l.length - i ≤ d → d < k → i ≤ l.length → xG l f k (i : Int) l = some l
 | 0, i, k, hd, hk, hi => by
  obtain ⟨k, rfl⟩ : ∃ j, k = j + 1 := ⟨k - 1, by omega⟩
  have g : decide ((i : Int) < (l.length : Int)) = false := by simp; omega
  rw [xG, g]
  simp
 | d + 1, i, k, hd, hk, hi => by
  obtain ⟨k, rfl⟩ : ∃ j, k = j + 1 := ⟨k - 1, by omega⟩
  rw [xG]
  by_cases hlt : i < l.length
  ·have g : decide ((i : Int) < (l.length : Int)) = true := by simp; omega
   have hx : l[i]? = some l[i] := List.getElem?_eq_getElem hlt
   have hw : wr l (i : Int) l[i] = some l := by
    have : wr l (i : Int) l[i] = some (l.set i l[i]) := by
     unfold wr
     rw [if_pos (by omega)]
     simp
    rw [this, List.set_getElem_self]
   have e1 : w64 ((i : Int) + 1) = ((i + 1 : Nat) : Int) := by rw [zW (by omega)]; omega
   rw [g]
   simp only [if_true]
   rw [xM hx]
   simp only [Option.bind_some]
   rw [hf _ (List.getElem_mem hlt)]
   simp only [Option.bind_some]
   rw [hw]
   simp only [Option.bind_some]
   rw [e1]
   exact aq0 l f hf hl d (i + 1) k (by omega) (by omega) (by omega)
  ·have g : decide ((i : Int) < (l.length : Int)) = false := by simp; omega
   rw [g]
   simp
theorem axJ (n : za) : nwt n ≤ 1099511627776 → ∀ kr, yS n ≤ kr → xB kr n = some n := by
 induction n using za.ind with
 | h n ih =>
  intro hw kr hk
  have hd := xy n
  obtain ⟨kr, rfl⟩ : ∃ j, kr = j + 1 := ⟨kr - 1, by omega⟩
  have hwt := qi n
  have hl := qw n.Kids
  have hm := aa9 n.Marks
  have ha := xx n.zh
  rw [xB]
  unfold slices_Clone_string ko qy
  rw [wJ (by simp; omega), wJ (by simp; omega), wJ (by simp; omega)]
  simp only [Option.bind_some, List.nil_append]
  have h0 : ((0 : Nat) : Int) = 0 := rfl
  rw [yV (n.Kids.length + 1) fun k hk' => by
   have := aq0 n.Kids (xB kr) (fun x hx => ih x hx (by have := jI hx; omega) kr (by have := xR hx; omega)) (by omega) n.Kids.length 0 k (by omega) (by omega) (by omega)
   rwa [h0] at this]
  simp only [Option.bind_some]
  cases n
  rfl
theorem copy_eq (n : za) (h : nwt n ≤ 1099511627776) : XB n = some n := by
 unfold XB
 exact yV (yS n) fun kr hk => axJ n h kr hk
end Go.Proofs.YtclohbgnaopjfaaDoor
namespace Go.Proofs.YtclohbgnaopjfaaDoor
set_option linter.unusedSimpArgs false
set_option linter.unusedVariables false
open Go Classical
noncomputable def dh (a b : za) : Nat := cH a.Kids b.Kids
noncomputable def dt (a b : za) : Nat := cT a.Kids b.Kids (dh a b)
noncomputable def dm (a b : za) : Nat := a.Kids.length - dh a b - dt a b
noncomputable def dn (a b : za) : Nat := b.Kids.length - dh a b - dt a b
theorem awS (a b : za) : dh a b ≤ a.Kids.length ∧ dh a b ≤ b.Kids.length := awP _ _
theorem ap8 (a b : za) : dh a b + dt a b ≤ a.Kids.length ∧ dh a b + dt a b ≤ b.Kids.length := by
 have := awS a b
 unfold dt cT
 omega
def abk (f : Int) : List ze → List ze → List zo
 | x :: l, y :: r => if (y.Value == x.Value) = true then abk f l r else ⟨97, f, 0, [], x.Name, y.Value⟩ :: abk f l r
 | _, _ => []
theorem ac1 (f : Int) : ∀ l r : List ze, (abk f l r).length ≤ l.length
 | [], r => by simp [abk]
 | x :: l, [] => by simp [abk]
 | x :: l, y :: r => by
  have := ac1 f l r
  rw [abk]
  split <;> simp <;> omega
theorem alC (B : List ze) (at' : Int) : ∀ (suf tb pb : List ze) (i : Int) (v : List zo), B = pb ++ tb → i = (pb.length : Int) → suf.length = tb.length → v.length + suf.length ≤ 1099511627776 → qx B at' suf i v = some (v ++ abk (w64 (at' - 1)) suf tb)
 | [], tb, pb, i, v, hb, hi, hs, _ => by simp [qx, abk]
 | y :: suf, [], pb, i, v, hb, hi, hs, _ => by simp at hs
 | y :: suf, x :: tb, pb, i, v, hb, hi, hs, hv => by
  simp only [List.length_cons] at hs hv
  have hl := congrArg List.length hb
  simp only [List.length_append, List.length_cons] at hl
  have g : decide (i < (B.length : Int)) = true := by simp; omega
  have r : rd B i = some x := by rw [hb, hi]; exact Qf _ _ _
  rw [qx, g]
  simp only [if_true, r, Option.bind_some]
  by_cases e : (x.Value == y.Value) = true
  ·rw [if_neg (by simp [e]), alC B at' suf tb (pb ++ [x]) _ v (by simp [hb]) (by simp [hi]) (by omega) (by omega), abk, if_pos e]
  ·rw [if_pos (by simpa using e), wJ (by simp; omega)]
   simp only [Option.bind_some]
   rw [alC B at' suf tb (pb ++ [x]) _ _ (by simp [hb]) (by simp [hi]) (by omega) (by simp; omega), abk, if_neg e]
   simp
def afw (x : za × za × Nat) : List zo := abk ((x.2.2 : Int) - 1) x.1.zh x.2.1.zh
inductive Dif : za → za → Nat → List Nat → List (za × za × Nat) → za → za → Nat → Prop
 | stop (a b : za) (s : Nat) (h : ¬ (dm a b = 1 ∧ dn a b = 1 ∧ ∀ x y, a.Kids[dh a b]? = some x → b.Kids[dh a b]? = some y → alD x y = true)) : Dif a b s [] [(a, b, s)] a b s
 | go (a b : za) (s : Nat) (x y : za) (q : List Nat) (c : List (za × za × Nat)) (m m' : za) (e : Nat) (h1 : dm a b = 1) (h2 : dn a b = 1) (hx : a.Kids[dh a b]? = some x) (hy : b.Kids[dh a b]? = some y) (ha : alD x y = true)
   (r : Dif x y (s + zC (a.Kids.take (dh a b)) + 1) q c m m' e) : Dif a b s (dh a b :: q) ((a, b, s) :: c) m m' e
theorem aty : ∀ (d : Nat) (a b : za) (s : Nat), yS a ≤ d → ∃ q c m m' e, Dif a b s q c m m' e
 | 0, a, b, s, hd => by have := xy a; omega
 | d + 1, a, b, s, hd => by
  by_cases h : dm a b = 1 ∧ dn a b = 1 ∧ ∀ x y, a.Kids[dh a b]? = some x → b.Kids[dh a b]? = some y → alD x y = true
  ·obtain ⟨h1, h2, h3⟩ := h
   have l1 : dh a b < a.Kids.length := by unfold dm at h1; omega
   have l2 : dh a b < b.Kids.length := by unfold dn at h2; omega
   have hx : a.Kids[dh a b]? = some a.Kids[dh a b] := List.getElem?_eq_getElem l1
   have hy : b.Kids[dh a b]? = some b.Kids[dh a b] := List.getElem?_eq_getElem l2
   have hdx := xR (List.mem_of_getElem? hx)
   have := xy a
   obtain ⟨q, c, m, m', e, r⟩ := aty d a.Kids[dh a b] b.Kids[dh a b] (s + zC (a.Kids.take (dh a b)) + 1) (by omega)
   exact ⟨_, _, _, _, _, .go a b s _ _ q c m m' e h1 h2 hx hy (h3 _ _ hx hy) r⟩
  ·exact ⟨_, _, _, _, _, .stop a b s h⟩
theorem al4 {a b : za} (h : alD a b = true) : a.zh.length = b.zh.length := by
 unfold alD at h
 simp only [Bool.and_eq_true, decide_eq_true_eq] at h
 simpa using congrArg List.length h.2
theorem apt {a b : za} (h : alD a b = true) : isT a = false ∧ isT b = false := by
 unfold alD at h
 simp only [Bool.and_eq_true, decide_eq_true_eq, Bool.not_eq_true'] at h
 refine ⟨h.1.2, ?_⟩
 have := h.1.2
 unfold isT at this ⊢
 rw [← h.1.1]
 exact this
theorem anM (a b : za) (hw : nwt a ≤ 1073741824) (hwb : nwt b ≤ 1073741824) :
  (lim fun k => xI a.Kids b.Kids k (0 : Int)) = some ((dh a b : Nat) : Int) ∧ (lim fun k => yw a.Kids b.Kids ((dh a b : Nat) : Int) k (0 : Int)) = some ((dt a b : Nat) : Int) := by
 have w1 := wU a
 have w2 := wU b
 have l1 := qw a.Kids
 have l2 := qw b.Kids
 have hd := awS a b
 constructor
 ·refine yV (a.Kids.length + 1) fun k hk => ?_
  have := awI a.Kids b.Kids (by omega) (by omega) a.Kids b.Kids [] [] k rfl rfl rfl (by omega)
  simpa [dh] using this
 ·refine yV (a.Kids.length + 1) fun k hk => ?_
  have := ax4 a.Kids b.Kids (dh a b) (by omega) (by omega) hd a.Kids.reverse b.Kids.reverse [] [] k (by simp) (by simp) rfl (by simp) (by simp; omega)
  simpa [dt, cT] using this
theorem at5 {a b s q c m m' e} (D : Dif a b s q c m m' e) : ∀ (k : Nat) (h0 m0 n0 : Int) (p : List Int) (v : List zo), q.length < k → nwt a ≤ 1073741824 → nwt b ≤ 1073741824 → s + nwt a ≤ 4294967296 → p.length + nwt a ≤ 4294967296 → v.length + nwt a ≤ 4294967296 → a.zh.length = b.zh.length →
  Zd k a.Kind a.Text a.Marks a.zh a.Kids b.Kind b.Text b.Marks b.zh b.Kids (s : Int) h0 m0 n0 p v = some (m.Kids, m'.Kids, m.Kind, m.Text, m.Marks, m.zh, m'.Kind, m'.Text, m'.Marks, m'.zh, (e : Int), ((dh m m' : Nat) : Int), ((dm m m' : Nat) : Int), ((dn m m' : Nat) : Int), p ++ q.map (fun i : Nat => (i : Int)), v ++ c.flatMap afw) := by
 induction D with
 | stop a b s h =>
  intro k h0 m0 n0 p v hk hwa hwb hs hp hv hal
  obtain ⟨k, rfl⟩ : ∃ j, k = j + 1 := ⟨k - 1, by omega⟩
  have wa := qi a
  have la := xx a.zh
  have l1 := qw a.Kids
  have l2 := qw b.Kids
  have w2 := wU b
  obtain ⟨e1, e2⟩ := anM a b hwa hwb
  have hd := ap8 a b
  have n1 : w64 (w64 ((a.Kids.length : Int) - ((dh a b : Nat) : Int)) - ((dt a b : Nat) : Int)) = ((dm a b : Nat) : Int) := by
   rw [zW (x := (a.Kids.length : Int) - ((dh a b : Nat) : Int)) (by omega), zW (by omega)]; unfold dm; omega
  have n2 : w64 (w64 ((b.Kids.length : Int) - ((dh a b : Nat) : Int)) - ((dt a b : Nat) : Int)) = ((dn a b : Nat) : Int) := by
   rw [zW (x := (b.Kids.length : Int) - ((dh a b : Nat) : Int)) (by omega), zW (by omega)]; unfold dn; omega
  rw [Zd]
  unfold jW
  rw [qB (by omega), alC b.zh (s : Int) a.zh b.zh [] 0 v rfl rfl hal (by omega)]
  simp only [Option.bind_some]
  rw [qB trivial, e1]
  simp only [Option.bind_some]
  rw [e2]
  simp only [Option.bind_some, n1, n2]
  rw [zW (x := (s : Int) - 1) (by omega)]
  have fin : (some (a.Kids, b.Kids, a.Kind, a.Text, a.Marks, a.zh, b.Kind, b.Text, b.Marks, b.zh, (s : Int), ((dh a b : Nat) : Int), ((dm a b : Nat) : Int), ((dn a b : Nat) : Int), p, v ++ abk ((s : Int) - 1) a.zh b.zh) : Option _) = some (a.Kids, b.Kids, a.Kind, a.Text, a.Marks, a.zh, b.Kind, b.Text, b.Marks, b.zh, (s : Int), ((dh a b : Nat) : Int), ((dm a b : Nat) : Int), ((dn a b : Nat) : Int), p ++ ([] : List Nat).map (fun i : Nat => (i : Int)), v ++ [(a, b, s)].flatMap afw) := by
   simp [afw]
  rw [← fin]
  by_cases h1 : dm a b = 1
  ·rw [if_neg (by simp [h1])]
   by_cases h2 : dn a b = 1
   ·rw [if_neg (by simp [h2])]
    have k1 : dh a b < a.Kids.length := by unfold dm at h1; omega
    have k2 : dh a b < b.Kids.length := by unfold dn at h2; omega
    have hx : a.Kids[dh a b]? = some a.Kids[dh a b] := List.getElem?_eq_getElem k1
    have hy : b.Kids[dh a b]? = some b.Kids[dh a b] := List.getElem?_eq_getElem k2
    have hwx := jI (List.mem_of_getElem? hx)
    have hlx := xx a.Kids[dh a b].zh
    have hwx2 := qi a.Kids[dh a b]
    rw [xM hx]
    simp only [Option.bind_some]
    rw [xM hy]
    simp only [Option.bind_some]
    rw [alg _ _ (by omega)]
    have hf : alD a.Kids[dh a b] b.Kids[dh a b] = false := by
     cases hc : alD a.Kids[dh a b] b.Kids[dh a b] with
     | false => rfl
     | true =>
      exfalso
      refine h ⟨h1, h2, fun x y hx' hy' => ?_⟩
      rw [hx] at hx'
      rw [hy] at hy'
      cases hx'
      cases hy'
      exact hc
    rw [hf]
    simp
   ·rw [if_pos (by simp; omega)]
  ·rw [if_pos (by simp; omega)]
 | go a b s x y q c m m' e h1 h2 hx hy ha r ih =>
  intro k h0 m0 n0 p v hk hwa hwb hs hp hv hal
  simp only [List.length_cons] at hk
  obtain ⟨k, rfl⟩ : ∃ j, k = j + 1 := ⟨k - 1, by omega⟩
  have wa := qi a
  have la := xx a.zh
  have l1 := qw a.Kids
  have l2 := qw b.Kids
  have w2 := wU b
  obtain ⟨e1, e2⟩ := anM a b hwa hwb
  have hd := ap8 a b
  have n1 : w64 (w64 ((a.Kids.length : Int) - ((dh a b : Nat) : Int)) - ((dt a b : Nat) : Int)) = ((dm a b : Nat) : Int) := by
   rw [zW (x := (a.Kids.length : Int) - ((dh a b : Nat) : Int)) (by omega), zW (by omega)]; unfold dm; omega
  have n2 : w64 (w64 ((b.Kids.length : Int) - ((dh a b : Nat) : Int)) - ((dt a b : Nat) : Int)) = ((dn a b : Nat) : Int) := by
   rw [zW (x := (b.Kids.length : Int) - ((dh a b : Nat) : Int)) (by omega), zW (by omega)]; unfold dn; omega
  have hkw := adQ hx
  have hky := jI (List.mem_of_getElem? hy)
  have hlx := xx x.zh
  have hwx2 := qi x
  have hsz := vz (a.Kids.take (dh a b))
  have hap := ac1 ((s : Int) - 1) a.zh b.zh
  rw [Zd]
  unfold jW
  rw [qB (by omega), alC b.zh (s : Int) a.zh b.zh [] 0 v rfl rfl hal (by omega)]
  simp only [Option.bind_some]
  rw [qB trivial, e1]
  simp only [Option.bind_some]
  rw [e2]
  simp only [Option.bind_some, n1, n2]
  rw [zW (x := (s : Int) - 1) (by omega)]
  rw [if_neg (by simp [h1]), if_neg (by simp [h2]), xM hx]
  simp only [Option.bind_some]
  rw [xM hy]
  simp only [Option.bind_some]
  rw [alg _ _ (by omega), ha]
  simp only [Option.bind_some, Bool.not_true, Bool.false_eq_true, if_false]
  rw [wJ (by simp; omega)]
  simp only [Option.bind_some]
  have hsl : sl a.Kids 0 ((dh a b : Nat) : Int) = some (a.Kids.take (dh a b)) := amM (by omega)
  rw [hsl]
  simp only [Option.bind_some]
  rw [QN _ (by omega)]
  simp only [Option.bind_some]
  have es : w64 ((s : Int) + w64 ((zC (a.Kids.take (dh a b)) : Int) + 1)) = ((s + zC (a.Kids.take (dh a b)) + 1 : Nat) : Int) := by
   rw [zW (x := (zC (a.Kids.take (dh a b)) : Int) + 1) (by omega), zW (by omega)]; omega
  rw [es]
  rw [ih k _ _ _ (p ++ [((dh a b : Nat) : Int)]) (v ++ abk ((s : Int) - 1) a.zh b.zh) (by omega) (by omega) (by omega) (by omega) (by simp; omega) (by rw [List.length_append]; omega) (al4 ha)]
  simp [afw]
theorem Dif.pre {a b s q c m m' e} (D : Dif a b s q c m m' e) : isT a = false → isT b = false → a.zh.length = b.zh.length → c.length = q.length + 1 ∧ (∃ t t', e = s + t ∧ At a q m t ∧ At b q m' t' ∧ isT m = false ∧ isT m' = false) ∧
  ∀ i, i ≤ q.length → ∃ x y t t', c[i]? = some (x, y, s + t) ∧ At a (q.take i) x t ∧ At b (q.take i) y t' ∧ isT x = false ∧ isT y = false ∧ x.zh.length = y.zh.length := by
 induction D with
 | stop a b s h =>
  intro ha hb hl
  refine ⟨rfl, ⟨0, 0, rfl, .nil _, .nil _, ha, hb⟩, fun i hi => ?_⟩
  simp only [List.length_nil, Nat.le_zero] at hi
  subst hi
  exact ⟨a, b, 0, 0, rfl, .nil _, .nil _, ha, hb, hl⟩
 | go a b s x y q c m m' e h1 h2 hx hy hal r ih =>
  intro ha hb hl
  obtain ⟨nx, ny⟩ := apt hal
  obtain ⟨i1, ⟨t, t', i2, i3, i4, i5, i6⟩, i7⟩ := ih nx ny (al4 hal)
  refine ⟨by simp [i1], ⟨_, _, ?_, .cons a (dh a b) x q m t hx ha nx i3, .cons b (dh a b) y q m' t' hy hb ny i4, i5, i6⟩, fun i hi => ?_⟩
  ·omega
  ·cases i with
   | zero => exact ⟨a, b, 0, 0, rfl, .nil _, .nil _, ha, hb, hl⟩
   | succ i =>
    obtain ⟨u, v, w, w', j1, j2, j3, j4, j5, j6⟩ := i7 i (by simpa using hi)
    refine ⟨u, v, zC (a.Kids.take (dh a b)) + 1 + w, _, ?_, .cons a (dh a b) x (q.take i) u w hx ha nx j2, .cons b (dh a b) y (q.take i) v w' hy hb ny j3, j4, j5, j6⟩
    rw [List.getElem?_cons_succ, j1]
    congr 3
    omega
end Go.Proofs.YtclohbgnaopjfaaDoor
namespace Go.Proofs.YtclohbgnaopjfaaDoor
set_option linter.unusedSimpArgs false
set_option linter.unusedVariables false
open Go Classical
theorem Dif.ax2 {a b s q c m m' e} (D : Dif a b s q c m m' e) : (c.flatMap afw).length ≤ nwt a ∧ q.length ≤ nwt a := by
 induction D with
 | stop a b s h =>
  have h1 := ac1 ((s : Int) - 1) a.zh b.zh
  have h2 := xx a.zh
  have h3 := qi a
  simp only [List.flatMap_cons, List.flatMap_nil, List.append_nil, afw, List.length_nil]
  omega
 | go a b s x y q c m m' e h1 h2 hx hy ha r ih =>
  have k1 := ac1 ((s : Int) - 1) a.zh b.zh
  have k2 := xx a.zh
  have k3 := qi a
  have k4 := jI (List.mem_of_getElem? hx)
  simp only [List.flatMap_cons, List.length_append, List.length_cons]
  have : (afw (a, b, s)).length ≤ a.zh.length := k1
  omega
noncomputable def ajo (m m' : za) (e : Nat) : List zo :=
 if dm m m' + dn m m' = 0 then [] else [⟨114, ((e + zC (m.Kids.take (dh m m')) : Nat) : Int), ((e + zC (m.Kids.take (dh m m')) + zC ((m.Kids.take (dh m m' + dm m m')).drop (dh m m')) : Nat) : Int), (m'.Kids.take (dh m m' + dn m m')).drop (dh m m'), [], []⟩]
theorem aiM {a b q c m m' e} (D : Dif a b 0 q c m m' e) (ha : checkN a = 0) (hb : checkN b = 0) (hal : alD a b = true) (hwa : nwt a ≤ 1048576) (hwb : nwt b ≤ 1048576) :
  y8 a b = some (c.flatMap afw ++ ajo m m' e, 0) := by
 obtain ⟨na, nb⟩ := apt hal
 have hlen := al4 hal
 obtain ⟨w1, w2⟩ := D.ax2
 obtain ⟨c1, ⟨t, t', z1, z2, z3, nm, nm'⟩, _⟩ := D.pre na nb hlen
 have z4 := z2.len
 have z5 := z2.sizes
 have z6 := vz a.Kids
 have z7 := wU a
 have z8 := z2.wt
 have z9 := z3.wt
 have x1 := wU m
 have x2 := wU m'
 have x3 := qw m.Kids
 have x4 := qw m'.Kids
 have x5 := ap8 m m'
 have x6 : dh m m' + dm m m' ≤ m.Kids.length := by unfold dm; omega
 have x7 : dh m m' + dn m m' ≤ m'.Kids.length := by unfold dn; omega
 have x8 := acC m.Kids (dh m m')
 have x9 := aoq m.Kids (dh m m')
 have wmid : ∀ (l : List za) (i j : Nat), zN ((l.take j).drop i) ≤ zN l := fun l i j => by
  have h1 := kX ((l.take j).take i) ((l.take j).drop i)
  rw [List.take_append_drop] at h1
  have h2 := aoq l j
  omega
 have hw1 := wmid m.Kids (dh m m') (dh m m' + dm m m')
 have hw2 := wmid m'.Kids (dh m m') (dh m m' + dn m m')
 have hs1 := vz ((m.Kids.take (dh m m' + dm m m')).drop (dh m m'))
 have hof : aeg a b = some ⟨⟨m.Kind, m.Text, m.Marks, m.zh, m.Kids⟩, ⟨m'.Kind, m'.Text, m'.Marks, m'.zh, m'.Kids⟩, up q, (e : Int), ((dh m m' : Nat) : Int), ((dm m m' : Nat) : Int), ((dn m m' : Nat) : Int), c.flatMap afw⟩ := by
  unfold aeg
  have h0 : ((0 : Nat) : Int) = 0 := rfl
  rw [yV (q.length + 1) fun k hk => by
   have := at5 D k 0 0 0 [] [] (by omega) (by omega) (by omega) (by omega) (by simp; omega) (by simp; omega) hlen
   rw [h0] at this
   exact this]
  simp only [Option.bind_some, List.nil_append]
  rfl
 have hsum : w64 (((dm m m' : Nat) : Int) + ((dn m m' : Nat) : Int)) = ((dm m m' + dn m m' : Nat) : Int) := by rw [zW (by omega)]; omega
 have s1 : sl m.Kids 0 ((dh m m' : Nat) : Int) = some (m.Kids.take (dh m m')) := amM (by omega)
 have i1 : w64 (((dh m m' : Nat) : Int) + ((dm m m' : Nat) : Int)) = ((dh m m' + dm m m' : Nat) : Int) := by rw [zW (by omega)]; omega
 have i2 : w64 (((dh m m' : Nat) : Int) + ((dn m m' : Nat) : Int)) = ((dh m m' + dn m m' : Nat) : Int) := by rw [zW (by omega)]; omega
 have s2 : sl m.Kids ((dh m m' : Nat) : Int) ((dh m m' + dm m m' : Nat) : Int) = some ((m.Kids.take (dh m m' + dm m m')).drop (dh m m')) := J6 (by omega) x6
 have s3 : sl m'.Kids ((dh m m' : Nat) : Int) ((dh m m' + dn m m' : Nat) : Int) = some ((m'.Kids.take (dh m m' + dn m m')).drop (dh m m')) := J6 (by omega) x7
 have f1 : w64 ((e : Int) + (zC (m.Kids.take (dh m m')) : Int)) = ((e + zC (m.Kids.take (dh m m')) : Nat) : Int) := by rw [zW (by omega)]; omega
 have f2 : w64 (((e + zC (m.Kids.take (dh m m')) : Nat) : Int) + (zC ((m.Kids.take (dh m m' + dm m m')).drop (dh m m')) : Int)) = ((e + zC (m.Kids.take (dh m m')) + zC ((m.Kids.take (dh m m' + dm m m')).drop (dh m m')) : Nat) : Int) := by rw [zW (by omega)]; omega
 unfold y8
 rw [right_eq a (by omega), right_eq b (by omega), ha, hb]
 simp only [Option.bind_some, beq_self_eq_true, Bool.not_true, Bool.false_eq_true, if_false]
 have hlx := xx a.zh
 have hwx2 := qi a
 rw [alg a b (by omega), hal]
 simp only [Option.bind_some, Bool.not_true, Bool.false_eq_true, if_false]
 rw [hof]
 simp only [Option.bind_some, hsum]
 by_cases h0 : dm m m' + dn m m' = 0
 ·rw [if_pos (by simp only [beq_iff_eq]; omega)]
  simp [ajo, h0]
 ·rw [if_neg (by simp only [beq_iff_eq]; omega), s1]
  simp only [Option.bind_some]
  rw [QN _ (by omega)]
  simp only [Option.bind_some, i1, i2]
  rw [s2]
  simp only [Option.bind_some]
  rw [QN _ (by omega)]
  simp only [Option.bind_some]
  rw [s3]
  simp only [Option.bind_some]
  rw [copy_eq _ (by rw [qi]; simp only [wQ, wM, List.length_nil]; omega)]
  simp only [Option.bind_some, f1, f2]
  rw [wJ (by simp only [List.length_cons, List.length_nil]; omega), ajo, if_neg h0]
  rfl
end Go.Proofs.YtclohbgnaopjfaaDoor
namespace Go.Proofs.YtclohbgnaopjfaaDoor
set_option linter.unusedSimpArgs false
set_option linter.unusedVariables false
open Go Classical
theorem alX : ∀ l r : List za, cH l r = cH r l
 | [], [] => rfl
 | [], y :: r => by simp [cH]
 | x :: l, [] => by simp [cH]
 | x :: l, y :: r => by
  have ih := alX l r
  rw [cH, cH, ih]
  by_cases e : x = y
  ·rw [if_pos e, if_pos e.symm]
  ·rw [if_neg e, if_neg (Ne.symm e)]
theorem aln : ∀ (l r : List za) (k : Nat), k ≤ cH l r → l.take k = r.take k
 | [], r, k, h => by
  have : k = 0 := by simpa [cH] using h
  subst this; simp
 | x :: l, [], k, h => by
  have : k = 0 := by simpa [cH] using h
  subst this; simp
 | x :: l, y :: r, k, h => by
  rw [cH] at h
  split at h
  ·rename_i e
   cases k with
   | zero => simp
   | succ k => rw [List.take_succ_cons, List.take_succ_cons, aln l r k (by omega), e]
  ·have : k = 0 := by omega
   subst this; simp
theorem abb (a b : za) : dh a b = dh b a := alX _ _
theorem avQ (a b : za) : dt a b = dt b a := by
 unfold dt cT
 rw [abb a b, alX, Nat.min_comm a.Kids.length]
theorem alP (a b : za) : dm a b = dn b a := by
 unfold dm dn
 rw [abb a b, avQ a b]
theorem al8 (a b : za) : dn a b = dm b a := (alP b a).symm
theorem ano (a b : za) : alD a b = alD b a := by
 unfold alD
 by_cases h : a.Kind = b.Kind
 ·have : isT a = isT b := by unfold isT; rw [h]
  rw [this, decide_eq_decide.2 (show a.Kind = b.Kind ↔ b.Kind = a.Kind from ⟨Eq.symm, Eq.symm⟩), decide_eq_decide.2 (show (a.zh.map (·.Name) = b.zh.map (·.Name)) ↔ (b.zh.map (·.Name) = a.zh.map (·.Name)) from ⟨Eq.symm, Eq.symm⟩)]
 ·rw [decide_eq_false h, decide_eq_false (Ne.symm h)]
  simp
theorem aj2 (a b : za) : a.Kids.take (dh a b) = b.Kids.take (dh a b) := aln _ _ _ (Nat.le_refl _)
theorem apw (a b : za) : a.Kids.drop (dh a b + dm a b) = b.Kids.drop (dh a b + dn a b) := by
 have h1 := ap8 a b
 have h2 : dt a b ≤ cH a.Kids.reverse b.Kids.reverse := Nat.min_le_left _ _
 have h3 := aln _ _ _ h2
 rw [List.take_reverse, List.take_reverse] at h3
 have h4 := List.reverse_inj.1 h3
 have e1 : dh a b + dm a b = a.Kids.length - dt a b := by unfold dm; omega
 have e2 : dh a b + dn a b = b.Kids.length - dt a b := by unfold dn; omega
 rw [e1, e2]
 exact h4
noncomputable def agQ (a b : za) : List za := (a.Kids.take (dh a b + dm a b)).drop (dh a b)
noncomputable def ana (a b : za) : List za := (b.Kids.take (dh a b + dn a b)).drop (dh a b)
theorem ai3 (l : List za) (h m : Nat) : l = l.take h ++ ((l.take (h + m)).drop h ++ l.drop (h + m)) := by
 have h1 : l.take h = (l.take (h + m)).take h := by rw [List.take_take, Nat.min_eq_left (by omega)]
 rw [← List.append_assoc, h1, List.take_append_drop, List.take_append_drop]
theorem aun (a b : za) : a.Kids = a.Kids.take (dh a b) ++ (agQ a b ++ a.Kids.drop (dh a b + dm a b)) := ai3 _ _ _
theorem atG (a b : za) : b.Kids = a.Kids.take (dh a b) ++ (ana a b ++ a.Kids.drop (dh a b + dm a b)) := by
 rw [aj2, apw]
 exact ai3 _ _ _
theorem aqR {l : List za} {h : Nat} {x : za} (hx : l[h]? = some x) : (l.take (h + 1)).drop h = [x] := by
 have hl : h < l.length := by
  by_cases hc : h < l.length
  ·exact hc
  ·rw [List.getElem?_eq_none (by omega)] at hx; cases hx
 rw [List.take_add_one, hx, List.drop_append_of_le_length (by simp; omega)]
 simp
theorem Dif.symm {a b s q c m m' e} (D : Dif a b s q c m m' e) : Dif b a s q (c.map fun x => (x.2.1, x.1, x.2.2)) m' m e := by
 induction D with
 | stop a b s h =>
  refine .stop b a s fun ⟨h1, h2, h3⟩ => h ⟨by rw [alP, h2], by rw [al8, h1], fun x y hx hy => ?_⟩
  rw [ano]
  rw [abb] at hx hy
  exact h3 y x hy hx
 | go a b s x y q c m m' e h1 h2 hx hy ha r ih =>
  rw [aj2] at ih
  rw [abb a b] at ih ⊢
  exact .go b a s y x q _ m' m e (by rw [alP, h2]) (by rw [al8, h1]) (by rw [← abb a b]; exact hy) (by rw [← abb a b]; exact hx) (by rw [ano]; exact ha) ih
end Go.Proofs.YtclohbgnaopjfaaDoor
namespace Go.Proofs.YtclohbgnaopjfaaDoor
set_option linter.unusedSimpArgs false
set_option linter.unusedVariables false
open Go Classical
inductive GoodS : za → List zo → za → Prop
 | nil (n : za) : GoodS n [] n
 | cons (n a b : za) (T : List Tk) (s : zo) (l : List zo) (h : TD n T) (hw : wD n T ≤ 500000) (ha : n.zh = []) (hs : anB T s) (h1 : qH n s = some (a, 0)) (h2 : GoodS a l b) : GoodS n (s :: l) b
theorem GoodS.does {n b : za} {l : List zo} (h : GoodS n l b) : Does n l b := by
 induction h with
 | nil n => exact .nil n
 | cons n a b T s l _ _ _ _ h1 _ ih => exact .cons _ _ _ _ _ h1 ih
theorem GoodS.app {n a b : za} {l r : List zo} (h : GoodS n l a) (h2 : GoodS a r b) : GoodS n (l ++ r) b := by
 induction h with
 | nil n => exact h2
 | cons n a' b' T s l g1 g2 g3 g4 g5 _ ih => exact .cons _ _ _ _ _ _ g1 g2 g3 g4 g5 (ih h2)
theorem atd (pre suf : List ze) (x : ze) (v : Str) : Wt (pre ++ x :: suf) pre.length v = pre ++ { x with Value := v } :: suf := by
 rw [akG (a := x) (by simp), List.set_append_right _ _ (Nat.le_refl _)]
 simp
theorem acS (P S : List Tk) (k : Str) : ∀ (la lb pre : List ze) (n : za), TD n (P ++ Tk.opn k (pre ++ la) :: S) → wD n (P ++ Tk.opn k (pre ++ la) :: S) + 40 * la.length ≤ 500000 → n.zh = [] → la.map (·.Name) = lb.map (·.Name) → (∀ b ∈ lb, isValue b.Value = true) →
  ∃ N, GoodS n (abk (P.length : Int) la lb) N ∧ TD N (P ++ Tk.opn k (pre ++ lb) :: S) ∧ N.Kind = n.Kind ∧ N.zh = [] ∧ wD N (P ++ Tk.opn k (pre ++ lb) :: S) ≤ wD n (P ++ Tk.opn k (pre ++ la) :: S) + 40 * la.length
 | [], [], pre, n, h, hw, ha, _, _ => ⟨n, .nil n, h, rfl, ha, by omega⟩
 | [], y :: lb, pre, n, _, _, _, he, _ => by simp at he
 | x :: la, [], pre, n, _, _, _, he, _ => by simp at he
 | x :: la, y :: lb, pre, n, h, hw, ha, he, hv => by
  simp only [List.map_cons, List.cons.injEq] at he
  simp only [List.length_cons] at hw ⊢
  have hlp : (pre ++ [y]) ++ la = pre ++ y :: la := by simp
  have hlq : (pre ++ [y]) ++ lb = pre ++ y :: lb := by simp
  have vy := hv y (by simp)
  rw [abk]
  by_cases e : (y.Value == x.Value) = true
  ·rw [if_pos e]
   have hxy : x = y := by
    cases x; cases y
    simp at e he
    simp [e, he.1]
   subst hxy
   obtain ⟨N, g1, g2, g3, g4, g5⟩ := acS P S k la lb (pre ++ [x]) n (by rw [hlp]; exact h) (by rw [hlp]; omega) ha he.2 (fun b hb => hv b (by simp [hb]))
   rw [hlp, hlq] at g5
   rw [hlq] at g2
   exact ⟨N, g1, g2, g3, g4, by omega⟩
  ·rw [if_neg e]
   have hp : (P ++ Tk.opn k (pre ++ x :: la) :: S)[P.length]? = some (.opn k (pre ++ x :: la)) := by simp
   have hA : alx (P ++ Tk.opn k (pre ++ x :: la) :: S) P.length x.Name k (pre ++ x :: la) pre.length x := ⟨hp, by simp, rfl⟩
   obtain ⟨M, m1, _, m3, m4, m5, m6⟩ := als h (by omega) hA vy
   rw [atd, set_mid] at m3 m6
   have hy : ({ x with Value := y.Value } : ze) = y := by
    cases x; cases y
    simp at he
    simp [he.1]
   rw [hy] at m3 m6
   obtain ⟨N, g1, g2, g3, g4, g5⟩ := acS P S k la lb (pre ++ [y]) M (by rw [hlp]; exact m3) (by rw [hlp]; omega) (by rw [m5, ha]) he.2 (fun b hb => hv b (by simp [hb]))
   rw [hlp, hlq] at g5
   rw [hlq] at g2
   obtain ⟨_, rise⟩ := ako h (by omega) hp
   have hnm : isName x.Name = true := ((QX _).1 rise).1 x.Name (by simp)
   refine ⟨N, .cons _ _ _ _ _ _ h (by omega) ha (.attr _ _ _ (by omega) (by simp only [List.length_append, List.length_cons]; omega) hnm vy) m1 g1, g2, by rw [g3, m4], g4, by omega⟩
theorem Dif.hd {a b s q c m m' e} (D : Dif a b s q c m m' e) : ∃ c', c = (a, b, s) :: c' := by
 cases D with
 | stop => exact ⟨[], rfl⟩
 | go => exact ⟨_, rfl⟩
theorem an2 {l : List za} (h : vD l) (i j : Nat) : vD ((l.take j).drop i) := by
 have h1 : vD (l.take j) := vD.left (b := l.drop j) (by rw [List.take_append_drop]; exact h)
 exact vD.right (a := (l.take j).take i) (by rw [List.take_append_drop]; exact h1)
theorem axC {a b s q c m m' e} (D : Dif a b s q c m m' e) : qg a = true → qg b = true → isT a = false → isT b = false → ∀ (n : za) (P S : List Tk), P.length = s → TD n (P ++ (tkL a.Kids ++ S)) → wD n (P ++ (tkL a.Kids ++ S)) + 40 * (c.tail.flatMap fun x => x.1.zh).length ≤ 400000 → n.zh = [] → dpT 0 (P ++ (tkL b.Kids ++ S)) ≤ 39 → (P ++ (tkL b.Kids ++ S)).length ≤ 3998 → tw (P ++ (tkL b.Kids ++ S)) ≤ 1000000 →
  ∃ N, GoodS n (c.tail.flatMap afw ++ ajo m m' e) N ∧ TD N (P ++ (tkL b.Kids ++ S)) ∧ N.Kind = n.Kind ∧ N.zh = [] := by
 induction D with
 | stop a b s h =>
  intro fa fb ta tb n P S hP hn hw ha hd hl htw
  simp only [List.tail_cons, List.flatMap_nil, List.nil_append]
  have ka := aun a b
  have kb := atG a b
  have fka := kM fa ta
  have fkb := kM fb tb
  have fmA : vD (agQ a b) := an2 fka _ _
  have fmB : vD (ana a b) := an2 fkb _ _
  have ea : P ++ (tkL a.Kids ++ S) = (P ++ tkL (a.Kids.take (dh a b))) ++ (tkI (items (agQ a b)) ++ (tkL (a.Kids.drop (dh a b + dm a b)) ++ S)) := by
   rw [vB]
   conv => lhs; rw [ka, Ze, Ze]
   simp only [List.append_assoc]
  have eb : P ++ (tkL b.Kids ++ S) = (P ++ tkL (a.Kids.take (dh a b))) ++ (tkL (ana a b) ++ (tkL (a.Kids.drop (dh a b + dm a b)) ++ S)) := by
   conv => lhs; rw [kb, Ze, Ze]
   simp only [List.append_assoc]
  by_cases h0 : dm a b + dn a b = 0
  ·have e1 : ajo a b s = [] := if_pos h0
   have e2 : agQ a b = [] := by unfold agQ; rw [List.drop_eq_nil_iff]; simp; omega
   have e3 : ana a b = [] := by unfold ana; rw [List.drop_eq_nil_iff]; simp; omega
   rw [e1]
   refine ⟨n, .nil n, ?_, rfl, ha⟩
   rw [eb, e3]
   rw [ea, e2] at hn
   exact hn
  ·have e1 : ajo a b s = _ := if_neg h0
   rw [e1]
   have htB : tw (tkL (ana a b)) ≤ 1000000 := by
    rw [eb] at htw
    simp only [JQ] at htw
    omega
   have hrow := al3 fmB
   rw [ea] at hn hw
   obtain ⟨N, n1, n2, n3, n4, n5, n6⟩ := afy hn (by omega) rfl (ZL fmA.form) fmB (by omega)
   have hN : TD N (P ++ (tkL b.Kids ++ S)) := TD.of n1 n2 (by rw [n5, eb]) hd hl
   rw [if_pos hN.ok] at n6
   have hlA := yR (a.Kids.take (dh a b))
   have hsz : szI (items (agQ a b)) = zC (agQ a b) := yc _
   have hTl : ((P ++ tkL (a.Kids.take (dh a b))) ++ (tkI (items (agQ a b)) ++ (tkL (a.Kids.drop (dh a b + dm a b)) ++ S))).length = P.length + zC (a.Kids.take (dh a b)) + zC (agQ a b) + ((tkL (a.Kids.drop (dh a b + dm a b))).length + S.length) := by
    simp only [List.length_append, Yn, hlA, hsz]; omega
   rw [List.length_append, hlA, hsz, hP] at n6
   refine ⟨N, .cons _ _ _ _ _ _ hn (by omega) ha (.rep _ _ _ (by omega) (by rw [hTl, hP]; unfold agQ; omega) fmB htB) n6 (.nil N), hN, n3, by rw [n4, ha]⟩
 | go a b s x y q c m m' e h1 h2 hx hy hal r ih =>
  intro fa fb ta tb n P S hP hn hw ha hd hl htw
  have fka := kM fa ta
  have fkb := kM fb tb
  have fx := fka.form x (List.mem_of_getElem? hx)
  have fy := fkb.form y (List.mem_of_getElem? hy)
  obtain ⟨tx, ty⟩ := apt hal
  have hkk : x.Kind = y.Kind ∧ x.zh.map (·.Name) = y.zh.map (·.Name) := by
   unfold alD at hal
   simp only [Bool.and_eq_true, decide_eq_true_eq] at hal
   exact ⟨hal.1.1, hal.2⟩
  obtain ⟨c', rfl⟩ := r.hd
  simp only [List.tail_cons, List.flatMap_cons] at ih hw ⊢
  have ka := aun a b
  have kb := atG a b
  have eA : agQ a b = [x] := by unfold agQ; rw [h1]; exact aqR hx
  have eB : ana a b = [y] := by unfold ana; rw [h2]; exact aqR hy
  rw [eA] at ka
  rw [eB] at kb
  have ea : P ++ (tkL a.Kids ++ S) = (P ++ tkL (a.Kids.take (dh a b))) ++ Tk.opn x.Kind ([] ++ x.zh) :: (tkL x.Kids ++ (Tk.cls :: (tkL (a.Kids.drop (dh a b + dm a b)) ++ S))) := by
   conv => lhs; rw [ka, Ze, Ze, tkL, kg, if_neg (by simp [tx])]
   simp only [List.append_assoc, List.cons_append, List.nil_append, tkL]
  have eb : P ++ (tkL b.Kids ++ S) = (P ++ tkL (a.Kids.take (dh a b)) ++ [Tk.opn x.Kind ([] ++ y.zh)]) ++ (tkL y.Kids ++ (Tk.cls :: (tkL (a.Kids.drop (dh a b + dm a b)) ++ S))) := by
   conv => lhs; rw [kb, Ze, Ze, tkL, kg, if_neg (by simp [ty]), ← hkk.1]
   simp only [List.append_assoc, List.cons_append, List.nil_append, tkL]
  rw [ea] at hn hw
  rw [List.length_append] at hw
  obtain ⟨f1, _, _, _, _, _⟩ := aba fy ty
  obtain ⟨M, g1, g2, g3, g4, g5⟩ := acS _ _ x.Kind x.zh y.zh [] n hn (by omega) ha hkk.2 (fun z hz => (List.all_eq_true.1 f1) z hz)
  have hlA := yR (a.Kids.take (dh a b))
  have hpl : ((P ++ tkL (a.Kids.take (dh a b))).length : Int) = ((s + zC (a.Kids.take (dh a b)) + 1 : Nat) : Int) - 1 := by
   rw [List.length_append, hlA, hP]; omega
  rw [hpl] at g1
  have em : (P ++ tkL (a.Kids.take (dh a b))) ++ Tk.opn x.Kind ([] ++ y.zh) :: (tkL x.Kids ++ (Tk.cls :: (tkL (a.Kids.drop (dh a b + dm a b)) ++ S))) = (P ++ tkL (a.Kids.take (dh a b)) ++ [Tk.opn x.Kind ([] ++ y.zh)]) ++ (tkL x.Kids ++ (Tk.cls :: (tkL (a.Kids.drop (dh a b + dm a b)) ++ S))) := by simp
  rw [em] at g2 g5
  rw [eb] at hd hl htw ⊢
  obtain ⟨N, k1, k2, k3, k4⟩ := ih fx fy tx ty M _ _ (by simp only [List.length_append, List.length_singleton, hlA]; omega) g2 (by omega) g4 hd hl htw
  refine ⟨N, ?_, k2, by rw [k3, g3], k4⟩
  rw [List.append_assoc]
  exact GoodS.app g1 k1
theorem Dif.auX {a b s q c m m' e} (D : Dif a b s q c m m' e) : (c.tail.flatMap fun x => x.1.zh).length ≤ zN a.Kids := by
 induction D with
 | stop a b s h => simp
 | go a b s x y q c m m' e h1 h2 hx hy hal r ih =>
  obtain ⟨c', rfl⟩ := r.hd
  simp only [List.tail_cons, List.flatMap_cons, List.length_append] at ih ⊢
  have k4 := jI (List.mem_of_getElem? hx)
  have k3 := qi x
  have k2 := xx x.zh
  omega
theorem ajR {a b : za} {A B : List Tk} (ha : TD a A) (hb : TD b B) (hk : a.Kind = b.Kind) (aa : a.zh = []) (ab : b.zh = []) (hwa : wD a A + 40 * zN a.Kids ≤ 400000) (hwb : wD b B ≤ 1000000) :
  ∃ l, y8 a b = some (l, 0) ∧ GoodS a l b ∧ l.length ≤ 2000000 ∧ (a = b → l = []) := by
 obtain ⟨q, c, m, m', e, D⟩ := aty (yS a) a b 0 (Nat.le_refl _)
 have hal : alD a b = true := by unfold alD; simp [hk, aa, ab, ha.nt]
 have wa := ha.wt
 have wb := hb.wt
 have hp := aiM D ha.ok hb.ok hal (by omega) (by omega)
 have hle := D.auX
 obtain ⟨w1, _⟩ := D.ax2
 obtain ⟨N, g1, g2, g3, g4⟩ := axC D ha.form hb.form ha.nt hb.nt a [] [] rfl (by simpa [ha.tk] using ha) (by simp only [List.nil_append, List.append_nil, ha.tk]; omega) aa (by simpa [hb.tk] using hb.deep) (by simpa [hb.tk] using hb.small) (by simp only [List.nil_append, List.append_nil, hb.tk]; unfold wD at hwb; omega)
 have hN : N = b := by
  simp only [List.nil_append, List.append_nil, hb.tk] at g2
  exact g2.ext hb (by rw [g3, hk]) (by rw [g4, ab])
 subst hN
 obtain ⟨c', rfl⟩ := D.hd
 have e0 : afw (a, N, 0) = [] := by unfold afw; rw [aa, ab]; rfl
 rw [List.flatMap_cons, e0, List.nil_append] at hp
 have hr : (ajo m m' e).length ≤ 1 := by unfold ajo; split <;> simp
 refine ⟨_, hp, g1, ?_, ?_⟩
 ·simp only [List.flatMap_cons, e0, List.nil_append] at w1
  rw [List.length_append]
  omega
 ·intro hab
  subst hab
  have h0 : dm a a = 0 := by
   have h1 : ∀ l : List za, cH l l = l.length := by
    intro l
    induction l with
    | nil => rfl
    | cons x l ih => simp [cH, ih]
   unfold dm dh
   rw [h1]
   omega
  cases D with
  | stop _ _ _ h =>
   have h1 : dn a a = 0 := by rw [al8]; exact h0
   simp only [List.flatMap_nil, List.nil_append]
   exact if_pos (by omega)
  | go _ _ _ x y q c m m' e h1 => omega
end Go.Proofs.YtclohbgnaopjfaaDoor
namespace Go.Proofs.YtclohbgnaopjfaaDoor
set_option linter.unusedSimpArgs false
set_option linter.unusedVariables false
open Go Classical
section
variable (k : Int) (x : Str)
noncomputable def Wy (p : Nat → Prop) : Nat → List Tk → List Tk
 | _, [] => []
 | i, t :: l => (match t with | .sgn c m => Tk.sgn c (if p i then mkS k x m else m) | t => t) :: Wy p (i + 1) l
theorem VA (p : Nat → Prop) (i : Nat) (c : Int) (m : List Str) (l : List Tk) : Wy k x p i (.sgn c m :: l) = .sgn c (if p i then mkS k x m else m) :: Wy k x p (i + 1) l := rfl
theorem Vx (p : Nat → Prop) (i : Nat) (c : Str) (m : List ze) (l : List Tk) : Wy k x p i (.opn c m :: l) = .opn c m :: Wy k x p (i + 1) l := rfl
theorem Vy (p : Nat → Prop) (i : Nat) (l : List Tk) : Wy k x p i (.cls :: l) = .cls :: Wy k x p (i + 1) l := rfl
theorem J8 (p : Nat → Prop) : ∀ (l : List Tk) (i : Nat), (Wy k x p i l).length = l.length
 | [], i => rfl
 | .sgn c m :: l, i => by rw [VA, List.length_cons, List.length_cons, J8 p l]
 | .opn c m :: l, i => by rw [Vx, List.length_cons, List.length_cons, J8 p l]
 | .cls :: l, i => by rw [Vy, List.length_cons, List.length_cons, J8 p l]
theorem aez : ∀ (l : List Tk) (i : Nat), Wy k x (fun _ => False) i l = l
 | [], i => rfl
 | .sgn c m :: l, i => by rw [VA, aez l, if_neg id]
 | .opn c m :: l, i => by rw [Vx, aez l]
 | .cls :: l, i => by rw [Vy, aez l]
theorem ahd (p : Nat → Prop) : ∀ (l : List Tk) (i : Nat), tw (Wy k x p i l) ≤ tw l + l.length * (1 + x.length)
 | [], i => by simp [Wy, tw]
 | .sgn c m :: l, i => by
  have h1 := ahd p l (i + 1)
  have h2 := asV k x m
  rw [VA, tw, tw, ajm, ajm, List.length_cons, Nat.add_mul]
  split <;> omega
 | .opn c m :: l, i => by
  have h1 := ahd p l (i + 1)
  rw [Vx, tw, tw, List.length_cons, Nat.add_mul]
  omega
 | .cls :: l, i => by
  have h1 := ahd p l (i + 1)
  rw [Vy, tw, tw, List.length_cons, Nat.add_mul]
  omega
theorem awr {m : List Str} (hm : vW m = true) (hx : isName x = true) : mkS k x (mkS k x m) = mkS k x m := by
 by_cases h : k = 109
 ·subst h; exact ayj hm hx
 ·obtain ⟨a1, a2, _⟩ := aeY h hm (x := x)
  obtain ⟨b1, b2, _⟩ := aeY h a1 (x := x)
  refine Xy b1 a1 fun y => ?_
  rw [b2, a2]
  exact ⟨fun h => h.2, fun h => ⟨h.1, h⟩⟩
theorem aa4 (hx : isName x = true) (p : Nat → Prop) (a b : Nat) : ∀ (l : List Tk) (i : Nat), TOk l → kz k x a b i (Wy k x p i l) = Wy k x (fun j => p j ∨ (a ≤ j ∧ j < b)) i l
 | [], i, _ => rfl
 | .sgn c m :: l, i, h => by
  rw [VA, kz, Yj, aa4 hx p a b l (i + 1) (fun c m hc => h c m (by simp [hc])), VA]
  have hm := h c m (by simp)
  by_cases h1 : p i
  ·by_cases h2 : a ≤ i ∧ i < b
   ·simp only [if_pos h1, if_pos h2, if_pos (Or.inl h1 : p i ∨ (a ≤ i ∧ i < b)), awr k x hm hx]
   ·simp only [if_pos h1, if_neg h2, if_pos (Or.inl h1 : p i ∨ (a ≤ i ∧ i < b))]
  ·by_cases h2 : a ≤ i ∧ i < b
   ·simp only [if_neg h1, if_pos h2, if_pos (Or.inr h2 : p i ∨ (a ≤ i ∧ i < b))]
   ·simp only [if_neg h1, if_neg h2, if_neg (fun h => h.elim h1 h2 : ¬ (p i ∨ (a ≤ i ∧ i < b)))]
 | .opn c m :: l, i, h => by rw [Vx, kz, adX, aa4 hx p a b l (i + 1) (fun c m hc => h c m (by simp [hc])), Vx]
 | .cls :: l, i, h => by rw [Vy, kz, ag8, aa4 hx p a b l (i + 1) (fun c m hc => h c m (by simp [hc])), Vy]
end
theorem aao (k : Int) (x : Str) {p q : Nat → Prop} (h : ∀ j, p j ↔ q j) (i : Nat) (l : List Tk) : Wy k x p i l = Wy k x q i l := by
 have : p = q := funext fun j => propext (h j)
 rw [this]
theorem aoc {k : Int} {x : Str} (hx : isName x = true) (a b : Nat) : ∀ (l : List Tk) (i : Nat), TOk l → TOk (kz k x a b i l)
 | [], i, _ => by intro c m h; simp [kz] at h
 | t :: l, i, h => by
  intro c m hc
  rw [kz, List.mem_cons] at hc
  rcases hc with hc | hc
  ·cases t with
   | sgn c' m' =>
    rw [Yj] at hc
    simp only [Tk.sgn.injEq] at hc
    obtain ⟨rfl, rfl⟩ := hc
    have hm := h c m' (by simp)
    split
    ·exact ap9 k hm hx
    ·exact hm
   | opn c' m' => cases hc
   | cls => cases hc
  ·exact aoc hx a b l (i + 1) (fun c m hc => h c m (by simp [hc])) c m hc
theorem aa3 {k : Int} (hk : k = 109 ∨ k = 117) {x : Str} (hx : isName x = true) (a b : Nat) (p : Nat → Prop) : ∀ (l : List Tk) (i : Nat), TOk l → (∀ j t, l[j]? = some t → (p (i + j) ↔ avP k x a b (i + j) t)) → Wy (226 - k) x p i (kz k x a b i l) = l
 | [], i, _, _ => rfl
 | .sgn c m :: l, i, h, hp => by
  have hm := h c m (by simp)
  rw [kz, Yj, VA, aa3 hk hx a b p l (i + 1) (fun c m hc => h c m (by simp [hc])) (fun j t hj => by
   have := hp (j + 1) t (by simpa using hj)
   rwa [show i + (j + 1) = i + 1 + j by omega] at this)]
  have h0 := hp 0 (.sgn c m) (by simp)
  rw [Nat.add_zero] at h0
  by_cases hc : avP k x a b i (.sgn c m)
  ·rw [if_pos (h0.2 hc)]
   obtain ⟨c', m', e, h1, h2, h3⟩ := hc
   cases e
   rw [if_pos ⟨h1, h2⟩, awz hk hm hx h3]
  ·rw [if_neg (fun h => hc (h0.1 h))]
   by_cases h2 : a ≤ i ∧ i < b
   ·rw [if_pos h2]
    have : mkS k x m = m := by
     refine Classical.not_not.1 fun h3 => hc ⟨c, m, rfl, h2.1, h2.2, h3⟩
    rw [this]
   ·rw [if_neg h2]
 | .opn c m :: l, i, h, hp => by
  rw [kz, adX, Vx, aa3 hk hx a b p l (i + 1) (fun c m hc => h c m (by simp [hc])) (fun j t hj => by
   have := hp (j + 1) t (by simpa using hj)
   rwa [show i + (j + 1) = i + 1 + j by omega] at this)]
 | .cls :: l, i, h, hp => by
  rw [kz, ag8, Vy, aa3 hk hx a b p l (i + 1) (fun c m hc => h c m (by simp [hc])) (fun j t hj => by
   have := hp (j + 1) t (by simpa using hj)
   rwa [show i + (j + 1) = i + 1 + j by omega] at this)]
def aqh (k : Int) (x : Str) (r : zt) : zo := ⟨k, r.Pos, r.Pos + r.Old, [], x, []⟩
theorem akc {k : Int} (hk : k = 109 ∨ k = 117) {x : Str} (hx : isName x = true) {T : List Tk} (hT : TOk T) (htw : tw T ≤ 1000000) : ∀ (rs : List zt) (p : Nat → Prop) (N : za), (∀ r ∈ rs, 0 ≤ r.Pos ∧ 1 ≤ r.Old ∧ r.Pos + r.Old ≤ (T.length : Int)) → TD N (Wy k x p 0 T) → N.Kind.length + wM N.zh ≤ 1000000 → ∃ M, Does N (rs.map (aqh k x)) M ∧ TD M (Wy k x (fun j => p j ∨ InR rs j) 0 T) ∧ M.Kind = N.Kind ∧ M.zh = N.zh
 | [], p, N, _, hN, _ => ⟨N, .nil N, by rw [aao k x (q := p) (fun j => by simp [InR])]; exact hN, rfl, rfl⟩
 | r :: rs, p, N, hr, hN, hw => by
  obtain ⟨h1, h2, h3⟩ := hr r (by simp)
  obtain ⟨a, ha⟩ := Int.eq_ofNat_of_zero_le h1
  obtain ⟨b, hb⟩ := Int.eq_ofNat_of_zero_le (show 0 ≤ r.Pos + r.Old by omega)
  have hsm := hN.small
  rw [J8] at hsm
  have hxl := YN hx
  have hmw := ahd k x p T 0
  have hml : T.length * (1 + x.length) ≤ 3998 * 21 := Nat.mul_le_mul hsm (by omega)
  obtain ⟨M, m1, _, m2, m3, m4⟩ := ahn hN (by unfold wD; omega) hk hx hxl (a := a) (b := b) (by omega) (by rw [J8]; omega)
  rw [aa4 k x hx p a b T 0 hT] at m2
  obtain ⟨M', d1, d2, d3, d4⟩ := akc hk hx hT htw rs _ M (fun y hy => hr y (by simp [hy])) m2 (by rw [m3, m4]; exact hw)
  refine ⟨M', ?_, ?_, by rw [d3, m3], by rw [d4, m4]⟩
  ·refine .cons _ _ _ _ _ ?_ d1
   unfold aqh
   rw [hb, ha]
   exact m1
  ·rw [aao k x (q := fun j => (p j ∨ (a ≤ j ∧ j < b)) ∨ InR rs j) (fun j => ?_)]
   ·exact d2
   ·simp only [InR, List.mem_cons, exists_eq_or_imp]
    constructor
    ·rintro (h | ⟨h4, h5⟩ | h)
     ·exact .inl (.inl h)
     ·exact .inl (.inr ⟨by omega, by omega⟩)
     ·exact .inr h
    ·rintro ((h | ⟨h4, h5⟩) | h)
     ·exact .inl h
     ·exact .inr (.inl ⟨by omega, by omega⟩)
     ·exact .inr (.inr h)
theorem aq5 (s : zo) (hk : s.Kind = 109 ∨ s.Kind = 117) : ∀ (rs : List zt) (i : Int) (out : List zo), (∀ r ∈ rs, 0 ≤ r.Pos ∧ 1 ≤ r.Old ∧ r.Pos + r.Old ≤ 1000000) → out.length + rs.length ≤ 1000000 → xD s rs i out = some (out ++ rs.map (aqh (226 - s.Kind) s.Name))
 | [], i, out, _, _ => by simp [xD]
 | r :: rs, i, out, hr, hl => by
  have h1 := hr r (by simp)
  simp only [List.length_cons] at hl
  have e : IntKind.wrap .u8 (226 - s.Kind) = 226 - s.Kind := by rcases hk with h | h <;> rw [h] <;> decide
  rw [xD, wJ (by simp; omega)]
  simp only [Option.bind_some]
  rw [zW (by omega), aq5 s hk rs _ _ (fun y hy => hr y (by simp [hy])) (by simp; omega), e]
  simp [aqh]
theorem asH {n : za} {T : List Tk} (h : TD n T) (hw : wD n T ≤ 500000) {k : Int} (hk : k = 109 ∨ k = 117) {x : Str} (hx : isName x = true) {a b : Nat} (hab : a ≤ b) (hb : b ≤ T.length) :
  ∃ N u, qH n ⟨k, (a : Int), (b : Int), [], x, []⟩ = some (N, 0) ∧ jo n ⟨k, (a : Int), (b : Int), [], x, []⟩ = some (u, 0) ∧ Does N u n ∧ u.length ≤ 1000000 ∧ TD N (kz k x a b 0 T) ∧ N.Kind = n.Kind ∧ N.zh = n.zh ∧ wD N (kz k x a b 0 T) ≤ wD n T + 90000 := by
 have hsm := h.small
 have hxl := YN hx
 obtain ⟨N, h1, h2, h3, h4, h5⟩ := ahn h (by omega) hk hx hxl hab hb
 have hmw := ag4 k x a b T 0
 have hml : T.length * (1 + x.length) ≤ 3998 * 21 := Nat.mul_le_mul hsm (by omega)
 have hrg := apK k x a b T 0 [] ⟨by simp, by simp⟩
 rw [Nat.zero_add] at hrg
 have hin := fun j => (as0 k x a b j T 0 [] (by simp)).1
 have hTm := aoc (k := k) hx a b T 0 h.tok
 generalize hrs : QI k x a b 0 T [] = rs at *
 obtain ⟨r1, r2⟩ := hrg
 have hk' : 226 - k = 109 ∨ 226 - k = 117 := by omega
 have hwu : tw (kz k x a b 0 T) ≤ 1000000 := by unfold wD at hw; omega
 obtain ⟨M, d1, d2, d3, d4⟩ := akc hk' hx hTm hwu rs (fun _ => False) N (fun r hr => by rw [afz]; exact r2 r hr) (by rw [aez]; exact h3) (by rw [h4, h5]; unfold wD at hw; omega)
 have hM : M = n := by
  have e := aa3 hk hx a b (fun j => InR rs j) T 0 h.tok (fun j t hj => by
   rw [hin (0 + j)]
   simp only [Nat.zero_add]
   constructor
   ·rintro (h | ⟨p, t', h6, rfl, h7⟩)
    ·obtain ⟨r, hr, _⟩ := h
     cases hr
    ·rw [h6] at hj
     cases hj
     exact h7
   ·intro h7
    exact .inr ⟨j, t, hj, rfl, h7⟩)
  rw [aao _ x (q := fun j => InR rs j) (fun j => by simp), e] at d2
  exact d2.ext h (by rw [d3, h4]) (by rw [d4, h5])
 subst hM
 refine ⟨N, _, h1, ?_, d1, by rw [List.length_map]; omega, h3, h4, h5, by unfold wD; rw [h4, h5]; omega⟩
 unfold jo
 rw [h1]
 simp only [Option.bind_some, bne_self_eq_false, Bool.false_eq_true, if_false]
 rw [if_neg (by simp; omega), if_neg (by simp; omega), h2]
 simp only [Option.bind_some]
 rw [qB (by omega), aq5 _ hk rs 0 [] (fun r hr => by have := r2 r hr; omega) (by simp; omega)]
 rfl
end Go.Proofs.YtclohbgnaopjfaaDoor
namespace Go.Proofs.YtclohbgnaopjfaaDoor
set_option linter.unusedSimpArgs false
set_option linter.unusedVariables false
open Go Classical
theorem arI {n : za} {T : List Tk} (h : TD n T) (hw : wD n T ≤ 500000) (hat : n.zh = []) {s : zo} (hs : anB T s) :
  (∃ e, e ≠ 0 ∧ qH n s = some (afA, e) ∧ jo n s = some ([], e)) ∨
  ∃ N u T', qH n s = some (N, 0) ∧ jo n s = some (u, 0) ∧ Does N u n ∧ u.length ≤ 1000000 ∧ TD N T' ∧ N.Kind = n.Kind ∧ N.zh = n.zh ∧ wD N T' ≤ wD n T + tw (tkL s.kF) + 90000 := by
 have hsm := h.small
 cases hs with
 | rep f t l hft ht hl hlw =>
  have hlt := al3 hl
  rcases anX h (by omega) hft ht hl (by omega) with ⟨P, Y, S, hT, fy, hP, hY⟩ | he
  ·obtain ⟨N, h1, h2, h3, h4, h5, h6⟩ := afy h (by omega) hT fy hl (by omega)
   rw [hP] at h6 hY
   rw [hY] at h6
   by_cases hc : checkN N = 0
   ·right
    rw [if_pos hc] at h6
    have hN : TD N (P ++ (tkL l ++ S)) := ⟨hc, h2, h5⟩
    have h6' := h6
    rw [← hP, ← hY] at h6'
    obtain ⟨c, c1, c2⟩ := arL h (by omega) hT fy hl (by omega) hN h3 h4 (by rw [hP]; rw [hP] at h6'; exact h6')
    rw [hP, hY] at c1
    have hlen := yR l
    have hTl : T.length = P.length + (szI Y + S.length) := by rw [hT]; simp only [List.length_append, Yn]
    refine ⟨N, [c], _, h6, c1, .cons _ _ _ _ _ c2 (.nil _), by simp, hN, h3, h4, ?_⟩
    unfold wD at hw ⊢
    rw [h3, h4]
    rw [hT] at hw ⊢
    simp only [JQ] at hw ⊢
    omega
   ·left
    rw [if_neg hc] at h6
    exact ⟨checkN N, hc, h6, aea hc h6⟩
  ·exact .inl ⟨10, by decide, he, aea (by decide) he⟩
 | attr p nm v h1 h2 hn hv =>
  by_cases hp : p = -1
  ·left
   subst hp
   have hap : qH n ⟨97, -1, 0, [], nm, v⟩ = some (afA, 9) := by
    rw [WO h (by omega) _ (acJ hn hv (by omega) (by omega) (by have := YN hn; omega))]
    simp only
    rw [if_neg (by decide), if_pos (by decide), auE h _ rfl hat]
    rfl
   exact ⟨9, by decide, hap, aea (by decide) hap⟩
  ·obtain ⟨p, rfl⟩ := Int.eq_ofNat_of_zero_le (show 0 ≤ p by omega)
   rcases (aoZ h (by omega) p (by omega) hn hv).symm with ⟨e, he, hap⟩ | ⟨k, aa, i, a, hA⟩
   ·exact .inl ⟨e, he, hap, aea he hap⟩
   ·right
    obtain ⟨N, a1, a2, a3, a4, a5, a6⟩ := als h (by omega) hA hv
    obtain ⟨vals, rise⟩ := ako h (by omega) hA.1
    have vw : isValue a.Value = true := (List.all_eq_true.1 vals) a (List.mem_of_getElem? hA.2.1)
    obtain ⟨B, b1, _, b3, b4, b5, b6⟩ := als a3 (by omega) (hA.set v) vw
    rw [aog hA] at b3
    have hB := b3.ext h (by rw [b4, a4]) (by rw [b5, a5])
    subst hB
    exact ⟨N, _, _, a1, arO rfl a1 a2, .cons _ _ _ _ _ b1 (.nil _), by simp, a3, a4, a5, by omega⟩
 | mark k x a b hk hx hab hb =>
  right
  obtain ⟨N, u, g1, g2, g3, g4, g5, g6, g7, g8⟩ := asH h (by omega) hk hx hab hb
  exact ⟨N, u, _, g1, g2, g3, g4, g5, g6, g7, by omega⟩
end Go.Proofs.YtclohbgnaopjfaaDoor
namespace Go.Proofs.YtclohbgnaopjfaaDoor
set_option linter.unusedSimpArgs false
set_option linter.unusedVariables false
open Go Classical
abbrev exA : za := ⟨[100, 111, 99], [], [], [], [⟨[112], [], [], [], [⟨jm, [104, 105], [], [], []⟩]⟩, ⟨[113], [], [], [], []⟩]⟩
abbrev exB : za := ⟨[100, 111, 99], [], [], [], [⟨[112], [], [], [], [⟨jm, [104, 111], [], [], []⟩]⟩, ⟨[113], [], [], [], []⟩]⟩
abbrev exP (t : Str) : za := ⟨[112], [], [], [], [⟨jm, t, [], [], []⟩]⟩
theorem apQ : jX = some true := by
 have c1 : dh exA exB = 0 := by simp [dh, cH]
 have c2 : dt exA exB = 1 := by simp [dt, cT, c1, cH]
 have c3 : dh (exP [104, 105]) (exP [104, 111]) = 0 := by simp [dh, cH]
 have c4 : dt (exP [104, 105]) (exP [104, 111]) = 0 := by simp [dt, cT, cH]
 have m1 : dm exA exB = 1 := by simp [dm, c1, c2]
 have n1 : dn exA exB = 1 := by simp [dn, c1, c2]
 have m2 : dm (exP [104, 105]) (exP [104, 111]) = 1 := by simp [dm, c3, c4]
 have n2 : dn (exP [104, 105]) (exP [104, 111]) = 1 := by simp [dn, c3, c4]
 have D2 : Dif (exP [104, 105]) (exP [104, 111]) (0 + zC (exA.Kids.take (dh exA exB)) + 1) [] [(exP [104, 105], exP [104, 111], 0 + zC (exA.Kids.take (dh exA exB)) + 1)] (exP [104, 105]) (exP [104, 111]) (0 + zC (exA.Kids.take (dh exA exB)) + 1) := by
  refine .stop _ _ _ fun ⟨_, _, h⟩ => ?_
  have := h ⟨jm, [104, 105], [], [], []⟩ ⟨jm, [104, 111], [], [], []⟩ (by rw [c3]; rfl) (by rw [c3]; rfl)
  exact absurd this (by decide)
 have D1 := Dif.go exA exB 0 (exP [104, 105]) (exP [104, 111]) _ _ _ _ _ m1 n1 (by rw [c1]; rfl) (by rw [c1]; rfl) (by decide) D2
 have h := aiM D1 (by decide +kernel) (by decide +kernel) (by decide) (by decide +kernel) (by decide +kernel)
 have hr : ajo (exP [104, 105]) (exP [104, 111]) (0 + zC (exA.Kids.take (dh exA exB)) + 1) = [⟨114, 1, 3, [⟨jm, [104, 111], [], [], []⟩], [], []⟩] := by
  have z : zC (exA.Kids.take (dh exA exB)) = 0 := by rw [c1]; rfl
  have z2 : zC ([⟨jm, [104, 105], [], [], []⟩] : List za) = 2 := by decide +kernel
  unfold ajo
  rw [m2, n2, c3, z]
  simp [z2, zC]
 rw [hr] at h
 simp only [afw, abk, List.flatMap_cons, List.flatMap_nil, List.nil_append] at h
 unfold jX
 rw [h]
 rfl
end Go.Proofs.YtclohbgnaopjfaaDoor
namespace Go.Proofs.YtclohbgnaopjfaaDoor
set_option linter.unusedSimpArgs false
set_option linter.unusedVariables false
open Go
def acI (m : List Str) : Prop := m = [] ∨ m = [[98]] ∨ m = [[105]] ∨ m = [[98], [105]]
inductive BN : za → Prop
 | text (t : Str) (m : List Str) (h1 : t ≠ []) (h2 : Lib.validD t = true) (hm : acI m) : BN ⟨jm, t, m, [], []⟩
 | node (k : Str) (a : List ze) (ks : List za) (hk : isName k = true) (h1 : a.all (fun x => isValue x.Value) = true) (h2 : vW (a.map (·.Name)) = true) (hs : ∀ x ∈ ks, BN x) (hj : ja ks) : BN ⟨k, [], [], a, ks⟩
theorem adJ {k : Str} (h : isName k = true) : (k == jm) = false := by
 unfold isName at h
 simp only [Bool.and_eq_true, decide_eq_true_eq] at h
 simpa using h.2
theorem an4 {m : List Str} (h : acI m) : vW m = true := by
 rcases h with rfl | rfl | rfl | rfl <;> decide +kernel
theorem anp {m : List Str} (h : acI m) : wQ m ≤ 4 := by
 rcases h with rfl | rfl | rfl | rfl <;> simp [wQ]
theorem aqw : ∀ (l : List za) (last : Option za), (∀ x ∈ l, qg x = true) → ja l → (∀ x y, last = some x → l.head? = some y → wK x y = false) → yu last l = true
 | [], last, _, _, _ => acv last
 | y :: l, last, hf, hj, hl => by
  rw [KM, hf y (by simp)]
  have h2 : yu (some y) l = true := by
   refine aqw l (some y) (fun x hx => hf x (by simp [hx])) ?_ ?_
   ·cases l with
    | nil => trivial
    | cons z l => exact hj.2
   ·intro x z hx hz
    cases hx
    cases l with
    | nil => cases hz
    | cons z' l => cases hz; exact hj.1
  rw [h2]
  cases last with
  | none => rfl
  | some x => simp [hl x y rfl rfl]
theorem awe {n : za} (h : BN n) : qg n = true := by
 induction h with
 | text t m h1 h2 hm =>
  rw [jA]
  have h3 := an4 hm
  simp [isT, h1, h2, h3]
 | node k a ks hk h1 h2 hs hj ih =>
  rw [jA]
  have hkk : isT (⟨k, [], [], a, ks⟩ : za) = false := adJ hk
  have h3 := aqw ks none ih hj (fun x y hx => by cases hx)
  simp only [hkk, Bool.false_eq_true, if_false, h1, hk, h2, h3]
  decide
theorem awy {n : za} (h : BN n) (ht : isT n = true) : n.Text ≠ [] ∧ Lib.validD n.Text = true ∧ acI n.Marks ∧ n.zh = [] ∧ n.Kids = [] := by
 cases h with
 | text t m h1 h2 hm => exact ⟨h1, h2, hm, rfl, rfl⟩
 | node k a ks hk h1 h2 hs hj => rw [show isT (⟨k, [], [], a, ks⟩ : za) = false from adJ hk] at ht; cases ht
theorem aqa {n : za} (h : BN n) : (∀ x ∈ n.Kids, BN x) ∧ ja n.Kids := by
 cases h with
 | text t m h1 h2 hm => exact ⟨by simp, trivial⟩
 | node k a ks hk h1 h2 hs hj => exact ⟨hs, hj⟩
theorem aih : ∀ (o : List za) (x n : za), ja (o ++ [x]) → wK x n = false → ja (o ++ [x, n])
 | [], x, n, _, h => ⟨h, trivial⟩
 | [a], x, n, h1, h => ⟨h1.1, h, trivial⟩
 | a :: b :: o, x, n, h1, h => ⟨h1.1, aih (b :: o) x n h1.2 h⟩
theorem ajT : ∀ (o : List za) (x n : za), ja (o ++ [x]) → (∀ a, wK a x = wK a n) → ja (o ++ [n])
 | [], x, n, _, _ => trivial
 | [a], x, n, h1, h => ⟨by rw [← h]; exact h1.1, trivial⟩
 | a :: b :: o, x, n, h1, h => ⟨h1.1, ajT (b :: o) x n h1.2 h⟩
theorem apX : ∀ (l : List za), (∀ x ∈ l, isT x = false) → ja l
 | [], _ => trivial
 | [a], _ => trivial
 | a :: b :: l, h => ⟨by unfold wK; rw [h a (by simp)]; rfl, apX (b :: l) fun x hx => h x (by simp [hx])⟩
theorem arj (o : List za) (n : za) (h : ∀ x ∈ o, BN x) (hj : ja o) (hn : BN n) : (∀ x ∈ joinStep o n, BN x) ∧ ja (joinStep o n) := by
 rcases kH o with rfl | ⟨o, x, rfl⟩
 ·rw [vO]
  split
  ·exact ⟨by simp, trivial⟩
  ·exact ⟨by simpa using hn, trivial⟩
 ·rw [wS]
  split
  ·exact ⟨h, hj⟩
  ·split
   ·rename_i hc
    simp only [Bool.and_eq_true, decide_eq_true_eq] at hc
    obtain ⟨⟨h1, h2⟩, h3⟩ := hc
    have hx := h x (by simp)
    cases hn with
    | text t m ht hv hm =>
     cases hx with
     | text t' m' ht' hv' hm' =>
      simp only at h3
      subst h3
      refine ⟨fun y hy => ?_, ajT o _ _ hj fun a => rfl⟩
      rcases List.mem_append.1 hy with hy | hy
      ·exact h y (by simp [hy])
      ·simp at hy
       subst hy
       exact .text _ _ (by simp [ht']) (by rw [(aeU t hv').2]; exact hv) hm
     | node k a ks hk ha hb hs hj' => rw [show isT (⟨k, [], [], a, ks⟩ : za) = false from adJ hk] at h2; cases h2
    | node k a ks hk ha hb hs hj' => rw [show isT (⟨k, [], [], a, ks⟩ : za) = false from adJ hk] at h1; cases h1
   ·rename_i hc
    refine ⟨fun y hy => ?_, aih o x n hj ?_⟩
    ·rcases List.mem_append.1 hy with hy | hy
     ·exact h y (by simp [hy])
     ·simp at hy
      rcases hy with rfl | rfl
      ·exact h y (by simp)
      ·exact hn
    ·have hc' : (isT n && isT x && decide (x.Marks = n.Marks)) = false := by simpa using hc
     unfold wK
     rw [Bool.and_comm (isT x)]
     exact hc'
theorem awM : ∀ (l o : List za), (∀ x ∈ o, BN x) → ja o → (∀ x ∈ l, BN x) → (∀ x ∈ l.foldl joinStep o, BN x) ∧ ja (l.foldl joinStep o)
 | [], o, h, hj, _ => ⟨h, hj⟩
 | n :: l, o, h, hj, hl => by
  obtain ⟨h1, h2⟩ := arj o n h hj (hl n (by simp))
  exact awM l _ h1 h2 fun x hx => hl x (by simp [hx])
theorem ayZ (l : List za) (h : ∀ x ∈ l, BN x) : (∀ x ∈ yF l, BN x) ∧ ja (yF l) := awM l [] (by simp) trivial h
theorem Xx (a b : List za) : wI (a ++ b) = max (wI a) (wI b) := by
 induction a with
 | nil => simp [wI]
 | cons n a ih => simp only [List.cons_append, wI, ih]; omega
theorem ajl (o : List za) (n : za) : wI (joinStep o n) ≤ max (wI o) (yU n) := by
 rcases kH o with rfl | ⟨o, x, rfl⟩
 ·rw [vO]
  split <;> simp [wI]
 ·rw [wS]
  split
  ·omega
  ·split
   ·rename_i hc
    simp only [Bool.and_eq_true] at hc
    have h1 : yU ({ n with Text := x.Text ++ n.Text } : za) = 0 := by rw [QW, if_pos (show isT ({ n with Text := x.Text ++ n.Text } : za) = true from hc.1.1)]
    simp only [Xx, wI, h1]
    omega
   ·simp only [Xx, wI]
    omega
theorem akn : ∀ (l o : List za), wI (l.foldl joinStep o) ≤ max (wI o) (wI l)
 | [], o => by simp [wI]
 | n :: l, o => by
  have h1 := ajl o n
  have h2 := akn l (joinStep o n)
  simp only [List.foldl_cons, wI]
  omega
theorem apN (l : List za) : wI (yF l) ≤ wI l := by
 have := akn l []
 simpa [yF, wI] using this
structure Book (ks : List za) : Prop where
 bn : ∀ x ∈ ks, BN x
 nt : ∀ x ∈ ks, isT x = false
 wt : zN ks ≤ 2400
 dep : wI ks ≤ 31
abbrev ar0 : Str := [100, 111, 99]
theorem avx {ks : List za} (h : Book ks) : BN ⟨ar0, [], [], [], ks⟩ := .node _ _ _ (by decide +kernel) rfl (by decide +kernel) h.bn (apX ks h.nt)
theorem ap2 {ks : List za} (h : Book ks) : checkN ⟨ar0, [], [], [], ks⟩ = 0 := by
 have hf := awe (avx h)
 have hs := vz ks
 have hw := h.wt
 have hdp := h.dep
 have e1 : yU ⟨ar0, [], [], [], ks⟩ = wI ks + 1 := by rw [QW]; rfl
 have e2 : wO ⟨ar0, [], [], [], ks⟩ = 2 + zC ks := by rw [jZ]; rfl
 unfold checkN
 rw [hf, e1, e2, if_neg (by simp), if_neg (by omega), if_neg (by omega)]
end Go.Proofs.YtclohbgnaopjfaaDoor
namespace Go.Proofs.YtclohbgnaopjfaaDoor
set_option linter.unusedSimpArgs false
set_option linter.unusedVariables false
open Go Classical
theorem auH (n : za) : BN n → ∀ c m, Tk.sgn c m ∈ tkN n → acI m := by
 induction n using za.ind with
 | h n ih =>
  intro hb c m hc
  rw [kg] at hc
  cases ht : isT n with
  | true =>
   rw [if_pos ht, List.mem_map] at hc
   obtain ⟨x, _, hx⟩ := hc
   cases hx
   exact (awy hb ht).2.2.1
  | false =>
   simp only [ht, Bool.false_eq_true, if_false, List.mem_cons, reduceCtorEq, false_or, List.mem_append, List.not_mem_nil, or_false] at hc
   have key : ∀ l : List za, (∀ x ∈ l, x ∈ n.Kids) → Tk.sgn c m ∈ tkL l → acI m := by
    intro l
    induction l with
    | nil => intro _ h; simp [tkL] at h
    | cons y l ihl =>
     intro hl h
     rw [tkL, List.mem_append] at h
     rcases h with h | h
     ·exact ih y (hl y (by simp)) ((aqa hb).1 y (hl y (by simp))) c m h
     ·exact ihl (fun x hx => hl x (by simp [hx])) h
   exact key n.Kids (fun _ h => h) hc
abbrev akK (ks : List za) : za := ⟨ar0, [], [], [], ks⟩
theorem amf {ks : List za} (h : Book ks) : TD (akK ks) (tkL ks) ∧ wD (akK ks) (tkL ks) ≤ 40000 := by
 refine ⟨⟨ap2 h, rfl, rfl⟩, ?_⟩
 have h1 := aw5 4 ks fun n hn => axK 4 n fun c m hc => anp (auH n (h.bn n hn) c m hc)
 have := h.wt
 unfold wD
 simp only [wM, List.length_cons, List.length_nil]
 omega
end Go.Proofs.YtclohbgnaopjfaaDoor
namespace Go.Proofs.YtclohbgnaopjfaaDoor
set_option linter.unusedSimpArgs false
set_option linter.unusedVariables false
open Go
theorem aj4 (f : za → Option Int) : ∀ (l : List za) (i : Int) (d : Nat), (∀ k ∈ l, f k = some (yU k : Int)) → wm f l i (d : Int) = some ((max d (wI l) : Nat) : Int)
 | [], i, d, _ => by simp [wm, wI]
 | n :: l, i, d, h => by
  rw [wm, h n (by simp)]
  simp only [Option.bind_some]
  have e : (if (yU n : Int) > (d : Int) then (yU n : Int) else (d : Int)) = ((max d (yU n) : Nat) : Int) := by split <;> omega
  rw [e, aj4 f l _ _ fun k hk => h k (by simp [hk])]
  simp only [wI, Option.some.injEq]
  omega
theorem atW (n : za) : nwt n ≤ 1099511627776 → ∀ kr, yS n ≤ kr → qX kr n = some (yU n : Int) := by
 induction n using za.ind with
 | h n ih =>
  intro hw kr hk
  have hd := xy n
  obtain ⟨kr, rfl⟩ : ∃ j, kr = j + 1 := ⟨kr - 1, by omega⟩
  have hwt := qi n
  have hl := qw n.Kids
  have hdl := aqS n
  have hdw := aqz n
  have en : (n.Kind == ([116, 101, 120, 116] : Str)) = isT n := rfl
  rw [qX, en]
  by_cases ht : isT n = true
  ·simp [ht, QW n]
  ·have e := QW n
   rw [if_neg ht] at e
   simp only [ht, Bool.false_eq_true, if_false]
   have h0 := aj4 (qX kr) n.Kids 0 0 (fun k hkk => ih k hkk (by have := jI hkk; omega) kr (by have := xR hkk; omega))
   have h0' : wm (qX kr) n.Kids 0 0 = _ := h0
   rw [qB (by omega), h0']
   simp only [Option.bind_some, Nat.zero_max]
   rw [zW (by omega), e]
   rfl
theorem ajJ (n : za) (h : nwt n ≤ 1099511627776) : jk n = some (yU n : Int) := by
 unfold jk
 exact yV (yS n) fun kr hk => atW n h kr hk
end Go.Proofs.YtclohbgnaopjfaaDoor
namespace Go.Proofs.YtclohbgnaopjfaaDoor
set_option linter.unusedSimpArgs false
set_option linter.unusedVariables false
open Go
theorem apS (x : Int) : -9223372036854775808 ≤ w64 x ∧ w64 x ≤ 9223372036854775807 := by
 show -9223372036854775808 ≤ IntKind.wrap .i64 x ∧ IntKind.wrap .i64 x ≤ 9223372036854775807
 rw [IntKind.wrap_i64]; omega
theorem amn {α : Type} (l : List α) (p : Nat) (h : p < l.length) : ∃ x, rd l (p : Int) = some x ∧ x ∈ l := ⟨l[p], xM (List.getElem?_eq_getElem h), List.getElem_mem h⟩
abbrev apL : List Str := [[97], [98, 99], [195, 169], [120, 32, 121], [230, 151, 165, 230, 156, 172]]
abbrev ag2 : List Str := [[108, 101, 102, 116], [114, 105, 103, 104, 116]]
abbrev amt : List Str := [[], [195, 169], [34, 113, 92], [110, 111, 116, 101]]
abbrev aa5 : Str := [97, 108, 105, 103, 110]
abbrev aeJ : Str := [110, 111, 116, 101]
abbrev awZ : Str := [112, 97, 114, 97]
abbrev aga : Str := [105, 116, 101, 109]
abbrev akh : Str := [108, 105, 115, 116]
theorem atI {t : Str} (h : t ∈ apL) : t ≠ [] ∧ Lib.validD t = true ∧ t.length ≤ 6 := by
 simp only [apL, List.mem_cons, List.not_mem_nil, or_false] at h
 rcases h with rfl | rfl | rfl | rfl | rfl <;> refine ⟨by simp, by decide +kernel, by simp⟩
theorem asy {v w : Str} (hv : v ∈ ag2) (hw : w ∈ amt) : ([⟨aa5, v⟩, ⟨aeJ, w⟩] : List ze).all (fun x => isValue x.Value) = true ∧ vW (([⟨aa5, v⟩, ⟨aeJ, w⟩] : List ze).map (·.Name)) = true ∧ wM [⟨aa5, v⟩, ⟨aeJ, w⟩] ≤ 20 := by
 refine ⟨?_, ?_, ?_⟩
 ·have h1 : isValue v = true := by
   simp only [ag2, List.mem_cons, List.not_mem_nil, or_false] at hv
   rcases hv with rfl | rfl <;> decide +kernel
  have h2 : isValue w = true := by
   simp only [amt, List.mem_cons, List.not_mem_nil, or_false] at hw
   rcases hw with rfl | rfl | rfl | rfl <;> decide +kernel
  simp [h1, h2]
 ·show vW [aa5, aeJ] = true
  decide +kernel
 ·simp only [ag2, amt, List.mem_cons, List.not_mem_nil, or_false] at hv hw
  rcases hv with rfl | rfl <;> rcases hw with rfl | rfl | rfl | rfl <;> simp [wM]
theorem aaa (c n : Int) (hc : -9223372036854775808 ≤ c ∧ c ≤ 9223372036854775807) (hn : 0 < n) : ∃ p : Nat, qN c n = some (p : Int) ∧ (p : Int) < n := by
 have key : ∀ x : Int, 0 ≤ x → ∃ p : Nat, x.tmod n = (p : Int) ∧ (p : Int) < n := by
  intro x hx
  obtain ⟨p, hp⟩ := Int.eq_ofNat_of_zero_le (Int.tmod_nonneg n hx)
  exact ⟨p, hp, hp ▸ Int.tmod_lt_of_pos x hn⟩
 unfold qN
 by_cases h : c < 0
 ·obtain ⟨p, h1, h2⟩ := key (0 - (c + 1)) (by omega)
  refine ⟨p, ?_, h2⟩
  simp only [h, decide_true, if_true]
  rw [qB (by omega), zW (x := c + 1) (by omega), zW (by omega), h1]
 ·obtain ⟨p, h1, h2⟩ := key c (by omega)
  refine ⟨p, ?_, h2⟩
  simp only [h, decide_false, Bool.false_eq_true, if_false]
  rw [qB (by omega), h1]
def XU (y : zx) : Prop := (-9223372036854775808 ≤ y.Text ∧ y.Text ≤ 9223372036854775807) ∧ (-9223372036854775808 ≤ y.Marks ∧ y.Marks ≤ 9223372036854775807) ∧ (-9223372036854775808 ≤ y.zh ∧ y.zh ≤ 9223372036854775807) ∧ (-9223372036854775808 ≤ y.In ∧ y.In ≤ 9223372036854775807)
structure BkS (i : Nat) (ts o : List za) : Prop where
 tb : ∀ x ∈ ts, BN x
 tt : ∀ x ∈ ts, isT x = true
 ob : ∀ x ∈ o, BN x
 ont : ∀ x ∈ o, isT x = false
 wt : zN ts + zN o ≤ 60 * i
 dep : wI o ≤ 31
theorem af8 : ∀ (l : List za), (∀ x ∈ l, isT x = true) → wI l = 0
 | [], _ => by simp [wI]
 | n :: l, h => by
  rw [wI, QW, if_pos (h n (by simp)), af8 l fun x hx => h x (by simp [hx])]
  rfl
theorem abf {n : za} (h : isT n = false) : yU n = wI n.Kids + 1 := by rw [QW, h]; rfl
theorem av7 (y : zx) (hy : XU y) (i : Nat) (hi : i ≤ 41) (ts o : List za) (h : BkS i ts o) : ∃ p, jh y ts = some p ∧ BN p ∧ isT p = false ∧ nwt p ≤ 26 + zN ts ∧ yU p ≤ 1 := by
 obtain ⟨hT, hM, hA, hI⟩ := hy
 have hwt := h.wt
 have hjw := Y7 ts
 have hjd := apN ts
 rw [af8 ts h.tt] at hjd
 obtain ⟨hjb, hja⟩ := ayZ ts h.tb
 obtain ⟨p1, e1, b1⟩ := aaa y.zh 2 hA (by omega)
 obtain ⟨v, ev, mv⟩ := amn ag2 p1 (by simp; omega)
 obtain ⟨p2, e2, b2⟩ := aaa (w64 (y.zh.tdiv 2)) 4 (apS _) (by omega)
 obtain ⟨w, ew, mw⟩ := amn amt p2 (by simp; omega)
 obtain ⟨a1, a2, a3⟩ := asy mv mw
 have ht : isT (⟨awZ, [], [], [⟨aa5, v⟩, ⟨aeJ, w⟩], yF ts⟩ : za) = false := rfl
 refine ⟨⟨awZ, [], [], [⟨aa5, v⟩, ⟨aeJ, w⟩], yF ts⟩, ?_, .node _ _ _ (by decide +kernel) a1 a2 hjb hja, ht, ?_, ?_⟩
 ·unfold jh
  rw [e1]
  simp only [Option.bind_some, ev]
  rw [e2]
  simp only [Option.bind_some, ew]
  rw [join_eq ts (by omega)]
  rfl
 ·rw [qi]
  simp only [wQ, List.length_cons, List.length_nil]
  omega
 ·rw [abf ht]
  simp only
  omega
theorem ag9 {k : Str} {ks : List za} (hk : isName k = true) (hl : k.length = 4) (h : ∀ x ∈ ks, BN x) (hn : ∀ x ∈ ks, isT x = false) : BN ⟨k, [], [], [], ks⟩ ∧ isT ⟨k, [], [], [], ks⟩ = false ∧ nwt ⟨k, [], [], [], ks⟩ = 6 + zN ks ∧ yU ⟨k, [], [], [], ks⟩ = wI ks + 1 := by
 have ht : isT (⟨k, [], [], [], ks⟩ : za) = false := adJ hk
 refine ⟨.node _ _ _ hk rfl (by decide +kernel) h (apX ks hn), ht, ?_, abf ht⟩
 rw [qi]
 simp only [wQ, wM, List.length_nil]
 omega
theorem ak8 : isName aga = true := by decide +kernel
theorem akB : isName akh = true := by decide +kernel
theorem BkS.put {i : Nat} {ts o ts' o' : List za} (h : BkS i ts o) {p : za} (hp : BN p) (ht : isT p = false) (hb : ∀ x ∈ ts', BN x) (htt : ∀ x ∈ ts', isT x = true) (ho : ∀ x ∈ o', x ∈ o) (hw : zN ts' + zN o' + nwt p ≤ 60 * (i + 1)) (hd : yU p ≤ 31) : BkS (i + 1) ts' (o' ++ [p]) := by
 have hdo : ∀ l : List za, (∀ x ∈ l, x ∈ o) → wI l ≤ 31 := by
  intro l
  induction l with
  | nil => simp [wI]
  | cons x l ih =>
   intro hx
   have h1 := ih fun y hy => hx y (by simp [hy])
   have h2 : ∀ r : List za, x ∈ r → yU x ≤ wI r := by
    intro r
    induction r with
    | nil => simp
    | cons z r ih =>
     intro hr
     rw [wI]
     rcases List.mem_cons.1 hr with rfl | hr
     ·omega
     ·have := ih hr; omega
   have h3 := h2 o (hx x (by simp))
   have := h.dep
   rw [wI]
   omega
 refine ⟨hb, htt, fun x hx => ?_, fun x hx => ?_, ?_, ?_⟩
 ·rcases List.mem_append.1 hx with hx | hx
  ·exact h.ob x (ho x hx)
  ·simp at hx; rw [hx]; exact hp
 ·rcases List.mem_append.1 hx with hx | hx
  ·exact h.ont x (ho x hx)
  ·simp at hx; rw [hx]; exact ht
 ·simp only [kX, zN]; omega
 ·have := hdo o' ho
  simp only [Xx, wI]
  omega
theorem au2 (y : zx) (hy : XU y) (i : Nat) (hi : i < 40) (ts o : List za) (h : BkS i ts o) : ∃ ts' o', BkS (i + 1) ts' o' ∧ ∀ suf, zF (y :: suf) (i : Int) ts o = zF suf ((i : Int) + 1) ts' o' := by
 have hy' := hy
 obtain ⟨hT, hM, hA, hI⟩ := hy
 have hwt := h.wt
 have hlo := qw o
 have hlt := qw ts
 obtain ⟨pT, eT, bT⟩ := aaa y.Text 5 hT (by omega)
 obtain ⟨tx, et, mt⟩ := amn apL pT (by simp; omega)
 obtain ⟨pM, eM, bM⟩ := aaa y.Marks 4 hM (by omega)
 obtain ⟨pI, eI, bI⟩ := aaa y.In 5 hI (by omega)
 obtain ⟨t1, t2, t3⟩ := atI mt
 have hi' : decide ((i : Int) < 40) = true := by simp; omega
 obtain ⟨m1, em1, hm1⟩ : ∃ m, ((qN y.Marks (4 : Int)).bind fun adL => if ((ajO adL (1 : Int)) == (1 : Int)) = true then (app 16 ([] : List Str) [([98] : Str)]).bind fun aoS => some aoS else some ([] : List Str)) = some m ∧ (m = [] ∨ m = [[98]]) := by
  rw [eM]
  simp only [Option.bind_some]
  split
  ·exact ⟨[[98]], by rw [wJ (by simp)]; rfl, .inr rfl⟩
  ·exact ⟨[], rfl, .inl rfl⟩
 obtain ⟨m2, em2, hm2⟩ : ∃ m, ((qN y.Marks (4 : Int)).bind fun aeB => if ((ajO aeB (2 : Int)) == (2 : Int)) = true then (app 16 m1 [([105] : Str)]).bind fun avA => some avA else some m1) = some m ∧ acI m := by
  rw [eM]
  simp only [Option.bind_some]
  rcases hm1 with rfl | rfl
  ·split
   ·exact ⟨[[105]], by rw [wJ (by simp)]; rfl, .inr (.inr (.inl rfl))⟩
   ·exact ⟨[], rfl, .inl rfl⟩
  ·split
   ·exact ⟨[[98], [105]], by rw [wJ (by simp)]; rfl, .inr (.inr (.inr rfl))⟩
   ·exact ⟨[[98]], rfl, .inr (.inl rfl)⟩
 have hmw := anp hm2
 obtain ⟨n, hn⟩ : ∃ n : za, n = ⟨jm, tx, m2, [], []⟩ := ⟨_, rfl⟩
 have hnB : BN n := by rw [hn]; exact .text _ _ t1 t2 hm2
 have hnT : isT n = true := by rw [hn]; rfl
 have hnW : nwt n ≤ 16 := by rw [hn, qi]; simp only [wM, zN, List.length_cons, List.length_nil]; omega
 have hts : BkS i (ts ++ [n]) o → True := fun _ => trivial
 have start : ∀ suf, zF (y :: suf) (i : Int) ts o = (
   if ((pI : Int) == (0 : Int)) = true then
    zF suf ((i : Int) + 1) (ts ++ [n]) o
   else
    (jh y (ts ++ [n])).bind fun xP =>
    if (decide ((pI : Int) < (3 : Int))) = true then
     (app 104 o [xP]).bind fun avy =>
     zF suf ((i : Int) + 1) ([] : List za) avy
    else
     ((
       if (decide ((w64 ((o.length : Int) - (1 : Int))) ≥ (0 : Int))) = true then
        (rd o (w64 ((o.length : Int) - (1 : Int)))).bind fun ama =>
        if (ama.Kind == ([108, 105, 115, 116] : Str)) = true then
         if ((pI : Int) == (3 : Int)) = true then
          (app 104 ([] : List za) ama.Kids).bind fun ao2 =>
          (app 104 ao2 [({ Kind := ([105, 116, 101, 109] : Str), Text := ([] : Str), Marks := [], zh := [], Kids := [xP] } : za)]).bind fun avR =>
          (sl o (0 : Int) (w64 ((o.length : Int) - (1 : Int)))).bind fun av1 =>
          (app 104 ([] : List za) av1).bind fun awc =>
          (app 104 awc [{ ama with Kids := avR }]).bind fun avE =>
          some (.inl avE)
         else
          some (.inr ())
        else
         some (.inr ())
       else
        some (.inr ())) : Option ((List za) ⊕ Unit)).bind fun e => match e with
     | .inl aow =>
      zF suf ((i : Int) + 1) ([] : List za) aow
     | .inr _ =>
      if (decide ((w64 ((o.length : Int) - (1 : Int))) ≥ (0 : Int))) = true then
       (rd o (w64 ((o.length : Int) - (1 : Int)))).bind fun alZ =>
       if (alZ.Kind == ([108, 105, 115, 116] : Str)) = true then
        (jk alZ).bind fun aaM =>
        if (decide (aaM < (30 : Int))) = true then
         (app 104 [xP] [alZ]).bind fun avD =>
         (sl o (0 : Int) (w64 ((o.length : Int) - (1 : Int)))).bind fun avI =>
         (app 104 ([] : List za) avI).bind fun awk =>
         (app 104 awk [({ Kind := ([108, 105, 115, 116] : Str), Text := ([] : Str), Marks := [], zh := [], Kids := [({ Kind := ([105, 116, 101, 109] : Str), Text := ([] : Str), Marks := [], zh := [], Kids := avD } : za)] } : za)]).bind fun avv =>
         zF suf ((i : Int) + 1) ([] : List za) avv
        else
         (app 104 o [({ Kind := ([108, 105, 115, 116] : Str), Text := ([] : Str), Marks := [], zh := [], Kids := [({ Kind := ([105, 116, 101, 109] : Str), Text := ([] : Str), Marks := [], zh := [], Kids := [xP] } : za)] } : za)]).bind fun awo =>
         zF suf ((i : Int) + 1) ([] : List za) awo
       else
        (app 104 o [({ Kind := ([108, 105, 115, 116] : Str), Text := ([] : Str), Marks := [], zh := [], Kids := [({ Kind := ([105, 116, 101, 109] : Str), Text := ([] : Str), Marks := [], zh := [], Kids := [xP] } : za)] } : za)]).bind fun avw =>
        zF suf ((i : Int) + 1) ([] : List za) avw
      else
       (app 104 o [({ Kind := ([108, 105, 115, 116] : Str), Text := ([] : Str), Marks := [], zh := [], Kids := [({ Kind := ([105, 116, 101, 109] : Str), Text := ([] : Str), Marks := [], zh := [], Kids := [xP] } : za)] } : za)]).bind fun av3 =>
       zF suf ((i : Int) + 1) ([] : List za) av3) := fun suf => by
  rw [zF, if_pos hi', eT]
  simp only [Option.bind_some]
  rw [et]
  simp only [Option.bind_some]
  rw [em1]
  simp only [Option.bind_some]
  rw [em2]
  simp only [Option.bind_some]
  rw [← hn, wJ (by simp only [List.length_cons, List.length_nil]; omega)]
  simp only [Option.bind_some]
  rw [eI]
  rfl
 have htb : ∀ x ∈ ts ++ [n], BN x := fun x hx => by
  rcases List.mem_append.1 hx with hx | hx
  ·exact h.tb x hx
  ·simp at hx; rw [hx]; exact hnB
 have htt : ∀ x ∈ ts ++ [n], isT x = true := fun x hx => by
  rcases List.mem_append.1 hx with hx | hx
  ·exact h.tt x hx
  ·simp at hx; rw [hx]; exact hnT
 have hwn : zN (ts ++ [n]) = zN ts + nwt n := by simp [kX, zN]
 by_cases k0 : (pI : Int) = 0
 ·refine ⟨ts ++ [n], o, ⟨htb, htt, h.ob, h.ont, by omega, h.dep⟩, fun suf => ?_⟩
  rw [start, if_pos (by simp [k0])]
 ·obtain ⟨p, ep, hpB, hpT, hpW, hpD⟩ := @av7 y hy' (i + 1) (by omega) (ts ++ [n]) o ⟨htb, htt, h.ob, h.ont, by omega, h.dep⟩
  have nob : ∀ x ∈ ([] : List za), BN x := by simp
  have nott : ∀ x ∈ ([] : List za), isT x = true := by simp
  by_cases k3 : (pI : Int) < 3
  ·refine ⟨[], o ++ [p], h.put hpB hpT nob nott (fun x hx => hx) (by simp only [zN]; omega) (by omega), fun suf => ?_⟩
   rw [start, if_neg (by simp; omega), ep]
   simp only [Option.bind_some]
   rw [if_pos (by simp; omega), wJ (by simp only [List.length_cons, List.length_nil]; omega)]
   rfl
  ·obtain ⟨q1, q2, q3, q4⟩ := ag9 (k := aga) (ks := [p]) ak8 rfl (by simpa using hpB) (by simpa using hpT)
   obtain ⟨r1, r2, r3, r4⟩ := ag9 (k := akh) (ks := [⟨aga, [], [], [], [p]⟩]) akB rfl (by simpa using q1) (by simpa using q2)
   simp only [zN, wI] at q3 q4 r3 r4
   have one : BkS (i + 1) [] (o ++ [⟨akh, [], [], [], [⟨aga, [], [], [], [p]⟩]⟩]) := h.put r1 r2 nob nott (fun x hx => hx) (by simp only [zN]; omega) (by omega)
   have happ : ∀ z : za, app 104 o [z] = some (o ++ [z]) := fun z => wJ (by simp only [List.length_cons, List.length_nil]; omega)
   rcases kH o with rfl | ⟨o, x, rfl⟩
   ·refine ⟨[], _, one, fun suf => ?_⟩
    have hl : decide (w64 ((([] : List za).length : Int) - 1) ≥ 0) = false := by rw [zW (by simp)]; simp
    rw [start, if_neg (by simp; omega), ep]
    simp only [Option.bind_some]
    rw [if_neg (by simp; omega), hl]
    simp only [Bool.false_eq_true, if_false, Option.bind_some]
    rw [happ]
    rfl
   ·have hlen : ((o ++ [x]).length : Int) - 1 = (o.length : Int) := by simp
    have hlw : w64 (((o ++ [x]).length : Int) - 1) = (o.length : Int) := by
     rw [hlen]
     simp only [List.length_append, List.length_cons, List.length_nil] at hlo
     exact zW (by omega)
    have hl : decide ((o.length : Int) ≥ 0) = true := by simp
    have hrd : rd (o ++ [x]) (o.length : Int) = some x := Qf o [] x
    have hsl : sl (o ++ [x]) 0 (o.length : Int) = some o := avj o [x]
    have hxB := h.ob x (by simp)
    have hxT := h.ont x (by simp)
    have hd := h.dep
    simp only [kX, zN, Xx, wI] at hwt hd
    have hwo : 2 * o.length ≤ zN o := qw o
    by_cases kl : x.Kind = akh
    ·by_cases kk : (pI : Int) = 3
     ·obtain ⟨kB, kJ⟩ := aqa hxB
      have hlk := qw x.Kids
      have hxw := qi x
      obtain ⟨z, hz⟩ : ∃ z : za, z = { x with Kids := x.Kids ++ [⟨aga, [], [], [], [p]⟩] } := ⟨_, rfl⟩
      have zw := qi z
      have zT : isT z = false := by rw [hz]; exact hxT
      have zd := abf zT
      have xd := abf hxT
      have zB : BN z := by
       rw [hz]
       cases hxB with
       | text t m h1 h2 hm => cases kl
       | node k a ks hk ha hb hs hj =>
        simp only at kl
        subst kl
        refine .node _ _ _ hk ha hb (fun y hy => ?_) ?_
        ·rcases List.mem_append.1 hy with hy | hy
         ·exact hs y hy
         ·simp at hy; rw [hy]; exact q1
        ·rcases kH ks with rfl | ⟨ks, u, rfl⟩
         ·trivial
         ·rw [List.append_assoc]
          exact aih ks u _ hj (by unfold wK; rw [q2]; simp)
      rw [hz] at zw zd
      simp only [kX, zN, Xx, wI] at zw zd
      refine ⟨[], o ++ [z], h.put zB zT nob nott (fun y hy => by simp [hy]) (by simp only [zN]; rw [hz, qi]; simp only [kX, zN]; omega) (by rw [hz, zd]; omega), fun suf => ?_⟩
      rw [start, if_neg (by simp; omega), ep]
      simp only [Option.bind_some]
      rw [if_neg (by simp; omega), hlw, hl]
      simp only [if_true]
      rw [hrd]
      simp only [Option.bind_some]
      rw [if_pos (by rw [kl]; rfl), if_pos (by simp [kk]), wJ (by simp only [List.length_nil]; omega)]
      simp only [Option.bind_some, List.nil_append]
      rw [wJ (by simp only [List.length_cons, List.length_nil]; omega)]
      simp only [Option.bind_some]
      rw [hsl]
      simp only [Option.bind_some]
      rw [wJ (by simp only [List.length_nil]; omega)]
      simp only [Option.bind_some, List.nil_append]
      rw [wJ (by simp only [List.length_cons, List.length_nil]; omega)]
      simp only [Option.bind_some]
      rw [hz]
     ·by_cases kd : yU x < 30
      ·obtain ⟨u1, u2, u3, u4⟩ := ag9 (k := aga) (ks := [p, x]) ak8 rfl (by simpa using ⟨hpB, hxB⟩) (by simpa using ⟨hpT, hxT⟩)
       obtain ⟨v1, v2, v3, v4⟩ := ag9 (k := akh) (ks := [⟨aga, [], [], [], [p, x]⟩]) akB rfl (by simpa using u1) (by simpa using u2)
       simp only [zN, wI] at u3 u4 v3 v4
       refine ⟨[], o ++ [⟨akh, [], [], [], [⟨aga, [], [], [], [p, x]⟩]⟩], h.put v1 v2 nob nott (fun y hy => by simp [hy]) (by simp only [zN]; omega) (by omega), fun suf => ?_⟩
       rw [start, if_neg (by simp; omega), ep]
       simp only [Option.bind_some]
       rw [if_neg (by simp; omega), hlw, hl]
       simp only [if_true]
       rw [hrd]
       simp only [Option.bind_some]
       rw [if_pos (by rw [kl]; rfl), if_neg (by simp [kk])]
       simp only [Option.bind_some]
       rw [if_pos (by rw [kl]; rfl), ajJ x (by omega)]
       simp only [Option.bind_some]
       rw [if_pos (by simp; omega), wJ (by simp)]
       simp only [Option.bind_some]
       rw [hsl]
       simp only [Option.bind_some]
       rw [wJ (by simp only [List.length_nil]; omega)]
       simp only [Option.bind_some, List.nil_append]
       rw [wJ (by simp only [List.length_cons, List.length_nil]; omega)]
       rfl
      ·refine ⟨[], _, one, fun suf => ?_⟩
       rw [start, if_neg (by simp; omega), ep]
       simp only [Option.bind_some]
       rw [if_neg (by simp; omega), hlw, hl]
       simp only [if_true]
       rw [hrd]
       simp only [Option.bind_some]
       rw [if_pos (by rw [kl]; rfl), if_neg (by simp [kk])]
       simp only [Option.bind_some]
       rw [if_pos (by rw [kl]; rfl), ajJ x (by omega)]
       simp only [Option.bind_some]
       rw [if_neg (by simp; omega), happ]
       rfl
    ·refine ⟨[], _, one, fun suf => ?_⟩
     rw [start, if_neg (by simp; omega), ep]
     simp only [Option.bind_some]
     rw [if_neg (by simp; omega), hlw, hl]
     simp only [if_true]
     rw [hrd]
     simp only [Option.bind_some]
     rw [if_neg (by simpa using kl)]
     simp only [Option.bind_some]
     rw [if_neg (by simpa using kl), happ]
     rfl
theorem atb : ∀ (l : List zx) (i : Nat) (ts o : List za), (∀ y ∈ l, XU y) → i ≤ 40 → BkS i ts o → ∃ ts' o', zF l (i : Int) ts o = some o' ∧ BkS 40 ts' o'
 | [], i, ts, o, _, hi, h => ⟨ts, o, by simp [zF], h.tb, h.tt, h.ob, h.ont, by have := h.wt; omega, h.dep⟩
 | y :: l, i, ts, o, hy, hi, h => by
  by_cases hlt : i < 40
  ·obtain ⟨t1, o1, h1, h2⟩ := au2 y (hy y (by simp)) i hlt ts o h
   obtain ⟨ts', o', h3, h4⟩ := atb l (i + 1) t1 o1 (fun x hx => hy x (by simp [hx])) (by omega) h1
   refine ⟨ts', o', ?_, h4⟩
   rw [h2, ← h3]
   rfl
  ·have : decide ((i : Int) < 40) = false := by simp; omega
   exact ⟨ts, o, by rw [zF]; simp [this], h.tb, h.tt, h.ob, h.ont, by have := h.wt; omega, h.dep⟩
theorem alf (l : List zx) (hl : l.length ≤ 9223372036854775807) (h : ∀ y ∈ l, XU y) : ∃ ks, wV l = some ⟨ar0, [], [], [], ks⟩ ∧ Book ks := by
 obtain ⟨ts, o, h1, h2⟩ := atb l 0 [] [] h (by omega) ⟨by simp, by simp, by simp, by simp, by simp [zN], by simp [wI]⟩
 have hw := h2.wt
 refine ⟨o, ?_, h2.ob, h2.ont, by omega, h2.dep⟩
 unfold wV
 rw [qB hl]
 have : zF l 0 [] [] = some o := h1
 rw [this]
 rfl
end Go.Proofs.YtclohbgnaopjfaaDoor
namespace Go.Proofs.YtclohbgnaopjfaaDoor
set_option linter.unusedSimpArgs false
set_option linter.unusedVariables false
open Go Classical
end Go.Proofs.YtclohbgnaopjfaaDoor
namespace Go.Proofs.YtclohbgnaopjfaaDoor
set_option linter.unusedSimpArgs false
set_option linter.unusedVariables false
open Go Classical
theorem atF {n b : za} {l : List zo} (h : GoodS n l b) : ∀ i, qZ l i n = some (.inr b) := by
 induction h with
 | nil n => intro i; rfl
 | cons n a b T s l h hw ha hs h1 h2 ih =>
  intro i
  have hwt := h.wt
  rcases arI h hw ha hs with ⟨e, he, g1, _⟩ | ⟨N, u, T', g1, g2, g3, g4, _⟩
  ·rw [h1] at g1
   simp only [Option.some.injEq, Prod.mk.injEq] at g1
   exact absurd g1.2.symm he
  ·rw [h1] at g1
   simp only [Option.some.injEq, Prod.mk.injEq, and_true] at g1
   subst g1
   rw [qZ, g2]
   simp only [Option.bind_some]
   rw [h1]
   simp only [Option.bind_some]
   rw [anE g3 (by omega)]
   simp only [Option.bind_some, bne_self_eq_false, Bool.false_eq_true, if_false]
   rw [ahA n (by omega)]
   simp only [Option.bind_some, Bool.not_true, Bool.false_eq_true, if_false]
   exact ih _
theorem air (l m n : List zx) (hl : l.length ≤ 9223372036854775807) (hlc : ∀ y ∈ l, XU y) (hm : m.length ≤ 9223372036854775807) (hmc : ∀ y ∈ m, XU y) (hn : n.length ≤ 9223372036854775807) (hnc : ∀ y ∈ n, XU y) : jH l m n = some true := by
 obtain ⟨ka, ea, ba⟩ := alf l hl hlc
 obtain ⟨kb, eb, bb⟩ := alf m hm hmc
 obtain ⟨kc, ec, bc⟩ := alf n hn hnc
 obtain ⟨ha, wa⟩ := amf ba
 obtain ⟨hb, wb⟩ := amf bb
 obtain ⟨hc, wc⟩ := amf bc
 have ka' : zN (akK ka).Kids ≤ 2400 := ba.wt
 have kb' : zN (akK kb).Kids ≤ 2400 := bb.wt
 obtain ⟨x, x1, x2, x3, _⟩ := ajR ha hb rfl rfl rfl (by omega) (by omega)
 obtain ⟨y, y1, y2, y3, _⟩ := ajR hb hc rfl rfl rfl (by omega) (by omega)
 have wtb := hb.wt
 have wtc := hc.wt
 unfold jH
 rw [apQ]
 simp only [Option.bind_some, Bool.not_true, Bool.false_eq_true, if_false]
 rw [ea]
 simp only [Option.bind_some]
 rw [eb]
 simp only [Option.bind_some]
 rw [x1]
 simp only [Option.bind_some]
 rw [ec]
 simp only [Option.bind_some]
 rw [y1]
 simp only [Option.bind_some]
 rw [wJ (by simp; omega)]
 simp only [Option.bind_some, List.nil_append]
 rw [wJ (by omega)]
 simp only [Option.bind_some]
 rw [anE (GoodS.app x2 y2).does (by rw [List.length_append]; omega)]
 simp only [Option.bind_some, bne_self_eq_false, Bool.false_eq_true, if_false]
 rw [ahA (akK kc) (by omega)]
 simp only [Option.bind_some, Bool.not_true, Bool.false_eq_true, if_false]
 rw [qB (by omega), atF x2]
 simp only [Option.bind_some]
 rw [ahA (akK kb) (by omega)]
 rfl
end Go.Proofs.YtclohbgnaopjfaaDoor
