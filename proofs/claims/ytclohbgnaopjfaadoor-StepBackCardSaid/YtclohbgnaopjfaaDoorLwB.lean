/- Texts of the proof of stepBackCard -/
import Derived.Test.YtclohbgnaopjfaaDoorLwA
namespace Go.Proofs.YtclohbgnaopjfaaDoor
set_option linter.unusedSimpArgs false
set_option linter.unusedVariables false
open Go
theorem ajD : ∀ l : List Str, l.length ≤ wQ l
 | [] => by simp
 | s :: l => by have := ajD l; simp only [wQ, List.length_cons]; omega
theorem ahe : ∀ l : List zg, l.length ≤ wN l
 | [] => by simp
 | s :: l => by have := ahe l; simp only [wN, List.length_cons]; omega
theorem alV : ∀ (suf pre : List Str) (i : Int), i = (pre.length : Int) → qf (pre ++ suf) suf i = some (.inr ())
 | [], pre, i, hi => rfl
 | y :: suf, pre, i, hi => by
  rw [qf, hi, Xr]
  have := alV suf (pre ++ [y]) (pre.length + 1) (by simp)
  simp only [List.append_assoc, List.cons_append, List.nil_append] at this
  simp [this]
theorem eqStr (l : List Str) (h : l.length ≤ 9223372036854775807) : slices_Equal_string l l = some true := by
 unfold slices_Equal_string
 have := alV l [] 0 rfl
 simp only [List.nil_append] at this
 rw [qL h, this]
 simp
theorem ajG : ∀ (suf pre : List zg) (i : Int), i = (pre.length : Int) → qV (pre ++ suf) suf i = some (.inr ())
 | [], pre, i, hi => rfl
 | y :: suf, pre, i, hi => by
  rw [qV, hi, Xr]
  have := ajG suf (pre ++ [y]) (pre.length + 1) (by simp)
  simp only [List.append_assoc, List.cons_append, List.nil_append] at this
  simp [this]
theorem av1 (l : List zg) (h : l.length ≤ 9223372036854775807) : vC l l = some true := by
 unfold vC
 have := ajG l [] 0 rfl
 simp only [List.nil_append] at this
 rw [qL h, this]
 simp
theorem ajj (f : za → za → Option Bool) : ∀ (suf pre : List za) (i : Int), i = (pre.length : Int) → (∀ k ∈ suf, f k k = some true) → zP (pre ++ suf) f suf i = some (.inr ())
 | [], pre, i, hi, _ => rfl
 | y :: suf, pre, i, hi, h => by
  rw [zP, hi, Xr]
  have := ajj f suf (pre ++ [y]) (pre.length + 1) (by simp) fun k hk => h k (by simp [hk])
  simp only [List.append_assoc, List.cons_append, List.nil_append] at this
  simp [this, h y (by simp)]
theorem avL (n : za) : nwt n ≤ 1099511627776 → ∀ kr, 2 * ZI n ≤ kr → xq kr n n = some true := by
 induction n using za.ind with
 | h n ih =>
  intro hw kr hk
  have hd := yw n
  obtain ⟨kr, rfl⟩ : ∃ j, kr = j + 1 + 1 := ⟨kr - 2, by omega⟩
  have hwt := qM n
  have hl := kg n.Kids
  have hs := ajD n.Marks
  have ha := ahe n.zo
  have hf := ajj (xq kr) n.Kids [] 0 rfl fun k hkk => ih k hkk (by have := QQ hkk; omega) kr (by have := yL hkk; omega)
  simp only [List.nil_append] at hf
  rw [xq]
  simp only [beq_self_eq_true, if_true]
  rw [eqStr _ (by omega), av1 _ (by omega)]
  simp only [Option.bind_some, if_true]
  rw [qi]
  simp only [bne_self_eq_false, Bool.false_eq_true, if_false]
  rw [qL (by omega), hf]
  rfl
theorem asJ (n : za) (h : nwt n ≤ 1099511627776) : Vf n n = some true := by
 unfold Vf
 exact Ku (2 * ZI n) fun k hk => avL n h k hk
end Go.Proofs.YtclohbgnaopjfaaDoor
namespace Go.Proofs.YtclohbgnaopjfaaDoor
set_option linter.unusedSimpArgs false
set_option linter.unusedVariables false
open Go Classical
inductive Does : za → List zz → za → Prop
 | nil (n : za) : Does n [] n
 | cons (n a b : za) (s : zz) (l : List zz) (h1 : qa n s = some (a, 0)) (h2 : Does a l b) : Does n (s :: l) b
theorem avQ {n b : za} {l : List zz} (h : Does n l b) : ∀ v, yC l v n = some (.inr b) := by
 induction h with
 | nil n => intro v; rfl
 | cons n a b s l h1 h2 ih =>
  intro v
  rw [yC, h1]
  simp only [Option.bind_some]
  rw [if_neg (by decide), ih]
theorem asG {n b : za} {l : List zz} (h : Does n l b) (hl : l.length ≤ 9223372036854775807) : YY n l = some (b, 0) := by
 unfold YY
 rw [qL hl, avQ h]
 rfl
theorem Does.app {n a b : za} {l r : List zz} (h : Does n l a) (h2 : Does a r b) : Does n (l ++ r) b := by
 induction h with
 | nil n => exact h2
 | cons n a' b' s l h1 _ ih => exact .cons _ _ _ _ _ h1 (ih h2)
def TOk (T : List Tk) : Prop := ∀ c m, Tk.sgn c m ∈ T → vT m = true
theorem akt : ∀ (l : List za), (∀ n ∈ l, TOk (tkN n)) → TOk (tkL l)
 | [], _ => by intro c m h; simp [tkL] at h
 | n :: l, h => by
  intro c m hc
  rw [tkL, List.mem_append] at hc
  rcases hc with hc | hc
  ·exact h n (by simp) c m hc
  ·exact akt l (fun x hx => h x (by simp [hx])) c m hc
theorem ash (n : za) : zY n = true → TOk (tkN n) := by
 induction n using za.ind with
 | h n ih =>
  intro hf c m hc
  rw [wW] at hc
  cases ht : isT n with
  | true =>
   rw [if_pos ht, List.mem_map] at hc
   obtain ⟨x, _, hx⟩ := hc
   cases hx
   exact (xI hf ht).2.2.1
  | false =>
   have hr := vg hf ht
   simp only [ht, Bool.false_eq_true, if_false, List.mem_cons, reduceCtorEq, false_or, List.mem_append, List.not_mem_nil, or_false] at hc
   exact akt n.Kids (fun x hx => ih x hx (hr.form x hx)) c m hc
theorem TD.tok {n T} (h : TD n T) : TOk T := by rw [← h.tk]; exact akt _ fun x hx => ash x (h.row.form x hx)
theorem aw6 {x : Str} {m : List Str} (hm : vT m = true) (hx : isName x = true) : mkS 109 x (mkS 109 x m) = mkS 109 x m := by
 obtain ⟨a1, a2, _⟩ := ajh hm hx
 obtain ⟨b1, b2, _⟩ := ajh a1 hx
 refine JN b1 a1 fun y => ?_
 rw [b2, a2]
 constructor
 ·rintro (h | h)
  ·exact .inl h
  ·exact h
 ·exact .inr
theorem auD {k : Int} (hk : k = 109 ∨ k = 117) {x : Str} {m : List Str} (hm : vT m = true) (hx : isName x = true) (hc : mkS k x m ≠ m) : mkS (226 - k) x (mkS k x m) = m := by
 rcases hk with rfl | rfl
 ·obtain ⟨a1, a2, a3⟩ := ajh hm hx
  have hnot : x ∉ m := by
   have := akL 109 hm hx
   rw [a3] at this
   have h2 := of_decide_eq_true (this.trans (decide_eq_true hc))
   exact h2
  obtain ⟨b1, b2, _⟩ := aee (k := 226 - 109) (by decide) a1 (x := x)
  refine JN b1 hm fun y => ?_
  rw [b2, a2]
  constructor
  ·rintro ⟨h1, h2 | h2⟩
   ·exact absurd h2 h1
   ·exact h2
  ·intro h
   exact ⟨fun e => hnot (e ▸ h), .inr h⟩
 ·obtain ⟨a1, a2, a3⟩ := aee (k := 117) (by decide) hm (x := x)
  have hin : x ∈ m := by
   have := akL 117 hm hx
   rw [a3] at this
   exact of_decide_eq_true (this.trans (decide_eq_true hc))
  have e : (226 - 117 : Int) = 109 := by decide
  rw [e]
  obtain ⟨b1, b2, _⟩ := ajh a1 hx
  refine JN b1 hm fun y => ?_
  rw [b2, a2]
  constructor
  ·rintro (rfl | h)
   ·exact hin
   ·exact h.2
  ·intro h
   by_cases e : y = x
   ·exact .inl e
   ·exact .inr ⟨e, h⟩
def wT : List Tk → Str
 | [] => []
 | .sgn c _ :: l => zq c ++ wT l
 | _ :: l => wT l
theorem ag3 : ∀ a b : List Tk, wT (a ++ b) = wT a ++ wT b
 | [], b => rfl
 | .sgn c m :: a, b => by rw [List.cons_append, wT, wT, ag3 a b, List.append_assoc]
 | .opn k m :: a, b => by rw [List.cons_append, wT, wT, ag3 a b] <;> simp
 | .cls :: a, b => by rw [List.cons_append, wT, wT, ag3 a b] <;> simp
theorem apU (m : List Str) : ∀ l : List Int, wT (l.map fun c => Tk.sgn c m) = zI l
 | [] => rfl
 | c :: l => by rw [List.map_cons, wT, apU m l, WR]
theorem aog : ∀ (l : List za), (∀ n ∈ l, VF n = wT (tkN n)) → QV l = wT (tkL l)
 | [], _ => rfl
 | n :: l, h => by rw [QV, tkL, ag3, h n (by simp), aog l fun x hx => h x (by simp [hx])]
theorem auW (n : za) : zY n = true → VF n = wT (tkN n) := by
 induction n using za.ind with
 | h n ih =>
  intro hf
  rw [J8, wW]
  cases ht : isT n with
  | true =>
   simp only [if_true]
   rw [apU, ZQ (xI hf ht).2.1]
  | false =>
   have hr := vg hf ht
   simp only [Bool.false_eq_true, if_false]
   rw [aog n.Kids fun x hx => ih x hx (hr.form x hx), show ∀ l, wT (Tk.opn n.Kind n.zo :: l) = wT l from fun _ => rfl, ag3]
   simp [wT]
theorem TD.words {n T} (h : TD n T) (hw : wD n T ≤ 100000000) : ZL n = some (wT T) := by
 have hwt := h.wt
 rw [arN n (by omega), J8, if_neg (by simp [h.nt]), aog _ fun x hx => auW x (h.row.form x hx), h.tk]
theorem agv (k : Int) (x : Str) (a b : Nat) : ∀ (T : List Tk) (i : Nat), wT (wG k x a b i T) = wT T
 | [], i => rfl
 | .sgn c m :: T, i => by rw [wG, Ji, wT, wT, agv k x a b T]
 | .opn c m :: T, i => by rw [wG, aaB]; exact agv k x a b T (i + 1)
 | .cls :: T, i => by rw [wG, ad5]; exact agv k x a b T (i + 1)
theorem as2 (k k' : Str) (aa bs : List zg) : ∀ (T : List Tk) (p : Nat), T[p]? = some (.opn k aa) → wT (T.set p (.opn k' bs)) = wT T
 | [], p, h => by simp at h
 | t :: T, 0, h => by
  simp only [List.getElem?_cons_zero, Option.some.injEq] at h
  subst h
  rfl
 | t :: T, p + 1, h => by
  have ih := as2 k k' aa bs T p (by simpa using h)
  rw [List.set_cons_succ]
  cases t with
  | sgn c m => rw [wT, wT, ih]
  | opn c m => exact ih
  | cls => exact ih
theorem TD.same {a b T} (ha : TD a T) (hb : TD b T) (hk : a.Kind = b.Kind) (hat : a.zo = b.zo) (hw : wD a T ≤ 100000000) : Vf a b = some true := by
 have := ha.ext hb hk hat
 subst this
 have hwt := ha.wt
 exact asJ a (by omega)
theorem avO (W : Nat) : ∀ l : List za, (∀ n ∈ l, tw (tkN n) ≤ nwt n * (W + 10)) → tw (tkL l) ≤ zL l * (W + 10) := ako W
theorem avM (W : Nat) (n : za) : (∀ c m, Tk.sgn c m ∈ tkN n → wQ m ≤ W) → tw (tkN n) ≤ nwt n * (W + 10) := by
 induction n using za.ind with
 | h n ih =>
  intro hm
  have e := qM n
  rw [wW] at hm ⊢
  cases ht : isT n with
  | true =>
   simp only [ht, if_true] at hm ⊢
   rw [akK]
   have hr := akm n.Text
   rw [← yS] at hr
   by_cases h0 : runes n.Text = []
   ·rw [h0]; simp
   ·obtain ⟨c, l, hcl⟩ := List.exists_cons_of_ne_nil h0
    have hmm := hm c n.Marks (by rw [hcl]; simp)
    exact Nat.mul_le_mul (by omega) (by omega)
  | false =>
   simp only [ht, Bool.false_eq_true, if_false] at hm ⊢
   have h1 := ako W n.Kids fun x hx => ih x hx fun c m hc => hm c m (by
    have : Tk.sgn c m ∈ tkL n.Kids := by
     obtain ⟨i, hi⟩ := List.mem_iff_getElem?.1 hx
     rw [VE hi]
     simp [hc]
    simp [this])
   simp only [tw, aiS, Xt]
   have h2 : (2 + n.Kind.length + wN n.zo) ≤ (2 + n.Kind.length + wN n.zo) * (W + 10) := Nat.le_mul_of_pos_right _ (by omega)
   have h3 : (2 + n.Kind.length + wN n.zo + zL n.Kids) * (W + 10) ≤ nwt n * (W + 10) := Nat.mul_le_mul_right _ (by omega)
   rw [Nat.add_mul] at h3
   omega
end Go.Proofs.YtclohbgnaopjfaaDoor
namespace Go.Proofs.YtclohbgnaopjfaaDoor
set_option linter.unusedSimpArgs false
set_option linter.unusedVariables false
open Go Classical
section
variable (k : Int) (x : Str)
noncomputable def Q9 (p : Nat → Prop) : Nat → List Tk → List Tk
 | _, [] => []
 | i, t :: l => (match t with | .sgn c m => Tk.sgn c (if p i then mkS k x m else m) | t => t) :: Q9 p (i + 1) l
theorem Vh (p : Nat → Prop) (i : Nat) (c : Int) (m : List Str) (l : List Tk) : Q9 k x p i (.sgn c m :: l) = .sgn c (if p i then mkS k x m else m) :: Q9 k x p (i + 1) l := rfl
theorem Vi (p : Nat → Prop) (i : Nat) (c : Str) (m : List zg) (l : List Tk) : Q9 k x p i (.opn c m :: l) = .opn c m :: Q9 k x p (i + 1) l := rfl
theorem Vg (p : Nat → Prop) (i : Nat) (l : List Tk) : Q9 k x p i (.cls :: l) = .cls :: Q9 k x p (i + 1) l := rfl
theorem J7 (p : Nat → Prop) : ∀ (l : List Tk) (i : Nat), (Q9 k x p i l).length = l.length
 | [], i => rfl
 | .sgn c m :: l, i => by rw [Vh, List.length_cons, List.length_cons, J7 p l]
 | .opn c m :: l, i => by rw [Vi, List.length_cons, List.length_cons, J7 p l]
 | .cls :: l, i => by rw [Vg, List.length_cons, List.length_cons, J7 p l]
theorem adV : ∀ (l : List Tk) (i : Nat), Q9 k x (fun _ => False) i l = l
 | [], i => rfl
 | .sgn c m :: l, i => by rw [Vh, adV l, if_neg id]
 | .opn c m :: l, i => by rw [Vi, adV l]
 | .cls :: l, i => by rw [Vg, adV l]
theorem agu (p : Nat → Prop) : ∀ (l : List Tk) (i : Nat), tw (Q9 k x p i l) ≤ tw l + l.length * (1 + x.length)
 | [], i => by simp [Q9, tw]
 | .sgn c m :: l, i => by
  have h1 := agu p l (i + 1)
  have h2 := as4 k x m
  rw [Vh, tw, tw, aiS, aiS, List.length_cons, Nat.add_mul]
  split <;> omega
 | .opn c m :: l, i => by
  have h1 := agu p l (i + 1)
  rw [Vi, tw, tw, List.length_cons, Nat.add_mul]
  omega
 | .cls :: l, i => by
  have h1 := agu p l (i + 1)
  rw [Vg, tw, tw, List.length_cons, Nat.add_mul]
  omega
theorem auo {m : List Str} (hm : vT m = true) (hx : isName x = true) : mkS k x (mkS k x m) = mkS k x m := by
 by_cases h : k = 109
 ·subst h; exact aw6 hm hx
 ·obtain ⟨a1, a2, _⟩ := aee h hm (x := x)
  obtain ⟨b1, b2, _⟩ := aee h a1 (x := x)
  refine JN b1 a1 fun y => ?_
  rw [b2, a2]
  exact ⟨fun h => h.2, fun h => ⟨h.1, h⟩⟩
theorem aaE (hx : isName x = true) (p : Nat → Prop) (a b : Nat) : ∀ (l : List Tk) (i : Nat), TOk l → wG k x a b i (Q9 k x p i l) = Q9 k x (fun j => p j ∨ (a ≤ j ∧ j < b)) i l
 | [], i, _ => rfl
 | .sgn c m :: l, i, h => by
  rw [Vh, wG, Ji, aaE hx p a b l (i + 1) (fun c m hc => h c m (by simp [hc])), Vh]
  have hm := h c m (by simp)
  by_cases h1 : p i
  ·by_cases h2 : a ≤ i ∧ i < b
   ·simp only [if_pos h1, if_pos h2, if_pos (Or.inl h1 : p i ∨ (a ≤ i ∧ i < b)), auo k x hm hx]
   ·simp only [if_pos h1, if_neg h2, if_pos (Or.inl h1 : p i ∨ (a ≤ i ∧ i < b))]
  ·by_cases h2 : a ≤ i ∧ i < b
   ·simp only [if_neg h1, if_pos h2, if_pos (Or.inr h2 : p i ∨ (a ≤ i ∧ i < b))]
   ·simp only [if_neg h1, if_neg h2, if_neg (fun h => h.elim h1 h2 : ¬ (p i ∨ (a ≤ i ∧ i < b)))]
 | .opn c m :: l, i, h => by rw [Vi, wG, aaB, aaE hx p a b l (i + 1) (fun c m hc => h c m (by simp [hc])), Vi]
 | .cls :: l, i, h => by rw [Vg, wG, ad5, aaE hx p a b l (i + 1) (fun c m hc => h c m (by simp [hc])), Vg]
end
theorem Yy (k : Int) (x : Str) {p q : Nat → Prop} (h : ∀ j, p j ↔ q j) (i : Nat) (l : List Tk) : Q9 k x p i l = Q9 k x q i l := by
 have : p = q := funext fun j => propext (h j)
 rw [this]
theorem amS {k : Int} {x : Str} (hx : isName x = true) (a b : Nat) : ∀ (l : List Tk) (i : Nat), TOk l → TOk (wG k x a b i l)
 | [], i, _ => by intro c m h; simp [wG] at h
 | t :: l, i, h => by
  intro c m hc
  rw [wG, List.mem_cons] at hc
  rcases hc with hc | hc
  ·cases t with
   | sgn c' m' =>
    rw [Ji] at hc
    simp only [Tk.sgn.injEq] at hc
    obtain ⟨rfl, rfl⟩ := hc
    have hm := h c m' (by simp)
    split
    ·exact ao6 k hm hx
    ·exact hm
   | opn c' m' => cases hc
   | cls => cases hc
  ·exact amS hx a b l (i + 1) (fun c m hc => h c m (by simp [hc])) c m hc
theorem aaG {k : Int} (hk : k = 109 ∨ k = 117) {x : Str} (hx : isName x = true) (a b : Nat) (p : Nat → Prop) : ∀ (l : List Tk) (i : Nat), TOk l → (∀ j t, l[j]? = some t → (p (i + j) ↔ auH k x a b (i + j) t)) → Q9 (226 - k) x p i (wG k x a b i l) = l
 | [], i, _, _ => rfl
 | .sgn c m :: l, i, h, hp => by
  have hm := h c m (by simp)
  rw [wG, Ji, Vh, aaG hk hx a b p l (i + 1) (fun c m hc => h c m (by simp [hc])) (fun j t hj => by
   have := hp (j + 1) t (by simpa using hj)
   rwa [show i + (j + 1) = i + 1 + j by omega] at this)]
  have h0 := hp 0 (.sgn c m) (by simp)
  rw [Nat.add_zero] at h0
  by_cases hc : auH k x a b i (.sgn c m)
  ·rw [if_pos (h0.2 hc)]
   obtain ⟨c', m', e, h1, h2, h3⟩ := hc
   cases e
   rw [if_pos ⟨h1, h2⟩, auD hk hm hx h3]
  ·rw [if_neg (fun h => hc (h0.1 h))]
   by_cases h2 : a ≤ i ∧ i < b
   ·rw [if_pos h2]
    have : mkS k x m = m := by
     refine Classical.not_not.1 fun h3 => hc ⟨c, m, rfl, h2.1, h2.2, h3⟩
    rw [this]
   ·rw [if_neg h2]
 | .opn c m :: l, i, h, hp => by
  rw [wG, aaB, Vi, aaG hk hx a b p l (i + 1) (fun c m hc => h c m (by simp [hc])) (fun j t hj => by
   have := hp (j + 1) t (by simpa using hj)
   rwa [show i + (j + 1) = i + 1 + j by omega] at this)]
 | .cls :: l, i, h, hp => by
  rw [wG, ad5, Vg, aaG hk hx a b p l (i + 1) (fun c m hc => h c m (by simp [hc])) (fun j t hj => by
   have := hp (j + 1) t (by simpa using hj)
   rwa [show i + (j + 1) = i + 1 + j by omega] at this)]
def apQ (k : Int) (x : Str) (r : zk) : zz := ⟨k, r.Pos, r.Pos + r.Old, [], x, []⟩
theorem ajN {k : Int} (hk : k = 109 ∨ k = 117) {x : Str} (hx : isName x = true) {T : List Tk} (hT : TOk T) (htw : tw T ≤ 1000000) : ∀ (rs : List zk) (p : Nat → Prop) (N : za), (∀ r ∈ rs, 0 ≤ r.Pos ∧ 1 ≤ r.Old ∧ r.Pos + r.Old ≤ (T.length : Int)) → TD N (Q9 k x p 0 T) → N.Kind.length + wN N.zo ≤ 1000000 → ∃ M, Does N (rs.map (apQ k x)) M ∧ TD M (Q9 k x (fun j => p j ∨ InR rs j) 0 T) ∧ M.Kind = N.Kind ∧ M.zo = N.zo
 | [], p, N, _, hN, _ => ⟨N, .nil N, by rw [Yy k x (q := p) (fun j => by simp [InR])]; exact hN, rfl, rfl⟩
 | r :: rs, p, N, hr, hN, hw => by
  obtain ⟨h1, h2, h3⟩ := hr r (by simp)
  obtain ⟨a, ha⟩ := Int.eq_ofNat_of_zero_le h1
  obtain ⟨b, hb⟩ := Int.eq_ofNat_of_zero_le (show 0 ≤ r.Pos + r.Old by omega)
  have hsm := hN.small
  rw [J7] at hsm
  have hxl := Ym hx
  have hmw := agu k x p T 0
  have hml : T.length * (1 + x.length) ≤ 3998 * 21 := Nat.mul_le_mul hsm (by omega)
  obtain ⟨M, m1, _, m2, m3, m4⟩ := abV hN (by unfold wD; omega) hk hx hxl (a := a) (b := b) (by omega) (by rw [J7]; omega)
  rw [aaE k x hx p a b T 0 hT] at m2
  obtain ⟨M', d1, d2, d3, d4⟩ := ajN hk hx hT htw rs _ M (fun y hy => hr y (by simp [hy])) m2 (by rw [m3, m4]; exact hw)
  refine ⟨M', ?_, ?_, by rw [d3, m3], by rw [d4, m4]⟩
  ·refine .cons _ _ _ _ _ ?_ d1
   unfold apQ
   rw [hb, ha]
   exact m1
  ·rw [Yy k x (q := fun j => (p j ∨ (a ≤ j ∧ j < b)) ∨ InR rs j) (fun j => ?_)]
   ·exact d2
   ·simp only [InR, List.mem_cons, exists_eq_or_imp]
    constructor
    ·rintro (h | ⟨h4, h5⟩ | h)
     ·exact .inl (.inl h)
     ·exact .inl (.inr ⟨by omega, by omega⟩)
     ·exact .inr h
    ·rintro ((h | ⟨h4, h5⟩) | h)
     ·exact .inl h
     ·exact .inr (.inl ⟨by omega, by omega⟩)
     ·exact .inr (.inr h)
theorem apw (s : zz) (hk : s.Kind = 109 ∨ s.Kind = 117) : ∀ (rs : List zk) (i : Int) (out : List zz), (∀ r ∈ rs, 0 ≤ r.Pos ∧ 1 ≤ r.Old ∧ r.Pos + r.Old ≤ 1000000) → out.length + rs.length ≤ 1000000 → jZ s rs i out = some (out ++ rs.map (apQ (226 - s.Kind) s.Name))
 | [], i, out, _, _ => by simp [jZ]
 | r :: rs, i, out, hr, hl => by
  have h1 := hr r (by simp)
  simp only [List.length_cons] at hl
  have e : IntKind.wrap .u8 (226 - s.Kind) = 226 - s.Kind := by rcases hk with h | h <;> rw [h] <;> decide
  rw [jZ, kF (by simp; omega)]
  simp only [Option.bind_some]
  rw [qK (by omega), apw s hk rs _ _ (fun y hy => hr y (by simp [hy])) (by simp; omega), e]
  simp [apQ]
theorem aq8 {n : za} {T : List Tk} (h : TD n T) (hw : wD n T ≤ 500000) {k : Int} (hk : k = 109 ∨ k = 117) {x : Str} (hx : isName x = true) {a b : Nat} (hab : a ≤ b) (hb : b ≤ T.length) :
  ∃ N u, qa n ⟨k, (a : Int), (b : Int), [], x, []⟩ = some (N, 0) ∧ jb n ⟨k, (a : Int), (b : Int), [], x, []⟩ = some (u, 0) ∧ Does N u n ∧ u.length ≤ 1000000 ∧ TD N (wG k x a b 0 T) ∧ N.Kind = n.Kind ∧ N.zo = n.zo ∧ wD N (wG k x a b 0 T) ≤ wD n T + 90000 := by
 have hsm := h.small
 have hxl := Ym hx
 obtain ⟨N, h1, h2, h3, h4, h5⟩ := abV h (by omega) hk hx hxl hab hb
 have hmw := agz k x a b T 0
 have hml : T.length * (1 + x.length) ≤ 3998 * 21 := Nat.mul_le_mul hsm (by omega)
 have hrg := an3 k x a b T 0 [] ⟨by simp, by simp⟩
 rw [Nat.zero_add] at hrg
 have hin := fun j => (ast k x a b j T 0 [] (by simp)).1
 have hTm := amS (k := k) hx a b T 0 h.tok
 generalize hrs : Qy k x a b 0 T [] = rs at *
 obtain ⟨r1, r2⟩ := hrg
 have hk' : 226 - k = 109 ∨ 226 - k = 117 := by omega
 have hwu : tw (wG k x a b 0 T) ≤ 1000000 := by unfold wD at hw; omega
 obtain ⟨M, d1, d2, d3, d4⟩ := ajN hk' hx hTm hwu rs (fun _ => False) N (fun r hr => by rw [aat]; exact r2 r hr) (by rw [adV]; exact h3) (by rw [h4, h5]; unfold wD at hw; omega)
 have hM : M = n := by
  have e := aaG hk hx a b (fun j => InR rs j) T 0 h.tok (fun j t hj => by
   rw [hin (0 + j)]
   simp only [Nat.zero_add]
   constructor
   ·rintro (h | ⟨p, t', h6, rfl, h7⟩)
    ·obtain ⟨r, hr, _⟩ := h
     cases hr
    ·rw [h6] at hj
     cases hj
     exact h7
   ·intro h7
    exact .inr ⟨j, t, hj, rfl, h7⟩)
  rw [Yy _ x (q := fun j => InR rs j) (fun j => by simp), e] at d2
  exact d2.ext h (by rw [d3, h4]) (by rw [d4, h5])
 subst hM
 refine ⟨N, _, h1, ?_, d1, by rw [List.length_map]; omega, h3, h4, h5, by unfold wD; rw [h4, h5]; omega⟩
 unfold jb
 rw [h1]
 simp only [Option.bind_some, bne_self_eq_false, Bool.false_eq_true, if_false]
 rw [if_neg (by simp; omega), if_neg (by simp; omega), h2]
 simp only [Option.bind_some]
 rw [qL (by omega), apw _ hk rs 0 [] (fun r hr => by have := r2 r hr; omega) (by simp; omega)]
 rfl
end Go.Proofs.YtclohbgnaopjfaaDoor
namespace Go.Proofs.YtclohbgnaopjfaaDoor
set_option linter.unusedSimpArgs false
set_option linter.unusedVariables false
open Go Classical
theorem aen {n : za} {T P S : List Tk} {Y : List It} (h : TD n T) (hw : wD n T ≤ 100000000) (hT : T = P ++ (tkI Y ++ S)) (fy : FI Y) {l : List za} (hl : vO l) (hlw : zL l ≤ 268435400) :
  ∃ N, zY N = true ∧ isT N = false ∧ N.Kind = n.Kind ∧ N.zo = n.zo ∧ tkL N.Kids = P ++ (tkL l ++ S) ∧ qa n ⟨114, (P.length : Int), ((P.length + szI Y : Nat) : Int), l, [], []⟩ = some (if checkN N = 0 then (N, 0) else (aeO, checkN N)) := by
 obtain ⟨N, h1, h2, h3, h4, h5, h6⟩ := atP h hw hT fy hl.form (by omega)
 have hsm := h.small
 have hln : P.length + szI Y ≤ T.length := by rw [hT]; simp only [List.length_append, aaq]; omega
 refine ⟨N, h1, h2, h3, h4, h5, ?_⟩
 rw [Ws h hw _ (ake hl hlw (by omega) (by omega))]
 simp only
 rw [if_pos (by decide), h6]
 by_cases hc : checkN N = 0
 ·rw [if_pos hc]; rfl
 ·rw [if_neg hc]; rfl
theorem arP {n N : za} {f t : Int} {l : List za} {c : List za} (h1 : qa n ⟨114, f, t, l, [], []⟩ = some (N, 0)) (h2 : Wl n f t = some (c, 0)) (hw : zL l ≤ 1099511627776) : jb n ⟨114, f, t, l, [], []⟩ = some ([⟨114, f, w64 (f + (zF l : Int)), c, [], []⟩], 0) := by
 unfold jb
 rw [h1]
 simp only [Option.bind_some, bne_self_eq_false, Bool.false_eq_true, if_false]
 rw [if_pos (by decide), h2]
 simp only [Option.bind_some]
 rw [QO l hw]
 rfl
theorem aqQ {n N : za} {T P S : List Tk} {Y : List It} (h : TD n T) (hw : wD n T ≤ 40000000) (hT : T = P ++ (tkI Y ++ S)) (fy : FI Y) {l : List za} (hl : vO l) (hlw : tw (tkL l) ≤ 10000000) (hN : TD N (P ++ (tkL l ++ S))) (hk : N.Kind = n.Kind) (ha : N.zo = n.zo)
  (h1 : qa n ⟨114, (P.length : Int), ((P.length + szI Y : Nat) : Int), l, [], []⟩ = some (N, 0)) :
  ∃ c, jb n ⟨114, (P.length : Int), ((P.length + szI Y : Nat) : Int), l, [], []⟩ = some ([c], 0) ∧ qa N c = some (n, 0) := by
 have hlt := ak9 hl
 have hwt := h.wt
 obtain ⟨c, c1, c2, c3, c4⟩ := auG h (by omega) hT fy
 have hsm := h.small
 have hsn := hN.small
 have hsl : (tkL l).length = zF l := yP l
 simp only [List.length_append] at hsn
 have e1 : w64 ((P.length : Int) + (zF l : Int)) = ((P.length + szI (items l) : Nat) : Int) := by
  rw [yh, qK (by omega)]; omega
 have hu := arP h1 c1 (by omega)
 rw [e1] at hu
 refine ⟨_, hu, ?_⟩
 have hwN : wD N (P ++ (tkL l ++ S)) ≤ 100000000 := by
  unfold wD at hw ⊢
  rw [hk, ha]
  rw [hT] at hw
  simp only [Xt] at hw ⊢
  omega
 obtain ⟨M, m1, m2, m3, m4, m5, m6⟩ := aen (Y := items l) hN hwN (by rw [vG]) (Qq hl.form) c2 (by omega)
 have hM : M = n := by
  refine as3 m1 h.form m2 h.nt (by rw [m3, hk]) (by rw [m4, ha]) ?_
  rw [m5, h.tk, hT, ← vG c, c3]
 subst hM
 rw [h.ok] at m6
 exact m6
theorem afp {n : za} {T : List Tk} (h : TD n T) (hw : wD n T ≤ 100000000) {f t : Nat} (hft : f ≤ t) (ht : t ≤ T.length) {l : List za} (hl : vO l) (hlw : zL l ≤ 268435400) :
  (∃ P Y S, T = P ++ (tkI Y ++ S) ∧ FI Y ∧ P.length = f ∧ P.length + szI Y = t) ∨ qa n ⟨114, (f : Int), (t : Int), l, [], []⟩ = some (aeO, 10) := by
 have hn := h.rn hw
 have hlen := h.len
 have hwt := h.wt
 have hsm := h.small
 obtain ⟨s1, e1, o1⟩ := ZK h.nt (by omega) f (by omega)
 obtain ⟨s2, e2, o2⟩ := ZK h.nt (by omega) t (by omega)
 by_cases hp : s1.Path = s2.Path
 ·left
  obtain ⟨q, m, a, X, Y, Z, hF, _⟩ := aoW hn hft o1 o2 hp
  obtain ⟨P1, S1, g1, g2, _⟩ := at_end hF.at_
  rw [h.tk, ← vG m.Kids, hF.it, K9, K9] at g2
  have x1 := aaq X
  have x2 := hF.sx
  have x3 := hF.sy
  have fm := vg (hF.at_.form hn.form) hF.nt
  have fi := Qq fm.form
  rw [hF.it] at fi
  refine ⟨P1 ++ tkI X, Y, tkI Z ++ S1, by rw [g2]; simp only [List.append_assoc], fun x hx => fi x (by simp [hx]), by simp only [List.length_append]; omega, by simp only [List.length_append]; omega⟩
 ·right
  have hwh := anj hn hft o1 e1 e2 hp
  rw [Ws h hw _ (ake hl hlw hft (by omega))]
  simp only
  rw [if_pos (by decide)]
  have hput : yQ n (f : Int) (t : Int) l = some (aeO, 10) := by
   have g2 := arX (aet hl.form).1
   have hjw := Yl l
   have hxw : nwt (⟨[120], [], [], [], x9 l⟩ : za) ≤ 1099511627776 := by
    rw [qM]; simp only [wQ, wN, List.length_cons, List.length_nil]; omega
   unfold yQ
   rw [hwh]
   simp only [Option.bind_some]
   have z2 : ((10 : Int) == 2) = false := rfl
   have z3 : ((10 : Int) != 0) = true := rfl
   simp only [z2, Bool.false_eq_true, if_false]
   rw [adO l (by omega)]
   simp only [Option.bind_some]
   rw [Y0 _ hxw]
   have g2' : (checkN (⟨[120], [], [], [], x9 l⟩ : za) == 2) = false := by simpa using g2
   simp only [Option.bind_some, g2', Bool.false_eq_true, if_false, z3, if_true]
  rw [hput]
  rfl
end Go.Proofs.YtclohbgnaopjfaaDoor
namespace Go.Proofs.YtclohbgnaopjfaaDoor
set_option linter.unusedSimpArgs false
set_option linter.unusedVariables false
open Go Classical
def al7 (T : List Tk) (p : Nat) (nm : Str) (k : Str) (aa : List zg) (i : Nat) (a : zg) : Prop := T[p]? = some (.opn k aa) ∧ aa[i]? = some a ∧ a.Name = nm
theorem aon {n : za} {T : List Tk} (h : TD n T) (hw : wD n T ≤ 100000000) (p : Nat) (hp : p ≤ 1048576) {nm v : Str} (hn : isName nm = true) (hv : isValue v = true) :
  (∃ k aa i a, al7 T p nm k aa i a) ∨ ∃ e, e ≠ 0 ∧ qa n ⟨97, (p : Int), 0, [], nm, v⟩ = some (aeO, e) := by
 by_cases ho : ∃ k aa i a, al7 T p nm k aa i a
 ·exact .inl ho
 ·right
  obtain ⟨e, he, hs⟩ := avP h hw ⟨97, (p : Int), 0, [], nm, v⟩ (by simp) fun k aa hk a ha hnm => by
   obtain ⟨i, hi⟩ := List.mem_iff_getElem?.1 ha
   exact ho ⟨k, aa, i, a, by simpa using hk, hi, hnm⟩
  refine ⟨e, he, ?_⟩
  rw [Ws h hw _ (aci hn hv (by omega) (by omega) (by have := Ym hn; omega))]
  simp only
  rw [if_neg (by decide), if_pos (by decide), hs]
  rfl
theorem aoO {n : za} {T : List Tk} (h : TD n T) (hw : wD n T ≤ 100000000) {p : Nat} {nm : Str} {k : Str} {aa : List zg} {i : Nat} {a : zg} (ha : al7 T p nm k aa i a) {v : Str} (hv : isValue v = true) :
  ∃ N, qa n ⟨97, (p : Int), 0, [], nm, v⟩ = some (N, 0) ∧ jG n ⟨97, (p : Int), 0, [], nm, v⟩ = some (N, a.Value, 0) ∧ TD N (T.set p (.opn k (Wq aa i v))) ∧ N.Kind = n.Kind ∧ N.zo = n.zo ∧ wD N (T.set p (.opn k (Wq aa i v))) ≤ wD n T + 40 := by
 obtain ⟨h1, h2, rfl⟩ := ha
 obtain ⟨N, g1, g2, g3, g4, g5, g6⟩ := aox h hw h1 h2 hv
 have := aeY hv
 exact ⟨N, g1, g2, g3, g4, g5, by omega⟩
theorem aqV {n : za} {T : List Tk} (h : TD n T) (hw : wD n T ≤ 100000000) {p : Nat} {k : Str} {aa : List zg} (hp : T[p]? = some (.opn k aa)) : aa.all (fun x => isValue x.Value) = true ∧ vT (aa.map (·.Name)) = true := by
 obtain ⟨q, x, _, hx, ht, _, rfl⟩ := XF h hw hp
 obtain ⟨f1, _, _, _, f5, _⟩ := aeQ (hx.form h.form) ht
 exact ⟨f1, f5⟩
theorem aqy {aa : List zg} {i : Nat} {a : zg} (h : aa[i]? = some a) (v : Str) : Wq (Wq aa i v) i a.Value = aa := by
 refine List.ext_getElem? fun j => ?_
 rw [Xj, Xj]
 by_cases e : j = i
 ·subst e
  rw [if_pos rfl, if_pos rfl, h]
  rfl
 ·rw [if_neg e, Xj, if_neg e]
theorem axp {T : List Tk} {p : Nat} {nm k : Str} {aa : List zg} {i : Nat} {a : zg} (h : al7 T p nm k aa i a) (v : Str) : (T.set p (.opn k (Wq aa i v)))[p]? = some (.opn k (Wq aa i v)) := by
 have hl := (List.getElem?_eq_some_iff.1 h.1).1
 rw [List.getElem?_set_self hl]
theorem al7.set {T : List Tk} {p : Nat} {nm k : Str} {aa : List zg} {i : Nat} {a : zg} (h : al7 T p nm k aa i a) (v : Str) : al7 (T.set p (.opn k (Wq aa i v))) p nm k (Wq aa i v) i { a with Value := v } := by
 refine ⟨axp h v, ?_, h.2.2⟩
 rw [Xj, if_pos rfl, h.2.1]
 rfl
theorem aqv {n N : za} {s : zz} {w : Str} (hk : s.Kind = 97) (h1 : qa n s = some (N, 0)) (h2 : jG n s = some (N, w, 0)) : jb n s = some ([⟨97, s.From, 0, [], s.Name, w⟩], 0) := by
 unfold jb
 rw [h1]
 simp only [Option.bind_some, bne_self_eq_false, Bool.false_eq_true, if_false]
 rw [hk, if_neg (by decide), if_pos (by decide), h2]
 rfl
theorem adS {n N : za} {s : zz} {e : Int} (he : e ≠ 0) (h1 : qa n s = some (N, e)) : jb n s = some ([], e) := by
 unfold jb
 rw [h1]
 simp only [Option.bind_some]
 rw [if_pos (by simpa using he)]
theorem amV {T : List Tk} {p : Nat} {nm k : Str} {aa : List zg} {i : Nat} {a : zg} (h : al7 T p nm k aa i a) {v : Str} : (T.set p (.opn k (Wq aa i v))).set p (.opn k (Wq (Wq aa i v) i a.Value)) = T := by
 rw [aqy h.2.1, List.set_set]
 obtain ⟨_, hg⟩ := List.getElem?_eq_some_iff.1 h.1
 rw [← hg, List.set_getElem_self]
end Go.Proofs.YtclohbgnaopjfaaDoor
namespace Go.Proofs.YtclohbgnaopjfaaDoor
set_option linter.unusedSimpArgs false
set_option linter.unusedVariables false
open Go Classical
inductive aip (T : List Tk) : zz → Prop
 | rep (f t : Nat) (l : List za) (hft : f ≤ t) (ht : t ≤ T.length) (hl : vO l) (hw : tw (tkL l) ≤ 1000000) : aip T ⟨114, (f : Int), (t : Int), l, [], []⟩
 | attr (p : Int) (nm v : Str) (h1 : -1 ≤ p) (h2 : p ≤ T.length) (hn : isName nm = true) (hv : isValue v = true) : aip T ⟨97, p, 0, [], nm, v⟩
 | mark (k : Int) (x : Str) (a b : Nat) (hk : k = 109 ∨ k = 117) (hx : isName x = true) (hab : a ≤ b) (hb : b ≤ T.length) : aip T ⟨k, (a : Int), (b : Int), [], x, []⟩
theorem aip.nodes {T : List Tk} {s : zz} (h : aip T s) : tw (tkL s.wC) ≤ 1000000 := by
 cases h with
 | rep f t l _ _ _ hw => exact hw
 | attr => simp [tkL, tw]
 | mark => simp [tkL, tw]
end Go.Proofs.YtclohbgnaopjfaaDoor
namespace Go.Proofs.YtclohbgnaopjfaaDoor
set_option linter.unusedSimpArgs false
set_option linter.unusedVariables false
open Go
theorem aqW (f t : Nat) (l : List za) (s : Nat) (hw : zL l ≤ 1099511627776) (hf : f + s ≤ 1099511627776) (ht : t = f + s) : ∃ mp, yF ⟨114, (f : Int), (t : Int), l, [], []⟩ = some mp ∧ xX mp = some ((zF l : Int) - (s : Int)) := by
 have hs := ve l
 have h0 : xX [] = some 0 := rfl
 have h1 : xX [⟨(f : Int), w64 ((t : Int) - (f : Int)), (zF l : Int)⟩] = some ((zF l : Int) - (s : Int)) := by
  unfold xX
  rw [qL (by simp), xy, xy]
  simp only [Option.bind_some]
  rw [qK (x := (t : Int) - (f : Int)) (by omega), qK (x := (zF l : Int) - ((t : Int) - (f : Int))) (by omega), qK (by omega), Option.some.injEq]
  omega
 unfold yF
 rw [QO l hw]
 simp only [Option.bind_some]
 rw [if_neg (by decide)]
 by_cases e : (f : Int) = (t : Int)
 ·rw [if_pos (by simp [e])]
  by_cases e2 : (zF l : Int) = 0
  ·rw [if_pos (by simp [e2])]
   refine ⟨_, rfl, ?_⟩
   rw [h0, Option.some.injEq]
   omega
  ·rw [if_neg (by simpa using e2)]
   exact ⟨_, rfl, h1⟩
 ·rw [if_neg (by simpa using e)]
  exact ⟨_, rfl, h1⟩
theorem afr (s : zz) (hk : s.Kind ≠ 114) (hn : s.wC = []) : ∃ mp, yF s = some mp ∧ xX mp = some 0 := by
 refine ⟨[], ?_, rfl⟩
 unfold yF
 rw [hn, QO [] (by simp [zL])]
 simp only [Option.bind_some]
 rw [if_pos (by simpa using hk)]
end Go.Proofs.YtclohbgnaopjfaaDoor
namespace Go.Proofs.YtclohbgnaopjfaaDoor
set_option linter.unusedSimpArgs false
set_option linter.unusedVariables false
open Go Classical
theorem aqM {n : za} {T : List Tk} (h : TD n T) (hw : wD n T ≤ 500000) (hat : n.zo = []) {s : zz} (hs : aip T s) :
  (∃ e, e ≠ 0 ∧ qa n s = some (aeO, e) ∧ jb n s = some ([], e)) ∨
  ∃ N u T', qa n s = some (N, 0) ∧ jb n s = some (u, 0) ∧ Does N u n ∧ u.length ≤ 1000000 ∧ TD N T' ∧ N.Kind = n.Kind ∧ N.zo = n.zo ∧ wD N T' ≤ wD n T + tw (tkL s.wC) + 90000 ∧ (∃ mp, yF s = some mp ∧ xX mp = some ((T'.length : Int) - (T.length : Int))) ∧ (s.Kind ≠ 114 → wT T' = wT T) := by
 have hsm := h.small
 cases hs with
 | rep f t l hft ht hl hlw =>
  have hlt := ak9 hl
  rcases afp h (by omega) hft ht hl (by omega) with ⟨P, Y, S, hT, fy, hP, hY⟩ | he
  ·obtain ⟨N, h1, h2, h3, h4, h5, h6⟩ := aen h (by omega) hT fy hl (by omega)
   rw [hP] at h6 hY
   rw [hY] at h6
   by_cases hc : checkN N = 0
   ·right
    rw [if_pos hc] at h6
    have hN : TD N (P ++ (tkL l ++ S)) := ⟨hc, h2, h5⟩
    have h6' := h6
    rw [← hP, ← hY] at h6'
    obtain ⟨c, c1, c2⟩ := aqQ h (by omega) hT fy hl (by omega) hN h3 h4 (by rw [hP]; rw [hP] at h6'; exact h6')
    rw [hP, hY] at c1
    have hlen := yP l
    have hTl : T.length = P.length + (szI Y + S.length) := by rw [hT]; simp only [List.length_append, aaq]
    refine ⟨N, [c], _, h6, c1, .cons _ _ _ _ _ c2 (.nil _), by simp, hN, h3, h4, ?_, ?_, fun h => absurd rfl h⟩
    ·unfold wD at hw ⊢
     rw [h3, h4]
     rw [hT] at hw ⊢
     simp only [Xt] at hw ⊢
     omega
    ·obtain ⟨mp, m1, m2⟩ := aqW f t l (szI Y) (by omega) (by omega) (by omega)
     refine ⟨mp, m1, ?_⟩
     rw [m2, Option.some.injEq]
     simp only [List.length_append]
     omega
   ·left
    rw [if_neg hc] at h6
    exact ⟨checkN N, hc, h6, adS hc h6⟩
  ·exact .inl ⟨10, by decide, he, adS (by decide) he⟩
 | attr p nm v h1 h2 hn hv =>
  by_cases hp : p = -1
  ·left
   subst hp
   have hap : qa n ⟨97, -1, 0, [], nm, v⟩ = some (aeO, 9) := by
    rw [Ws h (by omega) _ (aci hn hv (by omega) (by omega) (by have := Ym hn; omega))]
    simp only
    rw [if_neg (by decide), if_pos (by decide), arZ h _ rfl hat]
    rfl
   exact ⟨9, by decide, hap, adS (by decide) hap⟩
  ·obtain ⟨p, rfl⟩ := Int.eq_ofNat_of_zero_le (show 0 ≤ p by omega)
   rcases (aon h (by omega) p (by omega) hn hv).symm with ⟨e, he, hap⟩ | ⟨k, aa, i, a, hA⟩
   ·exact .inl ⟨e, he, hap, adS he hap⟩
   ·right
    obtain ⟨N, a1, a2, a3, a4, a5, a6⟩ := aoO h (by omega) hA hv
    obtain ⟨vals, rise⟩ := aqV h (by omega) hA.1
    have vw : isValue a.Value = true := (List.all_eq_true.1 vals) a (List.mem_of_getElem? hA.2.1)
    obtain ⟨B, b1, _, b3, b4, b5, b6⟩ := aoO a3 (by omega) (hA.set v) vw
    rw [amV hA] at b3
    have hB := b3.ext h (by rw [b4, a4]) (by rw [b5, a5])
    subst hB
    refine ⟨N, _, _, a1, aqv rfl a1 a2, .cons _ _ _ _ _ b1 (.nil _), by simp, a3, a4, a5, by omega, ?_, fun _ => as2 k k aa _ _ p hA.1⟩
    obtain ⟨mp, m1, m2⟩ := afr ⟨97, (p : Int), 0, [], nm, v⟩ (show (97 : Int) ≠ 114 by decide) rfl
    exact ⟨mp, m1, by rw [m2, List.length_set, Int.sub_self]⟩
 | mark k x a b hk hx hab hb =>
  right
  obtain ⟨N, u, g1, g2, g3, g4, g5, g6, g7, g8⟩ := aq8 h (by omega) hk hx hab hb
  refine ⟨N, u, _, g1, g2, g3, g4, g5, g6, g7, by omega, ?_, fun _ => agv _ _ _ _ _ _⟩
  obtain ⟨mp, m1, m2⟩ := afr ⟨k, (a : Int), (b : Int), [], x, []⟩ (by simp only; omega) rfl
  exact ⟨mp, m1, by rw [m2, aat, Int.sub_self]⟩
end Go.Proofs.YtclohbgnaopjfaaDoor
namespace Go.Proofs.YtclohbgnaopjfaaDoor
set_option linter.unusedSimpArgs false
set_option linter.unusedVariables false
open Go
def acf (m : List Str) : Prop := m = [] ∨ m = [[98]] ∨ m = [[105]] ∨ m = [[98], [105]]
inductive BN : za → Prop
 | text (t : Str) (m : List Str) (h1 : t ≠ []) (h2 : Lib.validD t = true) (hm : acf m) : BN ⟨jH, t, m, [], []⟩
 | node (k : Str) (a : List zg) (ks : List za) (hk : isName k = true) (h1 : a.all (fun x => isValue x.Value) = true) (h2 : vT (a.map (·.Name)) = true) (hs : ∀ x ∈ ks, BN x) (hj : vV ks) : BN ⟨k, [], [], a, ks⟩
theorem acF {k : Str} (h : isName k = true) : (k == jH) = false := by
 unfold isName at h
 simp only [Bool.and_eq_true, decide_eq_true_eq] at h
 simpa using h.2
theorem alR {m : List Str} (h : acf m) : vT m = true := by
 rcases h with rfl | rfl | rfl | rfl <;> decide +kernel
theorem amX {m : List Str} (h : acf m) : wQ m ≤ 4 := by
 rcases h with rfl | rfl | rfl | rfl <;> simp [wQ]
theorem aoZ : ∀ (l : List za) (last : Option za), (∀ x ∈ l, zY x = true) → vV l → (∀ x y, last = some x → l.head? = some y → wH x y = false) → xW last l = true
 | [], last, _, _, _ => abX last
 | y :: l, last, hf, hj, hl => by
  rw [Kh, hf y (by simp)]
  have h2 : xW (some y) l = true := by
   refine aoZ l (some y) (fun x hx => hf x (by simp [hx])) ?_ ?_
   ·cases l with
    | nil => trivial
    | cons z l => exact hj.2
   ·intro x z hx hz
    cases hx
    cases l with
    | nil => cases hz
    | cons z' l => cases hz; exact hj.1
  rw [h2]
  cases last with
  | none => rfl
  | some x => simp [hl x y rfl rfl]
theorem apC {n : za} (h : BN n) : zY n = true := by
 induction h with
 | text t m h1 h2 hm =>
  rw [jq]
  have h3 := alR hm
  simp [isT, h1, h2, h3]
 | node k a ks hk h1 h2 hs hj ih =>
  rw [jq]
  have hkk : isT (⟨k, [], [], a, ks⟩ : za) = false := acF hk
  have h3 := aoZ ks none ih hj (fun x y hx => by cases hx)
  simp only [hkk, Bool.false_eq_true, if_false, h1, hk, h2, h3]
  decide
theorem aul {n : za} (h : BN n) (ht : isT n = true) : n.Text ≠ [] ∧ Lib.validD n.Text = true ∧ acf n.Marks ∧ n.zo = [] ∧ n.Kids = [] := by
 cases h with
 | text t m h1 h2 hm => exact ⟨h1, h2, hm, rfl, rfl⟩
 | node k a ks hk h1 h2 hs hj => rw [show isT (⟨k, [], [], a, ks⟩ : za) = false from acF hk] at ht; cases ht
theorem apv {n : za} (h : BN n) : (∀ x ∈ n.Kids, BN x) ∧ vV n.Kids := by
 cases h with
 | text t m h1 h2 hm => exact ⟨by simp, trivial⟩
 | node k a ks hk h1 h2 hs hj => exact ⟨hs, hj⟩
theorem aik : ∀ (o : List za) (x n : za), vV (o ++ [x]) → wH x n = false → vV (o ++ [x, n])
 | [], x, n, _, h => ⟨h, trivial⟩
 | [a], x, n, h1, h => ⟨h1.1, h, trivial⟩
 | a :: b :: o, x, n, h1, h => ⟨h1.1, aik (b :: o) x n h1.2 h⟩
theorem ajB : ∀ (o : List za) (x n : za), vV (o ++ [x]) → (∀ a, wH a x = wH a n) → vV (o ++ [n])
 | [], x, n, _, _ => trivial
 | [a], x, n, h1, h => ⟨by rw [← h]; exact h1.1, trivial⟩
 | a :: b :: o, x, n, h1, h => ⟨h1.1, ajB (b :: o) x n h1.2 h⟩
theorem akr : ∀ (l : List za), (∀ x ∈ l, isT x = false) → vV l
 | [], _ => trivial
 | [a], _ => trivial
 | a :: b :: l, h => ⟨by unfold wH; rw [h a (by simp)]; rfl, akr (b :: l) fun x hx => h x (by simp [hx])⟩
theorem aqt (o : List za) (n : za) (h : ∀ x ∈ o, BN x) (hj : vV o) (hn : BN n) : (∀ x ∈ joinStep o n, BN x) ∧ vV (joinStep o n) := by
 rcases w9 o with rfl | ⟨o, x, rfl⟩
 ·rw [vM]
  split
  ·exact ⟨by simp, trivial⟩
  ·exact ⟨by simpa using hn, trivial⟩
 ·rw [wO]
  split
  ·exact ⟨h, hj⟩
  ·split
   ·rename_i hc
    simp only [Bool.and_eq_true, decide_eq_true_eq] at hc
    obtain ⟨⟨h1, h2⟩, h3⟩ := hc
    have hx := h x (by simp)
    cases hn with
    | text t m ht hv hm =>
     cases hx with
     | text t' m' ht' hv' hm' =>
      simp only at h3
      subst h3
      refine ⟨fun y hy => ?_, ajB o _ _ hj fun a => rfl⟩
      rcases List.mem_append.1 hy with hy | hy
      ·exact h y (by simp [hy])
      ·simp at hy
       subst hy
       exact .text _ _ (by simp [ht']) (by rw [(aej t hv').2]; exact hv) hm
     | node k a ks hk ha hb hs hj' => rw [show isT (⟨k, [], [], a, ks⟩ : za) = false from acF hk] at h2; cases h2
    | node k a ks hk ha hb hs hj' => rw [show isT (⟨k, [], [], a, ks⟩ : za) = false from acF hk] at h1; cases h1
   ·rename_i hc
    refine ⟨fun y hy => ?_, aik o x n hj ?_⟩
    ·rcases List.mem_append.1 hy with hy | hy
     ·exact h y (by simp [hy])
     ·simp at hy
      rcases hy with rfl | rfl
      ·exact h y (by simp)
      ·exact hn
    ·have hc' : (isT n && isT x && decide (x.Marks = n.Marks)) = false := by simpa using hc
     unfold wH
     rw [Bool.and_comm (isT x)]
     exact hc'
theorem au7 : ∀ (l o : List za), (∀ x ∈ o, BN x) → vV o → (∀ x ∈ l, BN x) → (∀ x ∈ l.foldl joinStep o, BN x) ∧ vV (l.foldl joinStep o)
 | [], o, h, hj, _ => ⟨h, hj⟩
 | n :: l, o, h, hj, hl => by
  obtain ⟨h1, h2⟩ := aqt o n h hj (hl n (by simp))
  exact au7 l _ h1 h2 fun x hx => hl x (by simp [hx])
theorem awO (l : List za) (h : ∀ x ∈ l, BN x) : (∀ x ∈ x9 l, BN x) ∧ vV (x9 l) := au7 l [] (by simp) trivial h
theorem JP (a b : List za) : wE (a ++ b) = max (wE a) (wE b) := by
 induction a with
 | nil => simp [wE]
 | cons n a ih => simp only [List.cons_append, wE, ih]; omega
theorem ai3 (o : List za) (n : za) : wE (joinStep o n) ≤ max (wE o) (yA n) := by
 rcases w9 o with rfl | ⟨o, x, rfl⟩
 ·rw [vM]
  split <;> simp [wE]
 ·rw [wO]
  split
  ·omega
  ·split
   ·rename_i hc
    simp only [Bool.and_eq_true] at hc
    have h1 : yA ({ n with Text := x.Text ++ n.Text } : za) = 0 := by rw [QM, if_pos (show isT ({ n with Text := x.Text ++ n.Text } : za) = true from hc.1.1)]
    simp only [JP, wE, h1]
    omega
   ·simp only [JP, wE]
    omega
theorem aj9 : ∀ (l o : List za), wE (l.foldl joinStep o) ≤ max (wE o) (wE l)
 | [], o => by simp [wE]
 | n :: l, o => by
  have h1 := ai3 o n
  have h2 := aj9 l (joinStep o n)
  simp only [List.foldl_cons, wE]
  omega
theorem aoD (l : List za) : wE (x9 l) ≤ wE l := by
 have := aj9 l []
 simpa [x9, wE] using this
structure Book (ks : List za) : Prop where
 bn : ∀ x ∈ ks, BN x
 nt : ∀ x ∈ ks, isT x = false
 wt : zL ks ≤ 2400
 dep : wE ks ≤ 31
abbrev aqC : Str := [100, 111, 99]
theorem auv {ks : List za} (h : Book ks) : BN ⟨aqC, [], [], [], ks⟩ := .node _ _ _ (by decide +kernel) rfl (by decide +kernel) h.bn (akr ks h.nt)
theorem an9 {ks : List za} (h : Book ks) : checkN ⟨aqC, [], [], [], ks⟩ = 0 := by
 have hf := apC (auv h)
 have hs := ve ks
 have hw := h.wt
 have hdp := h.dep
 have e1 : yA ⟨aqC, [], [], [], ks⟩ = wE ks + 1 := by rw [QM]; rfl
 have e2 : wL ⟨aqC, [], [], [], ks⟩ = 2 + zF ks := by rw [jM]; rfl
 unfold checkN
 rw [hf, e1, e2, if_neg (by simp), if_neg (by omega), if_neg (by omega)]
end Go.Proofs.YtclohbgnaopjfaaDoor
namespace Go.Proofs.YtclohbgnaopjfaaDoor
set_option linter.unusedSimpArgs false
set_option linter.unusedVariables false
open Go Classical
theorem asQ (n : za) : BN n → ∀ c m, Tk.sgn c m ∈ tkN n → acf m := by
 induction n using za.ind with
 | h n ih =>
  intro hb c m hc
  rw [wW] at hc
  cases ht : isT n with
  | true =>
   rw [if_pos ht, List.mem_map] at hc
   obtain ⟨x, _, hx⟩ := hc
   cases hx
   exact (aul hb ht).2.2.1
  | false =>
   simp only [ht, Bool.false_eq_true, if_false, List.mem_cons, reduceCtorEq, false_or, List.mem_append, List.not_mem_nil, or_false] at hc
   have key : ∀ l : List za, (∀ x ∈ l, x ∈ n.Kids) → Tk.sgn c m ∈ tkL l → acf m := by
    intro l
    induction l with
    | nil => intro _ h; simp [tkL] at h
    | cons y l ihl =>
     intro hl h
     rw [tkL, List.mem_append] at h
     rcases h with h | h
     ·exact ih y (hl y (by simp)) ((apv hb).1 y (hl y (by simp))) c m h
     ·exact ihl (fun x hx => hl x (by simp [hx])) h
   exact key n.Kids (fun _ h => h) hc
abbrev ahu (ks : List za) : za := ⟨aqC, [], [], [], ks⟩
theorem ao5 {ks : List za} (h : Book ks) : TD (ahu ks) (tkL ks) ∧ wD (ahu ks) (tkL ks) ≤ 40000 := by
 refine ⟨⟨an9 h, rfl, rfl⟩, ?_⟩
 have h1 := avO 4 ks fun n hn => avM 4 n fun c m hc => amX (asQ n (h.bn n hn) c m hc)
 have := h.wt
 unfold wD
 simp only [wN, List.length_cons, List.length_nil]
 omega
end Go.Proofs.YtclohbgnaopjfaaDoor
namespace Go.Proofs.YtclohbgnaopjfaaDoor
set_option linter.unusedSimpArgs false
set_option linter.unusedVariables false
open Go
theorem aj6 (f : za → Option Int) : ∀ (l : List za) (i : Int) (d : Nat), (∀ k ∈ l, f k = some (yA k : Int)) → qO f l i (d : Int) = some ((max d (wE l) : Nat) : Int)
 | [], i, d, _ => by simp [qO, wE]
 | n :: l, i, d, h => by
  rw [qO, h n (by simp)]
  simp only [Option.bind_some]
  have e : (if (yA n : Int) > (d : Int) then (yA n : Int) else (d : Int)) = ((max d (yA n) : Nat) : Int) := by split <;> omega
  rw [e, aj6 f l _ _ fun k hk => h k (by simp [hk])]
  simp only [wE, Option.some.injEq]
  omega
theorem ass (n : za) : nwt n ≤ 1099511627776 → ∀ kr, ZI n ≤ kr → qJ kr n = some (yA n : Int) := by
 induction n using za.ind with
 | h n ih =>
  intro hw kr hk
  have hd := yw n
  obtain ⟨kr, rfl⟩ : ∃ j, kr = j + 1 := ⟨kr - 1, by omega⟩
  have hwt := qM n
  have hl := kg n.Kids
  have hdl := aoV n
  have hdw := aoX n
  have en : (n.Kind == ([116, 101, 120, 116] : Str)) = isT n := rfl
  rw [qJ, en]
  by_cases ht : isT n = true
  ·simp [ht, QM n]
  ·have e := QM n
   rw [if_neg ht] at e
   simp only [ht, Bool.false_eq_true, if_false]
   have h0 := aj6 (qJ kr) n.Kids 0 0 (fun k hkk => ih k hkk (by have := QQ hkk; omega) kr (by have := yL hkk; omega))
   have h0' : qO (qJ kr) n.Kids 0 0 = _ := h0
   rw [qL (by omega), h0']
   simp only [Option.bind_some, Nat.zero_max]
   rw [qK (by omega), e]
   rfl
theorem aj8 (n : za) (h : nwt n ≤ 1099511627776) : jg n = some (yA n : Int) := by
 unfold jg
 exact Ku (ZI n) fun kr hk => ass n h kr hk
end Go.Proofs.YtclohbgnaopjfaaDoor
namespace Go.Proofs.YtclohbgnaopjfaaDoor
set_option linter.unusedSimpArgs false
set_option linter.unusedVariables false
open Go
theorem ahp (x : Int) : -9223372036854775808 ≤ w64 x ∧ w64 x ≤ 9223372036854775807 := by
 show -9223372036854775808 ≤ IntKind.wrap .i64 x ∧ IntKind.wrap .i64 x ≤ 9223372036854775807
 rw [IntKind.wrap_i64]; omega
theorem agA {α : Type} (l : List α) (p : Nat) (h : p < l.length) : ∃ x, rd l (p : Int) = some x ∧ x ∈ l := ⟨l[p], Ql (List.getElem?_eq_getElem h), List.getElem_mem h⟩
abbrev aom : List Str := [[97], [98, 99], [195, 169], [120, 32, 121], [230, 151, 165, 230, 156, 172]]
abbrev agx : List Str := [[108, 101, 102, 116], [114, 105, 103, 104, 116]]
abbrev alH : List Str := [[], [195, 169], [34, 113, 92], [110, 111, 116, 101]]
abbrev aaA : Str := [97, 108, 105, 103, 110]
abbrev aeT : Str := [110, 111, 116, 101]
abbrev au4 : Str := [112, 97, 114, 97]
abbrev afg : Str := [105, 116, 101, 109]
abbrev ajk : Str := [108, 105, 115, 116]
theorem asP {t : Str} (h : t ∈ aom) : t ≠ [] ∧ Lib.validD t = true ∧ t.length ≤ 6 := by
 simp only [aom, List.mem_cons, List.not_mem_nil, or_false] at h
 rcases h with rfl | rfl | rfl | rfl | rfl <;> refine ⟨by simp, by decide +kernel, by simp⟩
theorem aqG {v w : Str} (hv : v ∈ agx) (hw : w ∈ alH) : ([⟨aaA, v⟩, ⟨aeT, w⟩] : List zg).all (fun x => isValue x.Value) = true ∧ vT (([⟨aaA, v⟩, ⟨aeT, w⟩] : List zg).map (·.Name)) = true ∧ wN [⟨aaA, v⟩, ⟨aeT, w⟩] ≤ 20 := by
 refine ⟨?_, ?_, ?_⟩
 ·have h1 : isValue v = true := by
   simp only [agx, List.mem_cons, List.not_mem_nil, or_false] at hv
   rcases hv with rfl | rfl <;> decide +kernel
  have h2 : isValue w = true := by
   simp only [alH, List.mem_cons, List.not_mem_nil, or_false] at hw
   rcases hw with rfl | rfl | rfl | rfl <;> decide +kernel
  simp [h1, h2]
 ·show vT [aaA, aeT] = true
  decide +kernel
 ·simp only [agx, alH, List.mem_cons, List.not_mem_nil, or_false] at hv hw
  rcases hv with rfl | rfl <;> rcases hw with rfl | rfl | rfl | rfl <;> simp [wN]
theorem Km (c n : Int) (hc : -9223372036854775808 ≤ c ∧ c ≤ 9223372036854775807) (hn : 0 < n) : ∃ p : Nat, zQ c n = some (p : Int) ∧ (p : Int) < n := by
 have key : ∀ x : Int, 0 ≤ x → ∃ p : Nat, x.tmod n = (p : Int) ∧ (p : Int) < n := by
  intro x hx
  obtain ⟨p, hp⟩ := Int.eq_ofNat_of_zero_le (Int.tmod_nonneg n hx)
  exact ⟨p, hp, hp ▸ Int.tmod_lt_of_pos x hn⟩
 unfold zQ
 by_cases h : c < 0
 ·obtain ⟨p, h1, h2⟩ := key (0 - (c + 1)) (by omega)
  refine ⟨p, ?_, h2⟩
  simp only [h, decide_true, if_true]
  rw [qL (by omega), qK (x := c + 1) (by omega), qK (by omega), h1]
 ·obtain ⟨p, h1, h2⟩ := key c (by omega)
  refine ⟨p, ?_, h2⟩
  simp only [h, decide_false, Bool.false_eq_true, if_false]
  rw [qL (by omega), h1]
def XN (y : zt) : Prop := (-9223372036854775808 ≤ y.Text ∧ y.Text ≤ 9223372036854775807) ∧ (-9223372036854775808 ≤ y.Marks ∧ y.Marks ≤ 9223372036854775807) ∧ (-9223372036854775808 ≤ y.zo ∧ y.zo ≤ 9223372036854775807) ∧ (-9223372036854775808 ≤ y.In ∧ y.In ≤ 9223372036854775807)
structure BkS (i : Nat) (ts o : List za) : Prop where
 tb : ∀ x ∈ ts, BN x
 tt : ∀ x ∈ ts, isT x = true
 ob : ∀ x ∈ o, BN x
 ont : ∀ x ∈ o, isT x = false
 wt : zL ts + zL o ≤ 60 * i
 dep : wE o ≤ 31
theorem afF : ∀ (l : List za), (∀ x ∈ l, isT x = true) → wE l = 0
 | [], _ => by simp [wE]
 | n :: l, h => by
  rw [wE, QM, if_pos (h n (by simp)), afF l fun x hx => h x (by simp [hx])]
  rfl
theorem aau {n : za} (h : isT n = false) : yA n = wE n.Kids + 1 := by rw [QM, h]; rfl
theorem aui (y : zt) (hy : XN y) (i : Nat) (hi : i ≤ 41) (ts o : List za) (h : BkS i ts o) : ∃ p, jd y ts = some p ∧ BN p ∧ isT p = false ∧ nwt p ≤ 26 + zL ts ∧ yA p ≤ 1 := by
 obtain ⟨hT, hM, hA, hI⟩ := hy
 have hwt := h.wt
 have hjw := Yl ts
 have hjd := aoD ts
 rw [afF ts h.tt] at hjd
 obtain ⟨hjb, hja⟩ := awO ts h.tb
 obtain ⟨p1, e1, b1⟩ := Km y.zo 2 hA (by omega)
 obtain ⟨v, ev, mv⟩ := agA agx p1 (by simp; omega)
 obtain ⟨p2, e2, b2⟩ := Km (w64 (y.zo.tdiv 2)) 4 (ahp _) (by omega)
 obtain ⟨w, ew, mw⟩ := agA alH p2 (by simp; omega)
 obtain ⟨a1, a2, a3⟩ := aqG mv mw
 have ht : isT (⟨au4, [], [], [⟨aaA, v⟩, ⟨aeT, w⟩], x9 ts⟩ : za) = false := rfl
 refine ⟨⟨au4, [], [], [⟨aaA, v⟩, ⟨aeT, w⟩], x9 ts⟩, ?_, .node _ _ _ (by decide +kernel) a1 a2 hjb hja, ht, ?_, ?_⟩
 ·unfold jd
  rw [e1]
  simp only [Option.bind_some, ev]
  rw [e2]
  simp only [Option.bind_some, ew]
  rw [join_eq ts (by omega)]
  rfl
 ·rw [qM]
  simp only [wQ, List.length_cons, List.length_nil]
  omega
 ·rw [aau ht]
  simp only
  omega
theorem agw {k : Str} {ks : List za} (hk : isName k = true) (hl : k.length = 4) (h : ∀ x ∈ ks, BN x) (hn : ∀ x ∈ ks, isT x = false) : BN ⟨k, [], [], [], ks⟩ ∧ isT ⟨k, [], [], [], ks⟩ = false ∧ nwt ⟨k, [], [], [], ks⟩ = 6 + zL ks ∧ yA ⟨k, [], [], [], ks⟩ = wE ks + 1 := by
 have ht : isT (⟨k, [], [], [], ks⟩ : za) = false := acF hk
 refine ⟨.node _ _ _ hk rfl (by decide +kernel) h (akr ks hn), ht, ?_, aau ht⟩
 rw [qM]
 simp only [wQ, wN, List.length_nil]
 omega
theorem aka : isName afg = true := by decide +kernel
theorem ajg : isName ajk = true := by decide +kernel
theorem BkS.put {i : Nat} {ts o ts' o' : List za} (h : BkS i ts o) {p : za} (hp : BN p) (ht : isT p = false) (hb : ∀ x ∈ ts', BN x) (htt : ∀ x ∈ ts', isT x = true) (ho : ∀ x ∈ o', x ∈ o) (hw : zL ts' + zL o' + nwt p ≤ 60 * (i + 1)) (hd : yA p ≤ 31) : BkS (i + 1) ts' (o' ++ [p]) := by
 have hdo : ∀ l : List za, (∀ x ∈ l, x ∈ o) → wE l ≤ 31 := by
  intro l
  induction l with
  | nil => simp [wE]
  | cons x l ih =>
   intro hx
   have h1 := ih fun y hy => hx y (by simp [hy])
   have h2 : ∀ r : List za, x ∈ r → yA x ≤ wE r := by
    intro r
    induction r with
    | nil => simp
    | cons z r ih =>
     intro hr
     rw [wE]
     rcases List.mem_cons.1 hr with rfl | hr
     ·omega
     ·have := ih hr; omega
   have h3 := h2 o (hx x (by simp))
   have := h.dep
   rw [wE]
   omega
 refine ⟨hb, htt, fun x hx => ?_, fun x hx => ?_, ?_, ?_⟩
 ·rcases List.mem_append.1 hx with hx | hx
  ·exact h.ob x (ho x hx)
  ·simp at hx; rw [hx]; exact hp
 ·rcases List.mem_append.1 hx with hx | hx
  ·exact h.ont x (ho x hx)
  ·simp at hx; rw [hx]; exact ht
 ·simp only [vk, zL]; omega
 ·have := hdo o' ho
  simp only [JP, wE]
  omega
theorem atz (y : zt) (hy : XN y) (i : Nat) (hi : i < 40) (ts o : List za) (h : BkS i ts o) : ∃ ts' o', BkS (i + 1) ts' o' ∧ ∀ suf, zD (y :: suf) (i : Int) ts o = zD suf ((i : Int) + 1) ts' o' := by
 have hy' := hy
 obtain ⟨hT, hM, hA, hI⟩ := hy
 have hwt := h.wt
 have hlo := kg o
 have hlt := kg ts
 obtain ⟨pT, eT, bT⟩ := Km y.Text 5 hT (by omega)
 obtain ⟨tx, et, mt⟩ := agA aom pT (by simp; omega)
 obtain ⟨pM, eM, bM⟩ := Km y.Marks 4 hM (by omega)
 obtain ⟨pI, eI, bI⟩ := Km y.In 5 hI (by omega)
 obtain ⟨t1, t2, t3⟩ := asP mt
 have hi' : decide ((i : Int) < 40) = true := by simp; omega
 obtain ⟨m1, em1, hm1⟩ : ∃ m, ((zQ y.Marks (4 : Int)).bind fun acP => if ((ajV acP (1 : Int)) == (1 : Int)) = true then (app 16 ([] : List Str) [([98] : Str)]).bind fun anL => some anL else some ([] : List Str)) = some m ∧ (m = [] ∨ m = [[98]]) := by
  rw [eM]
  simp only [Option.bind_some]
  split
  ·exact ⟨[[98]], by rw [kF (by simp)]; rfl, .inr rfl⟩
  ·exact ⟨[], rfl, .inl rfl⟩
 obtain ⟨m2, em2, hm2⟩ : ∃ m, ((zQ y.Marks (4 : Int)).bind fun ac3 => if ((ajV ac3 (2 : Int)) == (2 : Int)) = true then (app 16 m1 [([105] : Str)]).bind fun auV => some auV else some m1) = some m ∧ acf m := by
  rw [eM]
  simp only [Option.bind_some]
  rcases hm1 with rfl | rfl
  ·split
   ·exact ⟨[[105]], by rw [kF (by simp)]; rfl, .inr (.inr (.inl rfl))⟩
   ·exact ⟨[], rfl, .inl rfl⟩
  ·split
   ·exact ⟨[[98], [105]], by rw [kF (by simp)]; rfl, .inr (.inr (.inr rfl))⟩
   ·exact ⟨[[98]], rfl, .inr (.inl rfl)⟩
 have hmw := amX hm2
 obtain ⟨n, hn⟩ : ∃ n : za, n = ⟨jH, tx, m2, [], []⟩ := ⟨_, rfl⟩
 have hnB : BN n := by rw [hn]; exact .text _ _ t1 t2 hm2
 have hnT : isT n = true := by rw [hn]; rfl
 have hnW : nwt n ≤ 16 := by rw [hn, qM]; simp only [wN, zL, List.length_cons, List.length_nil]; omega
 have hts : BkS i (ts ++ [n]) o → True := fun _ => trivial
 have start : ∀ suf, zD (y :: suf) (i : Int) ts o = (
   if ((pI : Int) == (0 : Int)) = true then
    zD suf ((i : Int) + 1) (ts ++ [n]) o
   else
    (jd y (ts ++ [n])).bind fun xC =>
    if (decide ((pI : Int) < (3 : Int))) = true then
     (app 104 o [xC]).bind fun auN =>
     zD suf ((i : Int) + 1) ([] : List za) auN
    else
     ((
       if (decide ((w64 ((o.length : Int) - (1 : Int))) ≥ (0 : Int))) = true then
        (rd o (w64 ((o.length : Int) - (1 : Int)))).bind fun akJ =>
        if (akJ.Kind == ([108, 105, 115, 116] : Str)) = true then
         if ((pI : Int) == (3 : Int)) = true then
          (app 104 ([] : List za) akJ.Kids).bind fun aoA =>
          (app 104 aoA [({ Kind := ([105, 116, 101, 109] : Str), Text := ([] : Str), Marks := [], zo := [], Kids := [xC] } : za)]).bind fun atT =>
          (sl o (0 : Int) (w64 ((o.length : Int) - (1 : Int)))).bind fun atS =>
          (app 104 ([] : List za) atS).bind fun aub =>
          (app 104 aub [{ akJ with Kids := atT }]).bind fun aun =>
          some (.inl aun)
         else
          some (.inr ())
        else
         some (.inr ())
       else
        some (.inr ())) : Option ((List za) ⊕ Unit)).bind fun e => match e with
     | .inl amw =>
      zD suf ((i : Int) + 1) ([] : List za) amw
     | .inr _ =>
      if (decide ((w64 ((o.length : Int) - (1 : Int))) ≥ (0 : Int))) = true then
       (rd o (w64 ((o.length : Int) - (1 : Int)))).bind fun alh =>
       if (alh.Kind == ([108, 105, 115, 116] : Str)) = true then
        (jg alh).bind fun Y8 =>
        if (decide (Y8 < (30 : Int))) = true then
         (app 104 [xC] [alh]).bind fun auq =>
         (sl o (0 : Int) (w64 ((o.length : Int) - (1 : Int)))).bind fun atH =>
         (app 104 ([] : List za) atH).bind fun at6 =>
         (app 104 at6 [({ Kind := ([108, 105, 115, 116] : Str), Text := ([] : Str), Marks := [], zo := [], Kids := [({ Kind := ([105, 116, 101, 109] : Str), Text := ([] : Str), Marks := [], zo := [], Kids := auq } : za)] } : za)]).bind fun auO =>
         zD suf ((i : Int) + 1) ([] : List za) auO
        else
         (app 104 o [({ Kind := ([108, 105, 115, 116] : Str), Text := ([] : Str), Marks := [], zo := [], Kids := [({ Kind := ([105, 116, 101, 109] : Str), Text := ([] : Str), Marks := [], zo := [], Kids := [xC] } : za)] } : za)]).bind fun aug =>
         zD suf ((i : Int) + 1) ([] : List za) aug
       else
        (app 104 o [({ Kind := ([108, 105, 115, 116] : Str), Text := ([] : Str), Marks := [], zo := [], Kids := [({ Kind := ([105, 116, 101, 109] : Str), Text := ([] : Str), Marks := [], zo := [], Kids := [xC] } : za)] } : za)]).bind fun auC =>
        zD suf ((i : Int) + 1) ([] : List za) auC
      else
       (app 104 o [({ Kind := ([108, 105, 115, 116] : Str), Text := ([] : Str), Marks := [], zo := [], Kids := [({ Kind := ([105, 116, 101, 109] : Str), Text := ([] : Str), Marks := [], zo := [], Kids := [xC] } : za)] } : za)]).bind fun auI =>
       zD suf ((i : Int) + 1) ([] : List za) auI) := fun suf => by
  rw [zD, if_pos hi', eT]
  simp only [Option.bind_some]
  rw [et]
  simp only [Option.bind_some]
  rw [em1]
  simp only [Option.bind_some]
  rw [em2]
  simp only [Option.bind_some]
  rw [← hn, kF (by simp only [List.length_cons, List.length_nil]; omega)]
  simp only [Option.bind_some]
  rw [eI]
  rfl
 have htb : ∀ x ∈ ts ++ [n], BN x := fun x hx => by
  rcases List.mem_append.1 hx with hx | hx
  ·exact h.tb x hx
  ·simp at hx; rw [hx]; exact hnB
 have htt : ∀ x ∈ ts ++ [n], isT x = true := fun x hx => by
  rcases List.mem_append.1 hx with hx | hx
  ·exact h.tt x hx
  ·simp at hx; rw [hx]; exact hnT
 have hwn : zL (ts ++ [n]) = zL ts + nwt n := by simp [vk, zL]
 by_cases k0 : (pI : Int) = 0
 ·refine ⟨ts ++ [n], o, ⟨htb, htt, h.ob, h.ont, by omega, h.dep⟩, fun suf => ?_⟩
  rw [start, if_pos (by simp [k0])]
 ·obtain ⟨p, ep, hpB, hpT, hpW, hpD⟩ := @aui y hy' (i + 1) (by omega) (ts ++ [n]) o ⟨htb, htt, h.ob, h.ont, by omega, h.dep⟩
  have nob : ∀ x ∈ ([] : List za), BN x := by simp
  have nott : ∀ x ∈ ([] : List za), isT x = true := by simp
  by_cases k3 : (pI : Int) < 3
  ·refine ⟨[], o ++ [p], h.put hpB hpT nob nott (fun x hx => hx) (by simp only [zL]; omega) (by omega), fun suf => ?_⟩
   rw [start, if_neg (by simp; omega), ep]
   simp only [Option.bind_some]
   rw [if_pos (by simp; omega), kF (by simp only [List.length_cons, List.length_nil]; omega)]
   rfl
  ·obtain ⟨q1, q2, q3, q4⟩ := agw (k := afg) (ks := [p]) aka rfl (by simpa using hpB) (by simpa using hpT)
   obtain ⟨r1, r2, r3, r4⟩ := agw (k := ajk) (ks := [⟨afg, [], [], [], [p]⟩]) ajg rfl (by simpa using q1) (by simpa using q2)
   simp only [zL, wE] at q3 q4 r3 r4
   have one : BkS (i + 1) [] (o ++ [⟨ajk, [], [], [], [⟨afg, [], [], [], [p]⟩]⟩]) := h.put r1 r2 nob nott (fun x hx => hx) (by simp only [zL]; omega) (by omega)
   have happ : ∀ z : za, app 104 o [z] = some (o ++ [z]) := fun z => kF (by simp only [List.length_cons, List.length_nil]; omega)
   rcases w9 o with rfl | ⟨o, x, rfl⟩
   ·refine ⟨[], _, one, fun suf => ?_⟩
    have hl : decide (w64 ((([] : List za).length : Int) - 1) ≥ 0) = false := by rw [qK (by simp)]; simp
    rw [start, if_neg (by simp; omega), ep]
    simp only [Option.bind_some]
    rw [if_neg (by simp; omega), hl]
    simp only [Bool.false_eq_true, if_false, Option.bind_some]
    rw [happ]
    rfl
   ·have hlen : ((o ++ [x]).length : Int) - 1 = (o.length : Int) := by simp
    have hlw : w64 (((o ++ [x]).length : Int) - 1) = (o.length : Int) := by
     rw [hlen]
     simp only [List.length_append, List.length_cons, List.length_nil] at hlo
     exact qK (by omega)
    have hl : decide ((o.length : Int) ≥ 0) = true := by simp
    have hrd : rd (o ++ [x]) (o.length : Int) = some x := Xr o [] x
    have hsl : sl (o ++ [x]) 0 (o.length : Int) = some o := atm o [x]
    have hxB := h.ob x (by simp)
    have hxT := h.ont x (by simp)
    have hd := h.dep
    simp only [vk, zL, JP, wE] at hwt hd
    have hwo : 2 * o.length ≤ zL o := kg o
    by_cases kl : x.Kind = ajk
    ·by_cases kk : (pI : Int) = 3
     ·obtain ⟨kB, kJ⟩ := apv hxB
      have hlk := kg x.Kids
      have hxw := qM x
      obtain ⟨z, hz⟩ : ∃ z : za, z = { x with Kids := x.Kids ++ [⟨afg, [], [], [], [p]⟩] } := ⟨_, rfl⟩
      have zw := qM z
      have zT : isT z = false := by rw [hz]; exact hxT
      have zd := aau zT
      have xd := aau hxT
      have zB : BN z := by
       rw [hz]
       cases hxB with
       | text t m h1 h2 hm => cases kl
       | node k a ks hk ha hb hs hj =>
        simp only at kl
        subst kl
        refine .node _ _ _ hk ha hb (fun y hy => ?_) ?_
        ·rcases List.mem_append.1 hy with hy | hy
         ·exact hs y hy
         ·simp at hy; rw [hy]; exact q1
        ·rcases w9 ks with rfl | ⟨ks, u, rfl⟩
         ·trivial
         ·rw [List.append_assoc]
          exact aik ks u _ hj (by unfold wH; rw [q2]; simp)
      rw [hz] at zw zd
      simp only [vk, zL, JP, wE] at zw zd
      refine ⟨[], o ++ [z], h.put zB zT nob nott (fun y hy => by simp [hy]) (by simp only [zL]; rw [hz, qM]; simp only [vk, zL]; omega) (by rw [hz, zd]; omega), fun suf => ?_⟩
      rw [start, if_neg (by simp; omega), ep]
      simp only [Option.bind_some]
      rw [if_neg (by simp; omega), hlw, hl]
      simp only [if_true]
      rw [hrd]
      simp only [Option.bind_some]
      rw [if_pos (by rw [kl]; rfl), if_pos (by simp [kk]), kF (by simp only [List.length_nil]; omega)]
      simp only [Option.bind_some, List.nil_append]
      rw [kF (by simp only [List.length_cons, List.length_nil]; omega)]
      simp only [Option.bind_some]
      rw [hsl]
      simp only [Option.bind_some]
      rw [kF (by simp only [List.length_nil]; omega)]
      simp only [Option.bind_some, List.nil_append]
      rw [kF (by simp only [List.length_cons, List.length_nil]; omega)]
      simp only [Option.bind_some]
      rw [hz]
     ·by_cases kd : yA x < 30
      ·obtain ⟨u1, u2, u3, u4⟩ := agw (k := afg) (ks := [p, x]) aka rfl (by simpa using ⟨hpB, hxB⟩) (by simpa using ⟨hpT, hxT⟩)
       obtain ⟨v1, v2, v3, v4⟩ := agw (k := ajk) (ks := [⟨afg, [], [], [], [p, x]⟩]) ajg rfl (by simpa using u1) (by simpa using u2)
       simp only [zL, wE] at u3 u4 v3 v4
       refine ⟨[], o ++ [⟨ajk, [], [], [], [⟨afg, [], [], [], [p, x]⟩]⟩], h.put v1 v2 nob nott (fun y hy => by simp [hy]) (by simp only [zL]; omega) (by omega), fun suf => ?_⟩
       rw [start, if_neg (by simp; omega), ep]
       simp only [Option.bind_some]
       rw [if_neg (by simp; omega), hlw, hl]
       simp only [if_true]
       rw [hrd]
       simp only [Option.bind_some]
       rw [if_pos (by rw [kl]; rfl), if_neg (by simp [kk])]
       simp only [Option.bind_some]
       rw [if_pos (by rw [kl]; rfl), aj8 x (by omega)]
       simp only [Option.bind_some]
       rw [if_pos (by simp; omega), kF (by simp)]
       simp only [Option.bind_some]
       rw [hsl]
       simp only [Option.bind_some]
       rw [kF (by simp only [List.length_nil]; omega)]
       simp only [Option.bind_some, List.nil_append]
       rw [kF (by simp only [List.length_cons, List.length_nil]; omega)]
       rfl
      ·refine ⟨[], _, one, fun suf => ?_⟩
       rw [start, if_neg (by simp; omega), ep]
       simp only [Option.bind_some]
       rw [if_neg (by simp; omega), hlw, hl]
       simp only [if_true]
       rw [hrd]
       simp only [Option.bind_some]
       rw [if_pos (by rw [kl]; rfl), if_neg (by simp [kk])]
       simp only [Option.bind_some]
       rw [if_pos (by rw [kl]; rfl), aj8 x (by omega)]
       simp only [Option.bind_some]
       rw [if_neg (by simp; omega), happ]
       rfl
    ·refine ⟨[], _, one, fun suf => ?_⟩
     rw [start, if_neg (by simp; omega), ep]
     simp only [Option.bind_some]
     rw [if_neg (by simp; omega), hlw, hl]
     simp only [if_true]
     rw [hrd]
     simp only [Option.bind_some]
     rw [if_neg (by simpa using kl)]
     simp only [Option.bind_some]
     rw [if_neg (by simpa using kl), happ]
     rfl
theorem asD : ∀ (l : List zt) (i : Nat) (ts o : List za), (∀ y ∈ l, XN y) → i ≤ 40 → BkS i ts o → ∃ ts' o', zD l (i : Int) ts o = some o' ∧ BkS 40 ts' o'
 | [], i, ts, o, _, hi, h => ⟨ts, o, by simp [zD], h.tb, h.tt, h.ob, h.ont, by have := h.wt; omega, h.dep⟩
 | y :: l, i, ts, o, hy, hi, h => by
  by_cases hlt : i < 40
  ·obtain ⟨t1, o1, h1, h2⟩ := atz y (hy y (by simp)) i hlt ts o h
   obtain ⟨ts', o', h3, h4⟩ := asD l (i + 1) t1 o1 (fun x hx => hy x (by simp [hx])) (by omega) h1
   refine ⟨ts', o', ?_, h4⟩
   rw [h2, ← h3]
   rfl
  ·have : decide ((i : Int) < 40) = false := by simp; omega
   exact ⟨ts, o, by rw [zD]; simp [this], h.tb, h.tt, h.ob, h.ont, by have := h.wt; omega, h.dep⟩
theorem apJ (l : List zt) (hl : l.length ≤ 9223372036854775807) (h : ∀ y ∈ l, XN y) : ∃ ks, jE l = some ⟨aqC, [], [], [], ks⟩ ∧ Book ks := by
 obtain ⟨ts, o, h1, h2⟩ := asD l 0 [] [] h (by omega) ⟨by simp, by simp, by simp, by simp, by simp [zL], by simp [wE]⟩
 have hw := h2.wt
 refine ⟨o, ?_, h2.ob, h2.ont, by omega, h2.dep⟩
 unfold jE
 rw [qL hl]
 have : zD l 0 [] [] = some o := h1
 rw [this]
 rfl
end Go.Proofs.YtclohbgnaopjfaaDoor
namespace Go.Proofs.YtclohbgnaopjfaaDoor
set_option linter.unusedSimpArgs false
set_option linter.unusedVariables false
open Go Classical
theorem amO {ks : List za} (h : Book ks) (c : Int) (hc : -9223372036854775808 ≤ c ∧ c ≤ 9223372036854775807) : ∃ p : Nat, zQ c (w64 ((zF ks : Int) + 1)) = some (p : Int) ∧ p ≤ zF ks := by
 have hw := h.wt
 have hs := ve ks
 rw [qK (by omega)]
 obtain ⟨p, h1, h2⟩ := Km c ((zF ks : Int) + 1) hc (by omega)
 exact ⟨p, h1, by omega⟩
theorem acU (p q : Nat) : (if (q : Int) < (p : Int) then (q : Int) else (p : Int)) = ((min p q : Nat) : Int) := by split <;> omega
theorem apA (p q : Nat) : (if (q : Int) > (p : Int) then (q : Int) else (p : Int)) = ((max p q : Nat) : Int) := by split <;> omega
end Go.Proofs.YtclohbgnaopjfaaDoor
namespace Go.Proofs.YtclohbgnaopjfaaDoor
set_option linter.unusedSimpArgs false
set_option linter.unusedVariables false
open Go Classical
theorem atA {ks : List za} (h : Book ks) : vO ks ∧ tw (tkL ks) ≤ 40000 := by
 refine ⟨⟨fun x hx => apC (h.bn x hx), akr ks h.nt⟩, ?_⟩
 have := (ao5 h).2
 unfold wD at this
 omega
theorem apH {n : za} {T : List Tk} (h : TD n T) (hw : wD n T ≤ 300000) {f t : Nat} (hft : f ≤ t) (ht : t ≤ T.length) {l : List za} (hl : vO l) (hlw : tw (tkL l) ≤ 100000) : ∃ r e, qa n ⟨114, (f : Int), (t : Int), l, [], []⟩ = some (r, e) := by
 have hlt := ak9 hl
 rcases afp h (by omega) hft ht hl (by omega) with ⟨P, Y, S, hT, fy, hP, hY⟩ | he
 ·obtain ⟨N, h1, h2, h3, h4, h5, h6⟩ := aen h (by omega) hT fy hl (by omega)
  rw [hP] at h6 hY
  rw [hY] at h6
  by_cases hc : checkN N = 0
  ·rw [if_pos hc] at h6; exact ⟨_, _, h6⟩
  ·rw [if_neg hc] at h6; exact ⟨_, _, h6⟩
 ·exact ⟨_, _, he⟩
theorem apd {n : za} {T : List Tk} (h : TD n T) (hw : wD n T ≤ 300000) {d : za} (hd : vO d.Kids) (hdw : tw (tkL d.Kids) ≤ 100000) (p q : Nat) (hq : max p q ≤ T.length) : ∀ (m : Nat) (e : Int) (s : Nat), min p q ≤ s → s ≤ max p q → s - min p q ≤ m → ∃ s' : Nat, min p q ≤ s' ∧ s' ≤ max p q ∧ ∀ k, m < k → qR n (p : Int) (q : Int) d k e (s : Int) = some (s' : Int)
 | m, e, s, h1, h2, h3 => by
  have hsm := h.small
  by_cases hs : min p q < s
  ·by_cases he : e = 0
   ·refine ⟨s, h1, h2, fun k hk => ?_⟩
    obtain ⟨k, rfl⟩ : ∃ j, k = j + 1 := ⟨k - 1, by omega⟩
    rw [qR, acU p q, if_pos (by simp; omega), if_neg (by simp [he])]
   ·obtain ⟨m, rfl⟩ : ∃ j, m = j + 1 := ⟨m - 1, by omega⟩
    obtain ⟨r, e', ha⟩ := apH h hw (f := min p q) (t := s - 1) (by omega) (by omega) hd hdw
    obtain ⟨s', g1, g2, g3⟩ := apd h hw hd hdw p q hq m e' (s - 1) (by omega) (by omega) (by omega)
    refine ⟨s', g1, g2, fun k hk => ?_⟩
    obtain ⟨k, rfl⟩ : ∃ j, k = j + 1 := ⟨k - 1, by omega⟩
    have es : w64 ((s : Int) - 1) = ((s - 1 : Nat) : Int) := by rw [qK (by omega)]; omega
    rw [qR, acU p q, if_pos (by simp; omega), if_pos (by simpa using he), es, ha]
    simp only [Option.bind_some]
    exact g3 k (by omega)
  ·refine ⟨s, h1, h2, fun k hk => ?_⟩
   obtain ⟨k, rfl⟩ : ∃ j, k = j + 1 := ⟨k - 1, by omega⟩
   rw [qR, acU p q, if_neg (by simp; omega)]
theorem aup {ks : List za} (hb : Book ks) (h : TD (ahu ks) (tkL ks)) (hw : wD (ahu ks) (tkL ks) ≤ 40000) (kind from_ to_ : Int) (l : List zt) (hkd : -9223372036854775808 ≤ kind ∧ kind ≤ 9223372036854775807) (hf : -9223372036854775808 ≤ from_ ∧ from_ ≤ 9223372036854775807) (ht : -9223372036854775808 ≤ to_ ∧ to_ ≤ 9223372036854775807) (hl : l.length ≤ 9223372036854775807) (hlc : ∀ y ∈ l, XN y) : ∃ s, xn (ahu ks) kind from_ to_ l = some s ∧ aip (tkL ks) s ∧ (s.Kind = 109 ∨ s.Kind = 117 → s.Name ∈ [([98] : Str), [105], [122]]) := by
 obtain ⟨p, p1, p2⟩ := amO hb from_ hf
 obtain ⟨q, q1, q2⟩ := amO hb to_ ht
 have hkw := hb.wt
 have hks := ve ks
 have hlen := yP ks
 obtain ⟨c, c1, c2⟩ := Km kind 4 hkd (by decide)
 unfold xn
 simp only
 rw [QO ks (by omega)]
 simp only [Option.bind_some]
 rw [p1]
 simp only [Option.bind_some]
 rw [q1]
 simp only [Option.bind_some]
 rw [c1]
 simp only [Option.bind_some]
 by_cases c0 : (c : Int) = 0
 ·rw [if_pos (by simpa using c0)]
  obtain ⟨kk, k1, k2⟩ := apJ l hl hlc
  obtain ⟨r1, r2⟩ := atA k2
  rw [k1]
  simp only [Option.bind_some]
  rw [acU p q, apA p q]
  obtain ⟨r, e, ha⟩ := apH h (by omega) (f := min p q) (t := max p q) (by omega) (by omega) r1 (by omega)
  rw [ha]
  simp only [Option.bind_some]
  obtain ⟨s', g1, g2, g3⟩ := apd h (by omega) (d := ahu kk) r1 (show tw (tkL kk) ≤ 100000 by omega) p q (by omega) (max p q) e (max p q) (by omega) (by omega) (by omega)
  rw [Ku (max p q + 1) fun k hk => g3 k (by omega)]
  exact ⟨_, rfl, .rep _ _ _ (by omega) (by omega) r1 (by omega), fun h => by have h' : (114 : Int) = 109 ∨ (114 : Int) = 117 := h; omega⟩
 ·rw [if_neg (by simpa using c0)]
  by_cases c1' : (c : Int) = 1
  ·rw [if_pos (by simpa using c1'), qK (by omega)]
   exact ⟨_, rfl, .attr _ _ _ (by omega) (by omega) (by decide +kernel) (by decide +kernel), fun h => by have h' : (97 : Int) = 109 ∨ (97 : Int) = 117 := h; omega⟩
  ·rw [if_neg (by simpa using c1')]
   obtain ⟨m, m1, m2⟩ := Km (w64 (kind.tdiv 4)) 3 (ahp _) (by decide)
   obtain ⟨x, x1, x2⟩ := agA [([98] : Str), [105], [122]] m (by simp; omega)
   have hx : isName x = true := by
    simp only [List.mem_cons, List.not_mem_nil, or_false] at x2
    rcases x2 with rfl | rfl | rfl <;> decide +kernel
   rw [m1]
   simp only [Option.bind_some]
   rw [x1]
   simp only [Option.bind_some]
   rw [acU p q, apA p q]
   by_cases c2' : (c : Int) = 2
   ·rw [if_pos (by simpa using c2')]
    exact ⟨_, rfl, .mark _ _ _ _ (.inl rfl) hx (by omega) (by omega), fun _ => x2⟩
   ·rw [if_neg (by simpa using c2')]
    exact ⟨_, rfl, .mark _ _ _ _ (.inr rfl) hx (by omega) (by omega), fun _ => x2⟩
end Go.Proofs.YtclohbgnaopjfaaDoor
namespace Go.Proofs.YtclohbgnaopjfaaDoor
set_option linter.unusedSimpArgs false
set_option linter.unusedVariables false
open Go Classical
abbrev awG : za := ⟨[100, 111, 99], [], [], [], [⟨[112], [], [], [], [⟨jH, [104, 105], [], [], []⟩]⟩]⟩
abbrev ava : za := ⟨[100, 111, 99], [], [], [], [⟨[112], [], [], [], [⟨jH, [104], [], [], []⟩, ⟨jH, [105], [[98]], [], []⟩]⟩]⟩
theorem an7 : jN = some true := by
 have r1 : runes [104, 105] = [104, 105] := by decide +kernel
 have r2 : runes [104] = [104] := by decide +kernel
 have r3 : runes [105] = [105] := by decide +kernel
 have hT : tkL awG.Kids = [.opn [112] [], .sgn 104 [], .sgn 105 [], .cls, ] := by
  simp [tkL, tkN, r1]
 have h : TD awG [.opn [112] [], .sgn 104 [], .sgn 105 [], .cls] := ⟨by decide +kernel, rfl, hT⟩
 have hB : tkL ava.Kids = [.opn [112] [], .sgn 104 [], .sgn 105 [[98]], .cls] := by
  simp [tkL, tkN, r2, r3]
 have hb : TD ava [.opn [112] [], .sgn 104 [], .sgn 105 [[98]], .cls] := ⟨by decide +kernel, rfl, hB⟩
 obtain ⟨N, h1, _, h2, h3, h4⟩ := abV h (by decide +kernel) (k := 109) (.inl rfl) (x := [98]) (by decide +kernel) (by decide) (a := 2) (b := 3) (by decide) (by decide)
 have e : wG 109 [98] 2 3 0 [.opn [112] [], .sgn 104 [], .sgn 105 [], .cls] = [.opn [112] [], .sgn 104 [], .sgn 105 [[98]], .cls] := by
  have : mkS 109 [98] [] = [[98]] := by decide +kernel
  simp [wG, mkT, this]
 rw [e] at h2
 obtain rfl := h2.ext hb h3 h4
 have e2 : ((2 : Nat) : Int) = 2 := rfl
 have e3 : ((3 : Nat) : Int) = 3 := rfl
 rw [e2, e3] at h1
 unfold jN
 rw [h1]
 rfl
end Go.Proofs.YtclohbgnaopjfaaDoor
namespace Go.Proofs.YtclohbgnaopjfaaDoor
set_option linter.unusedSimpArgs false
set_option linter.unusedVariables false
open Go Classical
theorem aiU (l : List zt) (kind from_ to_ : Int) (k : List zt) (hl : l.length ≤ 9223372036854775807) (hlc : ∀ y ∈ l, XN y) (hkd : -9223372036854775808 ≤ kind ∧ kind ≤ 9223372036854775807) (hf : -9223372036854775808 ≤ from_ ∧ from_ ≤ 9223372036854775807) (ht : -9223372036854775808 ≤ to_ ∧ to_ ≤ 9223372036854775807) (hk : k.length ≤ 9223372036854775807) (hkc : ∀ y ∈ k, XN y) : jP l kind from_ to_ k = some true := by
 obtain ⟨ks, e1, hb⟩ := apJ l hl hlc
 obtain ⟨h, hw⟩ := ao5 hb
 unfold jP
 rw [an7]
 simp only [Option.bind_some, Bool.not_true, Bool.false_eq_true, if_false]
 by_cases hk20 : (k.length : Int) > 20
 ·rw [if_pos (by simpa using hk20)]
 rw [if_neg (by simpa using hk20), e1]
 simp only [Option.bind_some]
 obtain ⟨s, s1, s2, _⟩ := aup hb h hw kind from_ to_ k hkd hf ht hk hkc
 rw [s1]
 simp only [Option.bind_some]
 rcases aqM h (by omega) rfl s2 with ⟨e, he, ha, hu⟩ | ⟨N, u, T', g1, g2, g3, g4, g5, g6, g7, g8, ⟨mp, m1, m2⟩, g9⟩
 ·rw [ha, hu]
  simp only [Option.bind_some]
  rw [if_pos (by simpa using he)]
  simp
 ·have hsN := g5.small
  have hsn := h.small
  have hwN := g5.wt
  have hsw := s2.nodes
  have hwn := h.wt
  rw [g1, g2]
  simp only [Option.bind_some, bne_self_eq_false, Bool.false_eq_true, if_false]
  rw [asG g3 (by omega)]
  simp only [Option.bind_some, beq_self_eq_true, if_true]
  rw [h.same h rfl rfl (by omega)]
  simp only [Option.bind_some, if_true]
  rw [size_eq N (by omega), size_eq (ahu ks) (by omega)]
  simp only [Option.bind_some]
  rw [m1]
  simp only [Option.bind_some]
  rw [m2]
  simp only [Option.bind_some]
  rw [g5.size, h.size, if_pos (by rw [beq_iff_eq, qK (by omega)]; omega), right_eq N (by omega), g5.ok]
  by_cases h114 : s.Kind = 114
  ·rw [if_pos (by simp [h114])]
   rfl
  ·rw [if_neg (by simpa using h114), g5.words (by omega), h.words (by omega), g9 h114]
   simp
end Go.Proofs.YtclohbgnaopjfaaDoor
