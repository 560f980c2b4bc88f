/- Texts of the proof of stepTokensCard -/
import Derived.Test.YtclohbgnaopjfaaGreatDoorLwA
import Derived.Lib.Replace
import Derived.Lib.Join
namespace Go.Proofs.YtclohbgnaopjfaaGreatDoor
set_option linter.unusedSimpArgs false
set_option linter.unusedVariables false
open Go
def Xu (m : List Str) : Prop := m = [] ∨ m = [[98]] ∨ m = [[105]] ∨ m = [[98], [105]]
inductive BN : za → Prop
 | text (t : Str) (m : List Str) (h1 : t ≠ []) (h2 : Lib.validD t = true) (hm : Xu m) : BN ⟨ve, t, m, [], []⟩
 | node (k : Str) (a : List zf) (ks : List za) (hk : isName k = true) (h1 : a.all (fun x => isValue x.Value) = true) (h2 : jD (a.map (·.Name)) = true) (hs : ∀ x ∈ ks, BN x) (hj : vE ks) : BN ⟨k, [], [], a, ks⟩
theorem ab3 {k : Str} (h : isName k = true) : (k == ve) = false := by
 unfold isName at h
 simp only [Bool.and_eq_true, decide_eq_true_eq] at h
 simpa using h.2
theorem aeI {m : List Str} (h : Xu m) : jD m = true := by
 rcases h with rfl | rfl | rfl | rfl <;> decide +kernel
theorem aho {m : List Str} (h : Xu m) : qX m ≤ 4 := by
 rcases h with rfl | rfl | rfl | rfl <;> simp [qX]
theorem aoT : ∀ (l : List za) (last : Option za), (∀ x ∈ l, qh x = true) → vE l → (∀ x y, last = some x → l.head? = some y → wG x y = false) → xx last l = true
 | [], last, _, _, _ => abI last
 | y :: l, last, hf, hj, hl => by
  rw [Wx, hf y (by simp)]
  have h2 : xx (some y) l = true := by
   refine aoT l (some y) (fun x hx => hf x (by simp [hx])) ?_ ?_
   ·cases l with
    | nil => trivial
    | cons z l => exact hj.2
   ·intro x z hx hz
    cases hx
    cases l with
    | nil => cases hz
    | cons z' l => cases hz; exact hj.1
  rw [h2]
  cases last with
  | none => rfl
  | some x => simp [hl x y rfl rfl]
theorem aoj {n : za} (h : BN n) : qh n = true := by
 induction h with
 | text t m h1 h2 hm =>
  rw [vW]
  have h3 := aeI hm
  simp [isT, h1, h2, h3]
 | node k a ks hk h1 h2 hs hj ih =>
  rw [vW]
  have hkk : isT (⟨k, [], [], a, ks⟩ : za) = false := ab3 hk
  have h3 := aoT ks none ih hj (fun x y hx => by cases hx)
  simp only [hkk, Bool.false_eq_true, if_false, h1, hk, h2, h3]
  decide
theorem atm {n : za} (h : BN n) (ht : isT n = true) : n.Text ≠ [] ∧ Lib.validD n.Text = true ∧ Xu n.Marks ∧ n.zq = [] ∧ n.Kids = [] := by
 cases h with
 | text t m h1 h2 hm => exact ⟨h1, h2, hm, rfl, rfl⟩
 | node k a ks hk h1 h2 hs hj => rw [show isT (⟨k, [], [], a, ks⟩ : za) = false from ab3 hk] at ht; cases ht
theorem aor {n : za} (h : BN n) : (∀ x ∈ n.Kids, BN x) ∧ vE n.Kids := by
 cases h with
 | text t m h1 h2 hm => exact ⟨by simp, trivial⟩
 | node k a ks hk h1 h2 hs hj => exact ⟨hs, hj⟩
theorem agK : ∀ (o : List za) (x n : za), vE (o ++ [x]) → wG x n = false → vE (o ++ [x, n])
 | [], x, n, _, h => ⟨h, trivial⟩
 | [a], x, n, h1, h => ⟨h1.1, h, trivial⟩
 | a :: b :: o, x, n, h1, h => ⟨h1.1, agK (b :: o) x n h1.2 h⟩
theorem ajC : ∀ (o : List za) (x n : za), vE (o ++ [x]) → (∀ a, wG a x = wG a n) → vE (o ++ [n])
 | [], x, n, _, _ => trivial
 | [a], x, n, h1, h => ⟨by rw [← h]; exact h1.1, trivial⟩
 | a :: b :: o, x, n, h1, h => ⟨h1.1, ajC (b :: o) x n h1.2 h⟩
theorem akr : ∀ (l : List za), (∀ x ∈ l, isT x = false) → vE l
 | [], _ => trivial
 | [a], _ => trivial
 | a :: b :: l, h => ⟨by unfold wG; rw [h a (by simp)]; rfl, akr (b :: l) fun x hx => h x (by simp [hx])⟩
theorem apu (o : List za) (n : za) (h : ∀ x ∈ o, BN x) (hj : vE o) (hn : BN n) : (∀ x ∈ joinStep o n, BN x) ∧ vE (joinStep o n) := by
 rcases kz o with rfl | ⟨o, x, rfl⟩
 ·rw [vw]
  split
  ·exact ⟨by simp, trivial⟩
  ·exact ⟨by simpa using hn, trivial⟩
 ·rw [wN]
  split
  ·exact ⟨h, hj⟩
  ·split
   ·rename_i hc
    simp only [Bool.and_eq_true, decide_eq_true_eq] at hc
    obtain ⟨⟨h1, h2⟩, h3⟩ := hc
    have hx := h x (by simp)
    cases hn with
    | text t m ht hv hm =>
     cases hx with
     | text t' m' ht' hv' hm' =>
      simp only at h3
      subst h3
      refine ⟨fun y hy => ?_, ajC o _ _ hj fun a => rfl⟩
      rcases List.mem_append.1 hy with hy | hy
      ·exact h y (by simp [hy])
      ·simp at hy
       subst hy
       exact .text _ _ (by simp [ht']) (by rw [(adP t hv').2]; exact hv) hm
     | node k a ks hk ha hb hs hj' => rw [show isT (⟨k, [], [], a, ks⟩ : za) = false from ab3 hk] at h2; cases h2
    | node k a ks hk ha hb hs hj' => rw [show isT (⟨k, [], [], a, ks⟩ : za) = false from ab3 hk] at h1; cases h1
   ·rename_i hc
    refine ⟨fun y hy => ?_, agK o x n hj ?_⟩
    ·rcases List.mem_append.1 hy with hy | hy
     ·exact h y (by simp [hy])
     ·simp at hy
      rcases hy with rfl | rfl
      ·exact h y (by simp)
      ·exact hn
    ·have hc' : (isT n && isT x && decide (x.Marks = n.Marks)) = false := by simpa using hc
     unfold wG
     rw [Bool.and_comm (isT x)]
     exact hc'
theorem auH : ∀ (l o : List za), (∀ x ∈ o, BN x) → vE o → (∀ x ∈ l, BN x) → (∀ x ∈ l.foldl joinStep o, BN x) ∧ vE (l.foldl joinStep o)
 | [], o, h, hj, _ => ⟨h, hj⟩
 | n :: l, o, h, hj, hl => by
  obtain ⟨h1, h2⟩ := apu o n h hj (hl n (by simp))
  exact auH l _ h1 h2 fun x hx => hl x (by simp [hx])
theorem avP (l : List za) (h : ∀ x ∈ l, BN x) : (∀ x ∈ xG l, BN x) ∧ vE (xG l) := auH l [] (by simp) trivial h
theorem JG (a b : List za) : wF (a ++ b) = max (wF a) (wF b) := by
 induction a with
 | nil => simp [wF]
 | cons n a ih => simp only [List.cons_append, wF, ih]; omega
theorem ais (o : List za) (n : za) : wF (joinStep o n) ≤ max (wF o) (xS n) := by
 rcases kz o with rfl | ⟨o, x, rfl⟩
 ·rw [vw]
  split <;> simp [wF]
 ·rw [wN]
  split
  ·omega
  ·split
   ·rename_i hc
    simp only [Bool.and_eq_true] at hc
    have h1 : xS ({ n with Text := x.Text ++ n.Text } : za) = 0 := by rw [Z6, if_pos (show isT ({ n with Text := x.Text ++ n.Text } : za) = true from hc.1.1)]
    simp only [JG, wF, h1]
    omega
   ·simp only [JG, wF]
    omega
theorem ajb : ∀ (l o : List za), wF (l.foldl joinStep o) ≤ max (wF o) (wF l)
 | [], o => by simp [wF]
 | n :: l, o => by
  have h1 := ais o n
  have h2 := ajb l (joinStep o n)
  simp only [List.foldl_cons, wF]
  omega
theorem anF (l : List za) : wF (xG l) ≤ wF l := by
 have := ajb l []
 simpa [xG, wF] using this
structure Book (ks : List za) : Prop where
 bn : ∀ x ∈ ks, BN x
 nt : ∀ x ∈ ks, isT x = false
 wt : zM ks ≤ 2400
 dep : wF ks ≤ 31
abbrev apM : Str := [100, 111, 99]
theorem atD {ks : List za} (h : Book ks) : BN ⟨apM, [], [], [], ks⟩ := .node _ _ _ (by decide +kernel) rfl (by decide +kernel) h.bn (akr ks h.nt)
theorem amU {ks : List za} (h : Book ks) : checkN ⟨apM, [], [], [], ks⟩ = 0 := by
 have hf := aoj (atD h)
 have hs := kM ks
 have hw := h.wt
 have hdp := h.dep
 have e1 : xS ⟨apM, [], [], [], ks⟩ = wF ks + 1 := by rw [Z6]; rfl
 have e2 : wE ⟨apM, [], [], [], ks⟩ = 2 + zD ks := by rw [vV]; rfl
 unfold checkN
 rw [hf, e1, e2, if_neg (by simp), if_neg (by omega), if_neg (by omega)]
end Go.Proofs.YtclohbgnaopjfaaGreatDoor
namespace Go.Proofs.YtclohbgnaopjfaaGreatDoor
set_option linter.unusedSimpArgs false
set_option linter.unusedVariables false
open Go Classical
theorem amK (n : za) : BN n → ∀ c m, Tk.sgn c m ∈ tkN n → Xu m := by
 induction n using za.ind with
 | h n ih =>
  intro hb c m hc
  rw [wZ] at hc
  cases ht : isT n with
  | true =>
   rw [if_pos ht, List.mem_map] at hc
   obtain ⟨x, _, hx⟩ := hc
   cases hx
   exact (atm hb ht).2.2.1
  | false =>
   simp only [ht, Bool.false_eq_true, if_false, List.mem_cons, reduceCtorEq, false_or, List.mem_append, List.not_mem_nil, or_false] at hc
   have key : ∀ l : List za, (∀ x ∈ l, x ∈ n.Kids) → Tk.sgn c m ∈ tkL l → Xu m := by
    intro l
    induction l with
    | nil => intro _ h; simp [tkL] at h
    | cons y l ihl =>
     intro hl h
     rw [tkL, List.mem_append] at h
     rcases h with h | h
     ·exact ih y (hl y (by simp)) ((aor hb).1 y (hl y (by simp))) c m h
     ·exact ihl (fun x hx => hl x (by simp [hx])) h
   exact key n.Kids (fun _ h => h) hc
abbrev aje (ks : List za) : za := ⟨apM, [], [], [], ks⟩
theorem aol {ks : List za} (h : Book ks) : TD (aje ks) (tkL ks) ∧ wD (aje ks) (tkL ks) ≤ 40000 := by
 refine ⟨⟨amU h, rfl, rfl⟩, ?_⟩
 have h1 := au3 4 ks fun n hn => auY 4 n fun c m hc => aho (amK n (h.bn n hn) c m hc)
 have := h.wt
 unfold wD
 simp only [wo, List.length_cons, List.length_nil]
 omega
end Go.Proofs.YtclohbgnaopjfaaGreatDoor
namespace Go.Proofs.YtclohbgnaopjfaaGreatDoor
set_option linter.unusedSimpArgs false
set_option linter.unusedVariables false
open Go
theorem aiV (f : za → Option Int) : ∀ (l : List za) (i : Int) (d : Nat), (∀ k ∈ l, f k = some (xS k : Int)) → qP f l i (d : Int) = some ((max d (wF l) : Nat) : Int)
 | [], i, d, _ => by simp [qP, wF]
 | n :: l, i, d, h => by
  rw [qP, h n (by simp)]
  simp only [Option.bind_some]
  have e : (if (xS n : Int) > (d : Int) then (xS n : Int) else (d : Int)) = ((max d (xS n) : Nat) : Int) := by split <;> omega
  rw [e, aiV f l _ _ fun k hk => h k (by simp [hk])]
  simp only [wF, Option.some.injEq]
  omega
theorem aq6 (n : za) : nwt n ≤ 1099511627776 → ∀ kr, QZ n ≤ kr → qM kr n = some (xS n : Int) := by
 induction n using za.ind with
 | h n ih =>
  intro hw kr hk
  have hd := yG n
  obtain ⟨kr, rfl⟩ : ∃ j, kr = j + 1 := ⟨kr - 1, by omega⟩
  have hwt := qQ n
  have hl := kv n.Kids
  have hdl := ao5 n
  have hdw := ao6 n
  have en : (n.Kind == ([116, 101, 120, 116] : Str)) = isT n := rfl
  rw [qM, en]
  by_cases ht : isT n = true
  ·simp [ht, Z6 n]
  ·have e := Z6 n
   rw [if_neg ht] at e
   simp only [ht, Bool.false_eq_true, if_false]
   have h0 := aiV (qM kr) n.Kids 0 0 (fun k hkk => ih k hkk (by have := Qe hkk; omega) kr (by have := yR hkk; omega))
   have h0' : qP (qM kr) n.Kids 0 0 = _ := h0
   rw [qf (by omega), h0']
   simp only [Option.bind_some, Nat.zero_max]
   rw [qx (by omega), e]
   rfl
theorem aiI (n : za) (h : nwt n ≤ 1099511627776) : vK n = some (xS n : Int) := by
 unfold vK
 exact Zj (QZ n) fun kr hk => aq6 n h kr hk
end Go.Proofs.YtclohbgnaopjfaaGreatDoor
namespace Go.Proofs.YtclohbgnaopjfaaGreatDoor
set_option linter.unusedSimpArgs false
set_option linter.unusedVariables false
open Go
theorem agF (x : Int) : -9223372036854775808 ≤ w64 x ∧ w64 x ≤ 9223372036854775807 := by
 show -9223372036854775808 ≤ IntKind.wrap .i64 x ∧ IntKind.wrap .i64 x ≤ 9223372036854775807
 rw [IntKind.wrap_i64]; omega
theorem afO {α : Type} (l : List α) (p : Nat) (h : p < l.length) : ∃ x, rd l (p : Int) = some x ∧ x ∈ l := ⟨l[p], xC (List.getElem?_eq_getElem h), List.getElem_mem h⟩
abbrev anc : List Str := [[97], [98, 99], [195, 169], [120, 32, 121], [230, 151, 165, 230, 156, 172]]
abbrev afI : List Str := [[108, 101, 102, 116], [114, 105, 103, 104, 116]]
abbrev aj6 : List Str := [[], [195, 169], [34, 113, 92], [110, 111, 116, 101]]
abbrev Y6 : Str := [97, 108, 105, 103, 110]
abbrev adY : Str := [110, 111, 116, 101]
abbrev auG : Str := [112, 97, 114, 97]
abbrev afb : Str := [105, 116, 101, 109]
abbrev ai5 : Str := [108, 105, 115, 116]
theorem arE {t : Str} (h : t ∈ anc) : t ≠ [] ∧ Lib.validD t = true ∧ t.length ≤ 6 := by
 simp only [anc, List.mem_cons, List.not_mem_nil, or_false] at h
 rcases h with rfl | rfl | rfl | rfl | rfl <;> refine ⟨by simp, by decide +kernel, by simp⟩
theorem apV {v w : Str} (hv : v ∈ afI) (hw : w ∈ aj6) : ([⟨Y6, v⟩, ⟨adY, w⟩] : List zf).all (fun x => isValue x.Value) = true ∧ jD (([⟨Y6, v⟩, ⟨adY, w⟩] : List zf).map (·.Name)) = true ∧ wo [⟨Y6, v⟩, ⟨adY, w⟩] ≤ 20 := by
 refine ⟨?_, ?_, ?_⟩
 ·have h1 : isValue v = true := by
   simp only [afI, List.mem_cons, List.not_mem_nil, or_false] at hv
   rcases hv with rfl | rfl <;> decide +kernel
  have h2 : isValue w = true := by
   simp only [aj6, List.mem_cons, List.not_mem_nil, or_false] at hw
   rcases hw with rfl | rfl | rfl | rfl <;> decide +kernel
  simp [h1, h2]
 ·show jD [Y6, adY] = true
  decide +kernel
 ·simp only [afI, aj6, List.mem_cons, List.not_mem_nil, or_false] at hv hw
  rcases hv with rfl | rfl <;> rcases hw with rfl | rfl | rfl | rfl <;> simp [wo]
theorem Wj (c n : Int) (hc : -9223372036854775808 ≤ c ∧ c ≤ 9223372036854775807) (hn : 0 < n) : ∃ p : Nat, zQ c n = some (p : Int) ∧ (p : Int) < n := by
 have key : ∀ x : Int, 0 ≤ x → ∃ p : Nat, x.tmod n = (p : Int) ∧ (p : Int) < n := by
  intro x hx
  obtain ⟨p, hp⟩ := Int.eq_ofNat_of_zero_le (Int.tmod_nonneg n hx)
  exact ⟨p, hp, hp ▸ Int.tmod_lt_of_pos x hn⟩
 unfold zQ
 by_cases h : c < 0
 ·obtain ⟨p, h1, h2⟩ := key (0 - (c + 1)) (by omega)
  refine ⟨p, ?_, h2⟩
  simp only [h, decide_true, if_true]
  rw [qf (by omega), qx (x := c + 1) (by omega), qx (by omega), h1]
 ·obtain ⟨p, h1, h2⟩ := key c (by omega)
  refine ⟨p, ?_, h2⟩
  simp only [h, decide_false, Bool.false_eq_true, if_false]
  rw [qf (by omega), h1]
def Xl (y : zu) : Prop := (-9223372036854775808 ≤ y.Text ∧ y.Text ≤ 9223372036854775807) ∧ (-9223372036854775808 ≤ y.Marks ∧ y.Marks ≤ 9223372036854775807) ∧ (-9223372036854775808 ≤ y.zq ∧ y.zq ≤ 9223372036854775807) ∧ (-9223372036854775808 ≤ y.In ∧ y.In ≤ 9223372036854775807)
structure BkS (i : Nat) (ts o : List za) : Prop where
 tb : ∀ x ∈ ts, BN x
 tt : ∀ x ∈ ts, isT x = true
 ob : ∀ x ∈ o, BN x
 ont : ∀ x ∈ o, isT x = false
 wt : zM ts + zM o ≤ 60 * i
 dep : wF o ≤ 31
theorem ae6 : ∀ (l : List za), (∀ x ∈ l, isT x = true) → wF l = 0
 | [], _ => by simp [wF]
 | n :: l, h => by
  rw [wF, Z6, if_pos (h n (by simp)), ae6 l fun x hx => h x (by simp [hx])]
  rfl
theorem aah {n : za} (h : isT n = false) : xS n = wF n.Kids + 1 := by rw [Z6, h]; rfl
theorem at7 (y : zu) (hy : Xl y) (i : Nat) (hi : i ≤ 41) (ts o : List za) (h : BkS i ts o) : ∃ p, vM y ts = some p ∧ BN p ∧ isT p = false ∧ nwt p ≤ 26 + zM ts ∧ xS p ≤ 1 := by
 obtain ⟨hT, hM, hA, hI⟩ := hy
 have hwt := h.wt
 have hjw := YF ts
 have hjd := anF ts
 rw [ae6 ts h.tt] at hjd
 obtain ⟨hjb, hja⟩ := avP ts h.tb
 obtain ⟨p1, e1, b1⟩ := Wj y.zq 2 hA (by omega)
 obtain ⟨v, ev, mv⟩ := afO afI p1 (by simp; omega)
 obtain ⟨p2, e2, b2⟩ := Wj (w64 (y.zq.tdiv 2)) 4 (agF _) (by omega)
 obtain ⟨w, ew, mw⟩ := afO aj6 p2 (by simp; omega)
 obtain ⟨a1, a2, a3⟩ := apV mv mw
 have ht : isT (⟨auG, [], [], [⟨Y6, v⟩, ⟨adY, w⟩], xG ts⟩ : za) = false := rfl
 refine ⟨⟨auG, [], [], [⟨Y6, v⟩, ⟨adY, w⟩], xG ts⟩, ?_, .node _ _ _ (by decide +kernel) a1 a2 hjb hja, ht, ?_, ?_⟩
 ·unfold vM
  rw [e1]
  simp only [Option.bind_some, ev]
  rw [e2]
  simp only [Option.bind_some, ew]
  rw [join_eq ts (by omega)]
  rfl
 ·rw [qQ]
  simp only [qX, List.length_cons, List.length_nil]
  omega
 ·rw [aah ht]
  simp only
  omega
theorem afU {k : Str} {ks : List za} (hk : isName k = true) (hl : k.length = 4) (h : ∀ x ∈ ks, BN x) (hn : ∀ x ∈ ks, isT x = false) : BN ⟨k, [], [], [], ks⟩ ∧ isT ⟨k, [], [], [], ks⟩ = false ∧ nwt ⟨k, [], [], [], ks⟩ = 6 + zM ks ∧ xS ⟨k, [], [], [], ks⟩ = wF ks + 1 := by
 have ht : isT (⟨k, [], [], [], ks⟩ : za) = false := ab3 hk
 refine ⟨.node _ _ _ hk rfl (by decide +kernel) h (akr ks hn), ht, ?_, aah ht⟩
 rw [qQ]
 simp only [qX, wo, List.length_nil]
 omega
theorem aiU : isName afb = true := by decide +kernel
theorem ai7 : isName ai5 = true := by decide +kernel
theorem BkS.put {i : Nat} {ts o ts' o' : List za} (h : BkS i ts o) {p : za} (hp : BN p) (ht : isT p = false) (hb : ∀ x ∈ ts', BN x) (htt : ∀ x ∈ ts', isT x = true) (ho : ∀ x ∈ o', x ∈ o) (hw : zM ts' + zM o' + nwt p ≤ 60 * (i + 1)) (hd : xS p ≤ 31) : BkS (i + 1) ts' (o' ++ [p]) := by
 have hdo : ∀ l : List za, (∀ x ∈ l, x ∈ o) → wF l ≤ 31 := by
  intro l
  induction l with
  | nil => simp [wF]
  | cons x l ih =>
   intro hx
   have h1 := ih fun y hy => hx y (by simp [hy])
   have h2 : ∀ r : List za, x ∈ r → xS x ≤ wF r := by
    intro r
    induction r with
    | nil => simp
    | cons z r ih =>
     intro hr
     rw [wF]
     rcases List.mem_cons.1 hr with rfl | hr
     ·omega
     ·have := ih hr; omega
   have h3 := h2 o (hx x (by simp))
   have := h.dep
   rw [wF]
   omega
 refine ⟨hb, htt, fun x hx => ?_, fun x hx => ?_, ?_, ?_⟩
 ·rcases List.mem_append.1 hx with hx | hx
  ·exact h.ob x (ho x hx)
  ·simp at hx; rw [hx]; exact hp
 ·rcases List.mem_append.1 hx with hx | hx
  ·exact h.ont x (ho x hx)
  ·simp at hx; rw [hx]; exact ht
 ·simp only [kV, zM]; omega
 ·have := hdo o' ho
  simp only [JG, wF]
  omega
theorem ars (y : zu) (hy : Xl y) (i : Nat) (hi : i < 40) (ts o : List za) (h : BkS i ts o) : ∃ ts' o', BkS (i + 1) ts' o' ∧ ∀ suf, zF (y :: suf) (i : Int) ts o = zF suf ((i : Int) + 1) ts' o' := by
 have hy' := hy
 obtain ⟨hT, hM, hA, hI⟩ := hy
 have hwt := h.wt
 have hlo := kv o
 have hlt := kv ts
 obtain ⟨pT, eT, bT⟩ := Wj y.Text 5 hT (by omega)
 obtain ⟨tx, et, mt⟩ := afO anc pT (by simp; omega)
 obtain ⟨pM, eM, bM⟩ := Wj y.Marks 4 hM (by omega)
 obtain ⟨pI, eI, bI⟩ := Wj y.In 5 hI (by omega)
 obtain ⟨t1, t2, t3⟩ := arE mt
 have hi' : decide ((i : Int) < 40) = true := by simp; omega
 obtain ⟨m1, em1, hm1⟩ : ∃ m, ((zQ y.Marks (4 : Int)).bind fun acy => if ((ajD acy (1 : Int)) == (1 : Int)) = true then (app 16 ([] : List Str) [([98] : Str)]).bind fun aoe => some aoe else some ([] : List Str)) = some m ∧ (m = [] ∨ m = [[98]]) := by
  rw [eM]
  simp only [Option.bind_some]
  split
  ·exact ⟨[[98]], by rw [wW (by simp)]; rfl, .inr rfl⟩
  ·exact ⟨[], rfl, .inl rfl⟩
 obtain ⟨m2, em2, hm2⟩ : ∃ m, ((zQ y.Marks (4 : Int)).bind fun adg => if ((ajD adg (2 : Int)) == (2 : Int)) = true then (app 16 m1 [([105] : Str)]).bind fun atw => some atw else some m1) = some m ∧ Xu m := by
  rw [eM]
  simp only [Option.bind_some]
  rcases hm1 with rfl | rfl
  ·split
   ·exact ⟨[[105]], by rw [wW (by simp)]; rfl, .inr (.inr (.inl rfl))⟩
   ·exact ⟨[], rfl, .inl rfl⟩
  ·split
   ·exact ⟨[[98], [105]], by rw [wW (by simp)]; rfl, .inr (.inr (.inr rfl))⟩
   ·exact ⟨[[98]], rfl, .inr (.inl rfl)⟩
 have hmw := aho hm2
 obtain ⟨n, hn⟩ : ∃ n : za, n = ⟨ve, tx, m2, [], []⟩ := ⟨_, rfl⟩
 have hnB : BN n := by rw [hn]; exact .text _ _ t1 t2 hm2
 have hnT : isT n = true := by rw [hn]; rfl
 have hnW : nwt n ≤ 16 := by rw [hn, qQ]; simp only [wo, zM, List.length_cons, List.length_nil]; omega
 have hts : BkS i (ts ++ [n]) o → True := fun _ => trivial
 have start : ∀ suf, zF (y :: suf) (i : Int) ts o = (
   if ((pI : Int) == (0 : Int)) = true then
    zF suf ((i : Int) + 1) (ts ++ [n]) o
   else
    (vM y (ts ++ [n])).bind fun jZ =>
    if (decide ((pI : Int) < (3 : Int))) = true then
     (app 104 o [jZ]).bind fun atn =>
     zF suf ((i : Int) + 1) ([] : List za) atn
    else
     ((
       if (decide ((w64 ((o.length : Int) - (1 : Int))) ≥ (0 : Int))) = true then
        (rd o (w64 ((o.length : Int) - (1 : Int)))).bind fun akT =>
        if (akT.Kind == ([108, 105, 115, 116] : Str)) = true then
         if ((pI : Int) == (3 : Int)) = true then
          (app 104 ([] : List za) akT.Kids).bind fun anm =>
          (app 104 anm [({ Kind := ([105, 116, 101, 109] : Str), Text := ([] : Str), Marks := [], zq := [], Kids := [jZ] } : za)]).bind fun at1 =>
          (sl o (0 : Int) (w64 ((o.length : Int) - (1 : Int)))).bind fun as4 =>
          (app 104 ([] : List za) as4).bind fun ato =>
          (app 104 ato [{ akT with Kids := at1 }]).bind fun atU =>
          some (.inl atU)
         else
          some (.inr ())
        else
         some (.inr ())
       else
        some (.inr ())) : Option ((List za) ⊕ Unit)).bind fun e => match e with
     | .inl amz =>
      zF suf ((i : Int) + 1) ([] : List za) amz
     | .inr _ =>
      if (decide ((w64 ((o.length : Int) - (1 : Int))) ≥ (0 : Int))) = true then
       (rd o (w64 ((o.length : Int) - (1 : Int)))).bind fun ake =>
       if (ake.Kind == ([108, 105, 115, 116] : Str)) = true then
        (vK ake).bind fun Yw =>
        if (decide (Yw < (30 : Int))) = true then
         (app 104 [jZ] [ake]).bind fun aub =>
         (sl o (0 : Int) (w64 ((o.length : Int) - (1 : Int)))).bind fun atJ =>
         (app 104 ([] : List za) atJ).bind fun as3 =>
         (app 104 as3 [({ Kind := ([108, 105, 115, 116] : Str), Text := ([] : Str), Marks := [], zq := [], Kids := [({ Kind := ([105, 116, 101, 109] : Str), Text := ([] : Str), Marks := [], zq := [], Kids := aub } : za)] } : za)]).bind fun att =>
         zF suf ((i : Int) + 1) ([] : List za) att
        else
         (app 104 o [({ Kind := ([108, 105, 115, 116] : Str), Text := ([] : Str), Marks := [], zq := [], Kids := [({ Kind := ([105, 116, 101, 109] : Str), Text := ([] : Str), Marks := [], zq := [], Kids := [jZ] } : za)] } : za)]).bind fun aua =>
         zF suf ((i : Int) + 1) ([] : List za) aua
       else
        (app 104 o [({ Kind := ([108, 105, 115, 116] : Str), Text := ([] : Str), Marks := [], zq := [], Kids := [({ Kind := ([105, 116, 101, 109] : Str), Text := ([] : Str), Marks := [], zq := [], Kids := [jZ] } : za)] } : za)]).bind fun atB =>
        zF suf ((i : Int) + 1) ([] : List za) atB
      else
       (app 104 o [({ Kind := ([108, 105, 115, 116] : Str), Text := ([] : Str), Marks := [], zq := [], Kids := [({ Kind := ([105, 116, 101, 109] : Str), Text := ([] : Str), Marks := [], zq := [], Kids := [jZ] } : za)] } : za)]).bind fun as5 =>
       zF suf ((i : Int) + 1) ([] : List za) as5) := fun suf => by
  rw [zF, if_pos hi', eT]
  simp only [Option.bind_some]
  rw [et]
  simp only [Option.bind_some]
  rw [em1]
  simp only [Option.bind_some]
  rw [em2]
  simp only [Option.bind_some]
  rw [← hn, wW (by simp only [List.length_cons, List.length_nil]; omega)]
  simp only [Option.bind_some]
  rw [eI]
  rfl
 have htb : ∀ x ∈ ts ++ [n], BN x := fun x hx => by
  rcases List.mem_append.1 hx with hx | hx
  ·exact h.tb x hx
  ·simp at hx; rw [hx]; exact hnB
 have htt : ∀ x ∈ ts ++ [n], isT x = true := fun x hx => by
  rcases List.mem_append.1 hx with hx | hx
  ·exact h.tt x hx
  ·simp at hx; rw [hx]; exact hnT
 have hwn : zM (ts ++ [n]) = zM ts + nwt n := by simp [kV, zM]
 by_cases k0 : (pI : Int) = 0
 ·refine ⟨ts ++ [n], o, ⟨htb, htt, h.ob, h.ont, by omega, h.dep⟩, fun suf => ?_⟩
  rw [start, if_pos (by simp [k0])]
 ·obtain ⟨p, ep, hpB, hpT, hpW, hpD⟩ := @at7 y hy' (i + 1) (by omega) (ts ++ [n]) o ⟨htb, htt, h.ob, h.ont, by omega, h.dep⟩
  have nob : ∀ x ∈ ([] : List za), BN x := by simp
  have nott : ∀ x ∈ ([] : List za), isT x = true := by simp
  by_cases k3 : (pI : Int) < 3
  ·refine ⟨[], o ++ [p], h.put hpB hpT nob nott (fun x hx => hx) (by simp only [zM]; omega) (by omega), fun suf => ?_⟩
   rw [start, if_neg (by simp; omega), ep]
   simp only [Option.bind_some]
   rw [if_pos (by simp; omega), wW (by simp only [List.length_cons, List.length_nil]; omega)]
   rfl
  ·obtain ⟨q1, q2, q3, q4⟩ := afU (k := afb) (ks := [p]) aiU rfl (by simpa using hpB) (by simpa using hpT)
   obtain ⟨r1, r2, r3, r4⟩ := afU (k := ai5) (ks := [⟨afb, [], [], [], [p]⟩]) ai7 rfl (by simpa using q1) (by simpa using q2)
   simp only [zM, wF] at q3 q4 r3 r4
   have one : BkS (i + 1) [] (o ++ [⟨ai5, [], [], [], [⟨afb, [], [], [], [p]⟩]⟩]) := h.put r1 r2 nob nott (fun x hx => hx) (by simp only [zM]; omega) (by omega)
   have happ : ∀ z : za, app 104 o [z] = some (o ++ [z]) := fun z => wW (by simp only [List.length_cons, List.length_nil]; omega)
   rcases kz o with rfl | ⟨o, x, rfl⟩
   ·refine ⟨[], _, one, fun suf => ?_⟩
    have hl : decide (w64 ((([] : List za).length : Int) - 1) ≥ 0) = false := by rw [qx (by simp)]; simp
    rw [start, if_neg (by simp; omega), ep]
    simp only [Option.bind_some]
    rw [if_neg (by simp; omega), hl]
    simp only [Bool.false_eq_true, if_false, Option.bind_some]
    rw [happ]
    rfl
   ·have hlen : ((o ++ [x]).length : Int) - 1 = (o.length : Int) := by simp
    have hlw : w64 (((o ++ [x]).length : Int) - 1) = (o.length : Int) := by
     rw [hlen]
     simp only [List.length_append, List.length_cons, List.length_nil] at hlo
     exact qx (by omega)
    have hl : decide ((o.length : Int) ≥ 0) = true := by simp
    have hrd : rd (o ++ [x]) (o.length : Int) = some x := aee o [] x
    have hsl : sl (o ++ [x]) 0 (o.length : Int) = some o := as2 o [x]
    have hxB := h.ob x (by simp)
    have hxT := h.ont x (by simp)
    have hd := h.dep
    simp only [kV, zM, JG, wF] at hwt hd
    have hwo : 2 * o.length ≤ zM o := kv o
    by_cases kl : x.Kind = ai5
    ·by_cases kk : (pI : Int) = 3
     ·obtain ⟨kB, kJ⟩ := aor hxB
      have hlk := kv x.Kids
      have hxw := qQ x
      obtain ⟨z, hz⟩ : ∃ z : za, z = { x with Kids := x.Kids ++ [⟨afb, [], [], [], [p]⟩] } := ⟨_, rfl⟩
      have zw := qQ z
      have zT : isT z = false := by rw [hz]; exact hxT
      have zd := aah zT
      have xd := aah hxT
      have zB : BN z := by
       rw [hz]
       cases hxB with
       | text t m h1 h2 hm => cases kl
       | node k a ks hk ha hb hs hj =>
        simp only at kl
        subst kl
        refine .node _ _ _ hk ha hb (fun y hy => ?_) ?_
        ·rcases List.mem_append.1 hy with hy | hy
         ·exact hs y hy
         ·simp at hy; rw [hy]; exact q1
        ·rcases kz ks with rfl | ⟨ks, u, rfl⟩
         ·trivial
         ·rw [List.append_assoc]
          exact agK ks u _ hj (by unfold wG; rw [q2]; simp)
      rw [hz] at zw zd
      simp only [kV, zM, JG, wF] at zw zd
      refine ⟨[], o ++ [z], h.put zB zT nob nott (fun y hy => by simp [hy]) (by simp only [zM]; rw [hz, qQ]; simp only [kV, zM]; omega) (by rw [hz, zd]; omega), fun suf => ?_⟩
      rw [start, if_neg (by simp; omega), ep]
      simp only [Option.bind_some]
      rw [if_neg (by simp; omega), hlw, hl]
      simp only [if_true]
      rw [hrd]
      simp only [Option.bind_some]
      rw [if_pos (by rw [kl]; rfl), if_pos (by simp [kk]), wW (by simp only [List.length_nil]; omega)]
      simp only [Option.bind_some, List.nil_append]
      rw [wW (by simp only [List.length_cons, List.length_nil]; omega)]
      simp only [Option.bind_some]
      rw [hsl]
      simp only [Option.bind_some]
      rw [wW (by simp only [List.length_nil]; omega)]
      simp only [Option.bind_some, List.nil_append]
      rw [wW (by simp only [List.length_cons, List.length_nil]; omega)]
      simp only [Option.bind_some]
      rw [hz]
     ·by_cases kd : xS x < 30
      ·obtain ⟨u1, u2, u3, u4⟩ := afU (k := afb) (ks := [p, x]) aiU rfl (by simpa using ⟨hpB, hxB⟩) (by simpa using ⟨hpT, hxT⟩)
       obtain ⟨v1, v2, v3, v4⟩ := afU (k := ai5) (ks := [⟨afb, [], [], [], [p, x]⟩]) ai7 rfl (by simpa using u1) (by simpa using u2)
       simp only [zM, wF] at u3 u4 v3 v4
       refine ⟨[], o ++ [⟨ai5, [], [], [], [⟨afb, [], [], [], [p, x]⟩]⟩], h.put v1 v2 nob nott (fun y hy => by simp [hy]) (by simp only [zM]; omega) (by omega), fun suf => ?_⟩
       rw [start, if_neg (by simp; omega), ep]
       simp only [Option.bind_some]
       rw [if_neg (by simp; omega), hlw, hl]
       simp only [if_true]
       rw [hrd]
       simp only [Option.bind_some]
       rw [if_pos (by rw [kl]; rfl), if_neg (by simp [kk])]
       simp only [Option.bind_some]
       rw [if_pos (by rw [kl]; rfl), aiI x (by omega)]
       simp only [Option.bind_some]
       rw [if_pos (by simp; omega), wW (by simp)]
       simp only [Option.bind_some]
       rw [hsl]
       simp only [Option.bind_some]
       rw [wW (by simp only [List.length_nil]; omega)]
       simp only [Option.bind_some, List.nil_append]
       rw [wW (by simp only [List.length_cons, List.length_nil]; omega)]
       rfl
      ·refine ⟨[], _, one, fun suf => ?_⟩
       rw [start, if_neg (by simp; omega), ep]
       simp only [Option.bind_some]
       rw [if_neg (by simp; omega), hlw, hl]
       simp only [if_true]
       rw [hrd]
       simp only [Option.bind_some]
       rw [if_pos (by rw [kl]; rfl), if_neg (by simp [kk])]
       simp only [Option.bind_some]
       rw [if_pos (by rw [kl]; rfl), aiI x (by omega)]
       simp only [Option.bind_some]
       rw [if_neg (by simp; omega), happ]
       rfl
    ·refine ⟨[], _, one, fun suf => ?_⟩
     rw [start, if_neg (by simp; omega), ep]
     simp only [Option.bind_some]
     rw [if_neg (by simp; omega), hlw, hl]
     simp only [if_true]
     rw [hrd]
     simp only [Option.bind_some]
     rw [if_neg (by simpa using kl)]
     simp only [Option.bind_some]
     rw [if_neg (by simpa using kl), happ]
     rfl
theorem arv : ∀ (l : List zu) (i : Nat) (ts o : List za), (∀ y ∈ l, Xl y) → i ≤ 40 → BkS i ts o → ∃ ts' o', zF l (i : Int) ts o = some o' ∧ BkS 40 ts' o'
 | [], i, ts, o, _, hi, h => ⟨ts, o, by simp [zF], h.tb, h.tt, h.ob, h.ont, by have := h.wt; omega, h.dep⟩
 | y :: l, i, ts, o, hy, hi, h => by
  by_cases hlt : i < 40
  ·obtain ⟨t1, o1, h1, h2⟩ := ars y (hy y (by simp)) i hlt ts o h
   obtain ⟨ts', o', h3, h4⟩ := arv l (i + 1) t1 o1 (fun x hx => hy x (by simp [hx])) (by omega) h1
   refine ⟨ts', o', ?_, h4⟩
   rw [h2, ← h3]
   rfl
  ·have : decide ((i : Int) < 40) = false := by simp; omega
   exact ⟨ts, o, by rw [zF]; simp [this], h.tb, h.tt, h.ob, h.ont, by have := h.wt; omega, h.dep⟩
theorem aov (l : List zu) (hl : l.length ≤ 9223372036854775807) (h : ∀ y ∈ l, Xl y) : ∃ ks, jk l = some ⟨apM, [], [], [], ks⟩ ∧ Book ks := by
 obtain ⟨ts, o, h1, h2⟩ := arv l 0 [] [] h (by omega) ⟨by simp, by simp, by simp, by simp, by simp [zM], by simp [wF]⟩
 have hw := h2.wt
 refine ⟨o, ?_, h2.ob, h2.ont, by omega, h2.dep⟩
 unfold jk
 rw [qf hl]
 have : zF l 0 [] [] = some o := h1
 rw [this]
 rfl
end Go.Proofs.YtclohbgnaopjfaaGreatDoor
namespace Go.Proofs.YtclohbgnaopjfaaGreatDoor
set_option linter.unusedSimpArgs false
set_option linter.unusedVariables false
open Go Classical
theorem amv {ks : List za} (h : Book ks) (c : Int) (hc : -9223372036854775808 ≤ c ∧ c ≤ 9223372036854775807) : ∃ p : Nat, zQ c (w64 ((zD ks : Int) + 1)) = some (p : Int) ∧ p ≤ zD ks := by
 have hw := h.wt
 have hs := kM ks
 rw [qx (by omega)]
 obtain ⟨p, h1, h2⟩ := Wj c ((zD ks : Int) + 1) hc (by omega)
 exact ⟨p, h1, by omega⟩
theorem acN (p q : Nat) : (if (q : Int) < (p : Int) then (q : Int) else (p : Int)) = ((min p q : Nat) : Int) := by split <;> omega
theorem aoJ (p q : Nat) : (if (q : Int) > (p : Int) then (q : Int) else (p : Int)) = ((max p q : Nat) : Int) := by split <;> omega
end Go.Proofs.YtclohbgnaopjfaaGreatDoor
namespace Go.Proofs.YtclohbgnaopjfaaGreatDoor
set_option linter.unusedSimpArgs false
set_option linter.unusedVariables false
open Go Classical
theorem arK {ks : List za} (h : Book ks) : vS ks ∧ tw (tkL ks) ≤ 40000 := by
 refine ⟨⟨fun x hx => aoj (h.bn x hx), akr ks h.nt⟩, ?_⟩
 have := (aol h).2
 unfold wD at this
 omega
theorem aoO {n : za} {T : List Tk} (h : TD n T) (hw : wD n T ≤ 300000) {f t : Nat} (hft : f ≤ t) (ht : t ≤ T.length) {l : List za} (hl : vS l) (hlw : tw (tkL l) ≤ 100000) : ∃ r e, wP n ⟨114, (f : Int), (t : Int), l, [], []⟩ = some (r, e) := by
 have hlt := aec hl
 rcases YH h (by omega) hft ht hl (by omega) with ⟨P, Y, S, hT, fy, hP, hY⟩ | he
 ·obtain ⟨N, h1, h2, h3, h4, h5, h6⟩ := aet h (by omega) hT fy hl (by omega)
  rw [hP] at h6 hY
  rw [hY] at h6
  by_cases hc : checkN N = 0
  ·rw [if_pos hc] at h6; exact ⟨_, _, h6⟩
  ·rw [if_neg hc] at h6; exact ⟨_, _, h6⟩
 ·exact ⟨_, _, he⟩
theorem aoU {n : za} {T : List Tk} (h : TD n T) (hw : wD n T ≤ 300000) {d : za} (hd : vS d.Kids) (hdw : tw (tkL d.Kids) ≤ 100000) (p q : Nat) (hq : max p q ≤ T.length) : ∀ (m : Nat) (e : Int) (s : Nat), min p q ≤ s → s ≤ max p q → s - min p q ≤ m → ∃ s' : Nat, min p q ≤ s' ∧ s' ≤ max p q ∧ ∀ k, m < k → qO n (p : Int) (q : Int) d k e (s : Int) = some (s' : Int)
 | m, e, s, h1, h2, h3 => by
  have hsm := h.small
  by_cases hs : min p q < s
  ·by_cases he : e = 0
   ·refine ⟨s, h1, h2, fun k hk => ?_⟩
    obtain ⟨k, rfl⟩ : ∃ j, k = j + 1 := ⟨k - 1, by omega⟩
    rw [qO, acN p q, if_pos (by simp; omega), if_neg (by simp [he])]
   ·obtain ⟨m, rfl⟩ : ∃ j, m = j + 1 := ⟨m - 1, by omega⟩
    obtain ⟨r, e', ha⟩ := aoO h hw (f := min p q) (t := s - 1) (by omega) (by omega) hd hdw
    obtain ⟨s', g1, g2, g3⟩ := aoU h hw hd hdw p q hq m e' (s - 1) (by omega) (by omega) (by omega)
    refine ⟨s', g1, g2, fun k hk => ?_⟩
    obtain ⟨k, rfl⟩ : ∃ j, k = j + 1 := ⟨k - 1, by omega⟩
    have es : w64 ((s : Int) - 1) = ((s - 1 : Nat) : Int) := by rw [qx (by omega)]; omega
    rw [qO, acN p q, if_pos (by simp; omega), if_pos (by simpa using he), es, ha]
    simp only [Option.bind_some]
    exact g3 k (by omega)
  ·refine ⟨s, h1, h2, fun k hk => ?_⟩
   obtain ⟨k, rfl⟩ : ∃ j, k = j + 1 := ⟨k - 1, by omega⟩
   rw [qO, acN p q, if_neg (by simp; omega)]
theorem atE {ks : List za} (hb : Book ks) (h : TD (aje ks) (tkL ks)) (hw : wD (aje ks) (tkL ks) ≤ 40000) (kind from_ to_ : Int) (l : List zu) (hkd : -9223372036854775808 ≤ kind ∧ kind ≤ 9223372036854775807) (hf : -9223372036854775808 ≤ from_ ∧ from_ ≤ 9223372036854775807) (ht : -9223372036854775808 ≤ to_ ∧ to_ ≤ 9223372036854775807) (hl : l.length ≤ 9223372036854775807) (hlc : ∀ y ∈ l, Xl y) : ∃ s, jN (aje ks) kind from_ to_ l = some s ∧ alY (tkL ks) s ∧ (s.Kind = 109 ∨ s.Kind = 117 → s.Name ∈ [([98] : Str), [105], [122]]) := by
 obtain ⟨p, p1, p2⟩ := amv hb from_ hf
 obtain ⟨q, q1, q2⟩ := amv hb to_ ht
 have hkw := hb.wt
 have hks := kM ks
 have hlen := Zi ks
 obtain ⟨c, c1, c2⟩ := Wj kind 4 hkd (by decide)
 unfold jN
 simp only
 rw [Wn ks (by omega)]
 simp only [Option.bind_some]
 rw [p1]
 simp only [Option.bind_some]
 rw [q1]
 simp only [Option.bind_some]
 rw [c1]
 simp only [Option.bind_some]
 by_cases c0 : (c : Int) = 0
 ·rw [if_pos (by simpa using c0)]
  obtain ⟨kk, k1, k2⟩ := aov l hl hlc
  obtain ⟨r1, r2⟩ := arK k2
  rw [k1]
  simp only [Option.bind_some]
  rw [acN p q, aoJ p q]
  obtain ⟨r, e, ha⟩ := aoO h (by omega) (f := min p q) (t := max p q) (by omega) (by omega) r1 (by omega)
  rw [ha]
  simp only [Option.bind_some]
  obtain ⟨s', g1, g2, g3⟩ := aoU h (by omega) (d := aje kk) r1 (show tw (tkL kk) ≤ 100000 by omega) p q (by omega) (max p q) e (max p q) (by omega) (by omega) (by omega)
  rw [Zj (max p q + 1) fun k hk => g3 k (by omega)]
  exact ⟨_, rfl, .rep _ _ _ (by omega) (by omega) r1 (by omega), fun h => by have h' : (114 : Int) = 109 ∨ (114 : Int) = 117 := h; omega⟩
 ·rw [if_neg (by simpa using c0)]
  by_cases c1' : (c : Int) = 1
  ·rw [if_pos (by simpa using c1'), qx (by omega)]
   exact ⟨_, rfl, .attr _ _ _ (by omega) (by omega) (by decide +kernel) (by decide +kernel), fun h => by have h' : (97 : Int) = 109 ∨ (97 : Int) = 117 := h; omega⟩
  ·rw [if_neg (by simpa using c1')]
   obtain ⟨m, m1, m2⟩ := Wj (w64 (kind.tdiv 4)) 3 (agF _) (by decide)
   obtain ⟨x, x1, x2⟩ := afO [([98] : Str), [105], [122]] m (by simp; omega)
   have hx : isName x = true := by
    simp only [List.mem_cons, List.not_mem_nil, or_false] at x2
    rcases x2 with rfl | rfl | rfl <;> decide +kernel
   rw [m1]
   simp only [Option.bind_some]
   rw [x1]
   simp only [Option.bind_some]
   rw [acN p q, aoJ p q]
   by_cases c2' : (c : Int) = 2
   ·rw [if_pos (by simpa using c2')]
    exact ⟨_, rfl, .mark _ _ _ _ (.inl rfl) hx (by omega) (by omega), fun _ => x2⟩
   ·rw [if_neg (by simpa using c2')]
    exact ⟨_, rfl, .mark _ _ _ _ (.inr rfl) hx (by omega) (by omega), fun _ => x2⟩
end Go.Proofs.YtclohbgnaopjfaaGreatDoor
namespace Go.Proofs.YtclohbgnaopjfaaGreatDoor
set_option linter.unusedSimpArgs false
set_option linter.unusedVariables false
open Go Classical
abbrev avH : za := ⟨[100, 111, 99], [], [], [], [⟨[112], [], [], [], [⟨ve, [104, 105], [], [], []⟩]⟩]⟩
abbrev auJ : za := ⟨[100, 111, 99], [], [], [], [⟨[112], [], [], [], [⟨ve, [104], [], [], []⟩, ⟨ve, [105], [[98]], [], []⟩]⟩]⟩
theorem aoa : jo = some true := by
 have r1 : runes [104, 105] = [104, 105] := by decide +kernel
 have r2 : runes [104] = [104] := by decide +kernel
 have r3 : runes [105] = [105] := by decide +kernel
 have hT : tkL avH.Kids = [.opn [112] [], .sgn 104 [], .sgn 105 [], .cls, ] := by
  simp [tkL, tkN, r1]
 have h : TD avH [.opn [112] [], .sgn 104 [], .sgn 105 [], .cls] := ⟨by decide +kernel, rfl, hT⟩
 have hB : tkL auJ.Kids = [.opn [112] [], .sgn 104 [], .sgn 105 [[98]], .cls] := by
  simp [tkL, tkN, r2, r3]
 have hb : TD auJ [.opn [112] [], .sgn 104 [], .sgn 105 [[98]], .cls] := ⟨by decide +kernel, rfl, hB⟩
 obtain ⟨N, h1, _, h2, h3, h4⟩ := abZ h (by decide +kernel) (k := 109) (.inl rfl) (x := [98]) (by decide +kernel) (by decide) (a := 2) (b := 3) (by decide) (by decide)
 have e : kK 109 [98] 2 3 0 [.opn [112] [], .sgn 104 [], .sgn 105 [], .cls] = [.opn [112] [], .sgn 104 [], .sgn 105 [[98]], .cls] := by
  have : mkS 109 [98] [] = [[98]] := by decide +kernel
  simp [kK, mkT, this]
 rw [e] at h2
 obtain rfl := h2.ext hb h3 h4
 have e2 : ((2 : Nat) : Int) = 2 := rfl
 have e3 : ((3 : Nat) : Int) = 3 := rfl
 rw [e2, e3] at h1
 unfold jo
 rw [h1]
 rfl
end Go.Proofs.YtclohbgnaopjfaaGreatDoor
namespace Go.Proofs.YtclohbgnaopjfaaGreatDoor
set_option linter.unusedSimpArgs false
set_option linter.unusedVariables false
open Go
theorem agL (n : za) : (n.Kind == ([116, 101, 120, 116] : Str)) = isT n := rfl
def QN (c : UInt8) (new : Str) (s : Str) : Str := s.flatMap fun b => if b = c then new else [b]
theorem acw (c : UInt8) (new : Str) : ∀ s : Str, Lib.replaceK [c] new (Lib.count s [c]) s = QN c new s
 | [] => by rw [Lib.count_miss (by simp [Lib.index])]; rfl
 | b :: l => by
  have ih := acw c new l
  by_cases h : b = c
  ·subst h
   have hix : Lib.index (b :: l) [b] = ((0 : Nat) : Int) := by rw [Lib.index]; simp [List.isPrefixOf]
   rw [Lib.count_cons_eq, Nat.add_comm, Lib.replaceK_hit _ _ _ _ 0 hix]
   simp [ih, QN]
  ·rw [Lib.count_cons_ne b c l h]
   have hp : ([c] : List UInt8).isPrefixOf (b :: l) = false := by simp [List.isPrefixOf, Ne.symm h]
   have hix : Lib.index (b :: l) [c] = if Lib.index l [c] == -1 then -1 else Lib.index l [c] + 1 := by rw [Lib.index, hp]; simp
   cases hk : Lib.count l [c] with
   | zero =>
    rw [hk] at ih
    have e : l = QN c new l := ih
    show b :: l = QN c new (b :: l)
    have e2 : QN c new (b :: l) = b :: QN c new l := by simp [QN, h]
    rw [e2, ← e]
   | succ k =>
    obtain ⟨j, hj⟩ := Lib.index_of_count (s := l) (old := [c]) (by omega)
    have hj' : Lib.index (b :: l) [c] = ((j + 1 : Nat) : Int) := by
     have hge := Lib.index_ge l [c]
     rw [hix, if_neg (by simp; omega), hj]; omega
    rw [hk, Lib.replaceK_hit _ _ _ _ j hj] at ih
    rw [Lib.replaceK_hit _ _ _ _ (j + 1) hj']
    have e2 : QN c new (b :: l) = b :: QN c new l := by simp [QN, h]
    rw [e2, ← ih]
    simp
theorem Yg (c : UInt8) (new : Str) (s : Str) (h : ([c] : Str) ≠ new) : Lib.replaceAll s [c] new = QN c new s := by
 unfold Lib.replaceAll Lib.replace
 rw [if_neg (by simpa using h)]
 have : Lib.replaceNum s [c] (-1) = Lib.count s [c] := by simp [Lib.replaceNum]
 rw [this, acw]
theorem apH (c : UInt8) (s : Str) : Lib.count s [c] ≤ s.length := by rw [Lib.count_one]; exact List.count_le_length
def ap5 (b : UInt8) : Str := if b = 34 ∨ b = 92 then [92, b] else [b]
def esc (s : Str) : Str := s.flatMap ap5
def qt (s : Str) : Str := 34 :: (esc s ++ [34])
theorem aml (b : UInt8) (s : Str) : esc (b :: s) = ap5 b ++ esc s := by simp [esc]
theorem arD (s : Str) : (esc s).length ≤ 2 * s.length := by
 induction s with
 | nil => simp [esc]
 | cons b s ih => rw [aml]; simp only [List.length_append, ap5, List.length_cons]; split <;> simp <;> omega
theorem auE (s : Str) : (qt s).length ≤ 2 * s.length + 2 := by have := arD s; simp [qt]; omega
theorem atW (s : Str) : QN 34 [92, 34] (QN 92 [92, 92] s) = esc s := by
 induction s with
 | nil => rfl
 | cons b s ih =>
  have e1 : QN 92 [92, 92] (b :: s) = (if b = 92 then [92, 92] else [b]) ++ QN 92 [92, 92] s := rfl
  have e2 : ∀ x y : Str, QN 34 [92, 34] (x ++ y) = QN 34 [92, 34] x ++ QN 34 [92, 34] y := fun x y => by simp [QN]
  rw [e1, e2, ih, aml]
  congr 1
  by_cases h : b = 92
  ·subst h; simp [QN, ap5]
  ·by_cases h2 : b = 34
   ·subst h2; simp [QN, ap5]
   ·simp [QN, ap5, h, h2]
theorem atY (c : UInt8) (x y : UInt8) (s : Str) : (QN c [x, y] s).length ≤ 2 * s.length := by
 induction s with
 | nil => simp [QN]
 | cons b s ih =>
  have e1 : QN c [x, y] (b :: s) = (if b = c then [x, y] else [b]) ++ QN c [x, y] s := rfl
  rw [e1, List.length_append, List.length_cons]
  split <;> simp <;> omega
theorem quote_eq (s : Str) (h : s.length ≤ 1073741824) : Ww s = some (qt s) := by
 have hc : ∀ (c : UInt8) (t : Str), Lib.countB (ba t) (ba [c]) ≤ t.length := fun c t => by
  have := apH c t
  simpa [Lib.countB] using this
 have h1 := hc 92 s
 have hl := atY 92 92 92 s
 have h2 := hc 34 (QN 92 [92, 92] s)
 have he := arD s
 unfold Ww strings_ReplaceAll
 rw [qf (by simp only [List.length_cons, List.length_nil]; omega), Yg _ _ _ (by simp)]
 simp only [Option.bind_some]
 rw [qf (by simp only [List.length_cons, List.length_nil]; omega), Yg _ _ _ (by simp), atW]
 simp only [Option.bind_some]
 rw [qf (by simp; omega), qf (by simp; omega)]
 rfl
def atx (a : zf) : Str := a.Name ++ 61 :: qt a.Value
def hd (n : za) : Str :=
 if isT n = true then (if n.Marks = [] then [] else 60 :: (Lib.join n.Marks [44] ++ [62]))
 else if n.zq = [] then n.Kind else n.Kind ++ 40 :: (Lib.join (n.zq.map atx) [32] ++ [41])
theorem abh (sep x : Str) (r : List Str) : Lib.joinTail sep (x :: r) = sep ++ x ++ Lib.joinTail sep r := by simp [Lib.joinTail]
theorem amL (c : UInt8) (l : List Str) : (Lib.joinTail [c] l).length ≤ qX l := by
 induction l with
 | nil => simp [Lib.joinTail]
 | cons s l ih => rw [abh]; simp only [List.length_append, List.length_cons, List.length_nil, qX]; omega
theorem join_le (c : UInt8) (l : List Str) : (Lib.join l [c]).length ≤ qX l := by
 cases l with
 | nil => simp [Lib.join]
 | cons s l => rw [Lib.join_cons]; have := amL c l; simp only [List.length_append, qX]; omega
theorem ant (l : List Str) : l.length ≤ qX l := by
 induction l with
 | nil => simp
 | cons s l ih => simp only [List.length_cons, qX]; omega
theorem amh (l : List zf) : l.length ≤ wo l := by
 induction l with
 | nil => simp
 | cons s l ih => simp only [List.length_cons, wo]; omega
theorem auM (a : zf) : (atx a).length ≤ a.Name.length + 2 * a.Value.length + 3 := by
 have := auE a.Value
 simp only [atx, List.length_append, List.length_cons]; omega
theorem auc (l : List zf) : qX (l.map atx) ≤ 4 * wo l := by
 induction l with
 | nil => simp [qX]
 | cons a l ih => have := auM a; simp only [List.map_cons, qX, wo]; omega
theorem alJ (l : List Str) (sep : Str) (h1 : l.length ≤ 140737488355328) (h2 : (Lib.join l sep).length ≤ 140737488355328) : strings_Join l sep = some (Lib.join l sep) := by
 unfold strings_Join; rw [qf ⟨h1, h2⟩]
theorem apm : ∀ (l : List zf) (i : Int) (out : List Str), out.length + wo l ≤ 1073741824 → jf l i out = some (out ++ l.map atx)
 | [], i, out, _ => by simp [jf]
 | a :: l, i, out, h => by
  simp only [wo] at h
  have hq := auE a.Value
  rw [jf, qf (by simp; omega), quote_eq _ (by omega)]
  simp only [Option.bind_some]
  rw [qf (by simp; omega), wW (by simp; omega)]
  simp only [Option.bind_some]
  rw [apm l _ _ (by simp; omega)]
  simp [atx]
theorem head_eq (n : za) (h : nwt n ≤ 1073741824) : QS n = some (hd n) := by
 have hw := qQ n
 have hm := ant n.Marks
 have ha := amh n.zq
 unfold QS hd
 rw [agL]
 by_cases ht : isT n = true
 ·simp only [ht, if_true]
  have hj := join_le 44 n.Marks
  by_cases hm0 : n.Marks = []
  ·simp [hm0]
  ·have g : ((n.Marks.length : Int) == 0) = false := by simpa using hm0
   simp only [g, Bool.false_eq_true, if_false, hm0]
   rw [alJ _ _ (by omega) (by omega)]
   simp only [Option.bind_some]
   rw [qf (by simp; omega), qf (by simp; omega)]
   rfl
 ·simp only [ht, Bool.false_eq_true, if_false]
  have hj := join_le 32 (n.zq.map atx)
  have hj2 := auc n.zq
  by_cases ha0 : n.zq = []
  ·simp [ha0]
  ·have g : ((n.zq.length : Int) == 0) = false := by simpa using ha0
   simp only [g, Bool.false_eq_true, if_false, ha0]
   rw [qf (by omega), apm _ _ _ (by simp; omega)]
   simp only [Option.bind_some, List.nil_append]
   rw [qf (by simp; omega), alJ _ _ (by simp; omega) (by omega)]
   simp only [Option.bind_some]
   rw [qf (by simp; omega), qf (by simp; omega)]
   simp
end Go.Proofs.YtclohbgnaopjfaaGreatDoor
namespace Go.Proofs.YtclohbgnaopjfaaGreatDoor
set_option linter.unusedSimpArgs false
set_option linter.unusedVariables false
open Go
def ain (s : Str) : Nat → Nat → List Int
 | 0, _ => []
 | f + 1, pos => if pos < s.length then amX s pos :: ain s f (pos + aeL s pos) else []
theorem X5 (s : Str) (g : Value → Int) (hg : ∀ n, g (.int .i32 n) = n) : ∀ (f pos : Nat) (acc : Array Value), (Conv.runesFrom ⟨s.toArray⟩ f pos acc).toList.map g = acc.toList.map g ++ ain s f pos
 | 0, pos, acc => by simp [Conv.runesFrom, ain]
 | f + 1, pos, acc => by
  unfold Conv.runesFrom ain
  have hz : ByteArray.size ⟨s.toArray⟩ = s.length := by simp [ByteArray.size]
  by_cases h : pos < s.length
  ·rw [if_pos (by rw [hz]; exact h), if_pos h, X5 s g hg f]
   simp only [Array.toList_push, List.map_append, List.map_cons, List.map_nil, hg, List.append_assoc, List.cons_append, List.nil_append]
   rfl
  ·rw [if_neg (by rw [hz]; exact h), if_neg h]
   simp
theorem ahP (s : Str) : runes s = ain s s.length 0 := by
 unfold runes
 rw [X5 s _ (fun _ => rfl)]
 rfl
theorem ak4 (s : Str) : ∀ (f pos : Nat), (ain s f pos).length = Lib.runeCountFrom ⟨s.toArray⟩ f pos
 | 0, pos => rfl
 | f + 1, pos => by
  have hz : ByteArray.size ⟨s.toArray⟩ = s.length := by simp [ByteArray.size]
  unfold ain Lib.runeCountFrom
  by_cases h : pos < s.length
  ·rw [if_pos h, if_pos (by rw [hz]; exact h), List.length_cons, ak4 s f]
   simp only [aeL]
   omega
  ·rw [if_neg h, if_neg (by rw [hz]; exact h)]
   rfl
theorem apy (s : Str) : (runes s).length = aeh s := by
 rw [ahP, ak4, aeh, Lib.runeCountL, Lib.runeCount]
 simp [ByteArray.size]
def signs (h : Str) (l : List Int) : List zx := l.map fun c => ⟨116, zo c, h⟩
abbrev avs : zx := ⟨99, [], []⟩
mutual
def akc : za → List zx
 | ⟨k, t, m, a, ks⟩ => if (k == ve) = true then signs (hd ⟨k, t, m, a, ks⟩) (runes t) else ⟨111, [], hd ⟨k, t, m, a, ks⟩⟩ :: (ZC ks ++ [avs])
def ZC : List za → List zx
 | [] => []
 | n :: l => akc n ++ ZC l
end
theorem aeD {n : za} (h : isT n = true) : akc n = signs (hd n) (runes n.Text) := by
 cases n
 have h' := h
 simp only [isT] at h'
 simp only [akc]
 rw [if_pos h']
theorem aei {n : za} (h : isT n = false) : akc n = ⟨111, [], hd n⟩ :: (ZC n.Kids ++ [avs]) := by
 cases n
 have h' := h
 simp only [isT] at h'
 simp only [akc]
 rw [if_neg (by rw [h']; simp)]
theorem abR : ∀ (l : List za), (∀ n ∈ l, (akc n).length = wE n) → (ZC l).length = zD l
 | [], _ => by simp [ZC, zD]
 | n :: l, h => by
  simp only [ZC, zD, List.length_append, h n (by simp), abR l fun k hk => h k (by simp [hk])]
theorem alF (n : za) : (akc n).length = wE n := by
 induction n using za.ind with
 | h n ih =>
  rw [vV]
  by_cases ht : isT n = true
  ·rw [if_pos ht, aeD ht, signs, List.length_map, apy]
  ·rw [if_neg ht, aei (by simpa using ht)]
   simp only [List.length_cons, List.length_append, List.length_nil, abR n.Kids ih]
   omega
theorem apB (l : List za) : (ZC l).length = zD l := abR l fun n _ => alF n
theorem auI (y : za) (hy : nwt y ≤ 1073741824) : ∀ (f k : Nat) (out : List zx) (pos : Nat), y.Text.length - pos ≤ f → f < k → (out.length + f) * 40 ≤ 140737488355328 → jK y k out pos = some (out ++ signs (hd y) (ain y.Text f pos))
 | 0, k, out, pos, h1, h2, _ => by
  obtain ⟨k, rfl⟩ : ∃ j, k = j + 1 := ⟨k - 1, by omega⟩
  have : ¬ pos < y.Text.length := by omega
  simp [jK, this, ain, signs]
 | f + 1, k, out, pos, h1, h2, h3 => by
  obtain ⟨k, rfl⟩ : ∃ j, k = j + 1 := ⟨k - 1, by omega⟩
  rw [jK, ain]
  by_cases hp : pos < y.Text.length
  ·have hw := Lib.decode_width_pos ⟨y.Text.toArray⟩ pos (by simpa [ByteArray.size] using hp)
   have hw' : 1 ≤ aeL y.Text pos := hw
   simp only [hp, decide_true, if_true, Option.bind_some]
   rw [head_eq y hy]
   simp only [Option.bind_some]
   rw [wW (by simp; omega)]
   simp only [Option.bind_some]
   rw [auI y hy f k _ _ (by omega) (by omega) (by simp; omega)]
   simp [signs]
  ·simp only [hp, decide_false, Bool.false_eq_true, if_false, Option.bind_some]
   simp [signs]
theorem aui (y : za) (hy : nwt y ≤ 1073741824) (out : List zx) (h : (out.length + y.Text.length) * 40 ≤ 140737488355328) : (lim fun k => jK y k out 0) = some (out ++ signs (hd y) (runes y.Text)) := by
 refine Zj (y.Text.length + 1) fun k hk => ?_
 rw [auI y hy y.Text.length k out 0 (by omega) (by omega) h, ahP]
theorem arh (f : List za → Option (List zx)) : ∀ (l : List za) (i : Int) (out : List zx), (∀ n ∈ l, isT n = false → f n.Kids = some (ZC n.Kids)) → (out.length + zM l) * 40 ≤ 140737488355328 → zM l ≤ 1073741824 → jQ f l i out = some (out ++ ZC l)
 | [], i, out, _, _, _ => by simp [jQ, ZC]
 | n :: l, i, out, hf, hb, hw => by
  simp only [zM] at hb hw
  have hwt := qQ n
  have hn : nwt n ≤ 1073741824 := by omega
  have hsz := alF n
  have hle := adE n
  rw [jQ]
  by_cases ht : isT n = true
  ·simp only [agL, ht, if_true]
   rw [aui n hn out (by omega)]
   simp only [Option.bind_some]
   rw [← aeD ht, arh f l _ _ (fun k hk => hf k (by simp [hk])) (by simp only [List.length_append]; omega) (by omega)]
   simp [ZC]
  ·have ht' : isT n = false := by simpa using ht
   have hk := apB n.Kids
   have hns := yl ht'
   simp only [agL, ht', Bool.false_eq_true, if_false]
   rw [head_eq n hn]
   simp only [Option.bind_some]
   rw [wW (by simp only [List.length_cons, List.length_nil]; omega), ]
   simp only [Option.bind_some]
   rw [hf n (by simp) ht']
   simp only [Option.bind_some]
   rw [wW (by simp only [List.length_cons, List.length_nil, List.length_append]; omega)]
   simp only [Option.bind_some]
   rw [wW (by simp only [List.length_cons, List.length_nil, List.length_append]; omega)]
   simp only [Option.bind_some]
   rw [arh f l _ _ (fun k hk => hf k (by simp [hk])) (by simp only [List.length_cons, List.length_nil, List.length_append]; omega) (by omega)]
   simp [ZC, aei ht']
theorem awl : ∀ (d : Nat) (l : List za), kE l ≤ d → zM l ≤ 1073741824 → ∀ kr, d + 1 ≤ kr → xA kr l = some (ZC l)
 | d, l, hd, hw, kr, hk => by
  obtain ⟨kr, rfl⟩ : ∃ j, kr = j + 1 := ⟨kr - 1, by omega⟩
  have hl := kv l
  rw [xA, qf (by omega), arh (xA kr) l 0 [] (fun n hn ht => ?_) (by simp; omega) hw]
  ·simp
  ·have h1 := yR hn
   have h2 := yG n
   have h3 := Qe hn
   have h4 := vN n
   obtain ⟨d, rfl⟩ : ∃ j, d = j + 1 := ⟨d - 1, by omega⟩
   exact awl d n.Kids (by omega) (by omega) kr (by omega)
theorem of_eq (l : List za) (hw : zM l ≤ 1073741824) : Z5 l = some (ZC l) := by
 unfold Z5
 exact Zj (kE l + 1) fun kr hk => awl (kE l) l (Nat.le_refl _) hw kr hk
end Go.Proofs.YtclohbgnaopjfaaGreatDoor
namespace Go.Proofs.YtclohbgnaopjfaaGreatDoor
set_option linter.unusedSimpArgs false
set_option linter.unusedVariables false
open Go
def tkT : Tk → zx
 | .sgn c m => ⟨116, zo c, hd ⟨ve, [], m, [], []⟩⟩
 | .opn k a => ⟨111, [], hd ⟨k, [], [], a, []⟩⟩
 | .cls => avs
theorem aun {n : za} (h : isT n = true) : hd n = hd ⟨ve, [], n.Marks, [], []⟩ := by
 have h2 : isT (⟨ve, [], n.Marks, [], []⟩ : za) = true := rfl
 unfold hd
 rw [if_pos h, if_pos h2]
theorem ate {n : za} (h : isT n = false) : hd n = hd ⟨n.Kind, [], [], n.zq, []⟩ := by
 have h2 : isT (⟨n.Kind, [], [], n.zq, []⟩ : za) = false := h
 unfold hd
 simp only [h, h2, Bool.false_eq_true, if_false]
theorem auh (n : za) : akc n = (tkN n).map tkT := by
 induction n using za.ind with
 | h n ih =>
  rw [wZ]
  cases ht : isT n with
  | true =>
   rw [aeD ht]
   simp only [if_true, List.map_map, signs]
   refine List.map_congr_left fun c _ => ?_
   simp only [Function.comp, tkT]
   rw [aun ht]
  | false =>
   rw [aei ht]
   have key : ∀ l : List za, (∀ k ∈ l, akc k = (tkN k).map tkT) → ZC l = (tkL l).map tkT := by
    intro l
    induction l with
    | nil => intro _; simp [ZC, tkL]
    | cons x l ihl =>
     intro hl
     rw [ZC, tkL, List.map_append, hl x (by simp), ihl fun k hk => hl k (by simp [hk])]
   rw [key n.Kids ih]
   simp only [Bool.false_eq_true, if_false, List.map_cons, List.map_append, List.map_nil, tkT]
   rw [ate ht]
theorem ahx (l : List za) : ZC l = (tkL l).map tkT := by
 induction l with
 | nil => simp [ZC, tkL]
 | cons x l ih => rw [ZC, tkL, List.map_append, auh, ih]
end Go.Proofs.YtclohbgnaopjfaaGreatDoor
namespace Go.Proofs.YtclohbgnaopjfaaGreatDoor
set_option linter.unusedSimpArgs false
set_option linter.unusedVariables false
open Go Classical
theorem asC (s : Str) (x : UInt8) (hs : s.length ≤ 1099511627776) : ∀ (suf pre : Str) (k : Nat), s = pre ++ suf → suf.length < k → wh s [x] k (pre.length : Int) = some (if x ∈ suf then .inl true else .inr ())
 | [], pre, k, h, hk => by
  obtain ⟨k, rfl⟩ : ∃ j, k = j + 1 := ⟨k - 1, by omega⟩
  rw [wh, if_neg (by rw [h]; simp)]
  simp
 | y :: suf, pre, k, h, hk => by
  obtain ⟨k, rfl⟩ : ∃ j, k = j + 1 := ⟨k - 1, by omega⟩
  simp only [List.length_cons] at hk
  have hl : s.length = pre.length + (suf.length + 1) := by rw [h]; simp
  have e1 : w64 ((pre.length : Int) + 1) = ((pre.length + 1 : Nat) : Int) := by rw [qx (by omega)]; omega
  rw [wh, if_pos (by simp; omega), e1, JX (by omega) (by omega)]
  have e2 : (s.take (pre.length + 1)).drop pre.length = [y] := by
   rw [h, List.take_append, List.take_of_length_le (by omega), show pre.length + 1 - pre.length = 1 by omega, List.drop_left]
   rfl
  rw [e2]
  simp only [Option.bind_some]
  by_cases hy : y = x
  ·rw [if_pos (by simp [hy]), if_pos (by simp [hy])]
  ·rw [if_neg (by simpa using hy)]
   have := asC s x hs suf (pre ++ [y]) k (by rw [h]; simp) (by omega)
   rw [List.length_append, List.length_singleton] at this
   rw [this]
   by_cases hxs : x ∈ suf
   ·rw [if_pos hxs, if_pos (List.mem_cons_of_mem _ hxs)]
   ·rw [if_neg hxs, if_neg (by simp [hxs, Ne.symm hy])]
theorem has_eq (s : Str) (x : UInt8) (hs : s.length ≤ 1099511627776) : jm s [x] = some (decide (x ∈ s)) := by
 unfold jm
 have h0 : ∀ k, s.length + 1 ≤ k → wh s [x] k 0 = some (if x ∈ s then .inl true else .inr ()) := fun k hk => asC s x hs s [] k rfl (by omega)
 rw [Zj (s.length + 1) h0]
 by_cases h : x ∈ s <;> simp [h]
theorem alR (x : UInt8) (hx : x ≠ 44) : ∀ m : List Str, x ∈ Lib.joinTail [44] m ↔ ∃ s ∈ m, x ∈ s
 | [] => by simp [Lib.joinTail]
 | s :: m => by
  rw [abh, List.mem_append, List.mem_append, alR x hx m]
  simp [hx]
theorem ara (x : UInt8) (hx : x ≠ 44) (m : List Str) : x ∈ Lib.join m [44] ↔ ∃ s ∈ m, x ∈ s := by
 cases m with
 | nil => simp [Lib.join]
 | cons s m =>
  rw [Lib.join_cons, List.mem_append, alR x hx m]
  simp
theorem avo (x : UInt8) (h1 : x ≠ 44) (h2 : x ≠ 60) (h3 : x ≠ 62) {m : List Str} (hm : ∀ s ∈ m, ∃ y : UInt8, s = [y]) : x ∈ hd ⟨ve, [], m, [], []⟩ ↔ [x] ∈ m := by
 have ht : isT (⟨ve, [], m, [], []⟩ : za) = true := by simp [isT]
 unfold hd
 rw [if_pos ht]
 by_cases e : m = []
 ·rw [if_pos e, e]; simp
 ·rw [if_neg e]
  simp only [List.mem_cons, List.mem_append, List.not_mem_nil, or_false, h2, h3, false_or]
  rw [ara x h1]
  constructor
  ·rintro ⟨s, hs, hx⟩
   obtain ⟨y, rfl⟩ := hm s hs
   simp only [List.mem_cons, List.not_mem_nil, or_false] at hx
   subst hx
   exact hs
  ·intro h
   exact ⟨[x], h, by simp⟩
theorem aqJ (s : zG) (B : List zx) (mp : List zi) (f t : Nat) (hf : s.From = (f : Int)) (ht : s.To = (t : Int)) (A : List zx) (hx : ∀ i y, A[i]? = some y → (f ≤ i ∧ i < t) ∨ ∃ j : Nat, KC mp (i : Int) (decide ((i : Int) ≥ (t : Int))) = some (j : Int) ∧ B[j]? = some y) : ∀ (suf pre : List zx), A = pre ++ suf → qa s B mp suf (pre.length : Int) = some (.inr ())
 | [], pre, _ => rfl
 | y :: suf, pre, h => by
  have hy : A[pre.length]? = some y := by rw [h]; simp
  have ih := aqJ s B mp f t hf ht A hx suf (pre ++ [y]) (by rw [h]; simp)
  rw [List.length_append, List.length_singleton] at ih
  have e1 : (((pre.length + 1 : Nat)) : Int) = (pre.length : Int) + 1 := by omega
  rw [e1] at ih
  rw [qa, hf, ht]
  by_cases hin : f ≤ pre.length ∧ pre.length < t
  ·rw [if_pos (by simp; omega), if_pos (by simp; omega)]
   simp only [Option.bind_some]
   exact ih
  ·have hsk : (if (decide ((pre.length : Int) ≥ (f : Int))) = true then if (decide ((pre.length : Int) < (t : Int))) = true then some (Sum.inl ()) else some (Sum.inr ()) else some (Sum.inr ()) : Option (Unit ⊕ Unit)) = some (.inr ()) := by
    by_cases h1 : f ≤ pre.length
    ·rw [if_pos (by simp; omega), if_neg (by simp; omega)]
    ·rw [if_neg (by simp; omega)]
   rw [hsk]
   simp only [Option.bind_some]
   rcases hx _ _ hy with h1 | ⟨j, h1, h2⟩
   ·exact absurd h1 hin
   ·rw [h1]
    simp only [Option.bind_some]
    have hj := (List.getElem?_eq_some_iff.1 h2).1
    rw [if_neg (by simp), if_neg (by simp; omega), xC h2]
    simp only [Option.bind_some]
    rw [if_neg (by simp)]
    exact ih
theorem aoC (s : zG) (B : List zx) (mp : List zi) (f t : Nat) (hf : s.From = (f : Int)) (ht : s.To = (t : Int)) (A : List zx) (hx : ∀ i y, A[i]? = some y → (f ≤ i ∧ i < t) ∨ ∃ j : Nat, KC mp (i : Int) (decide ((i : Int) ≥ (t : Int))) = some (j : Int) ∧ B[j]? = some y) : qa s B mp A 0 = some (.inr ()) := aqJ s B mp f t hf ht A hx A [] rfl
theorem aqH (i : Int) (r : Bool) (h : -9223372036854775808 ≤ i ∧ i ≤ 9223372036854775807) : KC [] i r = some i := by
 unfold KC
 rw [qf (by simp), xX]
 simp only [Option.bind_some]
 rw [Int.add_zero, qx h]
theorem au4 (f o z i : Nat) (hb : f ≤ 1000000 ∧ o ≤ 1000000 ∧ z ≤ 1000000 ∧ i ≤ 1000000) (h : i < f ∨ f + o ≤ i) (hoz : 0 < o + z) : KC [⟨(f : Int), (o : Int), (z : Int)⟩] (i : Int) (decide ((i : Int) ≥ ((f + o : Nat) : Int))) = some (((if i < f then i else i + z - o : Nat)) : Int) := by
 unfold KC
 rw [qf (by simp), xX]
 have he : xc ⟨(f : Int), (o : Int), (z : Int)⟩ = some ((f + o : Nat) : Int) := by
  unfold xc
  simp only
  rw [qx (by omega)]
  simp
 rw [he]
 simp only [Option.bind_some]
 by_cases h1 : i < f
 ·rw [if_neg (by simp; omega), if_pos (by simp; omega), if_pos h1]
  simp only [Option.bind_some]
  rw [qx (by omega)]
  simp
 ·have h2 : f + o ≤ i := by omega
  rw [if_neg h1]
  have hdec : decide ((i : Int) ≥ ((f + o : Nat) : Int)) = true := by simp; omega
  rw [hdec]
  by_cases h3 : f + o < i
  ·rw [if_pos (by simp; omega), xX]
   simp only [Option.bind_some]
   rw [qx (x := (z : Int) - (o : Int)) (by omega), qx (x := 0 + _) (by omega), qx (by omega), Option.some.injEq]
   omega
  ·obtain rfl : i = f + o := by omega
   rw [if_neg (by simp), if_neg (by simp; omega)]
   have hs : xE ⟨(f : Int), (o : Int), (z : Int)⟩ ((f + o : Nat) : Int) true = some true := by
    unfold xE
    simp only
    by_cases h4 : o = 0
    ·rw [if_pos (by simp [h4])]
    ·rw [if_neg (by simpa using h4), if_neg (by simp; omega)]
     rfl
   rw [hs]
   simp only [Option.bind_some, if_true]
   rw [qx (x := (f : Int) + 0) (by omega), qx (by omega), Option.some.injEq]
   omega
theorem asG (s : zG) (hk : s.Kind ≠ 114) (A B : List zx) (t : Nat) (ht : s.To = (t : Int)) (htb : t ≤ 1000000) (a : Nat) (hx : ∀ i, a ≤ i → i < t → (∃ p, A[i]? = some p ∧ p.Kind ≠ 116 ∧ B[i]? = some p) ∨ ∃ p q, A[i]? = some p ∧ p.Kind = 116 ∧ B[i]? = some q ∧ q.Text = p.Text ∧ jm q.Head s.Name = some (s.Kind == 109)) : ∀ (d i k : Nat), t - i ≤ d → d < k → i ≤ t → a ≤ i → zU s A B k (i : Int) = some (.inr ())
 | d, i, k, h1, h2, h3, h4 => by
  obtain ⟨k, rfl⟩ : ∃ j, k = j + 1 := ⟨k - 1, by omega⟩
  rw [zU, ht]
  by_cases hi : i < t
  ·obtain ⟨d, rfl⟩ : ∃ j, d = j + 1 := ⟨d - 1, by omega⟩
   have ih := asG s hk A B t ht htb a hx d (i + 1) k (by omega) (by omega) (by omega) (by omega)
   have e1 : w64 ((i : Int) + 1) = ((i + 1 : Nat) : Int) := by rw [qx (by omega)]; omega
   rw [if_pos (by simpa using hi), if_pos (by simpa using hk), e1]
   rcases hx i h4 hi with ⟨p, p1, p2, p3⟩ | ⟨p, q, p1, p2, p3, p4, p5⟩
   ·rw [xC p1]
    simp only [Option.bind_some]
    rw [if_pos (by simpa using p2), xC p3]
    simp only [Option.bind_some]
    rw [if_neg (by simp)]
    exact ih
   ·rw [xC p1]
    simp only [Option.bind_some]
    rw [if_neg (by simp [p2]), xC p3]
    simp only [Option.bind_some]
    rw [if_neg (by simp [p4]), p5]
    simp only [Option.bind_some]
    rw [if_neg (by simp)]
    exact ih
  ·rw [if_neg (by simpa using hi)]
theorem atH (s : zG) (hk : s.Kind = 114) (A B : List zx) (i : Int) (k : Nat) : zU s A B (k + 1) i = some (.inr ()) := by
 rw [zU]
 split
 ·rw [if_neg (by simp [hk])]
 ·rfl
theorem arR (f t : Nat) (l : List za) (hft : f ≤ t) (hb : t ≤ 1000000) (hw : zM l ≤ 1000000) : Zk ⟨114, (f : Int), (t : Int), l, [], []⟩ = some (if f = t ∧ zD l = 0 then [] else [⟨(f : Int), ((t - f : Nat) : Int), (zD l : Int)⟩]) := by
 have hs := kM l
 have e : w64 ((t : Int) - (f : Int)) = ((t - f : Nat) : Int) := by rw [qx (by omega)]; omega
 unfold Zk
 rw [Wn l (by omega)]
 simp only [Option.bind_some]
 rw [if_neg (by decide), e]
 by_cases h1 : f = t
 ·rw [if_pos (by simp [h1])]
  by_cases h2 : zD l = 0
  ·rw [if_pos (by simp [h2]), if_pos ⟨h1, h2⟩]
  ·rw [if_neg (by simpa using h2), if_neg (fun h => h2 h.2)]
 ·rw [if_neg (by simp; omega), if_neg (fun h => h1 h.1)]
theorem awu {α : Type} (P S : List α) (i : Nat) (h : i < P.length) : (P ++ S)[i]? = P[i]? := List.getElem?_append_left h
theorem aoM {α : Type} (P S : List α) (i : Nat) (h : P.length ≤ i) : (P ++ S)[i]? = S[i - P.length]? := List.getElem?_append_right h
theorem afp (l : List zu) (kind from_ to_ : Int) (k : List zu) (hl : l.length ≤ 9223372036854775807) (hlc : ∀ y ∈ l, Xl y) (hkd : -9223372036854775808 ≤ kind ∧ kind ≤ 9223372036854775807) (hf : -9223372036854775808 ≤ from_ ∧ from_ ≤ 9223372036854775807) (ht : -9223372036854775808 ≤ to_ ∧ to_ ≤ 9223372036854775807) (hk : k.length ≤ 9223372036854775807) (hkc : ∀ y ∈ k, Xl y) : vL l kind from_ to_ k = some true := by
 obtain ⟨ks, e1, hb⟩ := aov l hl hlc
 obtain ⟨h, hw⟩ := aol hb
 unfold vL
 rw [aoa]
 simp only [Option.bind_some, Bool.not_true, Bool.false_eq_true, if_false]
 by_cases hk20 : (k.length : Int) > 20
 ·rw [if_pos (by simpa using hk20)]
 rw [if_neg (by simpa using hk20), e1]
 simp only [Option.bind_some]
 obtain ⟨s, s1, s2, s3⟩ := atE hb h hw kind from_ to_ k hkd hf ht hk hkc
 rw [s1]
 simp only [Option.bind_some]
 have hkw := hb.wt
 have hsm := h.small
 have hwt := h.wt
 have hb' : ∀ c m, Tk.sgn c m ∈ tkL ks → Xu m := by
  intro c m hc
  have key : ∀ l : List za, (∀ x ∈ l, x ∈ ks) → Tk.sgn c m ∈ tkL l → Xu m := by
   intro l
   induction l with
   | nil => intro _ h; simp [tkL] at h
   | cons y l ihl =>
    intro hl h
    rw [tkL, List.mem_append] at h
    rcases h with h | h
    ·exact amK y (hb.bn y (hl y (by simp))) c _ h
    ·exact ihl (fun x hx => hl x (by simp [hx])) h
  exact key ks (fun _ h => h) hc
 have hofA : Z5 ks = some ((tkL ks).map tkT) := by rw [of_eq ks (by omega), ahx]
 have hlenA : ((tkL ks).map tkT).length ≤ 9223372036854775807 := by rw [List.length_map]; omega
 cases s2 with
 | rep f t l hft htT hrow hlw =>
  have hlt := aec hrow
  rcases YH h (by omega) hft htT hrow (by omega) with ⟨P, Y, S, hT, fy, hP, hY⟩ | he
  ·obtain ⟨N, n1, n2, n3, n4, n5, n6⟩ := aet h (by omega) hT fy hrow (by omega)
   rw [hP] at n6 hY
   rw [hY] at n6
   by_cases hc : checkN N = 0
   ·rw [if_pos hc] at n6
    have hN : TD N (P ++ (tkL l ++ S)) := ⟨hc, n2, n5⟩
    have hsN := hN.small
    have hnw : zM N.Kids ≤ 1073741824 := by
     have h1 := aec hN.row
     rw [hN.tk] at h1
     have hw' := hw
     unfold wD at hw'
     rw [hT] at hw'
     simp only [J5] at h1 hw'
     omega
    have hofB : Z5 N.Kids = some ((P ++ (tkL l ++ S)).map tkT) := by rw [of_eq N.Kids hnw, ahx, hN.tk]
    rw [n6]
    simp only [Option.bind_some, bne_self_eq_false, Bool.false_eq_true, if_false]
    rw [if_neg (by decide), hofA]
    simp only [Option.bind_some]
    rw [hofB]
    simp only [Option.bind_some]
    have hll := Zi l
    have hTl : (tkL ks).length = P.length + (szI Y + S.length) := by rw [hT]; simp only [List.length_append, Xf]
    simp only [List.length_append] at hsN
    have hns := kM l
    rw [arR f t l hft (by omega) (by omega)]
    simp only [Option.bind_some]
    rw [qf hlenA, aoC _ _ _ f t rfl rfl ((tkL ks).map tkT) (fun i y hy => ?_)]
    ·simp only [Option.bind_some]
     rw [Zj 1 fun k hk => by
      obtain ⟨k, rfl⟩ : ∃ j, k = j + 1 := ⟨k - 1, by omega⟩
      exact atH _ rfl _ _ _ k]
     rfl
    ·have hil := (List.getElem?_eq_some_iff.1 hy).1
     rw [List.length_map] at hil
     by_cases hin : f ≤ i ∧ i < t
     ·exact .inl hin
     ·right
      have hcase : i < f ∨ f + (t - f) ≤ i := by omega
      have hget : ∀ j : Nat, j = (if i < f then i else i + zD l - (t - f)) → ((P ++ (tkL l ++ S)).map tkT)[j]? = some y := by
       intro j hj
       rw [List.getElem?_map] at hy ⊢
       rw [hT] at hy
       by_cases h1 : i < f
       ·rw [if_pos h1] at hj
        subst hj
        rw [awu _ _ _ (by omega)] at hy ⊢
        exact hy
       ·rw [if_neg h1] at hj
        have l1 := Xf Y
        rw [aoM _ _ _ (by omega), aoM _ _ _ (by omega)] at hy
        rw [aoM _ _ _ (by omega), aoM _ _ _ (by omega)]
        rw [show j - P.length - (tkL l).length = i - P.length - (tkI Y).length by omega]
        exact hy
      by_cases h0 : f = t ∧ zD l = 0
      ·rw [if_pos h0, aqH _ _ (by omega)]
       exact ⟨i, rfl, hget i (by split <;> omega)⟩
      ·rw [if_neg h0]
       have := au4 f (t - f) (zD l) i (by omega) hcase (by omega)
       rw [show f + (t - f) = t by omega] at this
       rw [this]
       exact ⟨_, rfl, hget _ rfl⟩
   ·rw [if_neg hc] at n6
    rw [n6]
    simp only [Option.bind_some]
    rw [if_pos (by simpa using hc)]
  ·rw [he]
   rfl
 | attr p nm v h1 h2 hn hv =>
  rcases ar2 h (by omega) rfl (.attr p nm v h1 h2 hn hv) with ⟨e, he, ha⟩ | ⟨N, T', ha, _⟩
  ·rw [ha]
   simp only [Option.bind_some]
   rw [if_pos (by simpa using he)]
  ·rw [ha]
   simp
 | mark kk x a b hkk hx hab hbT =>
  have hxm := s3 hkk
  have hxl := YD hx
  obtain ⟨N, n1, _, n3, n4, n5⟩ := abZ h (by omega) hkk hx hxl hab hbT
  have hnw : zM N.Kids ≤ 1073741824 := by
   have h1 := aec n3.row
   rw [n3.tk] at h1
   have h2 := acI kk x a b (tkL ks) 0
   have h3 : (tkL ks).length * (1 + x.length) ≤ 3998 * 21 := Nat.mul_le_mul hsm (by omega)
   have hw' := hw
   unfold wD at hw'
   omega
  have hofB : Z5 N.Kids = some ((kK kk x a b 0 (tkL ks)).map tkT) := by rw [of_eq N.Kids hnw, ahx, n3.tk]
  obtain ⟨x0, rfl, hx0⟩ : ∃ x0 : UInt8, x = [x0] ∧ (x0 ≠ 44 ∧ x0 ≠ 60 ∧ x0 ≠ 62) := by
   simp only [List.mem_cons, List.not_mem_nil, or_false] at hxm
   rcases hxm with h | h | h
   ·exact ⟨98, h, by decide⟩
   ·exact ⟨105, h, by decide⟩
   ·exact ⟨122, h, by decide⟩
  rw [n1]
  simp only [Option.bind_some, bne_self_eq_false, Bool.false_eq_true, if_false]
  rw [if_neg (by simp; omega), hofA]
  simp only [Option.bind_some]
  rw [hofB]
  simp only [Option.bind_some]
  have hmp : Zk ⟨kk, (a : Int), (b : Int), [], [x0], []⟩ = some [] := by
   unfold Zk
   rw [Wn [] (by simp [zM])]
   simp only [Option.bind_some]
   rw [if_pos (by simp; omega)]
  rw [hmp]
  simp only [Option.bind_some]
  rw [qf hlenA, aoC _ _ _ a b rfl rfl ((tkL ks).map tkT) (fun i y hy => ?_)]
  ·simp only [Option.bind_some]
   rw [Zj (b + 1) fun k hk => asG ⟨kk, (a : Int), (b : Int), [], [x0], []⟩ (by simp only; omega) ((tkL ks).map tkT) ((kK kk [x0] a b 0 (tkL ks)).map tkT) b rfl (by omega) a (fun i hai hi => ?_) b a k (by omega) (by omega) hab (Nat.le_refl _)]
   ·rfl
   ·have hil : i < (tkL ks).length := by omega
    obtain ⟨t, ht⟩ : ∃ t, (tkL ks)[i]? = some t := ⟨_, List.getElem?_eq_getElem hil⟩
    have gA : ((tkL ks).map tkT)[i]? = some (tkT t) := by rw [List.getElem?_map, ht]; rfl
    have gB : ((kK kk [x0] a b 0 (tkL ks)).map tkT)[i]? = some (tkT (mkT kk [x0] a b i t)) := by
     rw [List.getElem?_map, aes, Nat.zero_add, ht]; rfl
    cases t with
    | opn k' a' => exact .inl ⟨_, gA, show (111 : Int) ≠ 116 by decide, gB⟩
    | cls => exact .inl ⟨_, gA, show (99 : Int) ≠ 116 by decide, gB⟩
    | sgn c m =>
     right
     rw [aaf, if_pos ⟨hai, hi⟩] at gB
     have hbm := hb' c m (List.mem_of_getElem? ht)
     have hms := aeI hbm
     refine ⟨_, _, gA, rfl, gB, rfl, ?_⟩
     have hsing : ∀ s ∈ m, ∃ y : UInt8, s = [y] := by
      intro s hs
      rcases hbm with rfl | rfl | rfl | rfl
      ·cases hs
      ·exact ⟨98, by simpa using hs⟩
      ·exact ⟨105, by simpa using hs⟩
      ·simp only [List.mem_cons, List.not_mem_nil, or_false] at hs
       rcases hs with h | h
       ·exact ⟨98, h⟩
       ·exact ⟨105, h⟩
     have hmem : (∀ y, y ∈ mkS kk [x0] m → y = [x0] ∨ y ∈ m) ∧ ([x0] ∈ mkS kk [x0] m ↔ kk = 109) := by
      rcases hkk with rfl | rfl
      ·obtain ⟨_, g2, _⟩ := asE hms hx
       exact ⟨fun y hy => (g2 y).1 hy, by simp [g2]⟩
      ·obtain ⟨_, g2, _⟩ := amZ (k := 117) (by decide) hms (x := [x0])
       exact ⟨fun y hy => .inr ((g2 y).1 hy).2, by simp [g2]⟩
     have hsing' : ∀ s ∈ mkS kk [x0] m, ∃ y : UInt8, s = [y] := by
      intro s hs
      rcases hmem.1 s hs with h | h
      ·exact ⟨x0, h⟩
      ·exact hsing s h
     have hmw := arC kk [x0] m
     have hmb := aho hbm
     have hlen : (tkT (.sgn c (mkS kk [x0] m))).Head.length ≤ 1099511627776 := by
      show (hd ⟨ve, [], mkS kk [x0] m, [], []⟩).length ≤ _
      have hj := join_le 44 (mkS kk [x0] m)
      have ht' : isT (⟨ve, [], mkS kk [x0] m, [], []⟩ : za) = true := by simp [isT]
      unfold hd
      rw [if_pos ht']
      simp only [List.length_cons, List.length_nil] at hmw
      split
      ·simp
      ·simp only [List.length_cons, List.length_append, List.length_nil]; omega
     rw [has_eq _ x0 hlen, Option.some.injEq]
     have e1 : (x0 ∈ (tkT (.sgn c (mkS kk [x0] m))).Head) ↔ kk = 109 := (avo x0 hx0.1 hx0.2.1 hx0.2.2 hsing').trans hmem.2
     simp only
     by_cases h9 : kk = 109
     ·rw [decide_eq_true (e1.2 h9)]; simp [h9]
     ·rw [decide_eq_false (fun h => h9 (e1.1 h))]; simp [h9]
  ·have hil := (List.getElem?_eq_some_iff.1 hy).1
   rw [List.length_map] at hil
   by_cases hin : a ≤ i ∧ i < b
   ·exact .inl hin
   ·right
    refine ⟨i, aqH _ _ (by omega), ?_⟩
    rw [List.getElem?_map] at hy ⊢
    rw [aes, Nat.zero_add]
    obtain ⟨t, ht⟩ : ∃ t, (tkL ks)[i]? = some t := ⟨_, List.getElem?_eq_getElem hil⟩
    rw [ht] at hy ⊢
    simp only [Option.map_some, Option.some.injEq] at hy ⊢
    rw [← hy]
    cases t with
    | sgn c m => rw [aaf, if_neg hin]
    | opn k' a' => rfl
    | cls => rfl
end Go.Proofs.YtclohbgnaopjfaaGreatDoor
