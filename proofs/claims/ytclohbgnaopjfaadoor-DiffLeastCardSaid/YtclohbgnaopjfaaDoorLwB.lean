/- Texts of the proof of diffLeastCard -/
import Derived.Test.YtclohbgnaopjfaaDoorLwA
namespace Go.Proofs.YtclohbgnaopjfaaDoor
set_option linter.unusedSimpArgs false
set_option linter.unusedVariables false
open Go
theorem ajg (f : za → Option Int) : ∀ (l : List za) (i : Int) (d : Nat), (∀ k ∈ l, f k = some (yx k : Int)) → qR f l i (d : Int) = some ((max d (wE l) : Nat) : Int)
 | [], i, d, _ => by simp [qR, wE]
 | n :: l, i, d, h => by
  rw [qR, h n (by simp)]
  simp only [Option.bind_some]
  have e : (if (yx n : Int) > (d : Int) then (yx n : Int) else (d : Int)) = ((max d (yx n) : Nat) : Int) := by split <;> omega
  rw [e, ajg f l _ _ fun k hk => h k (by simp [hk])]
  simp only [wE, Option.some.injEq]
  omega
theorem arW (n : za) : nwt n ≤ 1099511627776 → ∀ kr, yV n ≤ kr → qJ kr n = some (yx n : Int) := by
 induction n using za.ind with
 | h n ih =>
  intro hw kr hk
  have hd := xY n
  obtain ⟨kr, rfl⟩ : ∃ j, kr = j + 1 := ⟨kr - 1, by omega⟩
  have hwt := qI n
  have hl := qy n.Kids
  have hdl := aoQ n
  have hdw := ao5 n
  have en : (n.Kind == ([116, 101, 120, 116] : Str)) = isT n := rfl
  rw [qJ, en]
  by_cases ht : isT n = true
  ·simp [ht, QJ n]
  ·have e := QJ n
   rw [if_neg ht] at e
   simp only [ht, Bool.false_eq_true, if_false]
   have h0 := ajg (qJ kr) n.Kids 0 0 (fun k hkk => ih k hkk (by have := jI hkk; omega) kr (by have := yB hkk; omega))
   have h0' : qR (qJ kr) n.Kids 0 0 = _ := h0
   rw [wz (by omega), h0']
   simp only [Option.bind_some, Nat.zero_max]
   rw [qd (by omega), e]
   rfl
theorem aiv (n : za) (h : nwt n ≤ 1099511627776) : ja n = some (yx n : Int) := by
 unfold ja
 exact ZR (yV n) fun kr hk => arW n h kr hk
end Go.Proofs.YtclohbgnaopjfaaDoor
namespace Go.Proofs.YtclohbgnaopjfaaDoor
set_option linter.unusedSimpArgs false
set_option linter.unusedVariables false
open Go
theorem anI (x : Int) : -9223372036854775808 ≤ w64 x ∧ w64 x ≤ 9223372036854775807 := by
 show -9223372036854775808 ≤ IntKind.wrap .i64 x ∧ IntKind.wrap .i64 x ≤ 9223372036854775807
 rw [IntKind.wrap_i64]; omega
theorem ajT {α : Type} (l : List α) (p : Nat) (h : p < l.length) : ∃ x, rd l (p : Int) = some x ∧ x ∈ l := ⟨l[p], xg (List.getElem?_eq_getElem h), List.getElem_mem h⟩
abbrev ann : List Str := [[97], [98, 99], [195, 169], [120, 32, 121], [230, 151, 165, 230, 156, 172]]
abbrev afO : List Str := [[108, 101, 102, 116], [114, 105, 103, 104, 116]]
abbrev akH : List Str := [[], [195, 169], [34, 113, 92], [110, 111, 116, 101]]
abbrev Y9 : Str := [97, 108, 105, 103, 110]
abbrev aeJ : Str := [110, 111, 116, 101]
abbrev auy : Str := [112, 97, 114, 97]
abbrev aeW : Str := [105, 116, 101, 109]
abbrev aiQ : Str := [108, 105, 115, 116]
theorem asX {t : Str} (h : t ∈ ann) : t ≠ [] ∧ Lib.validD t = true ∧ t.length ≤ 6 := by
 simp only [ann, List.mem_cons, List.not_mem_nil, or_false] at h
 rcases h with rfl | rfl | rfl | rfl | rfl <;> refine ⟨by simp, by decide +kernel, by simp⟩
theorem ap5 {v w : Str} (hv : v ∈ afO) (hw : w ∈ akH) : ([⟨Y9, v⟩, ⟨aeJ, w⟩] : List ze).all (fun x => isValue x.Value) = true ∧ Z6 (([⟨Y9, v⟩, ⟨aeJ, w⟩] : List ze).map (·.Name)) = true ∧ wR [⟨Y9, v⟩, ⟨aeJ, w⟩] ≤ 20 := by
 refine ⟨?_, ?_, ?_⟩
 ·have h1 : isValue v = true := by
   simp only [afO, List.mem_cons, List.not_mem_nil, or_false] at hv
   rcases hv with rfl | rfl <;> decide +kernel
  have h2 : isValue w = true := by
   simp only [akH, List.mem_cons, List.not_mem_nil, or_false] at hw
   rcases hw with rfl | rfl | rfl | rfl <;> decide +kernel
  simp [h1, h2]
 ·show Z6 [Y9, aeJ] = true
  decide +kernel
 ·simp only [afO, akH, List.mem_cons, List.not_mem_nil, or_false] at hv hw
  rcases hv with rfl | rfl <;> rcases hw with rfl | rfl | rfl | rfl <;> simp [wR]
theorem JL (c n : Int) (hc : -9223372036854775808 ≤ c ∧ c ≤ 9223372036854775807) (hn : 0 < n) : ∃ p : Nat, zZ c n = some (p : Int) ∧ (p : Int) < n := by
 have key : ∀ x : Int, 0 ≤ x → ∃ p : Nat, x.tmod n = (p : Int) ∧ (p : Int) < n := by
  intro x hx
  obtain ⟨p, hp⟩ := Int.eq_ofNat_of_zero_le (Int.tmod_nonneg n hx)
  exact ⟨p, hp, hp ▸ Int.tmod_lt_of_pos x hn⟩
 unfold zZ
 by_cases h : c < 0
 ·obtain ⟨p, h1, h2⟩ := key (0 - (c + 1)) (by omega)
  refine ⟨p, ?_, h2⟩
  simp only [h, decide_true, if_true]
  rw [wz (by omega), qd (x := c + 1) (by omega), qd (by omega), h1]
 ·obtain ⟨p, h1, h2⟩ := key c (by omega)
  refine ⟨p, ?_, h2⟩
  simp only [h, decide_false, Bool.false_eq_true, if_false]
  rw [wz (by omega), h1]
def adB (y : zu) : Prop := (-9223372036854775808 ≤ y.Text ∧ y.Text ≤ 9223372036854775807) ∧ (-9223372036854775808 ≤ y.Marks ∧ y.Marks ≤ 9223372036854775807) ∧ (-9223372036854775808 ≤ y.zh ∧ y.zh ≤ 9223372036854775807) ∧ (-9223372036854775808 ≤ y.In ∧ y.In ≤ 9223372036854775807)
structure BkS (i : Nat) (ts o : List za) : Prop where
 tb : ∀ x ∈ ts, BN x
 tt : ∀ x ∈ ts, isT x = true
 ob : ∀ x ∈ o, BN x
 ont : ∀ x ∈ o, isT x = false
 wt : zR ts + zR o ≤ 60 * i
 dep : wE o ≤ 31
theorem afa : ∀ (l : List za), (∀ x ∈ l, isT x = true) → wE l = 0
 | [], _ => by simp [wE]
 | n :: l, h => by
  rw [wE, QJ, if_pos (h n (by simp)), afa l fun x hx => h x (by simp [hx])]
  rfl
theorem aae {n : za} (h : isT n = false) : yx n = wE n.Kids + 1 := by rw [QJ, h]; rfl
theorem as8 (y : zu) (hy : adB y) (i : Nat) (hi : i ≤ 41) (ts o : List za) (h : BkS i ts o) : ∃ p, jb y ts = some p ∧ BN p ∧ isT p = false ∧ nwt p ≤ 26 + zR ts ∧ yx p ≤ 1 := by
 obtain ⟨hT, hM, hA, hI⟩ := hy
 have hwt := h.wt
 have hjw := ahO ts
 have hjd := anR ts
 rw [afa ts h.tt] at hjd
 obtain ⟨hjb, hja⟩ := av3 ts h.tb
 obtain ⟨p1, e1, b1⟩ := JL y.zh 2 hA (by omega)
 obtain ⟨v, ev, mv⟩ := ajT afO p1 (by simp; omega)
 obtain ⟨p2, e2, b2⟩ := JL (w64 (y.zh.tdiv 2)) 4 (anI _) (by omega)
 obtain ⟨w, ew, mw⟩ := ajT akH p2 (by simp; omega)
 obtain ⟨a1, a2, a3⟩ := ap5 mv mw
 have ht : isT (⟨auy, [], [], [⟨Y9, v⟩, ⟨aeJ, w⟩], yY ts⟩ : za) = false := rfl
 refine ⟨⟨auy, [], [], [⟨Y9, v⟩, ⟨aeJ, w⟩], yY ts⟩, ?_, .node _ _ _ (by decide +kernel) a1 a2 hjb hja, ht, ?_, ?_⟩
 ·unfold jb
  rw [e1]
  simp only [Option.bind_some, ev]
  rw [e2]
  simp only [Option.bind_some, ew]
  rw [join_eq ts (by omega)]
  rfl
 ·rw [qI]
  simp only [xK, List.length_cons, List.length_nil]
  omega
 ·rw [aae ht]
  simp only
  omega
theorem afQ {k : Str} {ks : List za} (hk : isName k = true) (hl : k.length = 4) (h : ∀ x ∈ ks, BN x) (hn : ∀ x ∈ ks, isT x = false) : BN ⟨k, [], [], [], ks⟩ ∧ isT ⟨k, [], [], [], ks⟩ = false ∧ nwt ⟨k, [], [], [], ks⟩ = 6 + zR ks ∧ yx ⟨k, [], [], [], ks⟩ = wE ks + 1 := by
 have ht : isT (⟨k, [], [], [], ks⟩ : za) = false := acF hk
 refine ⟨.node _ _ _ hk rfl (by decide +kernel) h (anN ks hn), ht, ?_, aae ht⟩
 rw [qI]
 simp only [xK, wR, List.length_nil]
 omega
theorem ajk : isName aeW = true := by decide +kernel
theorem ai3 : isName aiQ = true := by decide +kernel
theorem BkS.put {i : Nat} {ts o ts' o' : List za} (h : BkS i ts o) {p : za} (hp : BN p) (ht : isT p = false) (hb : ∀ x ∈ ts', BN x) (htt : ∀ x ∈ ts', isT x = true) (ho : ∀ x ∈ o', x ∈ o) (hw : zR ts' + zR o' + nwt p ≤ 60 * (i + 1)) (hd : yx p ≤ 31) : BkS (i + 1) ts' (o' ++ [p]) := by
 have hdo : ∀ l : List za, (∀ x ∈ l, x ∈ o) → wE l ≤ 31 := by
  intro l
  induction l with
  | nil => simp [wE]
  | cons x l ih =>
   intro hx
   have h1 := ih fun y hy => hx y (by simp [hy])
   have h2 : ∀ r : List za, x ∈ r → yx x ≤ wE r := by
    intro r
    induction r with
    | nil => simp
    | cons z r ih =>
     intro hr
     rw [wE]
     rcases List.mem_cons.1 hr with rfl | hr
     ·omega
     ·have := ih hr; omega
   have h3 := h2 o (hx x (by simp))
   have := h.dep
   rw [wE]
   omega
 refine ⟨hb, htt, fun x hx => ?_, fun x hx => ?_, ?_, ?_⟩
 ·rcases List.mem_append.1 hx with hx | hx
  ·exact h.ob x (ho x hx)
  ·simp at hx; rw [hx]; exact hp
 ·rcases List.mem_append.1 hx with hx | hx
  ·exact h.ont x (ho x hx)
  ·simp at hx; rw [hx]; exact ht
 ·simp only [kN, zR]; omega
 ·have := hdo o' ho
  simp only [JS, wE]
  omega
theorem ars (y : zu) (hy : adB y) (i : Nat) (hi : i < 40) (ts o : List za) (h : BkS i ts o) : ∃ ts' o', BkS (i + 1) ts' o' ∧ ∀ suf, zF (y :: suf) (i : Int) ts o = zF suf ((i : Int) + 1) ts' o' := by
 have hy' := hy
 obtain ⟨hT, hM, hA, hI⟩ := hy
 have hwt := h.wt
 have hlo := qy o
 have hlt := qy ts
 obtain ⟨pT, eT, bT⟩ := JL y.Text 5 hT (by omega)
 obtain ⟨tx, et, mt⟩ := ajT ann pT (by simp; omega)
 obtain ⟨pM, eM, bM⟩ := JL y.Marks 4 hM (by omega)
 obtain ⟨pI, eI, bI⟩ := JL y.In 5 hI (by omega)
 obtain ⟨t1, t2, t3⟩ := asX mt
 have hi' : decide ((i : Int) < 40) = true := by simp; omega
 obtain ⟨m1, em1, hm1⟩ : ∃ m, ((zZ y.Marks (4 : Int)).bind fun abZ => if ((aiw abZ (1 : Int)) == (1 : Int)) = true then (app 16 ([] : List Str) [([98] : Str)]).bind fun am1 => some am1 else some ([] : List Str)) = some m ∧ (m = [] ∨ m = [[98]]) := by
  rw [eM]
  simp only [Option.bind_some]
  split
  ·exact ⟨[[98]], by rw [ko (by simp)]; rfl, .inr rfl⟩
  ·exact ⟨[], rfl, .inl rfl⟩
 obtain ⟨m2, em2, hm2⟩ : ∃ m, ((zZ y.Marks (4 : Int)).bind fun acC => if ((aiw acC (2 : Int)) == (2 : Int)) = true then (app 16 m1 [([105] : Str)]).bind fun atU => some atU else some m1) = some m ∧ Xe m := by
  rw [eM]
  simp only [Option.bind_some]
  rcases hm1 with rfl | rfl
  ·split
   ·exact ⟨[[105]], by rw [ko (by simp)]; rfl, .inr (.inr (.inl rfl))⟩
   ·exact ⟨[], rfl, .inl rfl⟩
  ·split
   ·exact ⟨[[98], [105]], by rw [ko (by simp)]; rfl, .inr (.inr (.inr rfl))⟩
   ·exact ⟨[[98]], rfl, .inr (.inl rfl)⟩
 have hmw := amL hm2
 obtain ⟨n, hn⟩ : ∃ n : za, n = ⟨jK, tx, m2, [], []⟩ := ⟨_, rfl⟩
 have hnB : BN n := by rw [hn]; exact .text _ _ t1 t2 hm2
 have hnT : isT n = true := by rw [hn]; rfl
 have hnW : nwt n ≤ 16 := by rw [hn, qI]; simp only [wR, zR, List.length_cons, List.length_nil]; omega
 have hts : BkS i (ts ++ [n]) o → True := fun _ => trivial
 have start : ∀ suf, zF (y :: suf) (i : Int) ts o = (
   if ((pI : Int) == (0 : Int)) = true then
    zF suf ((i : Int) + 1) (ts ++ [n]) o
   else
    (jb y (ts ++ [n])).bind fun xx =>
    if (decide ((pI : Int) < (3 : Int))) = true then
     (app 104 o [xx]).bind fun atd =>
     zF suf ((i : Int) + 1) ([] : List za) atd
    else
     ((
       if (decide ((w64 ((o.length : Int) - (1 : Int))) ≥ (0 : Int))) = true then
        (rd o (w64 ((o.length : Int) - (1 : Int)))).bind fun ajX =>
        if (ajX.Kind == ([108, 105, 115, 116] : Str)) = true then
         if ((pI : Int) == (3 : Int)) = true then
          (app 104 ([] : List za) ajX.Kids).bind fun am5 =>
          (app 104 am5 [({ Kind := ([105, 116, 101, 109] : Str), Text := ([] : Str), Marks := [], zh := [], Kids := [xx] } : za)]).bind fun ati =>
          (sl o (0 : Int) (w64 ((o.length : Int) - (1 : Int)))).bind fun aue =>
          (app 104 ([] : List za) aue).bind fun atq =>
          (app 104 atq [{ ajX with Kids := ati }]).bind fun atn =>
          some (.inl atn)
         else
          some (.inr ())
        else
         some (.inr ())
       else
        some (.inr ())) : Option ((List za) ⊕ Unit)).bind fun e => match e with
     | .inl alf =>
      zF suf ((i : Int) + 1) ([] : List za) alf
     | .inr _ =>
      if (decide ((w64 ((o.length : Int) - (1 : Int))) ≥ (0 : Int))) = true then
       (rd o (w64 ((o.length : Int) - (1 : Int)))).bind fun akR =>
       if (akR.Kind == ([108, 105, 115, 116] : Str)) = true then
        (ja akR).bind fun YF =>
        if (decide (YF < (30 : Int))) = true then
         (app 104 [xx] [akR]).bind fun atG =>
         (sl o (0 : Int) (w64 ((o.length : Int) - (1 : Int)))).bind fun at1 =>
         (app 104 ([] : List za) at1).bind fun aum =>
         (app 104 aum [({ Kind := ([108, 105, 115, 116] : Str), Text := ([] : Str), Marks := [], zh := [], Kids := [({ Kind := ([105, 116, 101, 109] : Str), Text := ([] : Str), Marks := [], zh := [], Kids := atG } : za)] } : za)]).bind fun atv =>
         zF suf ((i : Int) + 1) ([] : List za) atv
        else
         (app 104 o [({ Kind := ([108, 105, 115, 116] : Str), Text := ([] : Str), Marks := [], zh := [], Kids := [({ Kind := ([105, 116, 101, 109] : Str), Text := ([] : Str), Marks := [], zh := [], Kids := [xx] } : za)] } : za)]).bind fun aui =>
         zF suf ((i : Int) + 1) ([] : List za) aui
       else
        (app 104 o [({ Kind := ([108, 105, 115, 116] : Str), Text := ([] : Str), Marks := [], zh := [], Kids := [({ Kind := ([105, 116, 101, 109] : Str), Text := ([] : Str), Marks := [], zh := [], Kids := [xx] } : za)] } : za)]).bind fun atI =>
        zF suf ((i : Int) + 1) ([] : List za) atI
      else
       (app 104 o [({ Kind := ([108, 105, 115, 116] : Str), Text := ([] : Str), Marks := [], zh := [], Kids := [({ Kind := ([105, 116, 101, 109] : Str), Text := ([] : Str), Marks := [], zh := [], Kids := [xx] } : za)] } : za)]).bind fun aua =>
       zF suf ((i : Int) + 1) ([] : List za) aua) := fun suf => by
  rw [zF, if_pos hi', eT]
  simp only [Option.bind_some]
  rw [et]
  simp only [Option.bind_some]
  rw [em1]
  simp only [Option.bind_some]
  rw [em2]
  simp only [Option.bind_some]
  rw [← hn, ko (by simp only [List.length_cons, List.length_nil]; omega)]
  simp only [Option.bind_some]
  rw [eI]
  rfl
 have htb : ∀ x ∈ ts ++ [n], BN x := fun x hx => by
  rcases List.mem_append.1 hx with hx | hx
  ·exact h.tb x hx
  ·simp at hx; rw [hx]; exact hnB
 have htt : ∀ x ∈ ts ++ [n], isT x = true := fun x hx => by
  rcases List.mem_append.1 hx with hx | hx
  ·exact h.tt x hx
  ·simp at hx; rw [hx]; exact hnT
 have hwn : zR (ts ++ [n]) = zR ts + nwt n := by simp [kN, zR]
 by_cases k0 : (pI : Int) = 0
 ·refine ⟨ts ++ [n], o, ⟨htb, htt, h.ob, h.ont, by omega, h.dep⟩, fun suf => ?_⟩
  rw [start, if_pos (by simp [k0])]
 ·obtain ⟨p, ep, hpB, hpT, hpW, hpD⟩ := @as8 y hy' (i + 1) (by omega) (ts ++ [n]) o ⟨htb, htt, h.ob, h.ont, by omega, h.dep⟩
  have nob : ∀ x ∈ ([] : List za), BN x := by simp
  have nott : ∀ x ∈ ([] : List za), isT x = true := by simp
  by_cases k3 : (pI : Int) < 3
  ·refine ⟨[], o ++ [p], h.put hpB hpT nob nott (fun x hx => hx) (by simp only [zR]; omega) (by omega), fun suf => ?_⟩
   rw [start, if_neg (by simp; omega), ep]
   simp only [Option.bind_some]
   rw [if_pos (by simp; omega), ko (by simp only [List.length_cons, List.length_nil]; omega)]
   rfl
  ·obtain ⟨q1, q2, q3, q4⟩ := afQ (k := aeW) (ks := [p]) ajk rfl (by simpa using hpB) (by simpa using hpT)
   obtain ⟨r1, r2, r3, r4⟩ := afQ (k := aiQ) (ks := [⟨aeW, [], [], [], [p]⟩]) ai3 rfl (by simpa using q1) (by simpa using q2)
   simp only [zR, wE] at q3 q4 r3 r4
   have one : BkS (i + 1) [] (o ++ [⟨aiQ, [], [], [], [⟨aeW, [], [], [], [p]⟩]⟩]) := h.put r1 r2 nob nott (fun x hx => hx) (by simp only [zR]; omega) (by omega)
   have happ : ∀ z : za, app 104 o [z] = some (o ++ [z]) := fun z => ko (by simp only [List.length_cons, List.length_nil]; omega)
   rcases vC o with rfl | ⟨o, x, rfl⟩
   ·refine ⟨[], _, one, fun suf => ?_⟩
    have hl : decide (w64 ((([] : List za).length : Int) - 1) ≥ 0) = false := by rw [qd (by simp)]; simp
    rw [start, if_neg (by simp; omega), ep]
    simp only [Option.bind_some]
    rw [if_neg (by simp; omega), hl]
    simp only [Bool.false_eq_true, if_false, Option.bind_some]
    rw [happ]
    rfl
   ·have hlen : ((o ++ [x]).length : Int) - 1 = (o.length : Int) := by simp
    have hlw : w64 (((o ++ [x]).length : Int) - 1) = (o.length : Int) := by
     rw [hlen]
     simp only [List.length_append, List.length_cons, List.length_nil] at hlo
     exact qd (by omega)
    have hl : decide ((o.length : Int) ≥ 0) = true := by simp
    have hrd : rd (o ++ [x]) (o.length : Int) = some x := Vf o [] x
    have hsl : sl (o ++ [x]) 0 (o.length : Int) = some o := ash o [x]
    have hxB := h.ob x (by simp)
    have hxT := h.ont x (by simp)
    have hd := h.dep
    simp only [kN, zR, JS, wE] at hwt hd
    have hwo : 2 * o.length ≤ zR o := qy o
    by_cases kl : x.Kind = aiQ
    ·by_cases kk : (pI : Int) = 3
     ·obtain ⟨kB, kJ⟩ := aoS hxB
      have hlk := qy x.Kids
      have hxw := qI x
      obtain ⟨z, hz⟩ : ∃ z : za, z = { x with Kids := x.Kids ++ [⟨aeW, [], [], [], [p]⟩] } := ⟨_, rfl⟩
      have zw := qI z
      have zT : isT z = false := by rw [hz]; exact hxT
      have zd := aae zT
      have xd := aae hxT
      have zB : BN z := by
       rw [hz]
       cases hxB with
       | text t m h1 h2 hm => cases kl
       | node k a ks hk ha hb hs hj =>
        simp only at kl
        subst kl
        refine .node _ _ _ hk ha hb (fun y hy => ?_) ?_
        ·rcases List.mem_append.1 hy with hy | hy
         ·exact hs y hy
         ·simp at hy; rw [hy]; exact q1
        ·rcases vC ks with rfl | ⟨ks, u, rfl⟩
         ·trivial
         ·rw [List.append_assoc]
          exact ahs ks u _ hj (by unfold wC; rw [q2]; simp)
      rw [hz] at zw zd
      simp only [kN, zR, JS, wE] at zw zd
      refine ⟨[], o ++ [z], h.put zB zT nob nott (fun y hy => by simp [hy]) (by simp only [zR]; rw [hz, qI]; simp only [kN, zR]; omega) (by rw [hz, zd]; omega), fun suf => ?_⟩
      rw [start, if_neg (by simp; omega), ep]
      simp only [Option.bind_some]
      rw [if_neg (by simp; omega), hlw, hl]
      simp only [if_true]
      rw [hrd]
      simp only [Option.bind_some]
      rw [if_pos (by rw [kl]; rfl), if_pos (by simp [kk]), ko (by simp only [List.length_nil]; omega)]
      simp only [Option.bind_some, List.nil_append]
      rw [ko (by simp only [List.length_cons, List.length_nil]; omega)]
      simp only [Option.bind_some]
      rw [hsl]
      simp only [Option.bind_some]
      rw [ko (by simp only [List.length_nil]; omega)]
      simp only [Option.bind_some, List.nil_append]
      rw [ko (by simp only [List.length_cons, List.length_nil]; omega)]
      simp only [Option.bind_some]
      rw [hz]
     ·by_cases kd : yx x < 30
      ·obtain ⟨u1, u2, u3, u4⟩ := afQ (k := aeW) (ks := [p, x]) ajk rfl (by simpa using ⟨hpB, hxB⟩) (by simpa using ⟨hpT, hxT⟩)
       obtain ⟨v1, v2, v3, v4⟩ := afQ (k := aiQ) (ks := [⟨aeW, [], [], [], [p, x]⟩]) ai3 rfl (by simpa using u1) (by simpa using u2)
       simp only [zR, wE] at u3 u4 v3 v4
       refine ⟨[], o ++ [⟨aiQ, [], [], [], [⟨aeW, [], [], [], [p, x]⟩]⟩], h.put v1 v2 nob nott (fun y hy => by simp [hy]) (by simp only [zR]; omega) (by omega), fun suf => ?_⟩
       rw [start, if_neg (by simp; omega), ep]
       simp only [Option.bind_some]
       rw [if_neg (by simp; omega), hlw, hl]
       simp only [if_true]
       rw [hrd]
       simp only [Option.bind_some]
       rw [if_pos (by rw [kl]; rfl), if_neg (by simp [kk])]
       simp only [Option.bind_some]
       rw [if_pos (by rw [kl]; rfl), aiv x (by omega)]
       simp only [Option.bind_some]
       rw [if_pos (by simp; omega), ko (by simp)]
       simp only [Option.bind_some]
       rw [hsl]
       simp only [Option.bind_some]
       rw [ko (by simp only [List.length_nil]; omega)]
       simp only [Option.bind_some, List.nil_append]
       rw [ko (by simp only [List.length_cons, List.length_nil]; omega)]
       rfl
      ·refine ⟨[], _, one, fun suf => ?_⟩
       rw [start, if_neg (by simp; omega), ep]
       simp only [Option.bind_some]
       rw [if_neg (by simp; omega), hlw, hl]
       simp only [if_true]
       rw [hrd]
       simp only [Option.bind_some]
       rw [if_pos (by rw [kl]; rfl), if_neg (by simp [kk])]
       simp only [Option.bind_some]
       rw [if_pos (by rw [kl]; rfl), aiv x (by omega)]
       simp only [Option.bind_some]
       rw [if_neg (by simp; omega), happ]
       rfl
    ·refine ⟨[], _, one, fun suf => ?_⟩
     rw [start, if_neg (by simp; omega), ep]
     simp only [Option.bind_some]
     rw [if_neg (by simp; omega), hlw, hl]
     simp only [if_true]
     rw [hrd]
     simp only [Option.bind_some]
     rw [if_neg (by simpa using kl)]
     simp only [Option.bind_some]
     rw [if_neg (by simpa using kl), happ]
     rfl
theorem aq7 : ∀ (l : List zu) (i : Nat) (ts o : List za), (∀ y ∈ l, adB y) → i ≤ 40 → BkS i ts o → ∃ ts' o', zF l (i : Int) ts o = some o' ∧ BkS 40 ts' o'
 | [], i, ts, o, _, hi, h => ⟨ts, o, by simp [zF], h.tb, h.tt, h.ob, h.ont, by have := h.wt; omega, h.dep⟩
 | y :: l, i, ts, o, hy, hi, h => by
  by_cases hlt : i < 40
  ·obtain ⟨t1, o1, h1, h2⟩ := ars y (hy y (by simp)) i hlt ts o h
   obtain ⟨ts', o', h3, h4⟩ := aq7 l (i + 1) t1 o1 (fun x hx => hy x (by simp [hx])) (by omega) h1
   refine ⟨ts', o', ?_, h4⟩
   rw [h2, ← h3]
   rfl
  ·have : decide ((i : Int) < 40) = false := by simp; omega
   exact ⟨ts, o, by rw [zF]; simp [this], h.tb, h.tt, h.ob, h.ont, by have := h.wt; omega, h.dep⟩
theorem atN (l : List zu) (hl : l.length ≤ 9223372036854775807) (h : ∀ y ∈ l, adB y) : ∃ ks, xH l = some ⟨apu, [], [], [], ks⟩ ∧ Book ks := by
 obtain ⟨ts, o, h1, h2⟩ := aq7 l 0 [] [] h (by omega) ⟨by simp, by simp, by simp, by simp, by simp [zR], by simp [wE]⟩
 have hw := h2.wt
 refine ⟨o, ?_, h2.ob, h2.ont, by omega, h2.dep⟩
 unfold xH
 rw [wz hl]
 have : zF l 0 [] [] = some o := h1
 rw [this]
 rfl
end Go.Proofs.YtclohbgnaopjfaaDoor
namespace Go.Proofs.YtclohbgnaopjfaaDoor
set_option linter.unusedSimpArgs false
set_option linter.unusedVariables false
open Go Classical
theorem aqp {ks : List za} (h : Book ks) (c : Int) (hc : -9223372036854775808 ≤ c ∧ c ≤ 9223372036854775807) : ∃ p : Nat, zZ c (w64 ((zC ks : Int) + 1)) = some (p : Int) ∧ p ≤ zC ks := by
 have hw := h.wt
 have hs := kK ks
 rw [qd (by omega)]
 obtain ⟨p, h1, h2⟩ := JL c ((zC ks : Int) + 1) hc (by omega)
 exact ⟨p, h1, by omega⟩
end Go.Proofs.YtclohbgnaopjfaaDoor
namespace Go.Proofs.YtclohbgnaopjfaaDoor
set_option linter.unusedSimpArgs false
set_option linter.unusedVariables false
open Go Classical
set_option maxRecDepth 100000
theorem aon : ∀ l : List za, cH l l = l.length
 | [] => rfl
 | x :: l => by simp [cH, aon l]
theorem asH : ∀ (A : List za) (x y : za) (B C : List za), x ≠ y → cH (A ++ x :: B) (A ++ y :: C) = A.length
 | [], x, y, B, C, h => by simp [cH, h]
 | a :: A, x, y, B, C, h => by
  have := asH A x y B C h
  simp [cH, this]
theorem auj {n n' : za} {i : Nat} {k k' : za} (hi : n.Kids[i]? = some k) (hn : n'.Kids = n.Kids.set i k') (hk : k ≠ k') : dh n n' = i ∧ dm n n' = 1 ∧ dn n n' = 1 := by
 have hl := (List.getElem?_eq_some_iff.1 hi).1
 have e1 := K5 hi
 have e2 : n'.Kids = n.Kids.take i ++ k' :: n.Kids.drop (i + 1) := by rw [hn, List.set_eq_take_append_cons_drop, if_pos hl]
 have h1 : dh n n' = i := by
  unfold dh
  rw [e2]
  conv => lhs; arg 1; rw [e1]
  rw [asH _ _ _ _ _ hk]
  simp; omega
 have hlen : n'.Kids.length = n.Kids.length := by rw [hn]; simp
 have h2 : dt n n' = n.Kids.length - i - 1 := by
  unfold dt cT
  rw [h1]
  have : cH n.Kids.reverse n'.Kids.reverse = n.Kids.length - i - 1 := by
   rw [e2]
   conv => lhs; arg 1; rw [e1]
   rw [List.reverse_append, List.reverse_append, List.reverse_cons, List.reverse_cons, List.append_assoc, List.append_assoc, List.singleton_append, List.singleton_append, asH _ _ _ _ _ hk]
   simp; omega
  rw [this, hlen]
  omega
 refine ⟨h1, ?_, ?_⟩
 ·unfold dm; rw [h1, h2]; omega
 ·unfold dn; rw [h1, h2, hlen]; omega
theorem avx {x x' : za} (hne : x ≠ x') {n : za} {q m a} (h : At n q m a) : m = x → n ≠ jh q n x' := by
 induction h with
 | nil n => intro e; subst e; exact hne
 | cons n i k q m a hi hn hk h ih =>
  intro e hc
  rw [kW hi] at hc
  have hl := (List.getElem?_eq_some_iff.1 hi).1
  have h1 := congrArg za.Kids hc
  simp only at h1
  have h2 : n.Kids[i]? = (n.Kids.set i (jh q k x'))[i]? := by rw [← h1]
  rw [hi, List.getElem?_set_self hl] at h2
  exact ih e (Option.some.inj h2)
theorem asv {x : za} (h : isT x = false) : alD x x = true := by unfold alD; simp [h]
theorem alM {x x' : za} (hne : x ≠ x') (hal : alD x x' = true) (hst : ∀ s, Dif x x' s [] [(x, x', s)] x x' s) {n : za} {q m t} (h : At n q m t) : m = x → ∀ s, ∃ c, Dif n (jh q n x') s q c x x' (s + t) ∧ c.flatMap Y4 = Y4 (x, x', s + t) ∧ alD n (jh q n x') = true := by
 induction h with
 | nil n =>
  intro e s
  subst e
  exact ⟨_, hst s, by simp, hal⟩
 | cons n i k q m a hi hn hk h ih =>
  intro e s
  have hkne := avx hne h e
  have hset : (jh (i :: q) n x').Kids = n.Kids.set i (jh q k x') := by rw [kW hi]
  obtain ⟨d1, d2, d3⟩ := auj hi hset hkne
  have hl := (List.getElem?_eq_some_iff.1 hi).1
  obtain ⟨c, c1, c2, c3⟩ := ih e (s + zC (n.Kids.take i) + 1)
  have hat : (jh (i :: q) n x').Kind = n.Kind ∧ (jh (i :: q) n x').zh = n.zh := by rw [kW hi]; exact ⟨rfl, rfl⟩
  have D := Dif.go n (jh (i :: q) n x') s k (jh q k x') q c x x' _ d2 d3 (by rw [d1]; exact hi) (by rw [d1, hset, List.getElem?_set_self hl]) c3 (by rw [d1]; exact c1)
  have ee : s + zC (n.Kids.take i) + 1 + a = s + (zC (n.Kids.take i) + 1 + a) := by omega
  rw [ee, d1] at D
  rw [ee] at c2
  refine ⟨_, D, ?_, ?_⟩
  ·rw [List.flatMap_cons, c2]
   have : Y4 (n, jh (i :: q) n x', s) = [] := by
    unfold Y4
    simp only
    rw [hat.2, K3]
   rw [this, List.nil_append]
  ·unfold alD
   rw [hat.1, hat.2]
   simp [hn]
theorem alI (f : Int) (v : Str) : ∀ (l : List ze) (i : Nat) (a : ze), l[i]? = some a → Xo f l (xe l i v) = if v = a.Value then [] else [⟨97, f, 0, [], a.Name, v⟩]
 | [], i, a, h => by simp at h
 | x :: l, 0, a, h => by
  simp only [List.getElem?_cons_zero, Option.some.injEq] at h
  subst h
  rw [aaf (a := x) rfl, List.set_cons_zero, Xo]
  by_cases e : v = x.Value
  ·rw [if_pos (by simp [e]), if_pos e, K3]
  ·rw [if_neg (by simpa using e), if_neg e, K3]
 | x :: l, i + 1, a, h => by
  have h' : l[i]? = some a := by simpa using h
  rw [aaf (a := a) (by simpa using h'), List.set_cons_succ, Xo, if_pos (by simp), ← aaf h', alI f v l i a h']
theorem atr {x : za} {i : Nat} {a : ze} {v : Str} (hi : x.zh[i]? = some a) (hv : v ≠ a.Value) : x ≠ { x with zh := xe x.zh i v } := by
 intro e
 have h1 := congrArg za.zh e
 simp only at h1
 have h2 : x.zh[i]? = (xe x.zh i v)[i]? := by rw [← h1]
 rw [Yt, if_pos rfl, hi] at h2
 simp only [Option.map_some, Option.some.injEq] at h2
 have := congrArg ze.Value h2
 exact hv this.symm
theorem aqF {n : za} {q m a} (h : At n q m a) : jh q n m = n := by
 induction h with
 | nil n => rfl
 | cons n i k q m a hi hn hk h ih =>
  rw [kW hi, ih]
  obtain ⟨hl, he⟩ := List.getElem?_eq_some_iff.1 hi
  have : n.Kids.set i k = n.Kids := by rw [← he, List.set_getElem_self]
  rw [this]
  exact alr n
theorem ad3 {x x' : za} (h : x'.Kids = x.Kids) : dh x x' = x.Kids.length ∧ dm x x' = 0 ∧ dn x x' = 0 := by
 have h1 : dh x x' = x.Kids.length := by unfold dh; rw [h, aon]
 refine ⟨h1, ?_, ?_⟩
 ·unfold dm; rw [h1]; omega
 ·unfold dn; rw [h1, h]; omega
theorem ap0 {n : za} {T : List Tk} (h : TD n T) (hw : wD n T ≤ 40000) {q : List Nat} {x : za} {p : Nat} (hat : At n q x (p + 1)) (ht : isT x = false) {i : Nat} {a : ze} (hi : x.zh[i]? = some a) {v : Str} (hv : isValue v = true) {N : za} {T' : List Tk} (hN : TD N T') (hwN : wD N T' ≤ 50000) (eN : N = jh q n { x with zh := xe x.zh i v }) :
  xQ n N = some (if v = a.Value then [] else [⟨97, (p : Int), 0, [], a.Name, v⟩], 0) := by
 have w1 := h.wt
 have w2 := hN.wt
 have hal : alD x { x with zh := xe x.zh i v } = true := by
  unfold alD
  simp only
  rw [abE]
  simp [ht]
 obtain ⟨k1, k2, k3⟩ := ad3 (x := x) (x' := { x with zh := xe x.zh i v }) rfl
 have hrep : ∀ e, ams x { x with zh := xe x.zh i v } e = [] := fun e => if_pos (by omega)
 by_cases hva : v = a.Value
 ·rw [if_pos hva]
  have he : ({ x with zh := xe x.zh i v } : za) = x := by
   have : xe x.zh i v = x.zh := by
    refine List.ext_getElem? fun j => ?_
    rw [Yt]
    by_cases e : j = i
    ·subst e; rw [if_pos rfl, hi, hva]; rfl
    ·rw [if_neg e]
   rw [this]
   exact alr x
  rw [he, aqF hat] at eN
  have eN' := eN.symm
  subst eN'
  obtain ⟨q', c, m, m', e, D⟩ := aqU (yV n) n n 0 (Nat.le_refl _)
  rw [XE D h.ok h.ok (asv h.nt) (by omega) (by omega)]
  cases D with
  | stop _ _ _ h3 =>
   obtain ⟨_, z1, z2⟩ := ad3 (x := n) (x' := n) rfl
   have : ams n n 0 = [] := if_pos (by omega)
   rw [this]
   simp only [List.flatMap_cons, List.flatMap_nil, List.append_nil, Y4]
   rw [K3]
  | go _ _ _ x y q c m m' e h1 =>
   obtain ⟨_, z1, z2⟩ := ad3 (x := n) (x' := n) rfl
   omega
 ·rw [if_neg hva]
  have hst : ∀ s, Dif x { x with zh := xe x.zh i v } s [] [(x, { x with zh := xe x.zh i v }, s)] x { x with zh := xe x.zh i v } s := fun s => .stop _ _ _ fun h => by omega
  obtain ⟨c, c1, c2, c3⟩ := alM (atr hi hva) hal hst hat rfl 0
  rw [← eN] at c1 c3
  rw [XE c1 h.ok hN.ok c3 (by omega) (by omega), hrep, c2, List.append_nil]
  unfold Y4
  simp only
  rw [alI _ v _ i a hi, if_neg hva]
  have : (((0 + (p + 1) : Nat) : Int) - 1) = (p : Int) := by omega
  rw [this]
abbrev vF : za := ⟨jK, [33], [[122]], [], []⟩
theorem arp {n : za} {T : List Tk} (h : TD n T) (hw : wD n T ≤ 40000) {q : List Nat} {x : za} {p : Nat} (hat : At n q x (p + 1)) (ht : isT x = false) (hx : x.Kids.head? ≠ some vF) {N : za} {T' : List Tk} (hN : TD N T') (hwN : wD N T' ≤ 50000) (eN : N = jh q n { x with Kids := vF :: x.Kids }) :
  xQ n N = some ([⟨114, ((p + 1 : Nat) : Int), ((p + 1 : Nat) : Int), [vF], [], []⟩], 0) := by
 have w1 := h.wt
 have w2 := hN.wt
 have hal : alD x { x with Kids := vF :: x.Kids } = true := by
  unfold alD
  simp [ht]
 have hne : x ≠ { x with Kids := vF :: x.Kids } := by
  intro e
  have h1 := congrArg (fun z => z.Kids.length) e
  simp at h1
 have k1 : dh x { x with Kids := vF :: x.Kids } = 0 := by
  unfold dh
  simp only
  cases hk : x.Kids with
  | nil => simp [cH]
  | cons y l =>
   rw [hk] at hx
   simp only [List.head?_cons, ne_eq, Option.some.injEq] at hx
   simp [cH, hx]
 have k2 : dt x { x with Kids := vF :: x.Kids } = x.Kids.length := by
  unfold dt cT
  rw [k1]
  simp only [List.reverse_cons]
  have : cH x.Kids.reverse (x.Kids.reverse ++ [vF]) = x.Kids.length := by
   have key : ∀ A B : List za, cH A (A ++ B) = A.length := by
    intro A B
    induction A with
    | nil => cases B <;> simp [cH]
    | cons y A ih => simp [cH, ih]
   rw [key]
   simp
  rw [this]
  simp
 have d1 : dm x { x with Kids := vF :: x.Kids } = 0 := by unfold dm; rw [k1, k2]; omega
 have d2 : dn x { x with Kids := vF :: x.Kids } = 1 := by unfold dn; rw [k1, k2]; simp
 have hst : ∀ s, Dif x { x with Kids := vF :: x.Kids } s [] [(x, { x with Kids := vF :: x.Kids }, s)] x { x with Kids := vF :: x.Kids } s := fun s => .stop _ _ _ fun h => by omega
 obtain ⟨c, c1, c2, c3⟩ := alM hne hal hst hat rfl 0
 rw [← eN] at c1 c3
 rw [XE c1 h.ok hN.ok c3 (by omega) (by omega), c2]
 unfold Y4
 simp only
 rw [K3, List.nil_append]
 unfold ams
 rw [if_neg (by omega), k1, d1, d2]
 simp [zC]
theorem apG {n : za} {T : List Tk} (h : TD n T) {q : List Nat} {x : za} {p : Nat} (hat : At n q x (p + 1)) (h3 : isT x = false) (i : Nat) {v : Str} (hv : isValue v = true) :
  TD (jh q n { x with zh := xe x.zh i v }) (T.set p (.opn x.Kind (xe x.zh i v))) ∧ (jh q n { x with zh := xe x.zh i v }).Kind = n.Kind ∧ (jh q n { x with zh := xe x.zh i v }).zh = n.zh := by
 have hx := hat.form h.form
 have hsm := h.small
 obtain ⟨f1, f2, f3, f4, f5, f6⟩ := adT hx h3
 have hq0 : q ≠ [] := by
  rintro rfl
  cases hat
 obtain ⟨P, S, e1, e2, e3⟩ := amV hat hq0
 have hx' : isT ({ x with zh := xe x.zh i v } : za) = false := h3
 have fx' : qK ({ x with zh := xe x.zh i v } : za) = true := aea hx' ⟨ajp f1 i hv, f2, f3, f4, by rw [abE]; exact f5, f6⟩
 obtain ⟨g1, g2, g3⟩ := e3 _ hx' rfl rfl
 rw [h.tk] at e2
 have hPl : P.length = p := by omega
 have hTs : T.set p (.opn x.Kind (xe x.zh i v)) = P ++ Tk.opn x.Kind (xe x.zh i v) :: S := by rw [e2, ← hPl, set_mid]
 rw [hTs]
 refine ⟨TD.of (ag4 hx' fx' hat h.form) (Vi q n _ h.nt hx') g1 ?_ ?_, g2, g3⟩
 ·rw [adu x.Kind _ x.zh, ← e2]
  exact h.deep
 ·rw [e2] at hsm
  simpa using hsm
theorem aph {n : za} {T : List Tk} (h : TD n T) (hw : wD n T ≤ 40000) (hlen : T.length ≤ 3000) (hm : ∀ c m, Tk.sgn c m ∈ T → m ≠ [[122]]) {q : List Nat} {x : za} {p : Nat} (hat : At n q x (p + 1)) (ht : isT x = false) :
  ∃ T', kV n ⟨114, ((p + 1 : Nat) : Int), ((p + 1 : Nat) : Int), [vF], [], []⟩ = some (jh q n { x with Kids := vF :: x.Kids }, 0) ∧ TD (jh q n { x with Kids := vF :: x.Kids }) T' ∧ wD (jh q n { x with Kids := vF :: x.Kids }) T' ≤ 50000 ∧ x.Kids.head? ≠ some vF := by
 have hn := h.rn (by omega)
 have hwt := h.wt
 have fm := Zi (hat.form h.form) ht
 obtain ⟨P1, S1, e1, e2, e3⟩ := av2 hat
 rw [h.tk] at e2
 have nz : ∀ y ∈ x.Kids, isT y = true → y.Marks ≠ [[122]] := by
  intro y hy hyt
  obtain ⟨t1, t2, _⟩ := ZU (fm.form y hy) hyt
  have hr := ak8 t1
  rw [← yP] at hr
  obtain ⟨c, l, hcl⟩ := List.exists_cons_of_ne_nil (List.length_pos_iff.1 (show 0 < (runes y.Text).length by omega))
  refine hm c y.Marks ?_
  rw [e2]
  obtain ⟨i, hi⟩ := List.mem_iff_getElem?.1 hy
  rw [WG hi, vD, if_pos hyt, hcl]
  simp
 have ftm : qK vF = true := by decide +kernel
 have hF : Flat n (p + 1) (p + 1) q x (p + 1) [] [] (items x.Kids) := ⟨hat, ht, rfl, rfl, rfl⟩
 obtain ⟨K, N, hN, k1, k2, k3, k4, k5⟩ := atT hn (by omega) hF (l := [vF]) (fun y hy => by rw [List.mem_singleton] at hy; subst hy; exact ftm) (by decide +kernel)
 have hadj : vE (vF :: x.Kids) := by
  cases hk : x.Kids with
  | nil => trivial
  | cons y l =>
   refine ⟨?_, by rw [← hk]; exact fm.adj⟩
   unfold wC
   cases hy : isT y with
   | false => simp
   | true =>
    have := nz y (by rw [hk]; simp) hy
    simp only [Bool.and_true]
    have h1 : isT vF = true := rfl
    rw [h1, Bool.true_and, decide_eq_false]
    exact fun e => this e.symm
 have frow1 : xw [vF] := ⟨fun y hy => by rw [List.mem_singleton] at hy; subst hy; exact ftm, trivial⟩
 have hrow : xw (vF :: x.Kids) := ⟨fun y hy => by
  rcases List.mem_cons.1 hy with rfl | hy
  ·exact ftm
  ·exact fm.form y hy, hadj⟩
 have hK : K = vF :: x.Kids := agE k1 hrow (by rw [k2]; rfl)
 subst hK
 have hT' := e3 { x with Kids := vF :: x.Kids } ht rfl rfl
 rw [← hN] at hT'
 have etk : tkL (vF :: x.Kids) = tkL [vF] ++ tkL x.Kids := by simp [tkL]
 simp only at hT'
 rw [etk, List.append_assoc] at hT'
 have sg : ∀ t ∈ tkL [vF], ∃ c m, t = Tk.sgn c m := by
  intro t ht
  simp only [tkL, List.append_nil] at ht
  rw [vD, if_pos (show isT vF = true from rfl), List.mem_map] at ht
  obtain ⟨c, _, rfl⟩ := ht
  exact ⟨c, _, rfl⟩
 have l1 : (tkL [vF]).length = 1 := by rw [ZM]; decide +kernel
 have w1 : tw (tkL [vF]) ≤ 1000 := by
  have := apf (W := 20) (l := [vF]) (by decide +kernel)
  omega
 have hTD : TD N (P1 ++ (tkL [vF] ++ (tkL x.Kids ++ S1))) := by
  refine TD.of k3 k4 hT' ?_ ?_
  ·rw [afU (asb _ sg _) P1 0, ← e2]
   exact h.deep
  ·rw [e2] at hlen
   simp only [List.length_append, l1] at hlen ⊢
   omega
 obtain ⟨r1, r2, _, _⟩ := asw (x := ({ x with Kids := vF :: x.Kids } : za)) hat rfl rfl rfl rfl
 rw [← hN] at r1 r2
 refine ⟨P1 ++ (tkL [vF] ++ (tkL x.Kids ++ S1)), ?_, by rw [← hN]; exact hTD, ?_, ?_⟩
 ·have hle := hat.sizes
  have hl2 := h.len
  rw [abJ h (by omega) _ (apI frow1 (by decide +kernel) (by omega) (by omega))]
  simp only
  rw [if_pos (by decide), k5, if_pos hTD.ok, hN]
  rfl
 ·rw [← hN]
  unfold wD at hw ⊢
  rw [r1, r2]
  rw [e2] at hw
  simp only [Xa] at hw ⊢
  omega
 ·intro hh
  cases hk : x.Kids with
  | nil => rw [hk] at hh; cases hh
  | cons y l =>
   rw [hk] at hh
   simp only [List.head?_cons, Option.some.injEq] at hh
   exact nz y (by rw [hk]; simp) (by rw [hh]; rfl) (by rw [hh])
theorem ahl (l : List zu) (which : Int) (v : Str) (hl : l.length ≤ 9223372036854775807) (hlc : ∀ y ∈ l, adB y) (hwh : -9223372036854775808 ≤ which ∧ which ≤ 9223372036854775807) (hv : v.length ≤ 9223372036854775807) : jm l which v = some true := by
 obtain ⟨ks, e1, hb⟩ := atN l hl hlc
 obtain ⟨h, hw⟩ := atF hb
 obtain ⟨p, p1, p2⟩ := aqp hb which hwh
 have hkw := hb.wt
 have hks := kK ks
 have hlen := ZM ks
 have n1 : isName [110, 111, 116, 101] = true := by decide +kernel
 unfold jm
 rw [an5]
 simp only [Option.bind_some, Bool.not_true, Bool.false_eq_true, if_false]
 by_cases hv100 : (v.length : Int) > 100
 ·rw [if_pos (by simpa using hv100)]
 rw [if_neg (by simpa using hv100), e1]
 simp only [Option.bind_some]
 rw [WH ks (by omega)]
 simp only [Option.bind_some]
 rw [p1]
 simp only [Option.bind_some]
 by_cases hvn : ¬ isValue v = true
 ·have hr : xh ⟨97, (p : Int), 0, [], [110, 111, 116, 101], v⟩ = some false := by
   rw [Js _ (by simp [zR]) (by simp) (by simp only; omega)]
   unfold srB
   simp only
   rw [if_neg (by decide)]
   simp [hvn]
  rw [amU _ _ hr]
  rfl
 have hvv : isValue v = true := Classical.not_not.1 hvn
 rcases (am2 h (by omega) p (by omega) n1 hvv).symm with ⟨e, he, hap⟩ | ⟨k, aa, i, a, hA⟩
 ·rw [hap]
  simp only [Option.bind_some]
  rw [if_pos (by simpa using he)]
 obtain ⟨N, a1, _, a3, a4, a5, a6⟩ := atB h (by omega) hA hvv
 obtain ⟨hA1, hA2, hA3⟩ := hA
 obtain ⟨q, x, _, hat, ht, rfl, rfl⟩ := XA h (by omega) hA1
 obtain ⟨s1, s2, s3⟩ := apG h hat ht i hvv
 have hN : N = jh q (ass ks) { x with zh := xe x.zh i v } := a3.ext s1 (by rw [a4, s2]) (by rw [a5, s3])
 have hd := ap0 h hw hat ht hA2 hvv a3 (by omega) hN
 have bm : ∀ c m, Tk.sgn c m ∈ tkL ks → m ≠ [[122]] := by
  intro c m hc e
  subst e
  have key : ∀ l : List za, (∀ x ∈ l, x ∈ ks) → Tk.sgn c [[122]] ∈ tkL l → Xe [[122]] := by
   intro l
   induction l with
   | nil => intro _ h; simp [tkL] at h
   | cons y l ihl =>
    intro hl h
    rw [tkL, List.mem_append] at h
    rcases h with h | h
    ·exact alQ y (hb.bn y (hl y (by simp))) c _ h
    ·exact ihl (fun x hx => hl x (by simp [hx])) h
  have := key ks (fun _ h => h) hc
  revert this
  unfold Xe
  decide
 obtain ⟨T', i1, i2, i3, i4⟩ := aph h hw (by omega) bm hat ht
 have hd2 := arp h hw hat ht i4 i2 i3 rfl
 have ep : w64 ((p : Int) + 1) = ((p + 1 : Nat) : Int) := by rw [qd (by omega)]; omega
 rw [a1]
 simp only [Option.bind_some, bne_self_eq_false, Bool.false_eq_true, if_false]
 rw [hd]
 simp only [Option.bind_some, bne_self_eq_false, Bool.false_eq_true, if_false]
 rw [ep, i1]
 simp only [Option.bind_some]
 rw [hd2]
 by_cases hva : v = a.Value
 ·simp only [if_pos hva]
  simp [rd]
 ·simp only [if_neg hva]
  simp [rd, hA3]
end Go.Proofs.YtclohbgnaopjfaaDoor
