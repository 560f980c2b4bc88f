/- Texts of the proof of stepThroughCard -/
import Derived.Test.YtclohbgnaopjfaaDoorLwA
namespace Go.Proofs.YtclohbgnaopjfaaDoor
set_option linter.unusedSimpArgs false
set_option linter.unusedVariables false
open Go
theorem amG (x : Int) : -9223372036854775808 ≤ w64 x ∧ w64 x ≤ 9223372036854775807 := by
 show -9223372036854775808 ≤ IntKind.wrap .i64 x ∧ IntKind.wrap .i64 x ≤ 9223372036854775807
 rw [IntKind.wrap_i64]; omega
theorem ajf {α : Type} (l : List α) (p : Nat) (h : p < l.length) : ∃ x, rd l (p : Int) = some x ∧ x ∈ l := ⟨l[p], Ve (List.getElem?_eq_getElem h), List.getElem_mem h⟩
abbrev amB : List Str := [[97], [98, 99], [195, 169], [120, 32, 121], [230, 151, 165, 230, 156, 172]]
abbrev afq : List Str := [[108, 101, 102, 116], [114, 105, 103, 104, 116]]
abbrev ajt : List Str := [[], [195, 169], [34, 113, 92], [110, 111, 116, 101]]
abbrev YO : Str := [97, 108, 105, 103, 110]
abbrev adF : Str := [110, 111, 116, 101]
abbrev ata : Str := [112, 97, 114, 97]
abbrev aeY : Str := [105, 116, 101, 109]
abbrev ai7 : Str := [108, 105, 115, 116]
theorem arj {t : Str} (h : t ∈ amB) : t ≠ [] ∧ Lib.validD t = true ∧ t.length ≤ 6 := by
 simp only [amB, List.mem_cons, List.not_mem_nil, or_false] at h
 rcases h with rfl | rfl | rfl | rfl | rfl <;> refine ⟨by simp, by decide +kernel, by simp⟩
theorem apw {v w : Str} (hv : v ∈ afq) (hw : w ∈ ajt) : ([⟨YO, v⟩, ⟨adF, w⟩] : List zh).all (fun x => isValue x.Value) = true ∧ xh (([⟨YO, v⟩, ⟨adF, w⟩] : List zh).map (·.Name)) = true ∧ kz [⟨YO, v⟩, ⟨adF, w⟩] ≤ 20 := by
 refine ⟨?_, ?_, ?_⟩
 ·have h1 : isValue v = true := by
   simp only [afq, List.mem_cons, List.not_mem_nil, or_false] at hv
   rcases hv with rfl | rfl <;> decide +kernel
  have h2 : isValue w = true := by
   simp only [ajt, List.mem_cons, List.not_mem_nil, or_false] at hw
   rcases hw with rfl | rfl | rfl | rfl <;> decide +kernel
  simp [h1, h2]
 ·show xh [YO, adF] = true
  decide +kernel
 ·simp only [afq, ajt, List.mem_cons, List.not_mem_nil, or_false] at hv hw
  rcases hv with rfl | rfl <;> rcases hw with rfl | rfl | rfl | rfl <;> simp [kz]
theorem Jl (c n : Int) (hc : -9223372036854775808 ≤ c ∧ c ≤ 9223372036854775807) (hn : 0 < n) : ∃ p : Nat, zV c n = some (p : Int) ∧ (p : Int) < n := by
  have key : ∀ x : Int, 0 ≤ x → ∃ p : Nat, x.tmod n = (p : Int) ∧ (p : Int) < n := by
    intro x hx
    obtain ⟨p, hp⟩ := Int.eq_ofNat_of_zero_le (Int.tmod_nonneg n hx)
    exact ⟨p, hp, hp ▸ Int.tmod_lt_of_pos x hn⟩
  unfold zV
  by_cases h : c < 0
  · obtain ⟨p, h1, h2⟩ := key (0 - (c + 1)) (by omega)
    refine ⟨p, ?_, h2⟩
    simp only [h, decide_true, if_true]
    rw [wK (by omega), wh (x := c + 1) (by omega), wh (by omega), h1]
  · obtain ⟨p, h1, h2⟩ := key c (by omega)
    refine ⟨p, ?_, h2⟩
    simp only [h, decide_false, Bool.false_eq_true, if_false]
    rw [wK (by omega), h1]
def acj (y : zx) : Prop := (-9223372036854775808 ≤ y.Text ∧ y.Text ≤ 9223372036854775807) ∧ (-9223372036854775808 ≤ y.Marks ∧ y.Marks ≤ 9223372036854775807) ∧ (-9223372036854775808 ≤ y.zu ∧ y.zu ≤ 9223372036854775807) ∧ (-9223372036854775808 ≤ y.In ∧ y.In ≤ 9223372036854775807)
structure BkS (i : Nat) (ts o : List za) : Prop where
 tb : ∀ x ∈ ts, BN x
 tt : ∀ x ∈ ts, isT x = true
 ob : ∀ x ∈ o, BN x
 ont : ∀ x ∈ o, isT x = false
 wt : zN ts + zN o ≤ 60 * i
 dep : wm o ≤ 31
theorem aet : ∀ (l : List za), (∀ x ∈ l, isT x = true) → wm l = 0
  | [], _ => by simp [wm]
  | n :: l, h => by
    rw [wm, Qo, if_pos (h n (by simp)), aet l fun x hx => h x (by simp [hx])]
    rfl
theorem YV {n : za} (h : isT n = false) : yf n = wm n.Kids + 1 := by rw [Qo, h]; rfl
theorem asU (y : zx) (hy : acj y) (i : Nat) (hi : i ≤ 41) (ts o : List za) (h : BkS i ts o) : ∃ p, vM y ts = some p ∧ BN p ∧ isT p = false ∧ nwt p ≤ 26 + zN ts ∧ yf p ≤ 1 := by
  obtain ⟨hT, hM, hA, hI⟩ := hy
  have hwt := h.wt
  have hjw := ab6 ts
  have hjd := amg ts
  rw [aet ts h.tt] at hjd
  obtain ⟨hjb, hja⟩ := auW ts h.tb
  obtain ⟨p1, e1, b1⟩ := Jl y.zu 2 hA (by omega)
  obtain ⟨v, ev, mv⟩ := ajf afq p1 (by simp; omega)
  obtain ⟨p2, e2, b2⟩ := Jl (w64 (y.zu.tdiv 2)) 4 (amG _) (by omega)
  obtain ⟨w, ew, mw⟩ := ajf ajt p2 (by simp; omega)
  obtain ⟨a1, a2, a3⟩ := apw mv mw
  have ht : isT (⟨ata, [], [], [⟨YO, v⟩, ⟨adF, w⟩], yu ts⟩ : za) = false := rfl
  refine ⟨⟨ata, [], [], [⟨YO, v⟩, ⟨adF, w⟩], yu ts⟩, ?_, .node _ _ _ (by decide +kernel) a1 a2 hjb hja, ht, ?_, ?_⟩
  · unfold vM
    rw [e1]
    simp only [Option.bind_some, ev]
    rw [e2]
    simp only [Option.bind_some, ew]
    rw [join_eq ts (by omega)]
    rfl
  · rw [wo]
    simp only [wN, List.length_cons, List.length_nil]
    omega
  · rw [YV ht]
    simp only
    omega
theorem afm {k : Str} {ks : List za} (hk : isName k = true) (hl : k.length = 4) (h : ∀ x ∈ ks, BN x) (hn : ∀ x ∈ ks, isT x = false) : BN ⟨k, [], [], [], ks⟩ ∧ isT ⟨k, [], [], [], ks⟩ = false ∧ nwt ⟨k, [], [], [], ks⟩ = 6 + zN ks ∧ yf ⟨k, [], [], [], ks⟩ = wm ks + 1 := by
  have ht : isT (⟨k, [], [], [], ks⟩ : za) = false := acV hk
  refine ⟨.node _ _ _ hk rfl (by decide +kernel) h (anb ks hn), ht, ?_, YV ht⟩
  rw [wo]
  simp only [wN, kz, List.length_nil]
  omega
theorem aiD : isName aeY = true := by decide +kernel
theorem aix : isName ai7 = true := by decide +kernel
theorem BkS.put {i : Nat} {ts o ts' o' : List za} (h : BkS i ts o) {p : za} (hp : BN p) (ht : isT p = false) (hb : ∀ x ∈ ts', BN x) (htt : ∀ x ∈ ts', isT x = true) (ho : ∀ x ∈ o', x ∈ o) (hw : zN ts' + zN o' + nwt p ≤ 60 * (i + 1)) (hd : yf p ≤ 31) : BkS (i + 1) ts' (o' ++ [p]) := by
 have hdo : ∀ l : List za, (∀ x ∈ l, x ∈ o) → wm l ≤ 31 := by
  intro l
  induction l with
  | nil => simp [wm]
  | cons x l ih =>
   intro hx
   have h1 := ih fun y hy => hx y (by simp [hy])
   have h2 : ∀ r : List za, x ∈ r → yf x ≤ wm r := by
    intro r
    induction r with
    | nil => simp
    | cons z r ih =>
     intro hr
     rw [wm]
     rcases List.mem_cons.1 hr with rfl | hr
     ·omega
     ·have := ih hr; omega
   have h3 := h2 o (hx x (by simp))
   have := h.dep
   rw [wm]
   omega
 refine ⟨hb, htt, fun x hx => ?_, fun x hx => ?_, ?_, ?_⟩
 ·rcases List.mem_append.1 hx with hx | hx
  ·exact h.ob x (ho x hx)
  ·simp at hx; rw [hx]; exact hp
 ·rcases List.mem_append.1 hx with hx | hx
  ·exact h.ont x (ho x hx)
  ·simp at hx; rw [hx]; exact ht
 ·simp only [kH, zN]; omega
 ·have := hdo o' ho
  simp only [Jy, wm]
  omega
theorem apJ (y : zx) (hy : acj y) (i : Nat) (hi : i < 40) (ts o : List za) (h : BkS i ts o) : ∃ ts' o', BkS (i + 1) ts' o' ∧ ∀ suf, zD (y :: suf) (i : Int) ts o = zD suf ((i : Int) + 1) ts' o' := by
  have hy' := hy
  obtain ⟨hT, hM, hA, hI⟩ := hy
  have hwt := h.wt
  have hlo := wV o
  have hlt := wV ts
  obtain ⟨pT, eT, bT⟩ := Jl y.Text 5 hT (by omega)
  obtain ⟨tx, et, mt⟩ := ajf amB pT (by simp; omega)
  obtain ⟨pM, eM, bM⟩ := Jl y.Marks 4 hM (by omega)
  obtain ⟨pI, eI, bI⟩ := Jl y.In 5 hI (by omega)
  obtain ⟨t1, t2, t3⟩ := arj mt
  have hi' : decide ((i : Int) < 40) = true := by simp; omega
  obtain ⟨m1, em1, hm1⟩ : ∃ m, ((zV y.Marks (4 : Int)).bind fun acf => if ((aiG acf (1 : Int)) == (1 : Int)) = true then (app 16 ([] : List Str) [([98] : Str)]).bind fun amC => some amC else some ([] : List Str)) = some m ∧ (m = [] ∨ m = [[98]]) := by
    rw [eM]
    simp only [Option.bind_some]
    split
    · exact ⟨[[98]], by rw [kU (by simp)]; rfl, .inr rfl⟩
    · exact ⟨[], rfl, .inl rfl⟩
  obtain ⟨m2, em2, hm2⟩ : ∃ m, ((zV y.Marks (4 : Int)).bind fun acg => if ((aiG acg (2 : Int)) == (2 : Int)) = true then (app 16 m1 [([105] : Str)]).bind fun asQ => some asQ else some m1) = some m ∧ aby m := by
    rw [eM]
    simp only [Option.bind_some]
    rcases hm1 with rfl | rfl
    · split
      · exact ⟨[[105]], by rw [kU (by simp)]; rfl, .inr (.inr (.inl rfl))⟩
      · exact ⟨[], rfl, .inl rfl⟩
    · split
      · exact ⟨[[98], [105]], by rw [kU (by simp)]; rfl, .inr (.inr (.inr rfl))⟩
      · exact ⟨[[98]], rfl, .inr (.inl rfl)⟩
  have hmw := aks hm2
  obtain ⟨n, hn⟩ : ∃ n : za, n = ⟨jb, tx, m2, [], []⟩ := ⟨_, rfl⟩
  have hnB : BN n := by rw [hn]; exact .text _ _ t1 t2 hm2
  have hnT : isT n = true := by rw [hn]; rfl
  have hnW : nwt n ≤ 16 := by rw [hn, wo]; simp only [kz, zN, List.length_cons, List.length_nil]; omega
  have hts : BkS i (ts ++ [n]) o → True := fun _ => trivial
  have start : ∀ suf, zD (y :: suf) (i : Int) ts o = (
      if ((pI : Int) == (0 : Int)) = true then
        zD suf ((i : Int) + 1) (ts ++ [n]) o
      else
        (vM y (ts ++ [n])).bind fun xm =>
        if (decide ((pI : Int) < (3 : Int))) = true then
          (app 104 o [xm]).bind fun asH =>
          zD suf ((i : Int) + 1) ([] : List za) asH
        else
          ((
              if (decide ((w64 ((o.length : Int) - (1 : Int))) ≥ (0 : Int))) = true then
                (rd o (w64 ((o.length : Int) - (1 : Int)))).bind fun ajG =>
                if (ajG.Kind == ([108, 105, 115, 116] : Str)) = true then
                  if ((pI : Int) == (3 : Int)) = true then
                    (app 104 ([] : List za) ajG.Kids).bind fun amJ =>
                    (app 104 amJ [({ Kind := ([105, 116, 101, 109] : Str), Text := ([] : Str), Marks := [], zu := [], Kids := [xm] } : za)]).bind fun ast =>
                    (sl o (0 : Int) (w64 ((o.length : Int) - (1 : Int)))).bind fun asz =>
                    (app 104 ([] : List za) asz).bind fun ase =>
                    (app 104 ase [{ ajG with Kids := ast }]).bind fun arY =>
                    some (.inl arY)
                  else
                    some (.inr ())
                else
                  some (.inr ())
              else
                some (.inr ())) : Option ((List za) ⊕ Unit)).bind fun e => match e with
          | .inl alg =>
            zD suf ((i : Int) + 1) ([] : List za) alg
          | .inr _ =>
            if (decide ((w64 ((o.length : Int) - (1 : Int))) ≥ (0 : Int))) = true then
              (rd o (w64 ((o.length : Int) - (1 : Int)))).bind fun aj4 =>
              if (aj4.Kind == ([108, 105, 115, 116] : Str)) = true then
                (vK aj4).bind fun Yq =>
                if (decide (Yq < (30 : Int))) = true then
                  (app 104 [xm] [aj4]).bind fun arV =>
                  (sl o (0 : Int) (w64 ((o.length : Int) - (1 : Int)))).bind fun arU =>
                  (app 104 ([] : List za) arU).bind fun ass =>
                  (app 104 ass [({ Kind := ([108, 105, 115, 116] : Str), Text := ([] : Str), Marks := [], zu := [], Kids := [({ Kind := ([105, 116, 101, 109] : Str), Text := ([] : Str), Marks := [], zu := [], Kids := arV } : za)] } : za)]).bind fun asR =>
                  zD suf ((i : Int) + 1) ([] : List za) asR
                else
                  (app 104 o [({ Kind := ([108, 105, 115, 116] : Str), Text := ([] : Str), Marks := [], zu := [], Kids := [({ Kind := ([105, 116, 101, 109] : Str), Text := ([] : Str), Marks := [], zu := [], Kids := [xm] } : za)] } : za)]).bind fun asa =>
                  zD suf ((i : Int) + 1) ([] : List za) asa
              else
                (app 104 o [({ Kind := ([108, 105, 115, 116] : Str), Text := ([] : Str), Marks := [], zu := [], Kids := [({ Kind := ([105, 116, 101, 109] : Str), Text := ([] : Str), Marks := [], zu := [], Kids := [xm] } : za)] } : za)]).bind fun asB =>
                zD suf ((i : Int) + 1) ([] : List za) asB
            else
              (app 104 o [({ Kind := ([108, 105, 115, 116] : Str), Text := ([] : Str), Marks := [], zu := [], Kids := [({ Kind := ([105, 116, 101, 109] : Str), Text := ([] : Str), Marks := [], zu := [], Kids := [xm] } : za)] } : za)]).bind fun asW =>
              zD suf ((i : Int) + 1) ([] : List za) asW) := fun suf => by
    rw [zD, if_pos hi', eT]
    simp only [Option.bind_some]
    rw [et]
    simp only [Option.bind_some]
    rw [em1]
    simp only [Option.bind_some]
    rw [em2]
    simp only [Option.bind_some]
    rw [← hn, kU (by simp only [List.length_cons, List.length_nil]; omega)]
    simp only [Option.bind_some]
    rw [eI]
    rfl
  have htb : ∀ x ∈ ts ++ [n], BN x := fun x hx => by
    rcases List.mem_append.1 hx with hx | hx
    · exact h.tb x hx
    · simp at hx; rw [hx]; exact hnB
  have htt : ∀ x ∈ ts ++ [n], isT x = true := fun x hx => by
    rcases List.mem_append.1 hx with hx | hx
    · exact h.tt x hx
    · simp at hx; rw [hx]; exact hnT
  have hwn : zN (ts ++ [n]) = zN ts + nwt n := by simp [kH, zN]
  by_cases k0 : (pI : Int) = 0
  · refine ⟨ts ++ [n], o, ⟨htb, htt, h.ob, h.ont, by omega, h.dep⟩, fun suf => ?_⟩
    rw [start, if_pos (by simp [k0])]
  · obtain ⟨p, ep, hpB, hpT, hpW, hpD⟩ := @asU y hy' (i + 1) (by omega) (ts ++ [n]) o ⟨htb, htt, h.ob, h.ont, by omega, h.dep⟩
    have nob : ∀ x ∈ ([] : List za), BN x := by simp
    have nott : ∀ x ∈ ([] : List za), isT x = true := by simp
    by_cases k3 : (pI : Int) < 3
    · refine ⟨[], o ++ [p], h.put hpB hpT nob nott (fun x hx => hx) (by simp only [zN]; omega) (by omega), fun suf => ?_⟩
      rw [start, if_neg (by simp; omega), ep]
      simp only [Option.bind_some]
      rw [if_pos (by simp; omega), kU (by simp only [List.length_cons, List.length_nil]; omega)]
      rfl
    · obtain ⟨q1, q2, q3, q4⟩ := afm (k := aeY) (ks := [p]) aiD rfl (by simpa using hpB) (by simpa using hpT)
      obtain ⟨r1, r2, r3, r4⟩ := afm (k := ai7) (ks := [⟨aeY, [], [], [], [p]⟩]) aix rfl (by simpa using q1) (by simpa using q2)
      simp only [zN, wm] at q3 q4 r3 r4
      have one : BkS (i + 1) [] (o ++ [⟨ai7, [], [], [], [⟨aeY, [], [], [], [p]⟩]⟩]) := h.put r1 r2 nob nott (fun x hx => hx) (by simp only [zN]; omega) (by omega)
      have happ : ∀ z : za, app 104 o [z] = some (o ++ [z]) := fun z => kU (by simp only [List.length_cons, List.length_nil]; omega)
      rcases wX o with rfl | ⟨o, x, rfl⟩
      · refine ⟨[], _, one, fun suf => ?_⟩
        have hl : decide (w64 ((([] : List za).length : Int) - 1) ≥ 0) = false := by rw [wh (by simp)]; simp
        rw [start, if_neg (by simp; omega), ep]
        simp only [Option.bind_some]
        rw [if_neg (by simp; omega), hl]
        simp only [Bool.false_eq_true, if_false, Option.bind_some]
        rw [happ]
        rfl
      · have hlen : ((o ++ [x]).length : Int) - 1 = (o.length : Int) := by simp
        have hlw : w64 (((o ++ [x]).length : Int) - 1) = (o.length : Int) := by
          rw [hlen]
          simp only [List.length_append, List.length_cons, List.length_nil] at hlo
          exact wh (by omega)
        have hl : decide ((o.length : Int) ≥ 0) = true := by simp
        have hrd : rd (o ++ [x]) (o.length : Int) = some x := J5 o [] x
        have hsl : sl (o ++ [x]) 0 (o.length : Int) = some o := ap3 o [x]
        have hxB := h.ob x (by simp)
        have hxT := h.ont x (by simp)
        have hd := h.dep
        simp only [kH, zN, Jy, wm] at hwt hd
        have hwo : 2 * o.length ≤ zN o := wV o
        by_cases kl : x.Kind = ai7
        · by_cases kk : (pI : Int) = 3
          · obtain ⟨kB, kJ⟩ := anC hxB
            have hlk := wV x.Kids
            have hxw := wo x
            obtain ⟨z, hz⟩ : ∃ z : za, z = { x with Kids := x.Kids ++ [⟨aeY, [], [], [], [p]⟩] } := ⟨_, rfl⟩
            have zw := wo z
            have zT : isT z = false := by rw [hz]; exact hxT
            have zd := YV zT
            have xd := YV hxT
            have zB : BN z := by
              rw [hz]
              cases hxB with
              | text t m h1 h2 hm => cases kl
              | node k a ks hk ha hb hs hj =>
                simp only at kl
                subst kl
                refine .node _ _ _ hk ha hb (fun y hy => ?_) ?_
                · rcases List.mem_append.1 hy with hy | hy
                  · exact hs y hy
                  · simp at hy; rw [hy]; exact q1
                · rcases wX ks with rfl | ⟨ks, u, rfl⟩
                  · trivial
                  · rw [List.append_assoc]
                    exact ahz ks u _ hj (by unfold wu; rw [q2]; simp)
            rw [hz] at zw zd
            simp only [kH, zN, Jy, wm] at zw zd
            refine ⟨[], o ++ [z], h.put zB zT nob nott (fun y hy => by simp [hy]) (by simp only [zN]; rw [hz, wo]; simp only [kH, zN]; omega) (by rw [hz, zd]; omega), fun suf => ?_⟩
            rw [start, if_neg (by simp; omega), ep]
            simp only [Option.bind_some]
            rw [if_neg (by simp; omega), hlw, hl]
            simp only [if_true]
            rw [hrd]
            simp only [Option.bind_some]
            rw [if_pos (by rw [kl]; rfl), if_pos (by simp [kk]), kU (by simp only [List.length_nil]; omega)]
            simp only [Option.bind_some, List.nil_append]
            rw [kU (by simp only [List.length_cons, List.length_nil]; omega)]
            simp only [Option.bind_some]
            rw [hsl]
            simp only [Option.bind_some]
            rw [kU (by simp only [List.length_nil]; omega)]
            simp only [Option.bind_some, List.nil_append]
            rw [kU (by simp only [List.length_cons, List.length_nil]; omega)]
            simp only [Option.bind_some]
            rw [hz]
          · by_cases kd : yf x < 30
            · obtain ⟨u1, u2, u3, u4⟩ := afm (k := aeY) (ks := [p, x]) aiD rfl (by simpa using ⟨hpB, hxB⟩) (by simpa using ⟨hpT, hxT⟩)
              obtain ⟨v1, v2, v3, v4⟩ := afm (k := ai7) (ks := [⟨aeY, [], [], [], [p, x]⟩]) aix rfl (by simpa using u1) (by simpa using u2)
              simp only [zN, wm] at u3 u4 v3 v4
              refine ⟨[], o ++ [⟨ai7, [], [], [], [⟨aeY, [], [], [], [p, x]⟩]⟩], h.put v1 v2 nob nott (fun y hy => by simp [hy]) (by simp only [zN]; omega) (by omega), fun suf => ?_⟩
              rw [start, if_neg (by simp; omega), ep]
              simp only [Option.bind_some]
              rw [if_neg (by simp; omega), hlw, hl]
              simp only [if_true]
              rw [hrd]
              simp only [Option.bind_some]
              rw [if_pos (by rw [kl]; rfl), if_neg (by simp [kk])]
              simp only [Option.bind_some]
              rw [if_pos (by rw [kl]; rfl), aif x (by omega)]
              simp only [Option.bind_some]
              rw [if_pos (by simp; omega), kU (by simp)]
              simp only [Option.bind_some]
              rw [hsl]
              simp only [Option.bind_some]
              rw [kU (by simp only [List.length_nil]; omega)]
              simp only [Option.bind_some, List.nil_append]
              rw [kU (by simp only [List.length_cons, List.length_nil]; omega)]
              rfl
            · refine ⟨[], _, one, fun suf => ?_⟩
              rw [start, if_neg (by simp; omega), ep]
              simp only [Option.bind_some]
              rw [if_neg (by simp; omega), hlw, hl]
              simp only [if_true]
              rw [hrd]
              simp only [Option.bind_some]
              rw [if_pos (by rw [kl]; rfl), if_neg (by simp [kk])]
              simp only [Option.bind_some]
              rw [if_pos (by rw [kl]; rfl), aif x (by omega)]
              simp only [Option.bind_some]
              rw [if_neg (by simp; omega), happ]
              rfl
        · refine ⟨[], _, one, fun suf => ?_⟩
          rw [start, if_neg (by simp; omega), ep]
          simp only [Option.bind_some]
          rw [if_neg (by simp; omega), hlw, hl]
          simp only [if_true]
          rw [hrd]
          simp only [Option.bind_some]
          rw [if_neg (by simpa using kl)]
          simp only [Option.bind_some]
          rw [if_neg (by simpa using kl), happ]
          rfl
theorem arb : ∀ (l : List zx) (i : Nat) (ts o : List za), (∀ y ∈ l, acj y) → i ≤ 40 → BkS i ts o → ∃ ts' o', zD l (i : Int) ts o = some o' ∧ BkS 40 ts' o'
  | [], i, ts, o, _, hi, h => ⟨ts, o, by simp [zD], h.tb, h.tt, h.ob, h.ont, by have := h.wt; omega, h.dep⟩
  | y :: l, i, ts, o, hy, hi, h => by
    by_cases hlt : i < 40
    · obtain ⟨t1, o1, h1, h2⟩ := apJ y (hy y (by simp)) i hlt ts o h
      obtain ⟨ts', o', h3, h4⟩ := arb l (i + 1) t1 o1 (fun x hx => hy x (by simp [hx])) (by omega) h1
      refine ⟨ts', o', ?_, h4⟩
      rw [h2, ← h3]
      rfl
    · have : decide ((i : Int) < 40) = false := by simp; omega
      exact ⟨ts, o, by rw [zD]; simp [this], h.tb, h.tt, h.ob, h.ont, by have := h.wt; omega, h.dep⟩
theorem asL (l : List zx) (hl : l.length ≤ 9223372036854775807) (h : ∀ y ∈ l, acj y) : ∃ ks, xz l = some ⟨ao7, [], [], [], ks⟩ ∧ Book ks := by
  obtain ⟨ts, o, h1, h2⟩ := arb l 0 [] [] h (by omega) ⟨by simp, by simp, by simp, by simp, by simp [zN], by simp [wm]⟩
  have hw := h2.wt
  refine ⟨o, ?_, h2.ob, h2.ont, by omega, h2.dep⟩
  unfold xz
  rw [wK hl]
  have : zD l 0 [] [] = some o := h1
  rw [this]
  rfl
end Go.Proofs.YtclohbgnaopjfaaDoor
namespace Go.Proofs.YtclohbgnaopjfaaDoor
set_option linter.unusedSimpArgs false
set_option linter.unusedVariables false
open Go Classical
theorem alh {ks : List za} (h : Book ks) (c : Int) (hc : -9223372036854775808 ≤ c ∧ c ≤ 9223372036854775807) : ∃ p : Nat, zV c (w64 ((zF ks : Int) + 1)) = some (p : Int) ∧ p ≤ zF ks := by
  have hw := h.wt
  have hs := kT ks
  rw [wh (by omega)]
  obtain ⟨p, h1, h2⟩ := Jl c ((zF ks : Int) + 1) hc (by omega)
  exact ⟨p, h1, by omega⟩
end Go.Proofs.YtclohbgnaopjfaaDoor
namespace Go.Proofs.YtclohbgnaopjfaaDoor
set_option linter.unusedSimpArgs false
set_option linter.unusedVariables false
open Go Classical
abbrev apU : za := ⟨jb, [111, 110, 101], [[122]], [], []⟩
abbrev arn : za := ⟨jb, [116, 119, 111], [[121]], [], []⟩
abbrev afE (l : za) (p : Int) : zz := ⟨114, p, p, [l], [], []⟩
theorem apc : zF [apU] = 3 ∧ zF [arn] = 3 := by decide +kernel
theorem acz {n : za} (h : zX n = true) : jk [n] := ⟨fun x hx => by rw [List.mem_singleton] at hx; subst hx; exact h, trivial⟩
theorem an9 (l : za) (p : Nat) (hp : p ≤ 1000000) (hs : zF [l] = 3) (hw : zN [l] ≤ 500) : QU (afE l (p : Int)) = some [⟨(p : Int), 0, 3⟩] := by
  unfold QU
  simp only
  rw [JC [l] (by omega), hs]
  simp only [Option.bind_some]
  rw [if_neg (by decide), if_pos (by simp), if_neg (by decide), wh (by omega), Int.sub_self]
  rfl
theorem apF (p b : Nat) (hp : p ≤ 1000000) (hb : b ≤ 1000000) (hne : p ≠ b) (r : Bool) : J4 [⟨(p : Int), 0, 3⟩] (b : Int) r = some (((if p < b then b + 3 else b : Nat)) : Int) := by
  unfold J4
  rw [wK (by simp), ZA]
  have he : jy ⟨(p : Int), 0, 3⟩ = some (p : Int) := by
    unfold jy
    simp only
    rw [wh (by omega), Int.add_zero]
  rw [he]
  simp only [Option.bind_some]
  by_cases h : p < b
  · rw [if_pos (by simpa using h), if_pos h, ZA]
    have e3 : w64 (0 + w64 (3 - 0)) = 3 := rfl
    simp only [Option.bind_some]
    rw [e3, wh (by omega)]
    simp
  · rw [if_neg (by simpa using h), if_pos (by simp; omega), if_neg h]
    simp only [Option.bind_some]
    rw [wh (by omega)]
    simp
theorem aeG (l : za) (p b : Nat) (hp : p ≤ 1000000) (hb : b ≤ 1000000) (hne : p ≠ b) : yQ (afE l (b : Int)) [⟨(p : Int), 0, 3⟩] = some (afE l ((if p < b then b + 3 else b : Nat) : Int), true) := by
  unfold yQ
  simp only
  rw [if_neg (by decide)]
  simp only [Option.bind_some]
  rw [if_neg (by decide), apF p b hp hb hne, apF p b hp hb hne]
  simp only [Option.bind_some]
  simp
theorem ah7 (T : List Tk) (p : Nat) (h : p ≤ T.length) : T = T.take p ++ T.drop p ∧ (T.take p).length = p := ⟨(List.take_append_drop p T).symm, by simp; omega⟩
theorem ac2 {ks : List za} (hb : Book ks) {x y : za} (hx : zX x = true) (hy : zX y = true) (hxt : isT x = true) (hyt : isT y = true) (hxs : zF [x] = 3) (hys : zF [y] = 3) (hxw : zN [x] ≤ 500) (hyw : zN [y] ≤ 500) {a b : Nat} (hab : a < b) (hbl : b ≤ (tkL ks).length) :
    ∃ A B, QC (aoe ks) [afE x (a : Int), afE y ((b + 3 : Nat) : Int)] = some (A, 0) ∧ QC (aoe ks) [afE y (b : Int), afE x (a : Int)] = some (B, 0) ∧ ZG A B = some true ∧ ZG B A = some true := by
  obtain ⟨h, hw⟩ := asj hb
  have hkw := hb.wt
  have hks := kT ks
  have hlen := Wo ks
  generalize hT : tkL ks = T at *
  obtain ⟨e1, l1⟩ := ah7 T a (by omega)
  obtain ⟨e2, l2⟩ := ah7 T b hbl
  have e3 : T.take b = T.take a ++ (T.take b).drop a := by
    have := List.take_append_drop a (T.take b)
    rw [List.take_take, show min a b = a by omega] at this
    exact this.symm
  have e4 : T.drop a = (T.take b).drop a ++ T.drop b := by
    have hc : T.take a ++ T.drop a = T.take a ++ ((T.take b).drop a ++ T.drop b) := by rw [← List.append_assoc, ← e3, List.take_append_drop, List.take_append_drop]
    exact List.append_cancel_left hc
  generalize T.take a = U at *
  generalize (T.take b).drop a = V at *
  generalize T.drop b = W at *
  have sg : ∀ z : za, isT z = true → ∀ t ∈ tkL [z], ∃ c m, t = Tk.sgn c m := by
    intro z hz t ht
    simp only [tkL, List.append_nil] at ht
    rw [kP, if_pos hz, List.mem_map] at ht
    obtain ⟨c, _, rfl⟩ := ht
    exact ⟨c, z.Marks, rfl⟩
  have lx : (tkL [x]).length = 3 := by rw [Wo, hxs]
  have ly : (tkL [y]).length = 3 := by rw [Wo, hys]
  have tx := aiJ (W := 500) hxw
  have ty := aiJ (W := 500) hyw
  have hx0 : tw (tkL [x]) ≤ 1000000 := by
    have := amk 500 x (by simp only [zN] at hxw; omega)
    omega
  have hy0 : tw (tkL [y]) ≤ 1000000 := by
    have := amk 500 y (by simp only [zN] at hyw; omega)
    omega
  have hTe : T = U ++ (V ++ W) := by rw [e1, e4]
  have hTl : T.length = U.length + V.length + W.length := by rw [hTe]; simp; omega
  obtain ⟨A1, a1, a2, a3, a4, a5⟩ := YY (P := U) (S := V ++ W) h (by omega) hTe (acz hx) hx0 (sg x hxt) (by omega)
  obtain ⟨A2, b1, b2, b3, b4, b5⟩ := YY (P := U ++ (tkL [x] ++ V)) (S := W) a2 (by omega) (by simp only [List.append_assoc]) (acz hy) hy0 (sg y hyt) (by simp only [List.length_append, lx, ly]; omega)
  obtain ⟨B1, c1, c2, c3, c4, c5⟩ := YY (P := U ++ V) (S := W) h (by omega) (by rw [hTe, List.append_assoc]) (acz hy) hy0 (sg y hyt) (by omega)
  obtain ⟨B2, d1, d2, d3, d4, d5⟩ := YY (P := U) (S := V ++ (tkL [y] ++ W)) c2 (by omega) (by simp only [List.append_assoc]) (acz hx) hx0 (sg x hxt) (by simp only [List.length_append, lx, ly]; omega)
  have f1 : (U ++ (tkL [x] ++ V)).length = b + 3 := by
    have : (U ++ V).length = b := by rw [← e3]; exact l2
    simp only [List.length_append] at this ⊢
    omega
  have f2 : (U ++ V).length = b := by rw [← e3]; exact l2
  rw [l1] at a1 d1
  rw [f1] at b1
  rw [f2] at c1
  have e : (U ++ (tkL [x] ++ V)) ++ (tkL [y] ++ W) = U ++ (tkL [x] ++ (V ++ (tkL [y] ++ W))) := by simp only [List.append_assoc]
  rw [e] at b2 b5
  refine ⟨A2, B2, anW a1 b1, anW c1 d1, b2.same d2 (by rw [b3, a3, d3, c3]) (by rw [b4, a4, d4, c4]) (by omega), d2.same b2 (by rw [b3, a3, d3, c3]) (by rw [b4, a4, d4, c4]) (by omega)⟩
theorem adv (l : List zx) (from_ to_ : Int) (hl : l.length ≤ 9223372036854775807) (hlc : ∀ y ∈ l, acj y) (hf : -9223372036854775808 ≤ from_ ∧ from_ ≤ 9223372036854775807) (ht : -9223372036854775808 ≤ to_ ∧ to_ ≤ 9223372036854775807) : kW l from_ to_ = some true := by
  obtain ⟨ks, e1, hb⟩ := asL l hl hlc
  obtain ⟨p, p1, p2⟩ := alh hb from_ hf
  obtain ⟨q, q1, q2⟩ := alh hb to_ ht
  have hkw := hb.wt
  have hks := kT ks
  have hlen := Wo ks
  obtain ⟨s1, s2⟩ := apc
  have w1 : zN [apU] ≤ 500 := by decide +kernel
  have w2 : zN [arn] ≤ 500 := by decide +kernel
  have g1 : zX apU = true := by decide +kernel
  have g2 : zX arn = true := by decide +kernel
  unfold kW
  rw [ano]
  simp only [Option.bind_some, Bool.not_true, Bool.false_eq_true, if_false]
  rw [e1]
  simp only [Option.bind_some]
  rw [JC ks (by omega)]
  simp only [Option.bind_some]
  rw [p1]
  simp only [Option.bind_some]
  rw [q1]
  simp only [Option.bind_some]
  by_cases hpq : p = q
  · rw [if_pos (by simp [hpq])]
  rw [if_neg (by simp; omega)]
  have m1 := an9 apU p (by omega) s1 w1
  have m2 := an9 arn q (by omega) s2 w2
  have t1 := aeG arn p q (by omega) (by omega) hpq
  have t2 := aeG apU q p (by omega) (by omega) (fun h => hpq h.symm)
  rw [m1]
  simp only [Option.bind_some]
  rw [t1]
  simp only [Option.bind_some]
  rw [m2]
  simp only [Option.bind_some]
  rw [t2]
  simp only [Option.bind_some]
  rcases Nat.lt_or_gt_of_ne hpq with h | h
  · obtain ⟨A, B, r1, r2, r3, _⟩ := ac2 hb g1 g2 rfl rfl s1 s2 w1 w2 h (by omega)
    rw [if_pos h, if_neg (show ¬ q < p by omega), r1]
    simp only [Option.bind_some]
    rw [r2]
    simp only [Option.bind_some, if_true, beq_self_eq_true]
    rw [r3]
    rfl
  · obtain ⟨A, B, r1, r2, _, r3⟩ := ac2 hb g2 g1 rfl rfl s2 s1 w2 w1 h (by omega)
    rw [if_neg (show ¬ p < q by omega), if_pos h, r2]
    simp only [Option.bind_some]
    rw [r1]
    simp only [Option.bind_some, if_true, beq_self_eq_true]
    rw [r3]
    rfl
end Go.Proofs.YtclohbgnaopjfaaDoor
