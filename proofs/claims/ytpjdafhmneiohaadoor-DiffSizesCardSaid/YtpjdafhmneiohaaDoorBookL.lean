/- Documents of the book, made of raw numbers: what comes of it is right, and small. (diptychlaw18: the law's package) -/
import Derived.Test.YtpjdafhmneiohaaDoorBookN
import Derived.Test.YtpjdafhmneiohaaDoorRJoin
import Derived.Test.YtpjdafhmneiohaaDoorRDepth
namespace Go.Proofs.YtpjdafhmneiohaaDoor
set_option linter.unusedSimpArgs false
set_option linter.unusedVariables false
open Go

theorem bw64_range (x : Int) : -9223372036854775808 ≤ w64 x ∧ w64 x ≤ 9223372036854775807 := by
  show -9223372036854775808 ≤ IntKind.wrap .i64 x ∧ IntKind.wrap .i64 x ≤ 9223372036854775807
  rw [IntKind.wrap_i64]; omega
theorem brd_lit {α : Type} (l : List α) (p : Nat) (h : p < l.length) : ∃ x, rd l (p : Int) = some x ∧ x ∈ l := ⟨l[p], rd_nat (List.getElem?_eq_getElem h), List.getElem_mem h⟩
abbrev bWords : List Str := [[97], [98, 99], [195, 169], [120, 32, 121], [230, 151, 165, 230, 156, 172]]
abbrev bValues : List Str := [[108, 101, 102, 116], [114, 105, 103, 104, 116]]
abbrev bNotes : List Str := [[], [195, 169], [34, 113, 92], [110, 111, 116, 101]]
abbrev sAlignB : Str := [97, 108, 105, 103, 110]
abbrev sNoteB : Str := [110, 111, 116, 101]
abbrev sPara : Str := [112, 97, 114, 97]
abbrev sItem : Str := [105, 116, 101, 109]
abbrev sList : Str := [108, 105, 115, 116]
theorem bword_ok {t : Str} (h : t ∈ bWords) : t ≠ [] ∧ Lib.validD t = true ∧ t.length ≤ 6 := by
  simp only [bWords, List.mem_cons, List.not_mem_nil, or_false] at h
  rcases h with rfl | rfl | rfl | rfl | rfl <;> refine ⟨by simp, by decide +kernel, by simp⟩
theorem battrs_ok {v w : Str} (hv : v ∈ bValues) (hw : w ∈ bNotes) : ([⟨sAlignB, v⟩, ⟨sNoteB, w⟩] : List api_Attr).all (fun x => isValue x.Value) = true ∧ riseB (([⟨sAlignB, v⟩, ⟨sNoteB, w⟩] : List api_Attr).map (·.Name)) = true ∧ attrsW [⟨sAlignB, v⟩, ⟨sNoteB, w⟩] ≤ 20 := by
  refine ⟨?_, ?_, ?_⟩
  · have h1 : isValue v = true := by
      simp only [bValues, List.mem_cons, List.not_mem_nil, or_false] at hv
      rcases hv with rfl | rfl <;> decide +kernel
    have h2 : isValue w = true := by
      simp only [bNotes, List.mem_cons, List.not_mem_nil, or_false] at hw
      rcases hw with rfl | rfl | rfl | rfl <;> decide +kernel
    simp [h1, h2]
  · show riseB [sAlignB, sNoteB] = true
    decide +kernel
  · simp only [bValues, bNotes, List.mem_cons, List.not_mem_nil, or_false] at hv hw
    rcases hv with rfl | rfl <;> rcases hw with rfl | rfl | rfl | rfl <;> simp [attrsW]

theorem bpick_eq (c n : Int) (hc : -9223372036854775808 ≤ c ∧ c ≤ 9223372036854775807) (hn : 0 < n) : ∃ p : Nat, diptychlaw18_pick c n = some (p : Int) ∧ (p : Int) < n := by
  have key : ∀ x : Int, 0 ≤ x → ∃ p : Nat, x.tmod n = (p : Int) ∧ (p : Int) < n := by
    intro x hx
    obtain ⟨p, hp⟩ := Int.eq_ofNat_of_zero_le (Int.tmod_nonneg n hx)
    exact ⟨p, hp, hp ▸ Int.tmod_lt_of_pos x hn⟩
  unfold diptychlaw18_pick
  by_cases h : c < 0
  · obtain ⟨p, h1, h2⟩ := key (0 - (c + 1)) (by omega)
    refine ⟨p, ?_, h2⟩
    simp only [h, decide_true, if_true]
    rw [chk_eq (by omega), w64_eq (x := c + 1) (by omega), w64_eq (by omega), h1]
  · obtain ⟨p, h1, h2⟩ := key c (by omega)
    refine ⟨p, ?_, h2⟩
    simp only [h, decide_false, Bool.false_eq_true, if_false]
    rw [chk_eq (by omega), h1]

def bcellIn (y : diptychlaw18_Cell) : Prop := (-9223372036854775808 ≤ y.Text ∧ y.Text ≤ 9223372036854775807) ∧ (-9223372036854775808 ≤ y.Marks ∧ y.Marks ≤ 9223372036854775807) ∧ (-9223372036854775808 ≤ y.Attrs ∧ y.Attrs ≤ 9223372036854775807) ∧ (-9223372036854775808 ≤ y.In ∧ y.In ≤ 9223372036854775807)

/-- What is made so far: the texts that wait, and the kids. -/
structure BkS (i : Nat) (ts o : List api_Node) : Prop where
  tb : ∀ x ∈ ts, BN x
  tt : ∀ x ∈ ts, isT x = true
  ob : ∀ x ∈ o, BN x
  ont : ∀ x ∈ o, isT x = false
  wt : nwts ts + nwts o ≤ 60 * i
  dep : depNs o ≤ 31
theorem depNs_texts : ∀ (l : List api_Node), (∀ x ∈ l, isT x = true) → depNs l = 0
  | [], _ => by simp [depNs]
  | n :: l, h => by
    rw [depNs, depN_eq, if_pos (h n (by simp)), depNs_texts l fun x hx => h x (by simp [hx])]
    rfl
theorem depN_node {n : api_Node} (h : isT n = false) : depN n = depNs n.Kids + 1 := by rw [depN_eq, h]; rfl

theorem para_ok (y : diptychlaw18_Cell) (hy : bcellIn y) (i : Nat) (hi : i ≤ 41) (ts o : List api_Node) (h : BkS i ts o) : ∃ p, diptychlaw18_para y ts = some p ∧ BN p ∧ isT p = false ∧ nwt p ≤ 26 + nwts ts ∧ depN p ≤ 1 := by
  obtain ⟨hT, hM, hA, hI⟩ := hy
  have hwt := h.wt
  have hjw := joinR_wt ts
  have hjd := joinR_depN ts
  rw [depNs_texts ts h.tt] at hjd
  obtain ⟨hjb, hja⟩ := bjoin ts h.tb
  obtain ⟨p1, e1, b1⟩ := bpick_eq y.Attrs 2 hA (by omega)
  obtain ⟨v, ev, mv⟩ := brd_lit bValues p1 (by simp; omega)
  obtain ⟨p2, e2, b2⟩ := bpick_eq (w64 (y.Attrs.tdiv 2)) 4 (bw64_range _) (by omega)
  obtain ⟨w, ew, mw⟩ := brd_lit bNotes p2 (by simp; omega)
  obtain ⟨a1, a2, a3⟩ := battrs_ok mv mw
  have ht : isT (⟨sPara, [], [], [⟨sAlignB, v⟩, ⟨sNoteB, w⟩], joinR ts⟩ : api_Node) = false := rfl
  refine ⟨⟨sPara, [], [], [⟨sAlignB, v⟩, ⟨sNoteB, w⟩], joinR ts⟩, ?_, .node _ _ _ (by decide +kernel) a1 a2 hjb hja, ht, ?_, ?_⟩
  · unfold diptychlaw18_para
    rw [e1]
    simp only [Option.bind_some, ev]
    rw [e2]
    simp only [Option.bind_some, ew]
    rw [join_eq ts (by omega)]
    rfl
  · rw [nwt_eq]
    simp only [strsW, List.length_cons, List.length_nil]
    omega
  · rw [depN_node ht]
    simp only
    omega
theorem wrap_ok {k : Str} {ks : List api_Node} (hk : isName k = true) (hl : k.length = 4) (h : ∀ x ∈ ks, BN x) (hn : ∀ x ∈ ks, isT x = false) : BN ⟨k, [], [], [], ks⟩ ∧ isT ⟨k, [], [], [], ks⟩ = false ∧ nwt ⟨k, [], [], [], ks⟩ = 6 + nwts ks ∧ depN ⟨k, [], [], [], ks⟩ = depNs ks + 1 := by
  have ht : isT (⟨k, [], [], [], ks⟩ : api_Node) = false := name_nt hk
  refine ⟨.node _ _ _ hk rfl (by decide +kernel) h (adj_nt ks hn), ht, ?_, depN_node ht⟩
  rw [nwt_eq]
  simp only [strsW, attrsW, List.length_nil]
  omega
theorem name_item : isName sItem = true := by decide +kernel
theorem name_list : isName sList = true := by decide +kernel

theorem BkS.put {i : Nat} {ts o ts' o' : List api_Node} (h : BkS i ts o) {p : api_Node} (hp : BN p) (ht : isT p = false) (hb : ∀ x ∈ ts', BN x) (htt : ∀ x ∈ ts', isT x = true) (ho : ∀ x ∈ o', x ∈ o) (hw : nwts ts' + nwts o' + nwt p ≤ 60 * (i + 1)) (hd : depN p ≤ 31) : BkS (i + 1) ts' (o' ++ [p]) := by
  have hdo : ∀ l : List api_Node, (∀ x ∈ l, x ∈ o) → depNs l ≤ 31 := by
    intro l
    induction l with
    | nil => simp [depNs]
    | cons x l ih =>
      intro hx
      have h1 := ih fun y hy => hx y (by simp [hy])
      have h2 : ∀ r : List api_Node, x ∈ r → depN x ≤ depNs r := by
        intro r
        induction r with
        | nil => simp
        | cons z r ih =>
          intro hr
          rw [depNs]
          rcases List.mem_cons.1 hr with rfl | hr
          · omega
          · have := ih hr; omega
      have h3 := h2 o (hx x (by simp))
      have := h.dep
      rw [depNs]
      omega
  refine ⟨hb, htt, fun x hx => ?_, fun x hx => ?_, ?_, ?_⟩
  · rcases List.mem_append.1 hx with hx | hx
    · exact h.ob x (ho x hx)
    · simp at hx; rw [hx]; exact hp
  · rcases List.mem_append.1 hx with hx | hx
    · exact h.ont x (ho x hx)
    · simp at hx; rw [hx]; exact ht
  · simp only [nwts_app, nwts]; omega
  · have := hdo o' ho
    simp only [depNs_app, depNs]
    omega

theorem doc_step (y : diptychlaw18_Cell) (hy : bcellIn y) (i : Nat) (hi : i < 40) (ts o : List api_Node) (h : BkS i ts o) : ∃ ts' o', BkS (i + 1) ts' o' ∧ ∀ suf, diptychlaw18_doc_l0 (y :: suf) (i : Int) ts o = diptychlaw18_doc_l0 suf ((i : Int) + 1) ts' o' := by
  have hy' := hy
  obtain ⟨hT, hM, hA, hI⟩ := hy
  have hwt := h.wt
  have hlo := nwts_len o
  have hlt := nwts_len ts
  obtain ⟨pT, eT, bT⟩ := bpick_eq y.Text 5 hT (by omega)
  obtain ⟨tx, et, mt⟩ := brd_lit bWords pT (by simp; omega)
  obtain ⟨pM, eM, bM⟩ := bpick_eq y.Marks 4 hM (by omega)
  obtain ⟨pI, eI, bI⟩ := bpick_eq y.In 5 hI (by omega)
  obtain ⟨t1, t2, t3⟩ := bword_ok mt
  have hi' : decide ((i : Int) < 40) = true := by simp; omega
  obtain ⟨m1, em1, hm1⟩ : ∃ m, ((diptychlaw18_pick y.Marks (4 : Int)).bind fun pick_68 => if ((and64 pick_68 (1 : Int)) == (1 : Int)) = true then (app 16 ([] : List Str) [([98] : Str)]).bind fun l_69 => some l_69 else some ([] : List Str)) = some m ∧ (m = [] ∨ m = [[98]]) := by
    rw [eM]
    simp only [Option.bind_some]
    split
    · exact ⟨[[98]], by rw [app_eq (by simp)]; rfl, .inr rfl⟩
    · exact ⟨[], rfl, .inl rfl⟩
  obtain ⟨m2, em2, hm2⟩ : ∃ m, ((diptychlaw18_pick y.Marks (4 : Int)).bind fun pick_71 => if ((and64 pick_71 (2 : Int)) == (2 : Int)) = true then (app 16 m1 [([105] : Str)]).bind fun l_72 => some l_72 else some m1) = some m ∧ BMarks m := by
    rw [eM]
    simp only [Option.bind_some]
    rcases hm1 with rfl | rfl
    · split
      · exact ⟨[[105]], by rw [app_eq (by simp)]; rfl, .inr (.inr (.inl rfl))⟩
      · exact ⟨[], rfl, .inl rfl⟩
    · split
      · exact ⟨[[98], [105]], by rw [app_eq (by simp)]; rfl, .inr (.inr (.inr rfl))⟩
      · exact ⟨[[98]], rfl, .inr (.inl rfl)⟩
  have hmw := bmarks_w hm2
  obtain ⟨n, hn⟩ : ∃ n : api_Node, n = ⟨sText, tx, m2, [], []⟩ := ⟨_, rfl⟩
  have hnB : BN n := by rw [hn]; exact .text _ _ t1 t2 hm2
  have hnT : isT n = true := by rw [hn]; rfl
  have hnW : nwt n ≤ 16 := by rw [hn, nwt_eq]; simp only [attrsW, nwts, List.length_cons, List.length_nil]; omega
  have hts : BkS i (ts ++ [n]) o → True := fun _ => trivial
  have start : ∀ suf, diptychlaw18_doc_l0 (y :: suf) (i : Int) ts o = (
      if ((pI : Int) == (0 : Int)) = true then
        diptychlaw18_doc_l0 suf ((i : Int) + 1) (ts ++ [n]) o
      else
        (diptychlaw18_para y (ts ++ [n])).bind fun para_76 =>
        if (decide ((pI : Int) < (3 : Int))) = true then
          (app 104 o [para_76]).bind fun l_77 =>
          diptychlaw18_doc_l0 suf ((i : Int) + 1) ([] : List api_Node) l_77
        else
          ((
              if (decide ((w64 ((o.length : Int) - (1 : Int))) ≥ (0 : Int))) = true then
                (rd o (w64 ((o.length : Int) - (1 : Int)))).bind fun x_78 =>
                if (x_78.Kind == ([108, 105, 115, 116] : Str)) = true then
                  if ((pI : Int) == (3 : Int)) = true then
                    (app 104 ([] : List api_Node) x_78.Kids).bind fun l_79 =>
                    (app 104 l_79 [({ Kind := ([105, 116, 101, 109] : Str), Text := ([] : Str), Marks := [], Attrs := [], Kids := [para_76] } : api_Node)]).bind fun l_80 =>
                    (sl o (0 : Int) (w64 ((o.length : Int) - (1 : Int)))).bind fun s_81 =>
                    (app 104 ([] : List api_Node) s_81).bind fun l_82 =>
                    (app 104 l_82 [{ x_78 with Kids := l_80 }]).bind fun l_83 =>
                    some (.inl l_83)
                  else
                    some (.inr ())
                else
                  some (.inr ())
              else
                some (.inr ())) : Option ((List api_Node) ⊕ Unit)).bind fun e => match e with
          | .inl v_84 =>
            diptychlaw18_doc_l0 suf ((i : Int) + 1) ([] : List api_Node) v_84
          | .inr _ =>
            if (decide ((w64 ((o.length : Int) - (1 : Int))) ≥ (0 : Int))) = true then
              (rd o (w64 ((o.length : Int) - (1 : Int)))).bind fun x_86 =>
              if (x_86.Kind == ([108, 105, 115, 116] : Str)) = true then
                (diptychref1_Depth x_86).bind fun depth_87 =>
                if (decide (depth_87 < (30 : Int))) = true then
                  (app 104 [para_76] [x_86]).bind fun l_88 =>
                  (sl o (0 : Int) (w64 ((o.length : Int) - (1 : Int)))).bind fun s_89 =>
                  (app 104 ([] : List api_Node) s_89).bind fun l_90 =>
                  (app 104 l_90 [({ Kind := ([108, 105, 115, 116] : Str), Text := ([] : Str), Marks := [], Attrs := [], Kids := [({ Kind := ([105, 116, 101, 109] : Str), Text := ([] : Str), Marks := [], Attrs := [], Kids := l_88 } : api_Node)] } : api_Node)]).bind fun l_91 =>
                  diptychlaw18_doc_l0 suf ((i : Int) + 1) ([] : List api_Node) l_91
                else
                  (app 104 o [({ Kind := ([108, 105, 115, 116] : Str), Text := ([] : Str), Marks := [], Attrs := [], Kids := [({ Kind := ([105, 116, 101, 109] : Str), Text := ([] : Str), Marks := [], Attrs := [], Kids := [para_76] } : api_Node)] } : api_Node)]).bind fun l_92 =>
                  diptychlaw18_doc_l0 suf ((i : Int) + 1) ([] : List api_Node) l_92
              else
                (app 104 o [({ Kind := ([108, 105, 115, 116] : Str), Text := ([] : Str), Marks := [], Attrs := [], Kids := [({ Kind := ([105, 116, 101, 109] : Str), Text := ([] : Str), Marks := [], Attrs := [], Kids := [para_76] } : api_Node)] } : api_Node)]).bind fun l_93 =>
                diptychlaw18_doc_l0 suf ((i : Int) + 1) ([] : List api_Node) l_93
            else
              (app 104 o [({ Kind := ([108, 105, 115, 116] : Str), Text := ([] : Str), Marks := [], Attrs := [], Kids := [({ Kind := ([105, 116, 101, 109] : Str), Text := ([] : Str), Marks := [], Attrs := [], Kids := [para_76] } : api_Node)] } : api_Node)]).bind fun l_94 =>
              diptychlaw18_doc_l0 suf ((i : Int) + 1) ([] : List api_Node) l_94) := fun suf => by
    rw [diptychlaw18_doc_l0, if_pos hi', eT]
    simp only [Option.bind_some]
    rw [et]
    simp only [Option.bind_some]
    rw [em1]
    simp only [Option.bind_some]
    rw [em2]
    simp only [Option.bind_some]
    rw [← hn, app_eq (by simp only [List.length_cons, List.length_nil]; omega)]
    simp only [Option.bind_some]
    rw [eI]
    rfl
  have htb : ∀ x ∈ ts ++ [n], BN x := fun x hx => by
    rcases List.mem_append.1 hx with hx | hx
    · exact h.tb x hx
    · simp at hx; rw [hx]; exact hnB
  have htt : ∀ x ∈ ts ++ [n], isT x = true := fun x hx => by
    rcases List.mem_append.1 hx with hx | hx
    · exact h.tt x hx
    · simp at hx; rw [hx]; exact hnT
  have hwn : nwts (ts ++ [n]) = nwts ts + nwt n := by simp [nwts_app, nwts]
  by_cases k0 : (pI : Int) = 0
  · refine ⟨ts ++ [n], o, ⟨htb, htt, h.ob, h.ont, by omega, h.dep⟩, fun suf => ?_⟩
    rw [start, if_pos (by simp [k0])]
  · obtain ⟨p, ep, hpB, hpT, hpW, hpD⟩ := @para_ok y hy' (i + 1) (by omega) (ts ++ [n]) o ⟨htb, htt, h.ob, h.ont, by omega, h.dep⟩
    have nob : ∀ x ∈ ([] : List api_Node), BN x := by simp
    have nott : ∀ x ∈ ([] : List api_Node), isT x = true := by simp
    by_cases k3 : (pI : Int) < 3
    · refine ⟨[], o ++ [p], h.put hpB hpT nob nott (fun x hx => hx) (by simp only [nwts]; omega) (by omega), fun suf => ?_⟩
      rw [start, if_neg (by simp; omega), ep]
      simp only [Option.bind_some]
      rw [if_pos (by simp; omega), app_eq (by simp only [List.length_cons, List.length_nil]; omega)]
      rfl
    · obtain ⟨q1, q2, q3, q4⟩ := wrap_ok (k := sItem) (ks := [p]) name_item rfl (by simpa using hpB) (by simpa using hpT)
      obtain ⟨r1, r2, r3, r4⟩ := wrap_ok (k := sList) (ks := [⟨sItem, [], [], [], [p]⟩]) name_list rfl (by simpa using q1) (by simpa using q2)
      simp only [nwts, depNs] at q3 q4 r3 r4
      have one : BkS (i + 1) [] (o ++ [⟨sList, [], [], [], [⟨sItem, [], [], [], [p]⟩]⟩]) := h.put r1 r2 nob nott (fun x hx => hx) (by simp only [nwts]; omega) (by omega)
      have happ : ∀ z : api_Node, app 104 o [z] = some (o ++ [z]) := fun z => app_eq (by simp only [List.length_cons, List.length_nil]; omega)
      rcases snoc_cases o with rfl | ⟨o, x, rfl⟩
      · refine ⟨[], _, one, fun suf => ?_⟩
        have hl : decide (w64 ((([] : List api_Node).length : Int) - 1) ≥ 0) = false := by rw [w64_eq (by simp)]; simp
        rw [start, if_neg (by simp; omega), ep]
        simp only [Option.bind_some]
        rw [if_neg (by simp; omega), hl]
        simp only [Bool.false_eq_true, if_false, Option.bind_some]
        rw [happ]
        rfl
      · have hlen : ((o ++ [x]).length : Int) - 1 = (o.length : Int) := by simp
        have hlw : w64 (((o ++ [x]).length : Int) - 1) = (o.length : Int) := by
          rw [hlen]
          simp only [List.length_append, List.length_cons, List.length_nil] at hlo
          exact w64_eq (by omega)
        have hl : decide ((o.length : Int) ≥ 0) = true := by simp
        have hrd : rd (o ++ [x]) (o.length : Int) = some x := rd_mid o [] x
        have hsl : sl (o ++ [x]) 0 (o.length : Int) = some o := sl_pre o [x]
        have hxB := h.ob x (by simp)
        have hxT := h.ont x (by simp)
        have hd := h.dep
        simp only [nwts_app, nwts, depNs_app, depNs] at hwt hd
        have hwo : 2 * o.length ≤ nwts o := nwts_len o
        by_cases kl : x.Kind = sList
        · by_cases kk : (pI : Int) = 3
          · obtain ⟨kB, kJ⟩ := bn_kids hxB
            have hlk := nwts_len x.Kids
            have hxw := nwt_eq x
            obtain ⟨z, hz⟩ : ∃ z : api_Node, z = { x with Kids := x.Kids ++ [⟨sItem, [], [], [], [p]⟩] } := ⟨_, rfl⟩
            have zw := nwt_eq z
            have zT : isT z = false := by rw [hz]; exact hxT
            have zd := depN_node zT
            have xd := depN_node hxT
            have zB : BN z := by
              rw [hz]
              cases hxB with
              | text t m h1 h2 hm => cases kl
              | node k a ks hk ha hb hs hj =>
                simp only at kl
                subst kl
                refine .node _ _ _ hk ha hb (fun y hy => ?_) ?_
                · rcases List.mem_append.1 hy with hy | hy
                  · exact hs y hy
                  · simp at hy; rw [hy]; exact q1
                · rcases snoc_cases ks with rfl | ⟨ks, u, rfl⟩
                  · trivial
                  · rw [List.append_assoc]
                    exact badj_app ks u _ hj (by unfold alikeB; rw [q2]; simp)
            rw [hz] at zw zd
            simp only [nwts_app, nwts, depNs_app, depNs] at zw zd
            refine ⟨[], o ++ [z], h.put zB zT nob nott (fun y hy => by simp [hy]) (by simp only [nwts]; rw [hz, nwt_eq]; simp only [nwts_app, nwts]; omega) (by rw [hz, zd]; omega), fun suf => ?_⟩
            rw [start, if_neg (by simp; omega), ep]
            simp only [Option.bind_some]
            rw [if_neg (by simp; omega), hlw, hl]
            simp only [if_true]
            rw [hrd]
            simp only [Option.bind_some]
            rw [if_pos (by rw [kl]; rfl), if_pos (by simp [kk]), app_eq (by simp only [List.length_nil]; omega)]
            simp only [Option.bind_some, List.nil_append]
            rw [app_eq (by simp only [List.length_cons, List.length_nil]; omega)]
            simp only [Option.bind_some]
            rw [hsl]
            simp only [Option.bind_some]
            rw [app_eq (by simp only [List.length_nil]; omega)]
            simp only [Option.bind_some, List.nil_append]
            rw [app_eq (by simp only [List.length_cons, List.length_nil]; omega)]
            simp only [Option.bind_some]
            rw [hz]
          · by_cases kd : depN x < 30
            · obtain ⟨u1, u2, u3, u4⟩ := wrap_ok (k := sItem) (ks := [p, x]) name_item rfl (by simpa using ⟨hpB, hxB⟩) (by simpa using ⟨hpT, hxT⟩)
              obtain ⟨v1, v2, v3, v4⟩ := wrap_ok (k := sList) (ks := [⟨sItem, [], [], [], [p, x]⟩]) name_list rfl (by simpa using u1) (by simpa using u2)
              simp only [nwts, depNs] at u3 u4 v3 v4
              refine ⟨[], o ++ [⟨sList, [], [], [], [⟨sItem, [], [], [], [p, x]⟩]⟩], h.put v1 v2 nob nott (fun y hy => by simp [hy]) (by simp only [nwts]; omega) (by omega), fun suf => ?_⟩
              rw [start, if_neg (by simp; omega), ep]
              simp only [Option.bind_some]
              rw [if_neg (by simp; omega), hlw, hl]
              simp only [if_true]
              rw [hrd]
              simp only [Option.bind_some]
              rw [if_pos (by rw [kl]; rfl), if_neg (by simp [kk])]
              simp only [Option.bind_some]
              rw [if_pos (by rw [kl]; rfl), rdepth_eq x (by omega)]
              simp only [Option.bind_some]
              rw [if_pos (by simp; omega), app_eq (by simp)]
              simp only [Option.bind_some]
              rw [hsl]
              simp only [Option.bind_some]
              rw [app_eq (by simp only [List.length_nil]; omega)]
              simp only [Option.bind_some, List.nil_append]
              rw [app_eq (by simp only [List.length_cons, List.length_nil]; omega)]
              rfl
            · refine ⟨[], _, one, fun suf => ?_⟩
              rw [start, if_neg (by simp; omega), ep]
              simp only [Option.bind_some]
              rw [if_neg (by simp; omega), hlw, hl]
              simp only [if_true]
              rw [hrd]
              simp only [Option.bind_some]
              rw [if_pos (by rw [kl]; rfl), if_neg (by simp [kk])]
              simp only [Option.bind_some]
              rw [if_pos (by rw [kl]; rfl), rdepth_eq x (by omega)]
              simp only [Option.bind_some]
              rw [if_neg (by simp; omega), happ]
              rfl
        · refine ⟨[], _, one, fun suf => ?_⟩
          rw [start, if_neg (by simp; omega), ep]
          simp only [Option.bind_some]
          rw [if_neg (by simp; omega), hlw, hl]
          simp only [if_true]
          rw [hrd]
          simp only [Option.bind_some]
          rw [if_neg (by simpa using kl)]
          simp only [Option.bind_some]
          rw [if_neg (by simpa using kl), happ]
          rfl

theorem doc_l0 : ∀ (l : List diptychlaw18_Cell) (i : Nat) (ts o : List api_Node), (∀ y ∈ l, bcellIn y) → i ≤ 40 → BkS i ts o → ∃ ts' o', diptychlaw18_doc_l0 l (i : Int) ts o = some o' ∧ BkS 40 ts' o'
  | [], i, ts, o, _, hi, h => ⟨ts, o, by simp [diptychlaw18_doc_l0], h.tb, h.tt, h.ob, h.ont, by have := h.wt; omega, h.dep⟩
  | y :: l, i, ts, o, hy, hi, h => by
    by_cases hlt : i < 40
    · obtain ⟨t1, o1, h1, h2⟩ := doc_step y (hy y (by simp)) i hlt ts o h
      obtain ⟨ts', o', h3, h4⟩ := doc_l0 l (i + 1) t1 o1 (fun x hx => hy x (by simp [hx])) (by omega) h1
      refine ⟨ts', o', ?_, h4⟩
      rw [h2, ← h3]
      rfl
    · have : decide ((i : Int) < 40) = false := by simp; omega
      exact ⟨ts, o, by rw [diptychlaw18_doc_l0]; simp [this], h.tb, h.tt, h.ob, h.ont, by have := h.wt; omega, h.dep⟩

theorem book_eq (l : List diptychlaw18_Cell) (hl : l.length ≤ 9223372036854775807) (h : ∀ y ∈ l, bcellIn y) : ∃ ks, diptychlaw18_doc l = some ⟨bDoc, [], [], [], ks⟩ ∧ Book ks := by
  obtain ⟨ts, o, h1, h2⟩ := doc_l0 l 0 [] [] h (by omega) ⟨by simp, by simp, by simp, by simp, by simp [nwts], by simp [depNs]⟩
  have hw := h2.wt
  refine ⟨o, ?_, h2.ob, h2.ont, by omega, h2.dep⟩
  unfold diptychlaw18_doc
  rw [chk_eq hl]
  have : diptychlaw18_doc_l0 l 0 [] [] = some o := h1
  rw [this]
  rfl

end Go.Proofs.YtpjdafhmneiohaaDoor
