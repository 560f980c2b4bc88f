/- Texts of the proof of diffLeastCard -/
import Derived.Test.YtclohbgnaopjfaaDoorAgC
import Derived.Test.YtclohbgnaopjfaaDoorAgF
import Derived.Test.YtclohbgnaopjfaaDoorAgK0
import Derived.Test.YtclohbgnaopjfaaDoorAgK1
namespace Go.Proofs.YtclohbgnaopjfaaDoor
set_option linter.unusedSimpArgs false
set_option linter.unusedVariables false
open Go
set_option maxRecDepth 100000
theorem yw : ∀ kr : Nat, (∀ (wT : (List za)) (kC : (List za)) (R : Bool), qg kr wT kC = some R → PC Tryd.prog 44 [.list 5 (wT.map za.pv), .list 5 (kC.map za.pv), .fn 15 []] (.bool R)) ∧
  (∀ (a_1 : za) (b_2 : za) (R : Bool), jY kr a_1 b_2 = some R → PC Tryd.prog 15 [.agg [.str a_1.Kind, .str a_1.Text, .list 1 (a_1.Marks.map PV.str), .list 2 (a_1.zh.map ze.pv), .list 5 (a_1.Kids.map za.pv)], .agg [.str b_2.Kind, .str b_2.Text, .list 1 (b_2.Marks.map PV.str), .list 2 (b_2.zh.map ze.pv), .list 5 (b_2.Kids.map za.pv)]] (.bool R)) := by
 intro kr
 induction kr with
 | zero => exact ⟨(by intro wT kC R hh; rw [qg] at hh; cases hh), (by intro a_1 b_2 R hh; rw [jY] at hh; cases hh)⟩
 | succ kr ih =>
  obtain ⟨ih_slices_EqualFunc_api_Node_node_Same, ih_node_Same⟩ := ih
  refine ⟨?_, ?_⟩
  ·intro wT kC R hh
   rw [qg] at hh
   refine yg rfl ?_
   refine zb fun K kk hK => ?_
   simp only [go_sem]
   refine hK _ _ fun nx => ?_; clear hK K; try clear kk
   refine zn ?_
   refine zb fun K kk hK => ?_
   simp only [go_sem]
   refine hK _ _ fun nx => ?_; clear hK K; try clear kk
   by_cases h1 : ((wT.length : Int) != (kC.length : Int)) = true
   ·rw [if_pos h1] at hh
    refine zm (by first | exact congrArg PV.bool h1 | rfl) ?_
    refine zb fun K kk hK => ?_
    simp only [go_sem]
    refine hK _ _ fun nx => ?_; clear hK K; try clear kk
    refine zk ?_; refine nmx ?_
    obtain hR := Option.some.inj hh
    subst hR
    exact zy
   ·rw [if_neg h1] at hh
    replace h1 := Bool.eq_false_iff.mpr h1
    refine zi (by first | exact congrArg PV.bool h1 | rfl) ?_
    refine zt ?_; refine nmx ?_
    refine zn ?_
    refine zb fun K kk hK => ?_
    simp only [go_sem]
    refine hK _ _ fun nx => ?_; clear hK K; try clear kk
    obtain ⟨e0, f0, hh⟩ := zf hh
    obtain ⟨hlen0, f0⟩ := qf f0
    refine qH (w9 (fun s => .inr () = e0 ∧ ∃ (Zh : Int) (aao : Bool) (nx : Nat), s = ⟨[(1, .list 5 (kC.map za.pv)), (2, .fn 15 []), (15, .list 5 (wT.map za.pv)), (16, .int .i64 (wT.length : Int)), (17, .int .i64 Zh), (18, .bool aao)], [], nx⟩))
     (fun i s => False)
     (fun s => ∃ VA, .inl VA = e0 ∧ zS Tryd.prog [.tmp 6] (.bool VA) [] .ret s) ?_ ?_ ?_ ?_
    ·refine zA ?_
     refine qb fun I hI => ?_
     have key : ∀ (suf pre : List za) (v_6 : Int), wT = pre ++ suf → v_6 = (pre.length : Int) → zP kC (jY kr) suf v_6 = some e0 → ∀ (nx : Nat), I ⟨[(1, .list 5 (kC.map za.pv)), (2, .fn 15 []), (15, .list 5 (wT.map za.pv)), (16, .int .i64 (wT.length : Int)), (17, .int .i64 v_6)], [], nx⟩ := by
      intro suf
      induction suf with
      | nil =>
       intro pre v_6 hsplit hidx hh nx
       rw [zP] at hh
       refine hI _ ?_
       have h12 := walk_nil hsplit hidx
       refine zb fun K kk hK => ?_
       simp only [go_sem]
       refine hK _ _ fun nx => ?_; clear hK K; try clear kk
       refine zn ?_
       refine zi (by first | exact congrArg PV.bool h12 | rfl) ?_
       refine zU ?_; refine nmx ?_
       refine wU ?_
       refine zG ?_
       refine ⟨(Option.some.inj hh), ?_⟩
       first | exact ⟨_, _, _, rfl⟩ | (simp only [pvE, lsE, zo]; exact ⟨_, _, _, rfl⟩) | (simp only [pvE, lsE, zo, h1, h12]; exact ⟨_, _, _, rfl⟩)
      | cons anH suf ih =>
       intro pre v_6 hsplit hidx hh nx
       rw [zP] at hh
       refine hI _ ?_
       obtain ⟨hl0a, hl0b, hl0d, hl0w, h12⟩ := qX (f := za.pv) hsplit hidx hlen0
       refine zb fun K kk hK => ?_
       simp only [go_sem]
       refine hK _ _ fun nx => ?_; clear hK K; try clear kk
       refine zn ?_
       refine zm (by first | exact congrArg PV.bool h12 | rfl) ?_
       refine zt ?_; refine nmx ?_
       refine zn ?_
       refine zA ?_
       refine zb fun K kk hK => ?_
       simp only [go_sem, hl0a, hl0b, hl0d, hl0w]
       refine hK _ _ fun nx => ?_; clear hK K; try clear kk
       obtain ⟨acx, h13, hh⟩ := zf hh
       obtain ⟨h13a, h13b, h13c⟩ := rd_some h13
       have h13d := wN (f := za.pv) h13c
       have h13f := qG (f := za.pv) h13c
       try simp only [Int.toNat_natCast, Int.reduceToNat] at h13d h13f
       refine zb fun K kk hK => ?_
       simp only [go_sem, h13a, h13b, h13d, h13f.1, h13f.2, hl0a, hl0b, hl0d, hl0w]
       (repeat refine sd ?_)
       refine hK _ _ fun nx => ?_; clear hK K; try clear kk
       obtain ⟨aki, h14, hh⟩ := zf hh
       refine zb fun K kk hK => ?_
       simp only [go_sem, hl0a, hl0b, hl0d, hl0w]
       refine zg (ih_node_Same _ _ _ h14) (by (try simp only [go_sem, hl0a, hl0b, hl0d, hl0w]) <;> exact wkl) (by rfl) (by rfl) ?_
       simp only [go_sem, hl0a, hl0b, hl0d, hl0w]
       refine hK _ _ fun nx => ?_; clear hK K; try clear kk
       by_cases h15 : (!aki) = true
       ·rw [if_pos h15] at hh
        refine zm (by first | exact congrArg PV.bool h15 | rfl) ?_
        refine zb fun K kk hK => ?_
        simp only [go_sem, hl0a, hl0b, hl0d, hl0w]
        refine hK _ _ fun nx => ?_; clear hK K; try clear kk
        refine zk ?_; refine nmx ?_
        refine QF ⟨_, (Option.some.inj hh), ?_⟩
        exact zy
       ·rw [if_neg h15] at hh
        replace h15 := Bool.eq_false_iff.mpr h15
        refine zi (by first | exact congrArg PV.bool h15 | rfl) ?_
        refine zt ?_; refine nmx ?_
        refine zq fun K kk hK => ?_
        simp only [go_sem, hl0a, hl0b, hl0d, hl0w]
        refine hK _ _ fun nx => ?_; clear hK K; try clear kk
        refine nmx ?_
        have ih' := ih (pre ++ [anH]) (v_6 + 1) (by rw [hsplit]; simp) (by simp [hidx]) hh nx
        refine zG ?_
        first | exact ih' | (simp only [pvE, lsE, zo] at ih' ⊢; exact ih') | (simp only [pvE, lsE, zo, h1, h12, h15] at ih' ⊢; exact ih')
     exact key wT [] _ rfl rfl f0 _
    ·rintro s ⟨t, hless, rfl, Zh, aao, nx, rfl⟩
     try dsimp only at hh
     refine nmy ?_
     first | (refine wG hless ?_; try refine ku ?_) | refine qP hless ?_ | refine qQ hless ?_
     refine zb fun K kk hK => ?_
     simp only [go_sem]
     refine hK _ _ fun nx => ?_; clear hK K; try clear kk
     refine zk ?_; refine nmx ?_
     obtain hR := Option.some.inj hh
     subst hR
     exact zy
    ·intro i s h; exact h.elim
    ·rintro s ⟨VA, rfl, hb⟩
     try dsimp only at hh
     obtain hR := Option.some.inj hh
     subst hR
     refine nmx ?_
     exact hb
  ·intro a_1 b_2 R hh
   rw [jY] at hh
   refine afH rfl ?_
   refine zb fun K kk hK => ?_
   simp only [go_sem]
   refine hK _ _ fun nx => ?_; clear hK K; try clear kk
   by_cases h1 : (a_1.Kind == b_2.Kind) = true
   ·rw [if_pos h1] at hh
    by_cases h2 : (a_1.Text == b_2.Text) = true
    ·rw [if_pos h2] at hh
     obtain ⟨ag0, h3, hh⟩ := zf hh
     by_cases h4 : (ag0) = true
     ·rw [if_pos h4] at hh
      obtain ⟨anY, h5, hh⟩ := zf hh
      by_cases h6 : (anY) = true
      ·rw [if_pos h6] at hh
       obtain ⟨asG, h7, hh⟩ := zf hh
       refine zb fun K kk hK => ?_
       simp only [go_sem, h1, h2, h4, h6]
       (repeat refine sd ?_)
       refine zg (jk _ _ _ h3) (by (try simp only [go_sem, h1, h2, h4, h6]) <;> exact wkl) (by rfl) (by rfl) ?_
       simp only [go_sem, h1, h2, h4, h6]
       (repeat refine sd ?_)
       refine zg (Zk _ _ _ h5) (by (try simp only [go_sem, h1, h2, h4, h6]) <;> exact wkl) (by rfl) (by rfl) ?_
       simp only [go_sem, h1, h2, h4, h6]
       (repeat refine sd ?_)
       refine zg (ih_slices_EqualFunc_api_Node_node_Same _ _ _ h7) (by (try simp only [go_sem, h1, h2, h4, h6]) <;> exact wkl) (by rfl) (by rfl) ?_
       simp only [go_sem, h1, h2, h4, h6]
       (repeat refine sd ?_)
       refine hK _ _ fun nx => ?_; clear hK K; try clear kk
       refine zk ?_; refine nmx ?_
       obtain hR := Option.some.inj hh
       subst hR
       exact zy
      ·rw [if_neg h6] at hh
       replace h6 := Bool.eq_false_iff.mpr h6
       refine zb fun K kk hK => ?_
       simp only [go_sem, h1, h2, h4, h6]
       (repeat refine sd ?_)
       refine zg (jk _ _ _ h3) (by (try simp only [go_sem, h1, h2, h4, h6]) <;> exact wkl) (by rfl) (by rfl) ?_
       simp only [go_sem, h1, h2, h4, h6]
       (repeat refine sd ?_)
       refine zg (Zk _ _ _ h5) (by (try simp only [go_sem, h1, h2, h4, h6]) <;> exact wkl) (by rfl) (by rfl) ?_
       simp only [go_sem, h1, h2, h4, h6]
       (repeat refine sd ?_)
       refine hK _ _ fun nx => ?_; clear hK K; try clear kk
       refine zk ?_; refine nmx ?_
       obtain hR := Option.some.inj hh
       subst hR
       exact zy
     ·rw [if_neg h4] at hh
      replace h4 := Bool.eq_false_iff.mpr h4
      refine zb fun K kk hK => ?_
      simp only [go_sem, h1, h2, h4]
      (repeat refine sd ?_)
      refine zg (jk _ _ _ h3) (by (try simp only [go_sem, h1, h2, h4]) <;> exact wkl) (by rfl) (by rfl) ?_
      simp only [go_sem, h1, h2, h4]
      (repeat refine sd ?_)
      refine hK _ _ fun nx => ?_; clear hK K; try clear kk
      refine zk ?_; refine nmx ?_
      obtain hR := Option.some.inj hh
      subst hR
      exact zy
    ·rw [if_neg h2] at hh
     replace h2 := Bool.eq_false_iff.mpr h2
     refine zb fun K kk hK => ?_
     simp only [go_sem, h1, h2]
     (repeat refine sd ?_)
     refine hK _ _ fun nx => ?_; clear hK K; try clear kk
     refine zk ?_; refine nmx ?_
     obtain hR := Option.some.inj hh
     subst hR
     exact zy
   ·rw [if_neg h1] at hh
    replace h1 := Bool.eq_false_iff.mpr h1
    refine zb fun K kk hK => ?_
    simp only [go_sem, h1]
    (repeat refine sd ?_)
    refine hK _ _ fun nx => ?_; clear hK K; try clear kk
    refine zk ?_; refine nmx ?_
    obtain hR := Option.some.inj hh
    subst hR
    exact zy
theorem acz (a_1 : za) (b_2 : za) (R : Bool) (hh : Qe a_1 b_2 = some R) : PC Tryd.prog 15 [.agg [.str a_1.Kind, .str a_1.Text, .list 1 (a_1.Marks.map PV.str), .list 2 (a_1.zh.map ze.pv), .list 5 (a_1.Kids.map za.pv)], .agg [.str b_2.Kind, .str b_2.Text, .list 1 (b_2.Marks.map PV.str), .list 2 (b_2.zh.map ze.pv), .list 5 (b_2.Kids.map za.pv)]] (.bool R) := by
 rw [Qe] at hh
 obtain ⟨kr, hh⟩ := jH hh
 exact (yw kr).2 _ _ _ hh
theorem XV (ad5 : Str) (adY : Str) (Y7 : (List Str)) (yl : (List ze)) (adW : (List za)) (aeC : Str) (aeh : Str) (aam : (List Str)) (xU : (List ze)) (Y8 : (List za)) (Ws : Int) (aab : Int) (apB : Int) (XT : Int) (afw : (List Int)) (arc : (List zx)) (R : (Str × Str × (List Str) × (List ze) × (List za) × Str × Str × (List Str) × (List ze) × (List za) × Int × Int × Int × Int × (List Int) × (List zx))) (hh : jE ad5 adY Y7 yl adW aeC aeh aam xU Y8 Ws aab apB XT afw arc = some R) : BC Tryd.prog 68 [.box 1000 0 0] [.var 78 [.str ad5, .str adY, .list 1 (Y7.map PV.str), .list 2 (yl.map ze.pv), .list 5 (adW.map za.pv), .str aeC, .str aeh, .list 1 (aam.map PV.str), .list 2 (xU.map ze.pv), .list 5 (Y8.map za.pv), .row 1001 0 afw.length, .int .i64 Ws, .int .i64 aab, .int .i64 apB, .int .i64 XT, .row 1002 0 arc.length], .row false 1 (afw.map (PV.int .i64)), .row false 6 (arc.map zx.pv)] (.tup []) [.var 78 [.str R.1, .str R.2.1, .list 1 (R.2.2.1.map PV.str), .list 2 (R.2.2.2.1.map ze.pv), .list 5 (R.2.2.2.2.1.map za.pv), .str R.2.2.2.2.2.1, .str R.2.2.2.2.2.2.1, .list 1 (R.2.2.2.2.2.2.2.1.map PV.str), .list 2 (R.2.2.2.2.2.2.2.2.1.map ze.pv), .list 5 (R.2.2.2.2.2.2.2.2.2.1.map za.pv), .row 1001 0 R.2.2.2.2.2.2.2.2.2.2.2.2.2.2.1.length, .int .i64 R.2.2.2.2.2.2.2.2.2.2.1, .int .i64 R.2.2.2.2.2.2.2.2.2.2.2.1, .int .i64 R.2.2.2.2.2.2.2.2.2.2.2.2.1, .int .i64 R.2.2.2.2.2.2.2.2.2.2.2.2.2.1, .row 1002 0 R.2.2.2.2.2.2.2.2.2.2.2.2.2.2.2.length], .row false 1 (R.2.2.2.2.2.2.2.2.2.2.2.2.2.2.1.map (PV.int .i64)), .moved 6 (R.2.2.2.2.2.2.2.2.2.2.2.2.2.2.2.map zx.pv)] := by
 rw [jE] at hh
 refine Ju rfl rfl rfl ?_
 refine zb fun K kk hK => ?_
 simp only [go_sem]
 refine hK _ _ fun nx => ?_; clear hK K; try clear kk
 obtain ⟨e0, f0, hh⟩ := zf hh
 obtain ⟨hlen0, f0⟩ := qf f0
 refine qH (w9 (fun s => ∃ ap8, ap8 = e0 ∧ ∃ (avS : Int) (abG : Bool) (nx : Nat) (g1002 : Nat), s = ⟨[(0, .box 1000 0 0), (8, .list 2 (yl.map ze.pv)), (9, .int .i64 (yl.length : Int)), (10, .int .i64 avS), (11, .bool abG)], [(1000, 0, .var 78 [.str ad5, .str adY, .list 1 (Y7.map PV.str), .list 2 (yl.map ze.pv), .list 5 (adW.map za.pv), .str aeC, .str aeh, .list 1 (aam.map PV.str), .list 2 (xU.map ze.pv), .list 5 (Y8.map za.pv), .row 1001 0 afw.length, .int .i64 Ws, .int .i64 aab, .int .i64 apB, .int .i64 XT, .row 1002 g1002 ap8.length]), (1001, 0, .row false 1 (afw.map (PV.int .i64))), (1002, g1002, .row false 6 (ap8.map zx.pv))], nx⟩))
  (fun i s => False)
  (fun s => False) ?_ ?_ ?_ ?_
 ·refine zA ?_
  refine qb fun I hI => ?_
  have key : ∀ (suf pre : List ze) (VH : Int) (ab9 : (List zx)), yl = pre ++ suf → VH = (pre.length : Int) → qi xU Ws suf VH ab9 = some e0 → ∀ (nx : Nat) (g1002 : Nat), I ⟨[(0, .box 1000 0 0), (8, .list 2 (yl.map ze.pv)), (9, .int .i64 (yl.length : Int)), (10, .int .i64 VH)], [(1000, 0, .var 78 [.str ad5, .str adY, .list 1 (Y7.map PV.str), .list 2 (yl.map ze.pv), .list 5 (adW.map za.pv), .str aeC, .str aeh, .list 1 (aam.map PV.str), .list 2 (xU.map ze.pv), .list 5 (Y8.map za.pv), .row 1001 0 afw.length, .int .i64 Ws, .int .i64 aab, .int .i64 apB, .int .i64 XT, .row 1002 g1002 ab9.length]), (1001, 0, .row false 1 (afw.map (PV.int .i64))), (1002, g1002, .row false 6 (ab9.map zx.pv))], nx⟩ := by
   intro suf
   induction suf with
   | nil =>
    intro pre VH ab9 hsplit hidx hh nx g1002
    rw [qi] at hh
    refine hI _ ?_
    have h13 := walk_nil hsplit hidx
    refine zb fun K kk hK => ?_
    simp only [go_sem]
    refine hK _ _ fun nx => ?_; clear hK K; try clear kk
    refine zn ?_
    refine zi (by first | exact congrArg PV.bool h13 | rfl) ?_
    refine zU ?_; refine nmx ?_
    refine wU ?_
    refine zG ?_
    refine ⟨_, (Option.some.inj hh), ?_⟩
    first | exact ⟨_, _, _, _, rfl⟩ | (simp only [pvE, lsE, zo]; exact ⟨_, _, _, _, rfl⟩) | (simp only [pvE, lsE, zo, h13]; exact ⟨_, _, _, _, rfl⟩)
   | cons anz suf ih =>
    intro pre VH ab9 hsplit hidx hh nx g1002
    rw [qi] at hh
    refine hI _ ?_
    obtain ⟨hl0a, hl0b, hl0d, hl0w, h13⟩ := qX (f := ze.pv) hsplit hidx hlen0
    refine zb fun K kk hK => ?_
    simp only [go_sem]
    refine hK _ _ fun nx => ?_; clear hK K; try clear kk
    refine zn ?_
    refine zm (by first | exact congrArg PV.bool h13 | rfl) ?_
    refine zt ?_; refine nmx ?_
    refine zn ?_
    refine zA ?_
    refine zb fun K kk hK => ?_
    simp only [go_sem, hl0a, hl0b, hl0d, hl0w]
    refine hK _ _ fun nx => ?_; clear hK K; try clear kk
    by_cases h14 : (decide (VH < (xU.length : Int))) = true
    ·rw [if_pos h14] at hh
     obtain ⟨ata, h15, hh⟩ := zf hh
     obtain ⟨h15a, h15b, h15c⟩ := rd_some h15
     have h15d := wN (f := ze.pv) h15c
     have h15f := qG (f := ze.pv) h15c
     try simp only [Int.toNat_natCast, Int.reduceToNat] at h15d h15f
     refine zb fun K kk hK => ?_
     simp only [go_sem, h14, of_decide_eq_true h14, h15a, h15b, h15d, h15f.1, h15f.2, hl0a, hl0b, hl0d, hl0w]
     (repeat refine sd ?_)
     refine hK _ _ fun nx => ?_; clear hK K; try clear kk
     by_cases h16 : (!(ata.Value == anz.Value)) = true
     ·rw [if_pos h16] at hh
      refine zm (by first | exact congrArg PV.bool h16 | rfl) ?_
      obtain ⟨asQ, h17, hh⟩ := zf hh
      obtain ⟨h17a, h17c⟩ := zW h17
      have h17d := qM (f := zx.pv) h17c
      have h17e := qL h17c
      try simp only [List.length_cons, List.length_nil, Nat.zero_add, Nat.reduceAdd] at h17a h17e
      try simp only [h17e] at h17a
      try simp only [List.map_cons, List.map_nil, List.nil_append, List.append_nil, List.cons_append, List.singleton_append, zo, pvE] at h17d
      refine zq fun K kk hK => ?_
      simp only [go_sem, h15a, h15b, h15d, h15f.1, h15f.2, h17a, h17d, h17e, hl0a, hl0b, hl0d, hl0w]
      (repeat refine sd ?_)
      refine hK _ _ fun nx => ?_; clear hK K; try clear kk
      refine nmx ?_
      refine zq fun K kk hK => ?_
      simp only [go_sem, hl0a, hl0b, hl0d, hl0w]
      refine hK _ _ fun nx => ?_; clear hK K; try clear kk
      refine nmx ?_
      have ih' := ih (pre ++ [anz]) (VH + 1) _ (by rw [hsplit]; simp) (by simp [hidx]) hh nx
      refine zG ?_
      first | exact ih' _ | (simp only [pvE, lsE, zo, h17e] at ih' ⊢; exact ih' _) | (simp only [pvE, lsE, zo, h17e, h13, h14, h16] at ih' ⊢; exact ih' _)
     ·rw [if_neg h16] at hh
      replace h16 := Bool.eq_false_iff.mpr h16
      refine zi (by first | exact congrArg PV.bool h16 | rfl) ?_
      refine zt ?_; refine nmx ?_
      refine zq fun K kk hK => ?_
      simp only [go_sem, hl0a, hl0b, hl0d, hl0w]
      refine hK _ _ fun nx => ?_; clear hK K; try clear kk
      refine nmx ?_
      have ih' := ih (pre ++ [anz]) (VH + 1) _ (by rw [hsplit]; simp) (by simp [hidx]) hh nx
      refine zG ?_
      first | exact ih' _ | (simp only [pvE, lsE, zo] at ih' ⊢; exact ih' _) | (simp only [pvE, lsE, zo, h13, h14, h16] at ih' ⊢; exact ih' _)
    ·rw [if_neg h14] at hh
     replace h14 := Bool.eq_false_iff.mpr h14
     refine zb fun K kk hK => ?_
     simp only [go_sem, h14, of_decide_eq_false h14, hl0a, hl0b, hl0d, hl0w]
     (repeat refine sd ?_)
     refine hK _ _ fun nx => ?_; clear hK K; try clear kk
     refine zi rfl ?_
     refine zt ?_; refine nmx ?_
     refine zq fun K kk hK => ?_
     simp only [go_sem, hl0a, hl0b, hl0d, hl0w]
     refine hK _ _ fun nx => ?_; clear hK K; try clear kk
     refine nmx ?_
     have ih' := ih (pre ++ [anz]) (VH + 1) _ (by rw [hsplit]; simp) (by simp [hidx]) hh nx
     refine zG ?_
     first | exact ih' _ | (simp only [pvE, lsE, zo] at ih' ⊢; exact ih' _) | (simp only [pvE, lsE, zo, h13, h14] at ih' ⊢; exact ih' _)
  exact key yl [] _ _ rfl rfl f0 _ _
 ·rintro s ⟨t, hless, ap8, rfl, avS, abG, nx, g1002, rfl⟩
  try dsimp only at hh
  refine nmy ?_
  first | (refine wG hless ?_; try refine ku ?_) | refine qP hless ?_ | refine qQ hless ?_
  obtain hR := Option.some.inj hh
  subst hR
  refine YG ?_
  refine vZ ?_ (by rfl) ?_
  ·simp only [go_sem, wI, jU, kP, vY, ZQ, List.map_cons, List.map_append, List.head?_cons]
   all_goals exact wkw
  ·(try simp only [go_sem]); (try simp only [List.length_append, List.map_append]); all_goals exact wkb
 ·intro i s h; exact h.elim
 ·intro s h; exact h.elim
theorem anh (a_1 : za) (b_2 : za) (R : vT) (hh : acX a_1 b_2 = some R) : PC Tryd.prog 40 [.agg [.str a_1.Kind, .str a_1.Text, .list 1 (a_1.Marks.map PV.str), .list 2 (a_1.zh.map ze.pv), .list 5 (a_1.Kids.map za.pv)], .agg [.str b_2.Kind, .str b_2.Text, .list 1 (b_2.Marks.map PV.str), .list 2 (b_2.zh.map ze.pv), .list 5 (b_2.Kids.map za.pv)]] (.acN 78 [.str R.a.Kind, .str R.a.Text, .list 1 (R.a.Marks.map PV.str), .list 2 (R.a.zh.map ze.pv), .list 5 (R.a.Kids.map za.pv), .str R.b.Kind, .str R.b.Text, .list 1 (R.b.Marks.map PV.str), .list 2 (R.b.zh.map ze.pv), .list 5 (R.b.Kids.map za.pv), .list 1 (R.path.map (PV.int .i64)), .int .i64 R.at_, .int .i64 R.head, .int .i64 R.m, .int .i64 R.n] 6 (R.attrs.map zx.pv) []) := by
 rw [acX] at hh
 refine aic rfl ?_
 refine zb fun K kk hK => ?_
 simp only [go_sem]
 refine hK _ _ fun nx => ?_; clear hK K; try clear kk
 refine aiy ?_
 refine zb fun K kk hK => ?_
 simp only [go_sem]
 refine hK _ _ fun nx => ?_; clear hK K; try clear kk
 refine zn ?_
 refine ajz ?_; refine nmx ?_
 refine zn ?_
 obtain ⟨e0, f0, hh⟩ := zf hh
 refine Qv (fun s => ∃ an8, ∃ agi, ∃ ait, ∃ aiG, ∃ ajt, ∃ ajh, ∃ aje, ∃ aiL, ∃ ai1, ∃ aiV, ∃ ajv, ∃ ai6, ∃ ai5, ∃ ajn, ∃ agy, ∃ aiJ, (an8, agi, ait, aiG, ajt, ajh, aje, aiL, ai1, aiV, ajv, ai6, ai5, ajn, agy, aiJ) = e0 ∧ ∃ (auu : Bool) (nx : Nat) (g12 : Nat) (g394 : Nat) (g399 : Nat), s = ⟨[(5, .box 12 g12 0), (6, .list 5 (an8.map za.pv)), (7, .list 5 (agi.map za.pv)), (148, .bool auu)], [(12, g12, .var 78 [.str ait, .str aiG, .list 1 (ajt.map PV.str), .list 2 (ajh.map ze.pv), .list 5 (an8.map za.pv), .str aje, .str aiL, .list 1 (ai1.map PV.str), .list 2 (aiV.map ze.pv), .list 5 (agi.map za.pv), .row 394 g394 agy.length, .int .i64 ajv, .int .i64 ai6, .int .i64 ai5, .int .i64 ajn, .row 399 g399 aiJ.length]), (394, g394, .row false 1 (agy.map (PV.int .i64))), (399, g399, .row false 6 (aiJ.map zx.pv))], nx⟩)
  (fun i s => False)
  (fun s => False) ?_ ?_ ?_ ?_
 ·refine zA ?_
  refine qb fun I hI => ?_
  obtain ⟨k, f0⟩ := jH f0
  have key : ∀ (k : Nat) (aqy : Str) (apm : Str) (apl : (List Str)) (apJ : (List ze)) (apZ : (List za)) (aps : Str) (apF : Str) (apV : (List Str)) (ap7 : (List ze)) (ap1 : (List za)) (apz : Int) (apC : Int) (ap4 : Int) (aqw : Int) (alU : (List Int)) (am4 : (List zx)), yH k aqy apm apl apJ apZ aps apF apV ap7 ap1 apz apC ap4 aqw alU am4 = some e0 → ∀ (nx : Nat) (g12 : Nat) (g394 : Nat) (g399 : Nat), I ⟨[(5, .box 12 g12 0)], [(12, g12, .var 78 [.str aqy, .str apm, .list 1 (apl.map PV.str), .list 2 (apJ.map ze.pv), .list 5 (apZ.map za.pv), .str aps, .str apF, .list 1 (apV.map PV.str), .list 2 (ap7.map ze.pv), .list 5 (ap1.map za.pv), .row 394 g394 alU.length, .int .i64 apz, .int .i64 apC, .int .i64 ap4, .int .i64 aqw, .row 399 g399 am4.length]), (394, g394, .row false 1 (alU.map (PV.int .i64))), (399, g399, .row false 6 (am4.map zx.pv))], nx⟩ := by
   intro k
   induction k with
   | zero => intro aqy apm apl apJ apZ aps apF apV ap7 ap1 apz apC ap4 aqw alU am4 hh; rw [yH] at hh; cases hh
   | succ k ih =>
    intro aqy apm apl apJ apZ aps apF apV ap7 ap1 apz apC ap4 aqw alU am4 hh nx g12 g394 g399
    rw [yH] at hh
    refine hI _ ?_
    refine zA ?_
    obtain ⟨⟨VX, V4, WL, WV, qx, VZ, VS, Kb, WX, qB, Xn, as4, asS, arB, ac1, Yf⟩, h32, hh⟩ := zf hh
    dsimp only at hh
    obtain ⟨h33, hh⟩ := qf hh
    refine zb fun K kk hK => ?_
    simp only [go_sem, h33]
    (repeat refine sd ?_)
    refine ZP [12, 394, 399] (by decide) (XV _ _ _ _ _ _ _ _ _ _ _ _ _ _ _ _ _ h32) (by (try simp only [go_sem, h33]) <;> exact wkb) (by rfl) ?_
    simp only [go_sem, h33]
    (repeat refine sd ?_)
    refine hK _ _ fun nx => ?_; clear hK K; try clear kk
    refine zb fun K kk hK => ?_
    simp only [go_sem]
    refine hK _ _ fun nx => ?_; clear hK K; try clear kk
    refine zb fun K kk hK => ?_
    simp only [go_sem]
    refine hK _ _ fun nx => ?_; clear hK K; try clear kk
    refine zn ?_
    obtain ⟨e3, f3, hh⟩ := zf hh
    refine Qv (fun s => ∃ ZH, ZH = e3 ∧ ∃ (arQ : Bool) (nx : Nat) (g12 : Nat) (g394 : Nat) (g399 : Nat), s = ⟨[(5, .box 12 g12 0), (6, .list 5 (qx.map za.pv)), (7, .list 5 (qB.map za.pv)), (54, .bool arQ)], [(12, g12, .var 78 [.str VX, .str V4, .list 1 (WL.map PV.str), .list 2 (WV.map ze.pv), .list 5 (qx.map za.pv), .str VZ, .str VS, .list 1 (Kb.map PV.str), .list 2 (WX.map ze.pv), .list 5 (qB.map za.pv), .row 394 g394 ac1.length, .int .i64 Xn, .int .i64 ZH, .int .i64 asS, .int .i64 arB, .row 399 g399 Yf.length]), (394, g394, .row false 1 (ac1.map (PV.int .i64))), (399, g399, .row false 6 (Yf.map zx.pv))], nx⟩)
     (fun i s => False)
     (fun s => False) ?_ ?_ ?_ ?_
    ·refine zA ?_
     refine qb fun I hI => ?_
     obtain ⟨k, f3⟩ := jH f3
     have key : ∀ (k : Nat) (afA : Int), xm qx qB k afA = some e3 → ∀ (nx : Nat) (g12 : Nat) (g394 : Nat) (g399 : Nat), I ⟨[(5, .box 12 g12 0), (6, .list 5 (qx.map za.pv)), (7, .list 5 (qB.map za.pv))], [(12, g12, .var 78 [.str VX, .str V4, .list 1 (WL.map PV.str), .list 2 (WV.map ze.pv), .list 5 (qx.map za.pv), .str VZ, .str VS, .list 1 (Kb.map PV.str), .list 2 (WX.map ze.pv), .list 5 (qB.map za.pv), .row 394 g394 ac1.length, .int .i64 Xn, .int .i64 afA, .int .i64 asS, .int .i64 arB, .row 399 g399 Yf.length]), (394, g394, .row false 1 (ac1.map (PV.int .i64))), (399, g399, .row false 6 (Yf.map zx.pv))], nx⟩ := by
      intro k
      induction k with
      | zero => intro afA hh; rw [xm] at hh; cases hh
      | succ k ih =>
       intro afA hh nx g12 g394 g399
       rw [xm] at hh
       refine hI _ ?_
       refine zn ?_
       by_cases h39 : (decide (afA < (if (qB.length : Int) < (qx.length : Int) then (qB.length : Int) else (qx.length : Int)))) = true
       ·rw [if_pos h39] at hh
        obtain ⟨awM, h40, hh⟩ := zf hh
        obtain ⟨h40a, h40b, h40c⟩ := rd_some h40
        have h40d := wN (f := za.pv) h40c
        have h40f := qG (f := za.pv) h40c
        try simp only [Int.toNat_natCast, Int.reduceToNat] at h40d h40f
        obtain ⟨awg, h41, hh⟩ := zf hh
        obtain ⟨h41a, h41b, h41c⟩ := rd_some h41
        have h41d := wN (f := za.pv) h41c
        have h41f := qG (f := za.pv) h41c
        try simp only [Int.toNat_natCast, Int.reduceToNat] at h41d h41f
        obtain ⟨akW, h42, hh⟩ := zf hh
        refine zb fun K kk hK => ?_
        simp only [go_sem, h39, of_decide_eq_true h39, h40a, h40b, h40d, h40f.1, h40f.2, h41a, h41b, h41d, h41f.1, h41f.2]
        (repeat refine sd ?_)
        refine zg (acz _ _ _ h42) (by (try simp only [go_sem, h39, of_decide_eq_true h39, h40a, h40b, h40d, h40f.1, h40f.2, h41a, h41b, h41d, h41f.1, h41f.2]) <;> exact wkl) (by rfl) (by rfl) ?_
        simp only [go_sem, h39, of_decide_eq_true h39, h40a, h40b, h40d, h40f.1, h40f.2, h41a, h41b, h41d, h41f.1, h41f.2]
        (repeat refine sd ?_)
        refine hK _ _ fun nx => ?_; clear hK K; try clear kk
        by_cases h43 : (akW) = true
        ·rw [if_pos h43] at hh
         refine zm (by first | exact congrArg PV.bool h43 | rfl) ?_
         refine zt ?_; refine nmx ?_
         refine zA ?_
         refine zq fun K kk hK => ?_
         simp only [go_sem]
         refine hK _ _ fun nx => ?_; clear hK K; try clear kk
         refine nmx ?_
         have ih' := ih _ hh nx
         refine zG ?_
         first | exact ih' _ _ _ | (simp only [pvE, lsE, zo] at ih' ⊢; exact ih' _ _ _) | (simp only [pvE, lsE, zo, h39, h43] at ih' ⊢; exact ih' _ _ _)
        ·rw [if_neg h43] at hh
         replace h43 := Bool.eq_false_iff.mpr h43
         refine zi (by first | exact congrArg PV.bool h43 | rfl) ?_
         refine zU ?_; refine nmx ?_
         refine wU ?_
         refine zG ?_
         refine ⟨_, (Option.some.inj hh), ?_⟩
         first | exact ⟨_, _, _, _, _, rfl⟩ | (simp only [pvE, lsE, zo]; exact ⟨_, _, _, _, _, rfl⟩) | (simp only [pvE, lsE, zo, h39, h43]; exact ⟨_, _, _, _, _, rfl⟩)
       ·rw [if_neg h39] at hh
        replace h39 := Bool.eq_false_iff.mpr h39
        refine zb fun K kk hK => ?_
        simp only [go_sem, h39, of_decide_eq_false h39]
        (repeat refine sd ?_)
        refine hK _ _ fun nx => ?_; clear hK K; try clear kk
        refine zi rfl ?_
        refine zU ?_; refine nmx ?_
        refine wU ?_
        refine zG ?_
        refine ⟨_, (Option.some.inj hh), ?_⟩
        first | exact ⟨_, _, _, _, _, rfl⟩ | (simp only [pvE, lsE, zo]; exact ⟨_, _, _, _, _, rfl⟩) | (simp only [pvE, lsE, zo, h39]; exact ⟨_, _, _, _, _, rfl⟩)
     exact key _ _ f3 _ _ _ _
    ·rintro s ⟨ZH, rfl, arQ, nx, g12, g394, g399, rfl⟩
     try dsimp only at hh
     refine zb fun K kk hK => ?_
     simp only [go_sem]
     refine hK _ _ fun nx => ?_; clear hK K; try clear kk
     refine zn ?_
     obtain ⟨e4, f4, hh⟩ := zf hh
     refine Qv (fun s => ∃ xy, xy = e4 ∧ ∃ (av8 : Bool) (nx : Nat) (g12 : Nat) (g394 : Nat) (g399 : Nat), s = ⟨[(5, .box 12 g12 0), (6, .list 5 (qx.map za.pv)), (7, .list 5 (qB.map za.pv)), (8, .int .i64 xy), (92, .bool av8)], [(12, g12, .var 78 [.str VX, .str V4, .list 1 (WL.map PV.str), .list 2 (WV.map ze.pv), .list 5 (qx.map za.pv), .str VZ, .str VS, .list 1 (Kb.map PV.str), .list 2 (WX.map ze.pv), .list 5 (qB.map za.pv), .row 394 g394 ac1.length, .int .i64 Xn, .int .i64 ZH, .int .i64 asS, .int .i64 arB, .row 399 g399 Yf.length]), (394, g394, .row false 1 (ac1.map (PV.int .i64))), (399, g399, .row false 6 (Yf.map zx.pv))], nx⟩)
      (fun i s => False)
      (fun s => False) ?_ ?_ ?_ ?_
     ·refine zA ?_
      refine qb fun I hI => ?_
      obtain ⟨k, f4⟩ := jH f4
      have key : ∀ (k : Nat) (ZL : Int), xW qx qB ZH k ZL = some e4 → ∀ (nx : Nat) (g12 : Nat) (g394 : Nat) (g399 : Nat), I ⟨[(5, .box 12 g12 0), (6, .list 5 (qx.map za.pv)), (7, .list 5 (qB.map za.pv)), (8, .int .i64 ZL)], [(12, g12, .var 78 [.str VX, .str V4, .list 1 (WL.map PV.str), .list 2 (WV.map ze.pv), .list 5 (qx.map za.pv), .str VZ, .str VS, .list 1 (Kb.map PV.str), .list 2 (WX.map ze.pv), .list 5 (qB.map za.pv), .row 394 g394 ac1.length, .int .i64 Xn, .int .i64 ZH, .int .i64 asS, .int .i64 arB, .row 399 g399 Yf.length]), (394, g394, .row false 1 (ac1.map (PV.int .i64))), (399, g399, .row false 6 (Yf.map zx.pv))], nx⟩ := by
       intro k
       induction k with
       | zero => intro ZL hh; rw [xW] at hh; cases hh
       | succ k ih =>
        intro ZL hh nx g12 g394 g399
        rw [xW] at hh
        refine hI _ ?_
        refine zn ?_
        by_cases h49 : (decide (ZL < (w64 ((if (qB.length : Int) < (qx.length : Int) then (qB.length : Int) else (qx.length : Int)) - ZH)))) = true
        ·rw [if_pos h49] at hh
         obtain ⟨avT, h50, hh⟩ := zf hh
         obtain ⟨h50a, h50b, h50c⟩ := rd_some h50
         have h50d := wN (f := za.pv) h50c
         have h50f := qG (f := za.pv) h50c
         try simp only [Int.toNat_natCast, Int.reduceToNat] at h50d h50f
         obtain ⟨av5, h51, hh⟩ := zf hh
         obtain ⟨h51a, h51b, h51c⟩ := rd_some h51
         have h51d := wN (f := za.pv) h51c
         have h51f := qG (f := za.pv) h51c
         try simp only [Int.toNat_natCast, Int.reduceToNat] at h51d h51f
         obtain ⟨akd, h52, hh⟩ := zf hh
         refine zb fun K kk hK => ?_
         simp only [go_sem, h49, of_decide_eq_true h49, h50a, h50b, h50d, h50f.1, h50f.2, h51a, h51b, h51d, h51f.1, h51f.2]
         (repeat refine sd ?_)
         refine zg (acz _ _ _ h52) (by (try simp only [go_sem, h49, of_decide_eq_true h49, h50a, h50b, h50d, h50f.1, h50f.2, h51a, h51b, h51d, h51f.1, h51f.2]) <;> exact wkl) (by rfl) (by rfl) ?_
         simp only [go_sem, h49, of_decide_eq_true h49, h50a, h50b, h50d, h50f.1, h50f.2, h51a, h51b, h51d, h51f.1, h51f.2]
         (repeat refine sd ?_)
         refine hK _ _ fun nx => ?_; clear hK K; try clear kk
         by_cases h53 : (akd) = true
         ·rw [if_pos h53] at hh
          refine zm (by first | exact congrArg PV.bool h53 | rfl) ?_
          refine zt ?_; refine nmx ?_
          refine zA ?_
          refine zq fun K kk hK => ?_
          simp only [go_sem]
          refine hK _ _ fun nx => ?_; clear hK K; try clear kk
          refine nmx ?_
          have ih' := ih _ hh nx
          refine zG ?_
          first | exact ih' _ _ _ | (simp only [pvE, lsE, zo] at ih' ⊢; exact ih' _ _ _) | (simp only [pvE, lsE, zo, h49, h53] at ih' ⊢; exact ih' _ _ _)
         ·rw [if_neg h53] at hh
          replace h53 := Bool.eq_false_iff.mpr h53
          refine zi (by first | exact congrArg PV.bool h53 | rfl) ?_
          refine zU ?_; refine nmx ?_
          refine wU ?_
          refine zG ?_
          refine ⟨_, (Option.some.inj hh), ?_⟩
          first | exact ⟨_, _, _, _, _, rfl⟩ | (simp only [pvE, lsE, zo]; exact ⟨_, _, _, _, _, rfl⟩) | (simp only [pvE, lsE, zo, h49, h53]; exact ⟨_, _, _, _, _, rfl⟩)
        ·rw [if_neg h49] at hh
         replace h49 := Bool.eq_false_iff.mpr h49
         refine zb fun K kk hK => ?_
         simp only [go_sem, h49, of_decide_eq_false h49]
         (repeat refine sd ?_)
         refine hK _ _ fun nx => ?_; clear hK K; try clear kk
         refine zi rfl ?_
         refine zU ?_; refine nmx ?_
         refine wU ?_
         refine zG ?_
         refine ⟨_, (Option.some.inj hh), ?_⟩
         first | exact ⟨_, _, _, _, _, rfl⟩ | (simp only [pvE, lsE, zo]; exact ⟨_, _, _, _, _, rfl⟩) | (simp only [pvE, lsE, zo, h49]; exact ⟨_, _, _, _, _, rfl⟩)
      exact key _ _ f4 _ _ _ _
     ·rintro s ⟨xy, rfl, av8, nx, g12, g394, g399, rfl⟩
      try dsimp only at hh
      refine zb fun K kk hK => ?_
      simp only [go_sem]
      refine hK _ _ fun nx => ?_; clear hK K; try clear kk
      refine zn ?_
      by_cases h54 : ((w64 ((w64 ((qx.length : Int) - ZH)) - xy)) != (1 : Int)) = true
      ·rw [if_pos h54] at hh
       refine zb fun K kk hK => ?_
       simp only [go_sem, h54]
       (repeat refine sd ?_)
       refine hK _ _ fun nx => ?_; clear hK K; try clear kk
       refine zm rfl ?_
       refine zU ?_; refine nmx ?_
       refine wU ?_
       refine zG ?_
       refine ⟨_, _, _, _, _, _, _, _, _, _, _, _, _, _, _, _, (Option.some.inj hh), ?_⟩
       first | exact ⟨_, _, _, _, _, rfl⟩ | (simp only [pvE, lsE, zo]; exact ⟨_, _, _, _, _, rfl⟩) | (simp only [pvE, lsE, zo, h54]; exact ⟨_, _, _, _, _, rfl⟩)
      ·rw [if_neg h54] at hh
       replace h54 := Bool.eq_false_iff.mpr h54
       by_cases h55 : ((w64 ((w64 ((qB.length : Int) - ZH)) - xy)) != (1 : Int)) = true
       ·rw [if_pos h55] at hh
        refine zb fun K kk hK => ?_
        simp only [go_sem, h54, h55]
        (repeat refine sd ?_)
        refine hK _ _ fun nx => ?_; clear hK K; try clear kk
        refine zm rfl ?_
        refine zU ?_; refine nmx ?_
        refine wU ?_
        refine zG ?_
        refine ⟨_, _, _, _, _, _, _, _, _, _, _, _, _, _, _, _, (Option.some.inj hh), ?_⟩
        first | exact ⟨_, _, _, _, _, rfl⟩ | (simp only [pvE, lsE, zo]; exact ⟨_, _, _, _, _, rfl⟩) | (simp only [pvE, lsE, zo, h54, h55]; exact ⟨_, _, _, _, _, rfl⟩)
       ·rw [if_neg h55] at hh
        replace h55 := Bool.eq_false_iff.mpr h55
        obtain ⟨anF, h56, hh⟩ := zf hh
        obtain ⟨h56a, h56b, h56c⟩ := rd_some h56
        have h56d := wN (f := za.pv) h56c
        have h56f := qG (f := za.pv) h56c
        try simp only [Int.toNat_natCast, Int.reduceToNat] at h56d h56f
        obtain ⟨anP, h57, hh⟩ := zf hh
        obtain ⟨h57a, h57b, h57c⟩ := rd_some h57
        have h57d := wN (f := za.pv) h57c
        have h57f := qG (f := za.pv) h57c
        try simp only [Int.toNat_natCast, Int.reduceToNat] at h57d h57f
        obtain ⟨af0, h58, hh⟩ := zf hh
        refine zb fun K kk hK => ?_
        simp only [go_sem, h54, h55, h56a, h56b, h56d, h56f.1, h56f.2, h57a, h57b, h57d, h57f.1, h57f.2]
        (repeat refine sd ?_)
        refine zg (aaW _ _ _ h58) (by (try simp only [go_sem, h54, h55, h56a, h56b, h56d, h56f.1, h56f.2, h57a, h57b, h57d, h57f.1, h57f.2]) <;> exact wkl) (by rfl) (by rfl) ?_
        simp only [go_sem, h54, h55, h56a, h56b, h56d, h56f.1, h56f.2, h57a, h57b, h57d, h57f.1, h57f.2]
        (repeat refine sd ?_)
        refine hK _ _ fun nx => ?_; clear hK K; try clear kk
        by_cases h59 : (!af0) = true
        ·rw [if_pos h59] at hh
         refine zm (by first | exact congrArg PV.bool h59 | rfl) ?_
         refine zU ?_; refine nmx ?_
         refine wU ?_
         refine zG ?_
         refine ⟨_, _, _, _, _, _, _, _, _, _, _, _, _, _, _, _, (Option.some.inj hh), ?_⟩
         first | exact ⟨_, _, _, _, _, rfl⟩ | (simp only [pvE, lsE, zo]; exact ⟨_, _, _, _, _, rfl⟩) | (simp only [pvE, lsE, zo, h54, h55, h59]; exact ⟨_, _, _, _, _, rfl⟩)
        ·rw [if_neg h59] at hh
         replace h59 := Bool.eq_false_iff.mpr h59
         refine zi (by first | exact congrArg PV.bool h59 | rfl) ?_
         refine zt ?_; refine nmx ?_
         obtain ⟨av0, h60, hh⟩ := zf hh
         obtain ⟨h60a, h60c⟩ := zW h60
         have h60d := qM (f := (PV.int .i64)) h60c
         have h60e := qL h60c
         try simp only [List.length_cons, List.length_nil, Nat.zero_add, Nat.reduceAdd] at h60a h60e
         try simp only [h60e] at h60a
         try simp only [List.map_cons, List.map_nil, List.nil_append, List.append_nil, List.cons_append, List.singleton_append, zo, pvE] at h60d
         refine zb fun K kk hK => ?_
         simp only [go_sem, h60a, h60d, h60e]
         (repeat refine sd ?_)
         refine hK _ _ fun nx => ?_; clear hK K; try clear kk
         obtain ⟨awu, h61, hh⟩ := zf hh
         obtain ⟨h61a, h61c⟩ := yn h61
         have h61g := VW h61a
         have h61d := V3 (f := za.pv) h61c
         try simp only [Int.toNat_natCast, Int.reduceToNat, List.map_cons, List.map_nil, pvE] at h61d
         obtain ⟨al0, h62, hh⟩ := zf hh
         refine zb fun K kk hK => ?_
         simp only [go_sem, h61a.1, h61a.2.1, h61a.2.2, h61d, h61g]
         (repeat refine sd ?_)
         refine zg (jA _ _ h62) (by (try simp only [go_sem, h61a.1, h61a.2.1, h61a.2.2, h61d, h61g]) <;> exact wkl) (by rfl) (by rfl) ?_
         simp only [go_sem, h61a.1, h61a.2.1, h61a.2.2, h61d, h61g]
         (repeat refine sd ?_)
         refine hK _ _ fun nx => ?_; clear hK K; try clear kk
         refine zq fun K kk hK => ?_
         simp only [go_sem, h56a, h56b, h56d, h56f.1, h56f.2, h57a, h57b, h57d, h57f.1, h57f.2]
         (repeat refine sd ?_)
         refine hK _ _ fun nx => ?_; clear hK K; try clear kk
         refine nmx ?_
         have ih' := ih _ _ _ _ _ _ _ _ _ _ _ _ _ _ _ _ hh nx
         refine zG ?_
         first | exact ih' _ _ _ | (simp only [pvE, lsE, zo, h60e] at ih' ⊢; exact ih' _ _ _) | (simp only [pvE, lsE, zo, h60e, h54, h55, h59] at ih' ⊢; exact ih' _ _ _)
     ·intro i s h; exact h.elim
     ·intro s h; exact h.elim
    ·intro i s h; exact h.elim
    ·intro s h; exact h.elim
  exact key _ _ _ _ _ _ _ _ _ _ _ _ _ _ _ _ _ f0 _ _ _ _
 ·rintro s ⟨an8, agi, ait, aiG, ajt, ajh, aje, aiL, ai1, aiV, ajv, ai6, ai5, ajn, agy, aiJ, rfl, auu, nx, g12, g394, g399, rfl⟩
  try dsimp only at hh
  refine zb fun K kk hK => ?_
  simp only [go_sem]
  refine hK _ _ fun nx => ?_; clear hK K; try clear kk
  refine zk ?_; refine nmx ?_
  obtain hR := Option.some.inj hh
  subst hR
  refine aso (pre := [.str ait, .str aiG, .list 1 (ajt.map PV.str), .list 2 (ajh.map ze.pv), .list 5 (an8.map za.pv), .str aje, .str aiL, .list 1 (ai1.map PV.str), .list 2 (aiV.map ze.pv), .list 5 (agi.map za.pv), .list 1 (agy.map (PV.int .i64)), .int .i64 ajv, .int .i64 ai6, .int .i64 ai5, .int .i64 ajn]) (post := []) (kr := 399) (by rfl) (by rfl) (by rfl) (by decide) (by rfl) (by rfl) (by rfl) (by rfl) ?_
  exact ⟨by first | rfl | simp only [List.length_map], by first | rfl | (simp only [pvE, lsE, zo]; done) | (simp only [pvE, lsE, zo]; rfl)⟩
 ·intro i s h; exact h.elim
 ·intro s h; exact h.elim
theorem Xv (l : (List Str)) (R : (List Str)) (hh : slices_Clone_string l = some R) : PC Tryd.prog 69 [.list 1 (l.map PV.str)] (.own 1 (R.map PV.str)) := by
 rw [slices_Clone_string] at hh
 obtain ⟨ha, hb⟩ := zW hh
 rw [List.nil_append] at hb
 subst hb
 try simp only [List.length_nil, Nat.zero_add] at ha
 refine VI rfl ?_
 refine zb fun K kk hK => ?_
 simp only [go_sem]
 refine hK _ _ fun nx => ?_; clear hK K; try clear kk
 refine zb fun K kk hK => ?_
 simp only [go_sem]
 refine ⟨fun hnil => hK _ _ fun nx => ?_, hK _ _ fun nx => ?_⟩ <;> (clear hK K; try clear kk)
 ·have hl : l = [] := by simpa using hnil
  subst hl
  first | refine zm rfl ?_ | (refine zn ?_; refine zm rfl ?_)
  refine zb fun K kk hK => ?_
  simp only [go_sem]
  refine hK _ _ fun nx => ?_; clear hK K; try clear kk
  refine zk ?_; refine nmx ?_
  exact VQ rfl
 ·first | refine zi rfl ?_ | (refine zn ?_; refine zi rfl ?_)
  refine zt ?_; refine nmx ?_
  refine zb fun K kk hK => ?_
  simp only [go_sem, ha]
  refine hK _ _ fun nx => ?_; clear hK K; try clear kk
  refine zk ?_; refine nmx ?_
  exact XB (by rfl) (by rfl) (by rfl) (by simp) (by rfl)
theorem ZB (l : (List ze)) (R : (List ze)) (hh : wO l = some R) : PC Tryd.prog 70 [.list 2 (l.map ze.pv)] (.own 2 (R.map ze.pv)) := by
 rw [wO] at hh
 obtain ⟨ha, hb⟩ := zW hh
 rw [List.nil_append] at hb
 subst hb
 try simp only [List.length_nil, Nat.zero_add] at ha
 refine KT rfl ?_
 refine zb fun K kk hK => ?_
 simp only [go_sem]
 refine hK _ _ fun nx => ?_; clear hK K; try clear kk
 refine zb fun K kk hK => ?_
 simp only [go_sem]
 refine ⟨fun hnil => hK _ _ fun nx => ?_, hK _ _ fun nx => ?_⟩ <;> (clear hK K; try clear kk)
 ·have hl : l = [] := by simpa using hnil
  subst hl
  first | refine zm rfl ?_ | (refine zn ?_; refine zm rfl ?_)
  refine zb fun K kk hK => ?_
  simp only [go_sem]
  refine hK _ _ fun nx => ?_; clear hK K; try clear kk
  refine zk ?_; refine nmx ?_
  exact VQ rfl
 ·first | refine zi rfl ?_ | (refine zn ?_; refine zi rfl ?_)
  refine zt ?_; refine nmx ?_
  refine zb fun K kk hK => ?_
  simp only [go_sem, ha]
  refine hK _ _ fun nx => ?_; clear hK K; try clear kk
  refine zk ?_; refine nmx ?_
  exact XB (by rfl) (by rfl) (by rfl) (by simp) (by rfl)
theorem vJ (l : (List za)) (R : (List za)) (hh : qh l = some R) : PC Tryd.prog 71 [.list 5 (l.map za.pv)] (.own 5 (R.map za.pv)) := by
 rw [qh] at hh
 obtain ⟨ha, hb⟩ := zW hh
 rw [List.nil_append] at hb
 subst hb
 try simp only [List.length_nil, Nat.zero_add] at ha
 refine KQ rfl ?_
 refine zb fun K kk hK => ?_
 simp only [go_sem]
 refine hK _ _ fun nx => ?_; clear hK K; try clear kk
 refine zb fun K kk hK => ?_
 simp only [go_sem]
 refine ⟨fun hnil => hK _ _ fun nx => ?_, hK _ _ fun nx => ?_⟩ <;> (clear hK K; try clear kk)
 ·have hl : l = [] := by simpa using hnil
  subst hl
  first | refine zm rfl ?_ | (refine zn ?_; refine zm rfl ?_)
  refine zb fun K kk hK => ?_
  simp only [go_sem]
  refine hK _ _ fun nx => ?_; clear hK K; try clear kk
  refine zk ?_; refine nmx ?_
  exact VQ rfl
 ·first | refine zi rfl ?_ | (refine zn ?_; refine zi rfl ?_)
  refine zt ?_; refine nmx ?_
  refine zb fun K kk hK => ?_
  simp only [go_sem, ha]
  refine hK _ _ fun nx => ?_; clear hK K; try clear kk
  refine zk ?_; refine nmx ?_
  exact XB (by rfl) (by rfl) (by rfl) (by simp) (by rfl)
end Go.Proofs.YtclohbgnaopjfaaDoor
