/- Texts of the proof of diffMakesCard -/
import Derived.Test.YtclohbgnaopjfaaDoorAgC
import Derived.Test.YtclohbgnaopjfaaDoorAgF
import Derived.Test.YtclohbgnaopjfaaDoorAgK0
import Derived.Test.YtclohbgnaopjfaaDoorAgK1
namespace Go.Proofs.YtclohbgnaopjfaaDoor
set_option linter.unusedSimpArgs false
set_option linter.unusedVariables false
open Go
set_option maxRecDepth 100000
theorem yP : ∀ kr : Nat, (∀ (kF : (List za)) (kQ : (List za)) (R : Bool), qa kr kF kQ = some R → PC Tryd.prog 44 [.list 5 (kF.map za.pv), .list 5 (kQ.map za.pv), .fn 15 []] (.bool R)) ∧
  (∀ (a_1 : za) (b_2 : za) (R : Bool), vD kr a_1 b_2 = some R → PC Tryd.prog 15 [.agg [.str a_1.Kind, .str a_1.Text, .list 1 (a_1.Marks.map PV.str), .list 2 (a_1.zh.map ze.pv), .list 5 (a_1.Kids.map za.pv)], .agg [.str b_2.Kind, .str b_2.Text, .list 1 (b_2.Marks.map PV.str), .list 2 (b_2.zh.map ze.pv), .list 5 (b_2.Kids.map za.pv)]] (.bool R)) := by
 intro kr
 induction kr with
 | zero => exact ⟨(by intro kF kQ R hh; rw [qa] at hh; cases hh), (by intro a_1 b_2 R hh; rw [vD] at hh; cases hh)⟩
 | succ kr ih =>
  obtain ⟨ih_slices_EqualFunc_api_Node_node_Same, ih_node_Same⟩ := ih
  refine ⟨?_, ?_⟩
  ·intro kF kQ R hh
   rw [qa] at hh
   refine yD rfl ?_
   refine zb fun K kk hK => ?_
   simp only [go_sem]
   refine hK _ _ fun nx => ?_; clear hK K; try clear kk
   refine zm ?_
   refine zb fun K kk hK => ?_
   simp only [go_sem]
   refine hK _ _ fun nx => ?_; clear hK K; try clear kk
   by_cases h1 : ((kF.length : Int) != (kQ.length : Int)) = true
   ·rw [if_pos h1] at hh
    refine zn (by first | exact congrArg PV.bool h1 | rfl) ?_
    refine zb fun K kk hK => ?_
    simp only [go_sem]
    refine hK _ _ fun nx => ?_; clear hK K; try clear kk
    refine zk ?_; refine nmx ?_
    obtain hR := Option.some.inj hh
    subst hR
    exact zz
   ·rw [if_neg h1] at hh
    replace h1 := Bool.eq_false_iff.mpr h1
    refine zi (by first | exact congrArg PV.bool h1 | rfl) ?_
    refine zy ?_; refine nmx ?_
    refine zm ?_
    refine zb fun K kk hK => ?_
    simp only [go_sem]
    refine hK _ _ fun nx => ?_; clear hK K; try clear kk
    obtain ⟨e0, f0, hh⟩ := zf hh
    obtain ⟨hlen0, f0⟩ := qo f0
    refine qD (kE (fun s => .inr () = e0 ∧ ∃ (Zv : Int) (XP : Bool) (nx : Nat), s = ⟨[(1, .list 5 (kQ.map za.pv)), (2, .fn 15 []), (15, .list 5 (kF.map za.pv)), (16, .int .i64 (kF.length : Int)), (17, .int .i64 Zv), (18, .bool XP)], [], nx⟩))
     (fun i s => False)
     (fun s => ∃ V5, .inl V5 = e0 ∧ zW Tryd.prog [.tmp 6] (.bool V5) [] .ret s) ?_ ?_ ?_ ?_
    ·refine zC ?_
     refine qg fun I hI => ?_
     have key : ∀ (suf pre : List za) (v_6 : Int), kF = pre ++ suf → v_6 = (pre.length : Int) → zK kQ (vD kr) suf v_6 = some e0 → ∀ (nx : Nat), I ⟨[(1, .list 5 (kQ.map za.pv)), (2, .fn 15 []), (15, .list 5 (kF.map za.pv)), (16, .int .i64 (kF.length : Int)), (17, .int .i64 v_6)], [], nx⟩ := by
      intro suf
      induction suf with
      | nil =>
       intro pre v_6 hsplit hidx hh nx
       rw [zK] at hh
       refine hI _ ?_
       have h12 := walk_nil hsplit hidx
       refine zb fun K kk hK => ?_
       simp only [go_sem]
       refine hK _ _ fun nx => ?_; clear hK K; try clear kk
       refine zm ?_
       refine zi (by first | exact congrArg PV.bool h12 | rfl) ?_
       refine zU ?_; refine nmx ?_
       refine wJ ?_
       refine zG ?_
       refine ⟨(Option.some.inj hh), ?_⟩
       first | exact ⟨_, _, _, rfl⟩ | (simp only [pvE, lsE, zo]; exact ⟨_, _, _, rfl⟩) | (simp only [pvE, lsE, zo, h1, h12]; exact ⟨_, _, _, rfl⟩)
      | cons apF suf ih =>
       intro pre v_6 hsplit hidx hh nx
       rw [zK] at hh
       refine hI _ ?_
       obtain ⟨hl0a, hl0b, hl0d, hl0w, h12⟩ := qZ (f := za.pv) hsplit hidx hlen0
       refine zb fun K kk hK => ?_
       simp only [go_sem]
       refine hK _ _ fun nx => ?_; clear hK K; try clear kk
       refine zm ?_
       refine zn (by first | exact congrArg PV.bool h12 | rfl) ?_
       refine zy ?_; refine nmx ?_
       refine zm ?_
       refine zC ?_
       refine zb fun K kk hK => ?_
       simp only [go_sem, hl0a, hl0b, hl0d, hl0w]
       refine hK _ _ fun nx => ?_; clear hK K; try clear kk
       obtain ⟨adX, h13, hh⟩ := zf hh
       obtain ⟨h13a, h13b, h13c⟩ := rd_some h13
       have h13d := wR (f := za.pv) h13c
       have h13f := qM (f := za.pv) h13c
       try simp only [Int.toNat_natCast, Int.reduceToNat] at h13d h13f
       refine zb fun K kk hK => ?_
       simp only [go_sem, h13a, h13b, h13d, h13f.1, h13f.2, hl0a, hl0b, hl0d, hl0w]
       (repeat refine sd ?_)
       refine hK _ _ fun nx => ?_; clear hK K; try clear kk
       obtain ⟨ama, h14, hh⟩ := zf hh
       refine zb fun K kk hK => ?_
       simp only [go_sem, hl0a, hl0b, hl0d, hl0w]
       refine zg (ih_node_Same _ _ _ h14) (by (try simp only [go_sem, hl0a, hl0b, hl0d, hl0w]) <;> exact wkl) (by rfl) (by rfl) ?_
       simp only [go_sem, hl0a, hl0b, hl0d, hl0w]
       refine hK _ _ fun nx => ?_; clear hK K; try clear kk
       by_cases h15 : (!ama) = true
       ·rw [if_pos h15] at hh
        refine zn (by first | exact congrArg PV.bool h15 | rfl) ?_
        refine zb fun K kk hK => ?_
        simp only [go_sem, hl0a, hl0b, hl0d, hl0w]
        refine hK _ _ fun nx => ?_; clear hK K; try clear kk
        refine zk ?_; refine nmx ?_
        refine Qn ⟨_, (Option.some.inj hh), ?_⟩
        exact zz
       ·rw [if_neg h15] at hh
        replace h15 := Bool.eq_false_iff.mpr h15
        refine zi (by first | exact congrArg PV.bool h15 | rfl) ?_
        refine zy ?_; refine nmx ?_
        refine zq fun K kk hK => ?_
        simp only [go_sem, hl0a, hl0b, hl0d, hl0w]
        refine hK _ _ fun nx => ?_; clear hK K; try clear kk
        refine nmx ?_
        have ih' := ih (pre ++ [apF]) (v_6 + 1) (by rw [hsplit]; simp) (by simp [hidx]) hh nx
        refine zG ?_
        first | exact ih' | (simp only [pvE, lsE, zo] at ih' ⊢; exact ih') | (simp only [pvE, lsE, zo, h1, h12, h15] at ih' ⊢; exact ih')
     exact key kF [] _ rfl rfl f0 _
    ·rintro s ⟨t, hless, rfl, Zv, XP, nx, rfl⟩
     try dsimp only at hh
     refine nmy ?_
     first | (refine wB hless ?_; try refine kC ?_) | refine qK hless ?_ | refine qI hless ?_
     refine zb fun K kk hK => ?_
     simp only [go_sem]
     refine hK _ _ fun nx => ?_; clear hK K; try clear kk
     refine zk ?_; refine nmx ?_
     obtain hR := Option.some.inj hh
     subst hR
     exact zz
    ·intro i s h; exact h.elim
    ·rintro s ⟨V5, rfl, hb⟩
     try dsimp only at hh
     obtain hR := Option.some.inj hh
     subst hR
     refine nmx ?_
     exact hb
  ·intro a_1 b_2 R hh
   rw [vD] at hh
   refine agu rfl ?_
   refine zb fun K kk hK => ?_
   simp only [go_sem]
   refine hK _ _ fun nx => ?_; clear hK K; try clear kk
   by_cases h1 : (a_1.Kind == b_2.Kind) = true
   ·rw [if_pos h1] at hh
    by_cases h2 : (a_1.Text == b_2.Text) = true
    ·rw [if_pos h2] at hh
     obtain ⟨aix, h3, hh⟩ := zf hh
     by_cases h4 : (aix) = true
     ·rw [if_pos h4] at hh
      obtain ⟨apa, h5, hh⟩ := zf hh
      by_cases h6 : (apa) = true
      ·rw [if_pos h6] at hh
       obtain ⟨aso, h7, hh⟩ := zf hh
       refine zb fun K kk hK => ?_
       simp only [go_sem, h1, h2, h4, h6]
       (repeat refine sd ?_)
       refine zg (jI _ _ _ h3) (by (try simp only [go_sem, h1, h2, h4, h6]) <;> exact wkl) (by rfl) (by rfl) ?_
       simp only [go_sem, h1, h2, h4, h6]
       (repeat refine sd ?_)
       refine zg (ZA _ _ _ h5) (by (try simp only [go_sem, h1, h2, h4, h6]) <;> exact wkl) (by rfl) (by rfl) ?_
       simp only [go_sem, h1, h2, h4, h6]
       (repeat refine sd ?_)
       refine zg (ih_slices_EqualFunc_api_Node_node_Same _ _ _ h7) (by (try simp only [go_sem, h1, h2, h4, h6]) <;> exact wkl) (by rfl) (by rfl) ?_
       simp only [go_sem, h1, h2, h4, h6]
       (repeat refine sd ?_)
       refine hK _ _ fun nx => ?_; clear hK K; try clear kk
       refine zk ?_; refine nmx ?_
       obtain hR := Option.some.inj hh
       subst hR
       exact zz
      ·rw [if_neg h6] at hh
       replace h6 := Bool.eq_false_iff.mpr h6
       refine zb fun K kk hK => ?_
       simp only [go_sem, h1, h2, h4, h6]
       (repeat refine sd ?_)
       refine zg (jI _ _ _ h3) (by (try simp only [go_sem, h1, h2, h4, h6]) <;> exact wkl) (by rfl) (by rfl) ?_
       simp only [go_sem, h1, h2, h4, h6]
       (repeat refine sd ?_)
       refine zg (ZA _ _ _ h5) (by (try simp only [go_sem, h1, h2, h4, h6]) <;> exact wkl) (by rfl) (by rfl) ?_
       simp only [go_sem, h1, h2, h4, h6]
       (repeat refine sd ?_)
       refine hK _ _ fun nx => ?_; clear hK K; try clear kk
       refine zk ?_; refine nmx ?_
       obtain hR := Option.some.inj hh
       subst hR
       exact zz
     ·rw [if_neg h4] at hh
      replace h4 := Bool.eq_false_iff.mpr h4
      refine zb fun K kk hK => ?_
      simp only [go_sem, h1, h2, h4]
      (repeat refine sd ?_)
      refine zg (jI _ _ _ h3) (by (try simp only [go_sem, h1, h2, h4]) <;> exact wkl) (by rfl) (by rfl) ?_
      simp only [go_sem, h1, h2, h4]
      (repeat refine sd ?_)
      refine hK _ _ fun nx => ?_; clear hK K; try clear kk
      refine zk ?_; refine nmx ?_
      obtain hR := Option.some.inj hh
      subst hR
      exact zz
    ·rw [if_neg h2] at hh
     replace h2 := Bool.eq_false_iff.mpr h2
     refine zb fun K kk hK => ?_
     simp only [go_sem, h1, h2]
     (repeat refine sd ?_)
     refine hK _ _ fun nx => ?_; clear hK K; try clear kk
     refine zk ?_; refine nmx ?_
     obtain hR := Option.some.inj hh
     subst hR
     exact zz
   ·rw [if_neg h1] at hh
    replace h1 := Bool.eq_false_iff.mpr h1
    refine zb fun K kk hK => ?_
    simp only [go_sem, h1]
    (repeat refine sd ?_)
    refine hK _ _ fun nx => ?_; clear hK K; try clear kk
    refine zk ?_; refine nmx ?_
    obtain hR := Option.some.inj hh
    subst hR
    exact zz
theorem kW (a_1 : za) (b_2 : za) (R : Bool) (hh : kZ a_1 b_2 = some R) : PC Tryd.prog 15 [.agg [.str a_1.Kind, .str a_1.Text, .list 1 (a_1.Marks.map PV.str), .list 2 (a_1.zh.map ze.pv), .list 5 (a_1.Kids.map za.pv)], .agg [.str b_2.Kind, .str b_2.Text, .list 1 (b_2.Marks.map PV.str), .list 2 (b_2.zh.map ze.pv), .list 5 (b_2.Kids.map za.pv)]] (.bool R) := by
 rw [kZ] at hh
 obtain ⟨kr, hh⟩ := jA hh
 exact (yP kr).2 _ _ _ hh
theorem YA (aeD : Str) (aeJ : Str) (aaN : (List Str)) (yN : (List ze)) (aeY : (List za)) (aeA : Str) (afo : Str) (aaW : (List Str)) (yn : (List ze)) (aaK : (List za)) (WY : Int) (aaH : Int) (arQ : Int) (yz : Int) (agy : (List Int)) (asO : (List zt)) (R : (Str × Str × (List Str) × (List ze) × (List za) × Str × Str × (List Str) × (List ze) × (List za) × Int × Int × Int × Int × (List Int) × (List zt))) (hh : jQ aeD aeJ aaN yN aeY aeA afo aaW yn aaK WY aaH arQ yz agy asO = some R) : BC Tryd.prog 68 [.box 1000 0 0] [.var 78 [.str aeD, .str aeJ, .list 1 (aaN.map PV.str), .list 2 (yN.map ze.pv), .list 5 (aeY.map za.pv), .str aeA, .str afo, .list 1 (aaW.map PV.str), .list 2 (yn.map ze.pv), .list 5 (aaK.map za.pv), .row 1001 0 agy.length, .int .i64 WY, .int .i64 aaH, .int .i64 arQ, .int .i64 yz, .row 1002 0 asO.length], .row false 1 (agy.map (PV.int .i64)), .row false 6 (asO.map zt.pv)] (.tup []) [.var 78 [.str R.1, .str R.2.1, .list 1 (R.2.2.1.map PV.str), .list 2 (R.2.2.2.1.map ze.pv), .list 5 (R.2.2.2.2.1.map za.pv), .str R.2.2.2.2.2.1, .str R.2.2.2.2.2.2.1, .list 1 (R.2.2.2.2.2.2.2.1.map PV.str), .list 2 (R.2.2.2.2.2.2.2.2.1.map ze.pv), .list 5 (R.2.2.2.2.2.2.2.2.2.1.map za.pv), .row 1001 0 R.2.2.2.2.2.2.2.2.2.2.2.2.2.2.1.length, .int .i64 R.2.2.2.2.2.2.2.2.2.2.1, .int .i64 R.2.2.2.2.2.2.2.2.2.2.2.1, .int .i64 R.2.2.2.2.2.2.2.2.2.2.2.2.1, .int .i64 R.2.2.2.2.2.2.2.2.2.2.2.2.2.1, .row 1002 0 R.2.2.2.2.2.2.2.2.2.2.2.2.2.2.2.length], .row false 1 (R.2.2.2.2.2.2.2.2.2.2.2.2.2.2.1.map (PV.int .i64)), .moved 6 (R.2.2.2.2.2.2.2.2.2.2.2.2.2.2.2.map zt.pv)] := by
 rw [jQ] at hh
 refine J7 rfl rfl rfl ?_
 refine zb fun K kk hK => ?_
 simp only [go_sem]
 refine hK _ _ fun nx => ?_; clear hK K; try clear kk
 obtain ⟨e0, f0, hh⟩ := zf hh
 obtain ⟨hlen0, f0⟩ := qo f0
 refine qD (kE (fun s => ∃ arl, arl = e0 ∧ ∃ (auO : Int) (acj : Bool) (nx : Nat) (g1002 : Nat), s = ⟨[(0, .box 1000 0 0), (8, .list 2 (yN.map ze.pv)), (9, .int .i64 (yN.length : Int)), (10, .int .i64 auO), (11, .bool acj)], [(1000, 0, .var 78 [.str aeD, .str aeJ, .list 1 (aaN.map PV.str), .list 2 (yN.map ze.pv), .list 5 (aeY.map za.pv), .str aeA, .str afo, .list 1 (aaW.map PV.str), .list 2 (yn.map ze.pv), .list 5 (aaK.map za.pv), .row 1001 0 agy.length, .int .i64 WY, .int .i64 aaH, .int .i64 arQ, .int .i64 yz, .row 1002 g1002 arl.length]), (1001, 0, .row false 1 (agy.map (PV.int .i64))), (1002, g1002, .row false 6 (arl.map zt.pv))], nx⟩))
  (fun i s => False)
  (fun s => False) ?_ ?_ ?_ ?_
 ·refine zC ?_
  refine qg fun I hI => ?_
  have key : ∀ (suf pre : List ze) (Je : Int) (ad8 : (List zt)), yN = pre ++ suf → Je = (pre.length : Int) → qz yn WY suf Je ad8 = some e0 → ∀ (nx : Nat) (g1002 : Nat), I ⟨[(0, .box 1000 0 0), (8, .list 2 (yN.map ze.pv)), (9, .int .i64 (yN.length : Int)), (10, .int .i64 Je)], [(1000, 0, .var 78 [.str aeD, .str aeJ, .list 1 (aaN.map PV.str), .list 2 (yN.map ze.pv), .list 5 (aeY.map za.pv), .str aeA, .str afo, .list 1 (aaW.map PV.str), .list 2 (yn.map ze.pv), .list 5 (aaK.map za.pv), .row 1001 0 agy.length, .int .i64 WY, .int .i64 aaH, .int .i64 arQ, .int .i64 yz, .row 1002 g1002 ad8.length]), (1001, 0, .row false 1 (agy.map (PV.int .i64))), (1002, g1002, .row false 6 (ad8.map zt.pv))], nx⟩ := by
   intro suf
   induction suf with
   | nil =>
    intro pre Je ad8 hsplit hidx hh nx g1002
    rw [qz] at hh
    refine hI _ ?_
    have h13 := walk_nil hsplit hidx
    refine zb fun K kk hK => ?_
    simp only [go_sem]
    refine hK _ _ fun nx => ?_; clear hK K; try clear kk
    refine zm ?_
    refine zi (by first | exact congrArg PV.bool h13 | rfl) ?_
    refine zU ?_; refine nmx ?_
    refine wJ ?_
    refine zG ?_
    refine ⟨_, (Option.some.inj hh), ?_⟩
    first | exact ⟨_, _, _, _, rfl⟩ | (simp only [pvE, lsE, zo]; exact ⟨_, _, _, _, rfl⟩) | (simp only [pvE, lsE, zo, h13]; exact ⟨_, _, _, _, rfl⟩)
   | cons ao9 suf ih =>
    intro pre Je ad8 hsplit hidx hh nx g1002
    rw [qz] at hh
    refine hI _ ?_
    obtain ⟨hl0a, hl0b, hl0d, hl0w, h13⟩ := qZ (f := ze.pv) hsplit hidx hlen0
    refine zb fun K kk hK => ?_
    simp only [go_sem]
    refine hK _ _ fun nx => ?_; clear hK K; try clear kk
    refine zm ?_
    refine zn (by first | exact congrArg PV.bool h13 | rfl) ?_
    refine zy ?_; refine nmx ?_
    refine zm ?_
    refine zC ?_
    refine zb fun K kk hK => ?_
    simp only [go_sem, hl0a, hl0b, hl0d, hl0w]
    refine hK _ _ fun nx => ?_; clear hK K; try clear kk
    by_cases h14 : (decide (Je < (yn.length : Int))) = true
    ·rw [if_pos h14] at hh
     obtain ⟨avz, h15, hh⟩ := zf hh
     obtain ⟨h15a, h15b, h15c⟩ := rd_some h15
     have h15d := wR (f := ze.pv) h15c
     have h15f := qM (f := ze.pv) h15c
     try simp only [Int.toNat_natCast, Int.reduceToNat] at h15d h15f
     refine zb fun K kk hK => ?_
     simp only [go_sem, h14, of_decide_eq_true h14, h15a, h15b, h15d, h15f.1, h15f.2, hl0a, hl0b, hl0d, hl0w]
     (repeat refine sd ?_)
     refine hK _ _ fun nx => ?_; clear hK K; try clear kk
     by_cases h16 : (!(avz.Value == ao9.Value)) = true
     ·rw [if_pos h16] at hh
      refine zn (by first | exact congrArg PV.bool h16 | rfl) ?_
      obtain ⟨atE, h17, hh⟩ := zf hh
      obtain ⟨h17a, h17c⟩ := zZ h17
      have h17d := qX (f := zt.pv) h17c
      have h17e := qW h17c
      try simp only [List.length_cons, List.length_nil, Nat.zero_add, Nat.reduceAdd] at h17a h17e
      try simp only [h17e] at h17a
      try simp only [List.map_cons, List.map_nil, List.nil_append, List.append_nil, List.cons_append, List.singleton_append, zo, pvE] at h17d
      refine zq fun K kk hK => ?_
      simp only [go_sem, h15a, h15b, h15d, h15f.1, h15f.2, h17a, h17d, h17e, hl0a, hl0b, hl0d, hl0w]
      (repeat refine sd ?_)
      refine hK _ _ fun nx => ?_; clear hK K; try clear kk
      refine nmx ?_
      refine zq fun K kk hK => ?_
      simp only [go_sem, hl0a, hl0b, hl0d, hl0w]
      refine hK _ _ fun nx => ?_; clear hK K; try clear kk
      refine nmx ?_
      have ih' := ih (pre ++ [ao9]) (Je + 1) _ (by rw [hsplit]; simp) (by simp [hidx]) hh nx
      refine zG ?_
      first | exact ih' _ | (simp only [pvE, lsE, zo, h17e] at ih' ⊢; exact ih' _) | (simp only [pvE, lsE, zo, h17e, h13, h14, h16] at ih' ⊢; exact ih' _)
     ·rw [if_neg h16] at hh
      replace h16 := Bool.eq_false_iff.mpr h16
      refine zi (by first | exact congrArg PV.bool h16 | rfl) ?_
      refine zy ?_; refine nmx ?_
      refine zq fun K kk hK => ?_
      simp only [go_sem, hl0a, hl0b, hl0d, hl0w]
      refine hK _ _ fun nx => ?_; clear hK K; try clear kk
      refine nmx ?_
      have ih' := ih (pre ++ [ao9]) (Je + 1) _ (by rw [hsplit]; simp) (by simp [hidx]) hh nx
      refine zG ?_
      first | exact ih' _ | (simp only [pvE, lsE, zo] at ih' ⊢; exact ih' _) | (simp only [pvE, lsE, zo, h13, h14, h16] at ih' ⊢; exact ih' _)
    ·rw [if_neg h14] at hh
     replace h14 := Bool.eq_false_iff.mpr h14
     refine zb fun K kk hK => ?_
     simp only [go_sem, h14, of_decide_eq_false h14, hl0a, hl0b, hl0d, hl0w]
     (repeat refine sd ?_)
     refine hK _ _ fun nx => ?_; clear hK K; try clear kk
     refine zi rfl ?_
     refine zy ?_; refine nmx ?_
     refine zq fun K kk hK => ?_
     simp only [go_sem, hl0a, hl0b, hl0d, hl0w]
     refine hK _ _ fun nx => ?_; clear hK K; try clear kk
     refine nmx ?_
     have ih' := ih (pre ++ [ao9]) (Je + 1) _ (by rw [hsplit]; simp) (by simp [hidx]) hh nx
     refine zG ?_
     first | exact ih' _ | (simp only [pvE, lsE, zo] at ih' ⊢; exact ih' _) | (simp only [pvE, lsE, zo, h13, h14] at ih' ⊢; exact ih' _)
  exact key yN [] _ _ rfl rfl f0 _ _
 ·rintro s ⟨t, hless, arl, rfl, auO, acj, nx, g1002, rfl⟩
  try dsimp only at hh
  refine nmy ?_
  first | (refine wB hless ?_; try refine kC ?_) | refine qK hless ?_ | refine qI hless ?_
  obtain hR := Option.some.inj hh
  subst hR
  refine YS ?_
  refine jf ?_ (by rfl) ?_
  ·simp only [go_sem, wT, xy, vg, jk, Qc, List.map_cons, List.map_append, List.head?_cons]
   all_goals exact wkw
  ·(try simp only [go_sem]); (try simp only [List.length_append, List.map_append]); all_goals exact wkb
 ·intro i s h; exact h.elim
 ·intro s h; exact h.elim
theorem ao7 (a_1 : za) (b_2 : za) (R : vU) (hh : aeu a_1 b_2 = some R) : PC Tryd.prog 40 [.agg [.str a_1.Kind, .str a_1.Text, .list 1 (a_1.Marks.map PV.str), .list 2 (a_1.zh.map ze.pv), .list 5 (a_1.Kids.map za.pv)], .agg [.str b_2.Kind, .str b_2.Text, .list 1 (b_2.Marks.map PV.str), .list 2 (b_2.zh.map ze.pv), .list 5 (b_2.Kids.map za.pv)]] (.adl 78 [.str R.a.Kind, .str R.a.Text, .list 1 (R.a.Marks.map PV.str), .list 2 (R.a.zh.map ze.pv), .list 5 (R.a.Kids.map za.pv), .str R.b.Kind, .str R.b.Text, .list 1 (R.b.Marks.map PV.str), .list 2 (R.b.zh.map ze.pv), .list 5 (R.b.Kids.map za.pv), .list 1 (R.path.map (PV.int .i64)), .int .i64 R.at_, .int .i64 R.head, .int .i64 R.m, .int .i64 R.n] 6 (R.attrs.map zt.pv) []) := by
 rw [aeu] at hh
 refine ai9 rfl ?_
 refine zb fun K kk hK => ?_
 simp only [go_sem]
 refine hK _ _ fun nx => ?_; clear hK K; try clear kk
 refine aj5 ?_
 refine zb fun K kk hK => ?_
 simp only [go_sem]
 refine hK _ _ fun nx => ?_; clear hK K; try clear kk
 refine zm ?_
 refine akq ?_; refine nmx ?_
 refine zm ?_
 obtain ⟨e0, f0, hh⟩ := zf hh
 refine ZX (fun s => ∃ aor, ∃ aio, ∃ ajS, ∃ akK, ∃ ajs, ∃ aj3, ∃ akf, ∃ ajK, ∃ akv, ∃ ajw, ∃ ajp, ∃ aj6, ∃ ajM, ∃ akB, ∃ aik, ∃ ajT, (aor, aio, ajS, akK, ajs, aj3, akf, ajK, akv, ajw, ajp, aj6, ajM, akB, aik, ajT) = e0 ∧ ∃ (awl : Bool) (nx : Nat) (g12 : Nat) (g394 : Nat) (g399 : Nat), s = ⟨[(5, .box 12 g12 0), (6, .list 5 (aor.map za.pv)), (7, .list 5 (aio.map za.pv)), (148, .bool awl)], [(12, g12, .var 78 [.str ajS, .str akK, .list 1 (ajs.map PV.str), .list 2 (aj3.map ze.pv), .list 5 (aor.map za.pv), .str akf, .str ajK, .list 1 (akv.map PV.str), .list 2 (ajw.map ze.pv), .list 5 (aio.map za.pv), .row 394 g394 aik.length, .int .i64 ajp, .int .i64 aj6, .int .i64 ajM, .int .i64 akB, .row 399 g399 ajT.length]), (394, g394, .row false 1 (aik.map (PV.int .i64))), (399, g399, .row false 6 (ajT.map zt.pv))], nx⟩)
  (fun i s => False)
  (fun s => False) ?_ ?_ ?_ ?_
 ·refine zC ?_
  refine qg fun I hI => ?_
  obtain ⟨k, f0⟩ := jA f0
  have key : ∀ (k : Nat) (aq4 : Str) (arq : Str) (aqQ : (List Str)) (ari : (List ze)) (ar1 : (List za)) (arx : Str) (aqW : Str) (arI : (List Str)) (arE : (List ze)) (aqS : (List za)) (ark : Int) (ara : Int) (arV : Int) (arL : Int) (amQ : (List Int)) (ao0 : (List zt)), yZ k aq4 arq aqQ ari ar1 arx aqW arI arE aqS ark ara arV arL amQ ao0 = some e0 → ∀ (nx : Nat) (g12 : Nat) (g394 : Nat) (g399 : Nat), I ⟨[(5, .box 12 g12 0)], [(12, g12, .var 78 [.str aq4, .str arq, .list 1 (aqQ.map PV.str), .list 2 (ari.map ze.pv), .list 5 (ar1.map za.pv), .str arx, .str aqW, .list 1 (arI.map PV.str), .list 2 (arE.map ze.pv), .list 5 (aqS.map za.pv), .row 394 g394 amQ.length, .int .i64 ark, .int .i64 ara, .int .i64 arV, .int .i64 arL, .row 399 g399 ao0.length]), (394, g394, .row false 1 (amQ.map (PV.int .i64))), (399, g399, .row false 6 (ao0.map zt.pv))], nx⟩ := by
   intro k
   induction k with
   | zero => intro aq4 arq aqQ ari ar1 arx aqW arI arE aqS ark ara arV arL amQ ao0 hh; rw [yZ] at hh; cases hh
   | succ k ih =>
    intro aq4 arq aqQ ari ar1 arx aqW arI arE aqS ark ara arV arL amQ ao0 hh nx g12 g394 g399
    rw [yZ] at hh
    refine hI _ ?_
    refine zC ?_
    obtain ⟨⟨JG, Jq, KA, Kw, qG, JD, Jt, KD, Kt, qL, XM, au9, asZ, asM, adL, YL⟩, h32, hh⟩ := zf hh
    dsimp only at hh
    obtain ⟨h33, hh⟩ := qo hh
    refine zb fun K kk hK => ?_
    simp only [go_sem, h33]
    (repeat refine sd ?_)
    refine Qa [12, 394, 399] (by decide) (YA _ _ _ _ _ _ _ _ _ _ _ _ _ _ _ _ _ h32) (by (try simp only [go_sem, h33]) <;> exact wkb) (by rfl) ?_
    simp only [go_sem, h33]
    (repeat refine sd ?_)
    refine hK _ _ fun nx => ?_; clear hK K; try clear kk
    refine zb fun K kk hK => ?_
    simp only [go_sem]
    refine hK _ _ fun nx => ?_; clear hK K; try clear kk
    refine zb fun K kk hK => ?_
    simp only [go_sem]
    refine hK _ _ fun nx => ?_; clear hK K; try clear kk
    refine zm ?_
    obtain ⟨e3, f3, hh⟩ := zf hh
    refine ZX (fun s => ∃ ZC, ZC = e3 ∧ ∃ (at6 : Bool) (nx : Nat) (g12 : Nat) (g394 : Nat) (g399 : Nat), s = ⟨[(5, .box 12 g12 0), (6, .list 5 (qG.map za.pv)), (7, .list 5 (qL.map za.pv)), (54, .bool at6)], [(12, g12, .var 78 [.str JG, .str Jq, .list 1 (KA.map PV.str), .list 2 (Kw.map ze.pv), .list 5 (qG.map za.pv), .str JD, .str Jt, .list 1 (KD.map PV.str), .list 2 (Kt.map ze.pv), .list 5 (qL.map za.pv), .row 394 g394 adL.length, .int .i64 XM, .int .i64 ZC, .int .i64 asZ, .int .i64 asM, .row 399 g399 YL.length]), (394, g394, .row false 1 (adL.map (PV.int .i64))), (399, g399, .row false 6 (YL.map zt.pv))], nx⟩)
     (fun i s => False)
     (fun s => False) ?_ ?_ ?_ ?_
    ·refine zC ?_
     refine qg fun I hI => ?_
     obtain ⟨k, f3⟩ := jA f3
     have key : ∀ (k : Nat) (agw : Int), xG qG qL k agw = some e3 → ∀ (nx : Nat) (g12 : Nat) (g394 : Nat) (g399 : Nat), I ⟨[(5, .box 12 g12 0), (6, .list 5 (qG.map za.pv)), (7, .list 5 (qL.map za.pv))], [(12, g12, .var 78 [.str JG, .str Jq, .list 1 (KA.map PV.str), .list 2 (Kw.map ze.pv), .list 5 (qG.map za.pv), .str JD, .str Jt, .list 1 (KD.map PV.str), .list 2 (Kt.map ze.pv), .list 5 (qL.map za.pv), .row 394 g394 adL.length, .int .i64 XM, .int .i64 agw, .int .i64 asZ, .int .i64 asM, .row 399 g399 YL.length]), (394, g394, .row false 1 (adL.map (PV.int .i64))), (399, g399, .row false 6 (YL.map zt.pv))], nx⟩ := by
      intro k
      induction k with
      | zero => intro agw hh; rw [xG] at hh; cases hh
      | succ k ih =>
       intro agw hh nx g12 g394 g399
       rw [xG] at hh
       refine hI _ ?_
       refine zm ?_
       by_cases h39 : (decide (agw < (if (qL.length : Int) < (qG.length : Int) then (qL.length : Int) else (qG.length : Int)))) = true
       ·rw [if_pos h39] at hh
        obtain ⟨ayr, h40, hh⟩ := zf hh
        obtain ⟨h40a, h40b, h40c⟩ := rd_some h40
        have h40d := wR (f := za.pv) h40c
        have h40f := qM (f := za.pv) h40c
        try simp only [Int.toNat_natCast, Int.reduceToNat] at h40d h40f
        obtain ⟨axY, h41, hh⟩ := zf hh
        obtain ⟨h41a, h41b, h41c⟩ := rd_some h41
        have h41d := wR (f := za.pv) h41c
        have h41f := qM (f := za.pv) h41c
        try simp only [Int.toNat_natCast, Int.reduceToNat] at h41d h41f
        obtain ⟨akS, h42, hh⟩ := zf hh
        refine zb fun K kk hK => ?_
        simp only [go_sem, h39, of_decide_eq_true h39, h40a, h40b, h40d, h40f.1, h40f.2, h41a, h41b, h41d, h41f.1, h41f.2]
        (repeat refine sd ?_)
        refine zg (kW _ _ _ h42) (by (try simp only [go_sem, h39, of_decide_eq_true h39, h40a, h40b, h40d, h40f.1, h40f.2, h41a, h41b, h41d, h41f.1, h41f.2]) <;> exact wkl) (by rfl) (by rfl) ?_
        simp only [go_sem, h39, of_decide_eq_true h39, h40a, h40b, h40d, h40f.1, h40f.2, h41a, h41b, h41d, h41f.1, h41f.2]
        (repeat refine sd ?_)
        refine hK _ _ fun nx => ?_; clear hK K; try clear kk
        by_cases h43 : (akS) = true
        ·rw [if_pos h43] at hh
         refine zn (by first | exact congrArg PV.bool h43 | rfl) ?_
         refine zy ?_; refine nmx ?_
         refine zC ?_
         refine zq fun K kk hK => ?_
         simp only [go_sem]
         refine hK _ _ fun nx => ?_; clear hK K; try clear kk
         refine nmx ?_
         have ih' := ih _ hh nx
         refine zG ?_
         first | exact ih' _ _ _ | (simp only [pvE, lsE, zo] at ih' ⊢; exact ih' _ _ _) | (simp only [pvE, lsE, zo, h39, h43] at ih' ⊢; exact ih' _ _ _)
        ·rw [if_neg h43] at hh
         replace h43 := Bool.eq_false_iff.mpr h43
         refine zi (by first | exact congrArg PV.bool h43 | rfl) ?_
         refine zU ?_; refine nmx ?_
         refine wJ ?_
         refine zG ?_
         refine ⟨_, (Option.some.inj hh), ?_⟩
         first | exact ⟨_, _, _, _, _, rfl⟩ | (simp only [pvE, lsE, zo]; exact ⟨_, _, _, _, _, rfl⟩) | (simp only [pvE, lsE, zo, h39, h43]; exact ⟨_, _, _, _, _, rfl⟩)
       ·rw [if_neg h39] at hh
        replace h39 := Bool.eq_false_iff.mpr h39
        refine zb fun K kk hK => ?_
        simp only [go_sem, h39, of_decide_eq_false h39]
        (repeat refine sd ?_)
        refine hK _ _ fun nx => ?_; clear hK K; try clear kk
        refine zi rfl ?_
        refine zU ?_; refine nmx ?_
        refine wJ ?_
        refine zG ?_
        refine ⟨_, (Option.some.inj hh), ?_⟩
        first | exact ⟨_, _, _, _, _, rfl⟩ | (simp only [pvE, lsE, zo]; exact ⟨_, _, _, _, _, rfl⟩) | (simp only [pvE, lsE, zo, h39]; exact ⟨_, _, _, _, _, rfl⟩)
     exact key _ _ f3 _ _ _ _
    ·rintro s ⟨ZC, rfl, at6, nx, g12, g394, g399, rfl⟩
     try dsimp only at hh
     refine zb fun K kk hK => ?_
     simp only [go_sem]
     refine hK _ _ fun nx => ?_; clear hK K; try clear kk
     refine zm ?_
     obtain ⟨e4, f4, hh⟩ := zf hh
     refine ZX (fun s => ∃ xM, xM = e4 ∧ ∃ (axW : Bool) (nx : Nat) (g12 : Nat) (g394 : Nat) (g399 : Nat), s = ⟨[(5, .box 12 g12 0), (6, .list 5 (qG.map za.pv)), (7, .list 5 (qL.map za.pv)), (8, .int .i64 xM), (92, .bool axW)], [(12, g12, .var 78 [.str JG, .str Jq, .list 1 (KA.map PV.str), .list 2 (Kw.map ze.pv), .list 5 (qG.map za.pv), .str JD, .str Jt, .list 1 (KD.map PV.str), .list 2 (Kt.map ze.pv), .list 5 (qL.map za.pv), .row 394 g394 adL.length, .int .i64 XM, .int .i64 ZC, .int .i64 asZ, .int .i64 asM, .row 399 g399 YL.length]), (394, g394, .row false 1 (adL.map (PV.int .i64))), (399, g399, .row false 6 (YL.map zt.pv))], nx⟩)
      (fun i s => False)
      (fun s => False) ?_ ?_ ?_ ?_
     ·refine zC ?_
      refine qg fun I hI => ?_
      obtain ⟨k, f4⟩ := jA f4
      have key : ∀ (k : Nat) (Z7 : Int), yx qG qL ZC k Z7 = some e4 → ∀ (nx : Nat) (g12 : Nat) (g394 : Nat) (g399 : Nat), I ⟨[(5, .box 12 g12 0), (6, .list 5 (qG.map za.pv)), (7, .list 5 (qL.map za.pv)), (8, .int .i64 Z7)], [(12, g12, .var 78 [.str JG, .str Jq, .list 1 (KA.map PV.str), .list 2 (Kw.map ze.pv), .list 5 (qG.map za.pv), .str JD, .str Jt, .list 1 (KD.map PV.str), .list 2 (Kt.map ze.pv), .list 5 (qL.map za.pv), .row 394 g394 adL.length, .int .i64 XM, .int .i64 ZC, .int .i64 asZ, .int .i64 asM, .row 399 g399 YL.length]), (394, g394, .row false 1 (adL.map (PV.int .i64))), (399, g399, .row false 6 (YL.map zt.pv))], nx⟩ := by
       intro k
       induction k with
       | zero => intro Z7 hh; rw [yx] at hh; cases hh
       | succ k ih =>
        intro Z7 hh nx g12 g394 g399
        rw [yx] at hh
        refine hI _ ?_
        refine zm ?_
        by_cases h49 : (decide (Z7 < (w64 ((if (qL.length : Int) < (qG.length : Int) then (qL.length : Int) else (qG.length : Int)) - ZC)))) = true
        ·rw [if_pos h49] at hh
         obtain ⟨axB, h50, hh⟩ := zf hh
         obtain ⟨h50a, h50b, h50c⟩ := rd_some h50
         have h50d := wR (f := za.pv) h50c
         have h50f := qM (f := za.pv) h50c
         try simp only [Int.toNat_natCast, Int.reduceToNat] at h50d h50f
         obtain ⟨ax8, h51, hh⟩ := zf hh
         obtain ⟨h51a, h51b, h51c⟩ := rd_some h51
         have h51d := wR (f := za.pv) h51c
         have h51f := qM (f := za.pv) h51c
         try simp only [Int.toNat_natCast, Int.reduceToNat] at h51d h51f
         obtain ⟨ak9, h52, hh⟩ := zf hh
         refine zb fun K kk hK => ?_
         simp only [go_sem, h49, of_decide_eq_true h49, h50a, h50b, h50d, h50f.1, h50f.2, h51a, h51b, h51d, h51f.1, h51f.2]
         (repeat refine sd ?_)
         refine zg (kW _ _ _ h52) (by (try simp only [go_sem, h49, of_decide_eq_true h49, h50a, h50b, h50d, h50f.1, h50f.2, h51a, h51b, h51d, h51f.1, h51f.2]) <;> exact wkl) (by rfl) (by rfl) ?_
         simp only [go_sem, h49, of_decide_eq_true h49, h50a, h50b, h50d, h50f.1, h50f.2, h51a, h51b, h51d, h51f.1, h51f.2]
         (repeat refine sd ?_)
         refine hK _ _ fun nx => ?_; clear hK K; try clear kk
         by_cases h53 : (ak9) = true
         ·rw [if_pos h53] at hh
          refine zn (by first | exact congrArg PV.bool h53 | rfl) ?_
          refine zy ?_; refine nmx ?_
          refine zC ?_
          refine zq fun K kk hK => ?_
          simp only [go_sem]
          refine hK _ _ fun nx => ?_; clear hK K; try clear kk
          refine nmx ?_
          have ih' := ih _ hh nx
          refine zG ?_
          first | exact ih' _ _ _ | (simp only [pvE, lsE, zo] at ih' ⊢; exact ih' _ _ _) | (simp only [pvE, lsE, zo, h49, h53] at ih' ⊢; exact ih' _ _ _)
         ·rw [if_neg h53] at hh
          replace h53 := Bool.eq_false_iff.mpr h53
          refine zi (by first | exact congrArg PV.bool h53 | rfl) ?_
          refine zU ?_; refine nmx ?_
          refine wJ ?_
          refine zG ?_
          refine ⟨_, (Option.some.inj hh), ?_⟩
          first | exact ⟨_, _, _, _, _, rfl⟩ | (simp only [pvE, lsE, zo]; exact ⟨_, _, _, _, _, rfl⟩) | (simp only [pvE, lsE, zo, h49, h53]; exact ⟨_, _, _, _, _, rfl⟩)
        ·rw [if_neg h49] at hh
         replace h49 := Bool.eq_false_iff.mpr h49
         refine zb fun K kk hK => ?_
         simp only [go_sem, h49, of_decide_eq_false h49]
         (repeat refine sd ?_)
         refine hK _ _ fun nx => ?_; clear hK K; try clear kk
         refine zi rfl ?_
         refine zU ?_; refine nmx ?_
         refine wJ ?_
         refine zG ?_
         refine ⟨_, (Option.some.inj hh), ?_⟩
         first | exact ⟨_, _, _, _, _, rfl⟩ | (simp only [pvE, lsE, zo]; exact ⟨_, _, _, _, _, rfl⟩) | (simp only [pvE, lsE, zo, h49]; exact ⟨_, _, _, _, _, rfl⟩)
      exact key _ _ f4 _ _ _ _
     ·rintro s ⟨xM, rfl, axW, nx, g12, g394, g399, rfl⟩
      try dsimp only at hh
      refine zb fun K kk hK => ?_
      simp only [go_sem]
      refine hK _ _ fun nx => ?_; clear hK K; try clear kk
      refine zm ?_
      by_cases h54 : ((w64 ((w64 ((qG.length : Int) - ZC)) - xM)) != (1 : Int)) = true
      ·rw [if_pos h54] at hh
       refine zb fun K kk hK => ?_
       simp only [go_sem, h54]
       (repeat refine sd ?_)
       refine hK _ _ fun nx => ?_; clear hK K; try clear kk
       refine zn rfl ?_
       refine zU ?_; refine nmx ?_
       refine wJ ?_
       refine zG ?_
       refine ⟨_, _, _, _, _, _, _, _, _, _, _, _, _, _, _, _, (Option.some.inj hh), ?_⟩
       first | exact ⟨_, _, _, _, _, rfl⟩ | (simp only [pvE, lsE, zo]; exact ⟨_, _, _, _, _, rfl⟩) | (simp only [pvE, lsE, zo, h54]; exact ⟨_, _, _, _, _, rfl⟩)
      ·rw [if_neg h54] at hh
       replace h54 := Bool.eq_false_iff.mpr h54
       by_cases h55 : ((w64 ((w64 ((qL.length : Int) - ZC)) - xM)) != (1 : Int)) = true
       ·rw [if_pos h55] at hh
        refine zb fun K kk hK => ?_
        simp only [go_sem, h54, h55]
        (repeat refine sd ?_)
        refine hK _ _ fun nx => ?_; clear hK K; try clear kk
        refine zn rfl ?_
        refine zU ?_; refine nmx ?_
        refine wJ ?_
        refine zG ?_
        refine ⟨_, _, _, _, _, _, _, _, _, _, _, _, _, _, _, _, (Option.some.inj hh), ?_⟩
        first | exact ⟨_, _, _, _, _, rfl⟩ | (simp only [pvE, lsE, zo]; exact ⟨_, _, _, _, _, rfl⟩) | (simp only [pvE, lsE, zo, h54, h55]; exact ⟨_, _, _, _, _, rfl⟩)
       ·rw [if_neg h55] at hh
        replace h55 := Bool.eq_false_iff.mpr h55
        obtain ⟨aoi, h56, hh⟩ := zf hh
        obtain ⟨h56a, h56b, h56c⟩ := rd_some h56
        have h56d := wR (f := za.pv) h56c
        have h56f := qM (f := za.pv) h56c
        try simp only [Int.toNat_natCast, Int.reduceToNat] at h56d h56f
        obtain ⟨apq, h57, hh⟩ := zf hh
        obtain ⟨h57a, h57b, h57c⟩ := rd_some h57
        have h57d := wR (f := za.pv) h57c
        have h57f := qM (f := za.pv) h57c
        try simp only [Int.toNat_natCast, Int.reduceToNat] at h57d h57f
        obtain ⟨ag7, h58, hh⟩ := zf hh
        refine zb fun K kk hK => ?_
        simp only [go_sem, h54, h55, h56a, h56b, h56d, h56f.1, h56f.2, h57a, h57b, h57d, h57f.1, h57f.2]
        (repeat refine sd ?_)
        refine zg (abY _ _ _ h58) (by (try simp only [go_sem, h54, h55, h56a, h56b, h56d, h56f.1, h56f.2, h57a, h57b, h57d, h57f.1, h57f.2]) <;> exact wkl) (by rfl) (by rfl) ?_
        simp only [go_sem, h54, h55, h56a, h56b, h56d, h56f.1, h56f.2, h57a, h57b, h57d, h57f.1, h57f.2]
        (repeat refine sd ?_)
        refine hK _ _ fun nx => ?_; clear hK K; try clear kk
        by_cases h59 : (!ag7) = true
        ·rw [if_pos h59] at hh
         refine zn (by first | exact congrArg PV.bool h59 | rfl) ?_
         refine zU ?_; refine nmx ?_
         refine wJ ?_
         refine zG ?_
         refine ⟨_, _, _, _, _, _, _, _, _, _, _, _, _, _, _, _, (Option.some.inj hh), ?_⟩
         first | exact ⟨_, _, _, _, _, rfl⟩ | (simp only [pvE, lsE, zo]; exact ⟨_, _, _, _, _, rfl⟩) | (simp only [pvE, lsE, zo, h54, h55, h59]; exact ⟨_, _, _, _, _, rfl⟩)
        ·rw [if_neg h59] at hh
         replace h59 := Bool.eq_false_iff.mpr h59
         refine zi (by first | exact congrArg PV.bool h59 | rfl) ?_
         refine zy ?_; refine nmx ?_
         obtain ⟨ayt, h60, hh⟩ := zf hh
         obtain ⟨h60a, h60c⟩ := zZ h60
         have h60d := qX (f := (PV.int .i64)) h60c
         have h60e := qW h60c
         try simp only [List.length_cons, List.length_nil, Nat.zero_add, Nat.reduceAdd] at h60a h60e
         try simp only [h60e] at h60a
         try simp only [List.map_cons, List.map_nil, List.nil_append, List.append_nil, List.cons_append, List.singleton_append, zo, pvE] at h60d
         refine zb fun K kk hK => ?_
         simp only [go_sem, h60a, h60d, h60e]
         (repeat refine sd ?_)
         refine hK _ _ fun nx => ?_; clear hK K; try clear kk
         obtain ⟨ayw, h61, hh⟩ := zf hh
         obtain ⟨h61a, h61c⟩ := yL h61
         have h61g := Ju h61a
         have h61d := Jr (f := za.pv) h61c
         try simp only [Int.toNat_natCast, Int.reduceToNat, List.map_cons, List.map_nil, pvE] at h61d
         obtain ⟨ant, h62, hh⟩ := zf hh
         refine zb fun K kk hK => ?_
         simp only [go_sem, h61a.1, h61a.2.1, h61a.2.2, h61d, h61g]
         (repeat refine sd ?_)
         refine zg (jM _ _ h62) (by (try simp only [go_sem, h61a.1, h61a.2.1, h61a.2.2, h61d, h61g]) <;> exact wkl) (by rfl) (by rfl) ?_
         simp only [go_sem, h61a.1, h61a.2.1, h61a.2.2, h61d, h61g]
         (repeat refine sd ?_)
         refine hK _ _ fun nx => ?_; clear hK K; try clear kk
         refine zq fun K kk hK => ?_
         simp only [go_sem, h56a, h56b, h56d, h56f.1, h56f.2, h57a, h57b, h57d, h57f.1, h57f.2]
         (repeat refine sd ?_)
         refine hK _ _ fun nx => ?_; clear hK K; try clear kk
         refine nmx ?_
         have ih' := ih _ _ _ _ _ _ _ _ _ _ _ _ _ _ _ _ hh nx
         refine zG ?_
         first | exact ih' _ _ _ | (simp only [pvE, lsE, zo, h60e] at ih' ⊢; exact ih' _ _ _) | (simp only [pvE, lsE, zo, h60e, h54, h55, h59] at ih' ⊢; exact ih' _ _ _)
     ·intro i s h; exact h.elim
     ·intro s h; exact h.elim
    ·intro i s h; exact h.elim
    ·intro s h; exact h.elim
  exact key _ _ _ _ _ _ _ _ _ _ _ _ _ _ _ _ _ f0 _ _ _ _
 ·rintro s ⟨aor, aio, ajS, akK, ajs, aj3, akf, ajK, akv, ajw, ajp, aj6, ajM, akB, aik, ajT, rfl, awl, nx, g12, g394, g399, rfl⟩
  try dsimp only at hh
  refine zb fun K kk hK => ?_
  simp only [go_sem]
  refine hK _ _ fun nx => ?_; clear hK K; try clear kk
  refine zk ?_; refine nmx ?_
  obtain hR := Option.some.inj hh
  subst hR
  refine asP (pre := [.str ajS, .str akK, .list 1 (ajs.map PV.str), .list 2 (aj3.map ze.pv), .list 5 (aor.map za.pv), .str akf, .str ajK, .list 1 (akv.map PV.str), .list 2 (ajw.map ze.pv), .list 5 (aio.map za.pv), .list 1 (aik.map (PV.int .i64)), .int .i64 ajp, .int .i64 aj6, .int .i64 ajM, .int .i64 akB]) (post := []) (kr := 399) (by rfl) (by rfl) (by rfl) (by decide) (by rfl) (by rfl) (by rfl) (by rfl) ?_
  exact ⟨by first | rfl | simp only [List.length_map], by first | rfl | (simp only [pvE, lsE, zo]; done) | (simp only [pvE, lsE, zo]; rfl)⟩
 ·intro i s h; exact h.elim
 ·intro s h; exact h.elim
theorem XJ (l : (List Str)) (R : (List Str)) (hh : slices_Clone_string l = some R) : PC Tryd.prog 69 [.list 1 (l.map PV.str)] (.own 1 (R.map PV.str)) := by
 rw [slices_Clone_string] at hh
 obtain ⟨ha, hb⟩ := zZ hh
 rw [List.nil_append] at hb
 subst hb
 try simp only [List.length_nil, Nat.zero_add] at ha
 refine Jk rfl ?_
 refine zb fun K kk hK => ?_
 simp only [go_sem]
 refine hK _ _ fun nx => ?_; clear hK K; try clear kk
 refine zb fun K kk hK => ?_
 simp only [go_sem]
 refine ⟨fun hnil => hK _ _ fun nx => ?_, hK _ _ fun nx => ?_⟩ <;> (clear hK K; try clear kk)
 ·have hl : l = [] := by simpa using hnil
  subst hl
  first | refine zn rfl ?_ | (refine zm ?_; refine zn rfl ?_)
  refine zb fun K kk hK => ?_
  simp only [go_sem]
  refine hK _ _ fun nx => ?_; clear hK K; try clear kk
  refine zk ?_; refine nmx ?_
  exact JC rfl
 ·first | refine zi rfl ?_ | (refine zm ?_; refine zi rfl ?_)
  refine zy ?_; refine nmx ?_
  refine zb fun K kk hK => ?_
  simp only [go_sem, ha]
  refine hK _ _ fun nx => ?_; clear hK K; try clear kk
  refine zk ?_; refine nmx ?_
  exact XY (by rfl) (by rfl) (by rfl) (by simp) (by rfl)
theorem ZV (l : (List ze)) (R : (List ze)) (hh : kv l = some R) : PC Tryd.prog 70 [.list 2 (l.map ze.pv)] (.own 2 (R.map ze.pv)) := by
 rw [kv] at hh
 obtain ⟨ha, hb⟩ := zZ hh
 rw [List.nil_append] at hb
 subst hb
 try simp only [List.length_nil, Nat.zero_add] at ha
 refine Vv rfl ?_
 refine zb fun K kk hK => ?_
 simp only [go_sem]
 refine hK _ _ fun nx => ?_; clear hK K; try clear kk
 refine zb fun K kk hK => ?_
 simp only [go_sem]
 refine ⟨fun hnil => hK _ _ fun nx => ?_, hK _ _ fun nx => ?_⟩ <;> (clear hK K; try clear kk)
 ·have hl : l = [] := by simpa using hnil
  subst hl
  first | refine zn rfl ?_ | (refine zm ?_; refine zn rfl ?_)
  refine zb fun K kk hK => ?_
  simp only [go_sem]
  refine hK _ _ fun nx => ?_; clear hK K; try clear kk
  refine zk ?_; refine nmx ?_
  exact JC rfl
 ·first | refine zi rfl ?_ | (refine zm ?_; refine zi rfl ?_)
  refine zy ?_; refine nmx ?_
  refine zb fun K kk hK => ?_
  simp only [go_sem, ha]
  refine hK _ _ fun nx => ?_; clear hK K; try clear kk
  refine zk ?_; refine nmx ?_
  exact XY (by rfl) (by rfl) (by rfl) (by simp) (by rfl)
theorem vN (l : (List za)) (R : (List za)) (hh : qy l = some R) : PC Tryd.prog 71 [.list 5 (l.map za.pv)] (.own 5 (R.map za.pv)) := by
 rw [qy] at hh
 obtain ⟨ha, hb⟩ := zZ hh
 rw [List.nil_append] at hb
 subst hb
 try simp only [List.length_nil, Nat.zero_add] at ha
 refine Vl rfl ?_
 refine zb fun K kk hK => ?_
 simp only [go_sem]
 refine hK _ _ fun nx => ?_; clear hK K; try clear kk
 refine zb fun K kk hK => ?_
 simp only [go_sem]
 refine ⟨fun hnil => hK _ _ fun nx => ?_, hK _ _ fun nx => ?_⟩ <;> (clear hK K; try clear kk)
 ·have hl : l = [] := by simpa using hnil
  subst hl
  first | refine zn rfl ?_ | (refine zm ?_; refine zn rfl ?_)
  refine zb fun K kk hK => ?_
  simp only [go_sem]
  refine hK _ _ fun nx => ?_; clear hK K; try clear kk
  refine zk ?_; refine nmx ?_
  exact JC rfl
 ·first | refine zi rfl ?_ | (refine zm ?_; refine zi rfl ?_)
  refine zy ?_; refine nmx ?_
  refine zb fun K kk hK => ?_
  simp only [go_sem, ha]
  refine hK _ _ fun nx => ?_; clear hK K; try clear kk
  refine zk ?_; refine nmx ?_
  exact XY (by rfl) (by rfl) (by rfl) (by simp) (by rfl)
end Go.Proofs.YtclohbgnaopjfaaDoor
