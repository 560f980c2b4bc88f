/- Texts of the proof of diffChainCard -/
import Derived.Test.YtclohbgnaopjfaaDoorAgC
import Derived.Test.YtclohbgnaopjfaaDoorAgF
import Derived.Test.YtclohbgnaopjfaaDoorAgK0
import Derived.Test.YtclohbgnaopjfaaDoorAgK1
namespace Go.Proofs.YtclohbgnaopjfaaDoor
set_option linter.unusedSimpArgs false
set_option linter.unusedVariables false
open Go
set_option maxRecDepth 100000
theorem yT : ∀ kr : Nat, (∀ (kD : (List za)) (kT : (List za)) (R : Bool), zY kr kD kT = some R → PC Tryd.prog 44 [.list 5 (kD.map za.pv), .list 5 (kT.map za.pv), .fn 15 []] (.bool R)) ∧
  (∀ (a_1 : za) (b_2 : za) (R : Bool), vF kr a_1 b_2 = some R → PC Tryd.prog 15 [.agg [.str a_1.Kind, .str a_1.Text, .list 1 (a_1.Marks.map PV.str), .list 2 (a_1.zh.map ze.pv), .list 5 (a_1.Kids.map za.pv)], .agg [.str b_2.Kind, .str b_2.Text, .list 1 (b_2.Marks.map PV.str), .list 2 (b_2.zh.map ze.pv), .list 5 (b_2.Kids.map za.pv)]] (.bool R)) := by
 intro kr
 induction kr with
 | zero => exact ⟨(by intro kD kT R hh; rw [zY] at hh; cases hh), (by intro a_1 b_2 R hh; rw [vF] at hh; cases hh)⟩
 | succ kr ih =>
  obtain ⟨ih_slices_EqualFunc_api_Node_node_Same, ih_node_Same⟩ := ih
  refine ⟨?_, ?_⟩
  ·intro kD kT R hh
   rw [zY] at hh
   refine yD rfl ?_
   refine zb fun K kk hK => ?_
   simp only [go_sem]
   refine hK _ _ fun nx => ?_; clear hK K; try clear kk
   refine zm ?_
   refine zb fun K kk hK => ?_
   simp only [go_sem]
   refine hK _ _ fun nx => ?_; clear hK K; try clear kk
   by_cases h1 : ((kD.length : Int) != (kT.length : Int)) = true
   ·rw [if_pos h1] at hh
    refine zn (by first | exact congrArg PV.bool h1 | rfl) ?_
    refine zb fun K kk hK => ?_
    simp only [go_sem]
    refine hK _ _ fun nx => ?_; clear hK K; try clear kk
    refine zk ?_; refine nmx ?_
    obtain hR := Option.some.inj hh
    subst hR
    exact zz
   ·rw [if_neg h1] at hh
    replace h1 := Bool.eq_false_iff.mpr h1
    refine zi (by first | exact congrArg PV.bool h1 | rfl) ?_
    refine zy ?_; refine nmx ?_
    refine zm ?_
    refine zb fun K kk hK => ?_
    simp only [go_sem]
    refine hK _ _ fun nx => ?_; clear hK K; try clear kk
    obtain ⟨e0, f0, hh⟩ := zf hh
    obtain ⟨hlen0, f0⟩ := qf f0
    refine qp (kC (fun s => .inr () = e0 ∧ ∃ (Zy : Int) (Yc : Bool) (nx : Nat), s = ⟨[(1, .list 5 (kT.map za.pv)), (2, .fn 15 []), (15, .list 5 (kD.map za.pv)), (16, .int .i64 (kD.length : Int)), (17, .int .i64 Zy), (18, .bool Yc)], [], nx⟩))
     (fun i s => False)
     (fun s => ∃ V6, .inl V6 = e0 ∧ zS Tryd.prog [.tmp 6] (.bool V6) [] .ret s) ?_ ?_ ?_ ?_
    ·refine zA ?_
     refine qd fun I hI => ?_
     have key : ∀ (suf pre : List za) (v_6 : Int), kD = pre ++ suf → v_6 = (pre.length : Int) → zL kT (vF kr) suf v_6 = some e0 → ∀ (nx : Nat), I ⟨[(1, .list 5 (kT.map za.pv)), (2, .fn 15 []), (15, .list 5 (kD.map za.pv)), (16, .int .i64 (kD.length : Int)), (17, .int .i64 v_6)], [], nx⟩ := by
      intro suf
      induction suf with
      | nil =>
       intro pre v_6 hsplit hidx hh nx
       rw [zL] at hh
       refine hI _ ?_
       have h12 := walk_nil hsplit hidx
       refine zb fun K kk hK => ?_
       simp only [go_sem]
       refine hK _ _ fun nx => ?_; clear hK K; try clear kk
       refine zm ?_
       refine zi (by first | exact congrArg PV.bool h12 | rfl) ?_
       refine zU ?_; refine nmx ?_
       refine wX ?_
       refine zG ?_
       refine ⟨(Option.some.inj hh), ?_⟩
       first | exact ⟨_, _, _, rfl⟩ | (simp only [pvE, lsE, zq]; exact ⟨_, _, _, rfl⟩) | (simp only [pvE, lsE, zq, h1, h12]; exact ⟨_, _, _, rfl⟩)
      | cons apV suf ih =>
       intro pre v_6 hsplit hidx hh nx
       rw [zL] at hh
       refine hI _ ?_
       obtain ⟨hl0a, hl0b, hl0d, hl0w, h12⟩ := qM (f := za.pv) hsplit hidx hlen0
       refine zb fun K kk hK => ?_
       simp only [go_sem]
       refine hK _ _ fun nx => ?_; clear hK K; try clear kk
       refine zm ?_
       refine zn (by first | exact congrArg PV.bool h12 | rfl) ?_
       refine zy ?_; refine nmx ?_
       refine zm ?_
       refine zA ?_
       refine zb fun K kk hK => ?_
       simp only [go_sem, hl0a, hl0b, hl0d, hl0w]
       refine hK _ _ fun nx => ?_; clear hK K; try clear kk
       obtain ⟨aey, h13, hh⟩ := zf hh
       obtain ⟨h13a, h13b, h13c⟩ := rd_some h13
       have h13d := kE (f := za.pv) h13c
       have h13f := wo (f := za.pv) h13c
       try simp only [Int.toNat_natCast, Int.reduceToNat] at h13d h13f
       refine zb fun K kk hK => ?_
       simp only [go_sem, h13a, h13b, h13d, h13f.1, h13f.2, hl0a, hl0b, hl0d, hl0w]
       (repeat refine sd ?_)
       refine hK _ _ fun nx => ?_; clear hK K; try clear kk
       obtain ⟨alq, h14, hh⟩ := zf hh
       refine zb fun K kk hK => ?_
       simp only [go_sem, hl0a, hl0b, hl0d, hl0w]
       refine zg (ih_node_Same _ _ _ h14) (by (try simp only [go_sem, hl0a, hl0b, hl0d, hl0w]) <;> exact wkl) (by rfl) (by rfl) ?_
       simp only [go_sem, hl0a, hl0b, hl0d, hl0w]
       refine hK _ _ fun nx => ?_; clear hK K; try clear kk
       by_cases h15 : (!alq) = true
       ·rw [if_pos h15] at hh
        refine zn (by first | exact congrArg PV.bool h15 | rfl) ?_
        refine zb fun K kk hK => ?_
        simp only [go_sem, hl0a, hl0b, hl0d, hl0w]
        refine hK _ _ fun nx => ?_; clear hK K; try clear kk
        refine zk ?_; refine nmx ?_
        refine yN ⟨_, (Option.some.inj hh), ?_⟩
        exact zz
       ·rw [if_neg h15] at hh
        replace h15 := Bool.eq_false_iff.mpr h15
        refine zi (by first | exact congrArg PV.bool h15 | rfl) ?_
        refine zy ?_; refine nmx ?_
        refine zu fun K kk hK => ?_
        simp only [go_sem, hl0a, hl0b, hl0d, hl0w]
        refine hK _ _ fun nx => ?_; clear hK K; try clear kk
        refine nmx ?_
        have ih' := ih (pre ++ [apV]) (v_6 + 1) (by rw [hsplit]; simp) (by simp [hidx]) hh nx
        refine zG ?_
        first | exact ih' | (simp only [pvE, lsE, zq] at ih' ⊢; exact ih') | (simp only [pvE, lsE, zq, h1, h12, h15] at ih' ⊢; exact ih')
     exact key kD [] _ rfl rfl f0 _
    ·rintro s ⟨t, hless, rfl, Zy, Yc, nx, rfl⟩
     try dsimp only at hh
     refine nmy ?_
     first | (refine wh hless ?_; try refine ku ?_) | refine qD hless ?_ | refine qE hless ?_
     refine zb fun K kk hK => ?_
     simp only [go_sem]
     refine hK _ _ fun nx => ?_; clear hK K; try clear kk
     refine zk ?_; refine nmx ?_
     obtain hR := Option.some.inj hh
     subst hR
     exact zz
    ·intro i s h; exact h.elim
    ·rintro s ⟨V6, rfl, hb⟩
     try dsimp only at hh
     obtain hR := Option.some.inj hh
     subst hR
     refine nmx ?_
     exact hb
  ·intro a_1 b_2 R hh
   rw [vF] at hh
   refine agS rfl ?_
   refine zb fun K kk hK => ?_
   simp only [go_sem]
   refine hK _ _ fun nx => ?_; clear hK K; try clear kk
   by_cases h1 : (a_1.Kind == b_2.Kind) = true
   ·rw [if_pos h1] at hh
    by_cases h2 : (a_1.Text == b_2.Text) = true
    ·rw [if_pos h2] at hh
     obtain ⟨ahH, h3, hh⟩ := zf hh
     by_cases h4 : (ahH) = true
     ·rw [if_pos h4] at hh
      obtain ⟨ap5, h5, hh⟩ := zf hh
      by_cases h6 : (ap5) = true
      ·rw [if_pos h6] at hh
       obtain ⟨avh, h7, hh⟩ := zf hh
       refine zb fun K kk hK => ?_
       simp only [go_sem, h1, h2, h4, h6]
       (repeat refine sd ?_)
       refine zg (jD _ _ _ h3) (by (try simp only [go_sem, h1, h2, h4, h6]) <;> exact wkl) (by rfl) (by rfl) ?_
       simp only [go_sem, h1, h2, h4, h6]
       (repeat refine sd ?_)
       refine zg (ZC _ _ _ h5) (by (try simp only [go_sem, h1, h2, h4, h6]) <;> exact wkl) (by rfl) (by rfl) ?_
       simp only [go_sem, h1, h2, h4, h6]
       (repeat refine sd ?_)
       refine zg (ih_slices_EqualFunc_api_Node_node_Same _ _ _ h7) (by (try simp only [go_sem, h1, h2, h4, h6]) <;> exact wkl) (by rfl) (by rfl) ?_
       simp only [go_sem, h1, h2, h4, h6]
       (repeat refine sd ?_)
       refine hK _ _ fun nx => ?_; clear hK K; try clear kk
       refine zk ?_; refine nmx ?_
       obtain hR := Option.some.inj hh
       subst hR
       exact zz
      ·rw [if_neg h6] at hh
       replace h6 := Bool.eq_false_iff.mpr h6
       refine zb fun K kk hK => ?_
       simp only [go_sem, h1, h2, h4, h6]
       (repeat refine sd ?_)
       refine zg (jD _ _ _ h3) (by (try simp only [go_sem, h1, h2, h4, h6]) <;> exact wkl) (by rfl) (by rfl) ?_
       simp only [go_sem, h1, h2, h4, h6]
       (repeat refine sd ?_)
       refine zg (ZC _ _ _ h5) (by (try simp only [go_sem, h1, h2, h4, h6]) <;> exact wkl) (by rfl) (by rfl) ?_
       simp only [go_sem, h1, h2, h4, h6]
       (repeat refine sd ?_)
       refine hK _ _ fun nx => ?_; clear hK K; try clear kk
       refine zk ?_; refine nmx ?_
       obtain hR := Option.some.inj hh
       subst hR
       exact zz
     ·rw [if_neg h4] at hh
      replace h4 := Bool.eq_false_iff.mpr h4
      refine zb fun K kk hK => ?_
      simp only [go_sem, h1, h2, h4]
      (repeat refine sd ?_)
      refine zg (jD _ _ _ h3) (by (try simp only [go_sem, h1, h2, h4]) <;> exact wkl) (by rfl) (by rfl) ?_
      simp only [go_sem, h1, h2, h4]
      (repeat refine sd ?_)
      refine hK _ _ fun nx => ?_; clear hK K; try clear kk
      refine zk ?_; refine nmx ?_
      obtain hR := Option.some.inj hh
      subst hR
      exact zz
    ·rw [if_neg h2] at hh
     replace h2 := Bool.eq_false_iff.mpr h2
     refine zb fun K kk hK => ?_
     simp only [go_sem, h1, h2]
     (repeat refine sd ?_)
     refine hK _ _ fun nx => ?_; clear hK K; try clear kk
     refine zk ?_; refine nmx ?_
     obtain hR := Option.some.inj hh
     subst hR
     exact zz
   ·rw [if_neg h1] at hh
    replace h1 := Bool.eq_false_iff.mpr h1
    refine zb fun K kk hK => ?_
    simp only [go_sem, h1]
    (repeat refine sd ?_)
    refine hK _ _ fun nx => ?_; clear hK K; try clear kk
    refine zk ?_; refine nmx ?_
    obtain hR := Option.some.inj hh
    subst hR
    exact zz
theorem QY (a_1 : za) (b_2 : za) (R : Bool) (hh : jQ a_1 b_2 = some R) : PC Tryd.prog 15 [.agg [.str a_1.Kind, .str a_1.Text, .list 1 (a_1.Marks.map PV.str), .list 2 (a_1.zh.map ze.pv), .list 5 (a_1.Kids.map za.pv)], .agg [.str b_2.Kind, .str b_2.Text, .list 1 (b_2.Marks.map PV.str), .list 2 (b_2.zh.map ze.pv), .list 5 (b_2.Kids.map za.pv)]] (.bool R) := by
 rw [jQ] at hh
 obtain ⟨kr, hh⟩ := jU hh
 exact (yT kr).2 _ _ _ hh
theorem YC (afc : Str) (afI : Str) (aaW : (List Str)) (yM : (List ze)) (aeP : (List za)) (aeM : Str) (afq : Str) (aaZ : (List Str)) (yn : (List ze)) (aaY : (List za)) (WS : Int) (aa1 : Int) (arY : Int) (YK : Int) (agW : (List Int)) (avi : (List zo)) (R : (Str × Str × (List Str) × (List ze) × (List za) × Str × Str × (List Str) × (List ze) × (List za) × Int × Int × Int × Int × (List Int) × (List zo))) (hh : jW afc afI aaW yM aeP aeM afq aaZ yn aaY WS aa1 arY YK agW avi = some R) : BC Tryd.prog 68 [.box 1000 0 0] [.var 78 [.str afc, .str afI, .list 1 (aaW.map PV.str), .list 2 (yM.map ze.pv), .list 5 (aeP.map za.pv), .str aeM, .str afq, .list 1 (aaZ.map PV.str), .list 2 (yn.map ze.pv), .list 5 (aaY.map za.pv), .row 1001 0 agW.length, .int .i64 WS, .int .i64 aa1, .int .i64 arY, .int .i64 YK, .row 1002 0 avi.length], .row false 1 (agW.map (PV.int .i64)), .row false 6 (avi.map zo.pv)] (.tup []) [.var 78 [.str R.1, .str R.2.1, .list 1 (R.2.2.1.map PV.str), .list 2 (R.2.2.2.1.map ze.pv), .list 5 (R.2.2.2.2.1.map za.pv), .str R.2.2.2.2.2.1, .str R.2.2.2.2.2.2.1, .list 1 (R.2.2.2.2.2.2.2.1.map PV.str), .list 2 (R.2.2.2.2.2.2.2.2.1.map ze.pv), .list 5 (R.2.2.2.2.2.2.2.2.2.1.map za.pv), .row 1001 0 R.2.2.2.2.2.2.2.2.2.2.2.2.2.2.1.length, .int .i64 R.2.2.2.2.2.2.2.2.2.2.1, .int .i64 R.2.2.2.2.2.2.2.2.2.2.2.1, .int .i64 R.2.2.2.2.2.2.2.2.2.2.2.2.1, .int .i64 R.2.2.2.2.2.2.2.2.2.2.2.2.2.1, .row 1002 0 R.2.2.2.2.2.2.2.2.2.2.2.2.2.2.2.length], .row false 1 (R.2.2.2.2.2.2.2.2.2.2.2.2.2.2.1.map (PV.int .i64)), .moved 6 (R.2.2.2.2.2.2.2.2.2.2.2.2.2.2.2.map zo.pv)] := by
 rw [jW] at hh
 refine JF rfl rfl rfl ?_
 refine zb fun K kk hK => ?_
 simp only [go_sem]
 refine hK _ _ fun nx => ?_; clear hK K; try clear kk
 obtain ⟨e0, f0, hh⟩ := zf hh
 obtain ⟨hlen0, f0⟩ := qf f0
 refine qp (kC (fun s => ∃ asg, asg = e0 ∧ ∃ (ay3 : Int) (acw : Bool) (nx : Nat) (g1002 : Nat), s = ⟨[(0, .box 1000 0 0), (8, .list 2 (yM.map ze.pv)), (9, .int .i64 (yM.length : Int)), (10, .int .i64 ay3), (11, .bool acw)], [(1000, 0, .var 78 [.str afc, .str afI, .list 1 (aaW.map PV.str), .list 2 (yM.map ze.pv), .list 5 (aeP.map za.pv), .str aeM, .str afq, .list 1 (aaZ.map PV.str), .list 2 (yn.map ze.pv), .list 5 (aaY.map za.pv), .row 1001 0 agW.length, .int .i64 WS, .int .i64 aa1, .int .i64 arY, .int .i64 YK, .row 1002 g1002 asg.length]), (1001, 0, .row false 1 (agW.map (PV.int .i64))), (1002, g1002, .row false 6 (asg.map zo.pv))], nx⟩))
  (fun i s => False)
  (fun s => False) ?_ ?_ ?_ ?_
 ·refine zA ?_
  refine qd fun I hI => ?_
  have key : ∀ (suf pre : List ze) (Je : Int) (adp : (List zo)), yM = pre ++ suf → Je = (pre.length : Int) → qx yn WS suf Je adp = some e0 → ∀ (nx : Nat) (g1002 : Nat), I ⟨[(0, .box 1000 0 0), (8, .list 2 (yM.map ze.pv)), (9, .int .i64 (yM.length : Int)), (10, .int .i64 Je)], [(1000, 0, .var 78 [.str afc, .str afI, .list 1 (aaW.map PV.str), .list 2 (yM.map ze.pv), .list 5 (aeP.map za.pv), .str aeM, .str afq, .list 1 (aaZ.map PV.str), .list 2 (yn.map ze.pv), .list 5 (aaY.map za.pv), .row 1001 0 agW.length, .int .i64 WS, .int .i64 aa1, .int .i64 arY, .int .i64 YK, .row 1002 g1002 adp.length]), (1001, 0, .row false 1 (agW.map (PV.int .i64))), (1002, g1002, .row false 6 (adp.map zo.pv))], nx⟩ := by
   intro suf
   induction suf with
   | nil =>
    intro pre Je adp hsplit hidx hh nx g1002
    rw [qx] at hh
    refine hI _ ?_
    have h13 := walk_nil hsplit hidx
    refine zb fun K kk hK => ?_
    simp only [go_sem]
    refine hK _ _ fun nx => ?_; clear hK K; try clear kk
    refine zm ?_
    refine zi (by first | exact congrArg PV.bool h13 | rfl) ?_
    refine zU ?_; refine nmx ?_
    refine wX ?_
    refine zG ?_
    refine ⟨_, (Option.some.inj hh), ?_⟩
    first | exact ⟨_, _, _, _, rfl⟩ | (simp only [pvE, lsE, zq]; exact ⟨_, _, _, _, rfl⟩) | (simp only [pvE, lsE, zq, h13]; exact ⟨_, _, _, _, rfl⟩)
   | cons apH suf ih =>
    intro pre Je adp hsplit hidx hh nx g1002
    rw [qx] at hh
    refine hI _ ?_
    obtain ⟨hl0a, hl0b, hl0d, hl0w, h13⟩ := qM (f := ze.pv) hsplit hidx hlen0
    refine zb fun K kk hK => ?_
    simp only [go_sem]
    refine hK _ _ fun nx => ?_; clear hK K; try clear kk
    refine zm ?_
    refine zn (by first | exact congrArg PV.bool h13 | rfl) ?_
    refine zy ?_; refine nmx ?_
    refine zm ?_
    refine zA ?_
    refine zb fun K kk hK => ?_
    simp only [go_sem, hl0a, hl0b, hl0d, hl0w]
    refine hK _ _ fun nx => ?_; clear hK K; try clear kk
    by_cases h14 : (decide (Je < (yn.length : Int))) = true
    ·rw [if_pos h14] at hh
     obtain ⟨awD, h15, hh⟩ := zf hh
     obtain ⟨h15a, h15b, h15c⟩ := rd_some h15
     have h15d := kE (f := ze.pv) h15c
     have h15f := wo (f := ze.pv) h15c
     try simp only [Int.toNat_natCast, Int.reduceToNat] at h15d h15f
     refine zb fun K kk hK => ?_
     simp only [go_sem, h14, of_decide_eq_true h14, h15a, h15b, h15d, h15f.1, h15f.2, hl0a, hl0b, hl0d, hl0w]
     (repeat refine sd ?_)
     refine hK _ _ fun nx => ?_; clear hK K; try clear kk
     by_cases h16 : (!(awD.Value == apH.Value)) = true
     ·rw [if_pos h16] at hh
      refine zn (by first | exact congrArg PV.bool h16 | rfl) ?_
      obtain ⟨auq, h17, hh⟩ := zf hh
      obtain ⟨h17a, h17c⟩ := zV h17
      have h17d := qI (f := zo.pv) h17c
      have h17e := qK h17c
      try simp only [List.length_cons, List.length_nil, Nat.zero_add, Nat.reduceAdd] at h17a h17e
      try simp only [h17e] at h17a
      try simp only [List.map_cons, List.map_nil, List.nil_append, List.append_nil, List.cons_append, List.singleton_append, zq, pvE] at h17d
      refine zu fun K kk hK => ?_
      simp only [go_sem, h15a, h15b, h15d, h15f.1, h15f.2, h17a, h17d, h17e, hl0a, hl0b, hl0d, hl0w]
      (repeat refine sd ?_)
      refine hK _ _ fun nx => ?_; clear hK K; try clear kk
      refine nmx ?_
      refine zu fun K kk hK => ?_
      simp only [go_sem, hl0a, hl0b, hl0d, hl0w]
      refine hK _ _ fun nx => ?_; clear hK K; try clear kk
      refine nmx ?_
      have ih' := ih (pre ++ [apH]) (Je + 1) _ (by rw [hsplit]; simp) (by simp [hidx]) hh nx
      refine zG ?_
      first | exact ih' _ | (simp only [pvE, lsE, zq, h17e] at ih' ⊢; exact ih' _) | (simp only [pvE, lsE, zq, h17e, h13, h14, h16] at ih' ⊢; exact ih' _)
     ·rw [if_neg h16] at hh
      replace h16 := Bool.eq_false_iff.mpr h16
      refine zi (by first | exact congrArg PV.bool h16 | rfl) ?_
      refine zy ?_; refine nmx ?_
      refine zu fun K kk hK => ?_
      simp only [go_sem, hl0a, hl0b, hl0d, hl0w]
      refine hK _ _ fun nx => ?_; clear hK K; try clear kk
      refine nmx ?_
      have ih' := ih (pre ++ [apH]) (Je + 1) _ (by rw [hsplit]; simp) (by simp [hidx]) hh nx
      refine zG ?_
      first | exact ih' _ | (simp only [pvE, lsE, zq] at ih' ⊢; exact ih' _) | (simp only [pvE, lsE, zq, h13, h14, h16] at ih' ⊢; exact ih' _)
    ·rw [if_neg h14] at hh
     replace h14 := Bool.eq_false_iff.mpr h14
     refine zb fun K kk hK => ?_
     simp only [go_sem, h14, of_decide_eq_false h14, hl0a, hl0b, hl0d, hl0w]
     (repeat refine sd ?_)
     refine hK _ _ fun nx => ?_; clear hK K; try clear kk
     refine zi rfl ?_
     refine zy ?_; refine nmx ?_
     refine zu fun K kk hK => ?_
     simp only [go_sem, hl0a, hl0b, hl0d, hl0w]
     refine hK _ _ fun nx => ?_; clear hK K; try clear kk
     refine nmx ?_
     have ih' := ih (pre ++ [apH]) (Je + 1) _ (by rw [hsplit]; simp) (by simp [hidx]) hh nx
     refine zG ?_
     first | exact ih' _ | (simp only [pvE, lsE, zq] at ih' ⊢; exact ih' _) | (simp only [pvE, lsE, zq, h13, h14] at ih' ⊢; exact ih' _)
  exact key yM [] _ _ rfl rfl f0 _ _
 ·rintro s ⟨t, hless, asg, rfl, ay3, acw, nx, g1002, rfl⟩
  try dsimp only at hh
  refine nmy ?_
  first | (refine wh hless ?_; try refine ku ?_) | refine qD hless ?_ | refine qE hless ?_
  obtain hR := Option.some.inj hh
  subst hR
  refine YT ?_
  refine ji ?_ (by rfl) ?_
  ·simp only [go_sem, wR, xE, vg, je, Qb, List.map_cons, List.map_append, List.head?_cons]
   all_goals exact wkw
  ·(try simp only [go_sem]); (try simp only [List.length_append, List.map_append]); all_goals exact wkb
 ·intro i s h; exact h.elim
 ·intro s h; exact h.elim
theorem ao0 (a_1 : za) (b_2 : za) (R : jb) (hh : aeg a_1 b_2 = some R) : PC Tryd.prog 40 [.agg [.str a_1.Kind, .str a_1.Text, .list 1 (a_1.Marks.map PV.str), .list 2 (a_1.zh.map ze.pv), .list 5 (a_1.Kids.map za.pv)], .agg [.str b_2.Kind, .str b_2.Text, .list 1 (b_2.Marks.map PV.str), .list 2 (b_2.zh.map ze.pv), .list 5 (b_2.Kids.map za.pv)]] (.adx 78 [.str R.a.Kind, .str R.a.Text, .list 1 (R.a.Marks.map PV.str), .list 2 (R.a.zh.map ze.pv), .list 5 (R.a.Kids.map za.pv), .str R.b.Kind, .str R.b.Text, .list 1 (R.b.Marks.map PV.str), .list 2 (R.b.zh.map ze.pv), .list 5 (R.b.Kids.map za.pv), .list 1 (R.path.map (PV.int .i64)), .int .i64 R.at_, .int .i64 R.head, .int .i64 R.m, .int .i64 R.n] 6 (R.attrs.map zo.pv) []) := by
 rw [aeg] at hh
 refine aji rfl ?_
 refine zb fun K kk hK => ?_
 simp only [go_sem]
 refine hK _ _ fun nx => ?_; clear hK K; try clear kk
 refine akT ?_
 refine zb fun K kk hK => ?_
 simp only [go_sem]
 refine hK _ _ fun nx => ?_; clear hK K; try clear kk
 refine zm ?_
 refine akW ?_; refine nmx ?_
 refine zm ?_
 obtain ⟨e0, f0, hh⟩ := zf hh
 refine QR (fun s => ∃ apo, ∃ ajh, ∃ akJ, ∃ akU, ∃ aj7, ∃ akI, ∃ akA, ∃ ala, ∃ akE, ∃ akC, ∃ akt, ∃ aks, ∃ akj, ∃ ak9, ∃ aiN, ∃ akQ, (apo, ajh, akJ, akU, aj7, akI, akA, ala, akE, akC, akt, aks, akj, ak9, aiN, akQ) = e0 ∧ ∃ (awH : Bool) (nx : Nat) (g12 : Nat) (g394 : Nat) (g399 : Nat), s = ⟨[(5, .box 12 g12 0), (6, .list 5 (apo.map za.pv)), (7, .list 5 (ajh.map za.pv)), (148, .bool awH)], [(12, g12, .var 78 [.str akJ, .str akU, .list 1 (aj7.map PV.str), .list 2 (akI.map ze.pv), .list 5 (apo.map za.pv), .str akA, .str ala, .list 1 (akE.map PV.str), .list 2 (akC.map ze.pv), .list 5 (ajh.map za.pv), .row 394 g394 aiN.length, .int .i64 akt, .int .i64 aks, .int .i64 akj, .int .i64 ak9, .row 399 g399 akQ.length]), (394, g394, .row false 1 (aiN.map (PV.int .i64))), (399, g399, .row false 6 (akQ.map zo.pv))], nx⟩)
  (fun i s => False)
  (fun s => False) ?_ ?_ ?_ ?_
 ·refine zA ?_
  refine qd fun I hI => ?_
  obtain ⟨k, f0⟩ := jU f0
  have key : ∀ (k : Nat) (arP : Str) (aso : Str) (arR : (List Str)) (ash : (List ze)) (arZ : (List za)) (ar1 : Str) (ars : Str) (ar9 : (List Str)) (asf : (List ze)) (arf : (List za)) (asj : Int) (asb : Int) (arT : Int) (arK : Int) (aob : (List Int)) (apA : (List zo)), Zd k arP aso arR ash arZ ar1 ars ar9 asf arf asj asb arT arK aob apA = some e0 → ∀ (nx : Nat) (g12 : Nat) (g394 : Nat) (g399 : Nat), I ⟨[(5, .box 12 g12 0)], [(12, g12, .var 78 [.str arP, .str aso, .list 1 (arR.map PV.str), .list 2 (ash.map ze.pv), .list 5 (arZ.map za.pv), .str ar1, .str ars, .list 1 (ar9.map PV.str), .list 2 (asf.map ze.pv), .list 5 (arf.map za.pv), .row 394 g394 aob.length, .int .i64 asj, .int .i64 asb, .int .i64 arT, .int .i64 arK, .row 399 g399 apA.length]), (394, g394, .row false 1 (aob.map (PV.int .i64))), (399, g399, .row false 6 (apA.map zo.pv))], nx⟩ := by
   intro k
   induction k with
   | zero => intro arP aso arR ash arZ ar1 ars ar9 asf arf asj asb arT arK aob apA hh; rw [Zd] at hh; cases hh
   | succ k ih =>
    intro arP aso arR ash arZ ar1 ars ar9 asf arf asj asb arT arK aob apA hh nx g12 g394 g399
    rw [Zd] at hh
    refine hI _ ?_
    refine zA ?_
    obtain ⟨⟨Jt, Jy, KO, Kw, qG, Jr, JA, KI, Kn, qO, Yg, avG, asT, atY, aec, aay⟩, h32, hh⟩ := zf hh
    dsimp only at hh
    obtain ⟨h33, hh⟩ := qf hh
    refine zb fun K kk hK => ?_
    simp only [go_sem, h33]
    (repeat refine sd ?_)
    refine Qc [12, 394, 399] (by decide) (YC _ _ _ _ _ _ _ _ _ _ _ _ _ _ _ _ _ h32) (by (try simp only [go_sem, h33]) <;> exact wkb) (by rfl) ?_
    simp only [go_sem, h33]
    (repeat refine sd ?_)
    refine hK _ _ fun nx => ?_; clear hK K; try clear kk
    refine zb fun K kk hK => ?_
    simp only [go_sem]
    refine hK _ _ fun nx => ?_; clear hK K; try clear kk
    refine zb fun K kk hK => ?_
    simp only [go_sem]
    refine hK _ _ fun nx => ?_; clear hK K; try clear kk
    refine zm ?_
    obtain ⟨e3, f3, hh⟩ := zf hh
    refine QR (fun s => ∃ ZH, ZH = e3 ∧ ∃ (aug : Bool) (nx : Nat) (g12 : Nat) (g394 : Nat) (g399 : Nat), s = ⟨[(5, .box 12 g12 0), (6, .list 5 (qG.map za.pv)), (7, .list 5 (qO.map za.pv)), (54, .bool aug)], [(12, g12, .var 78 [.str Jt, .str Jy, .list 1 (KO.map PV.str), .list 2 (Kw.map ze.pv), .list 5 (qG.map za.pv), .str Jr, .str JA, .list 1 (KI.map PV.str), .list 2 (Kn.map ze.pv), .list 5 (qO.map za.pv), .row 394 g394 aec.length, .int .i64 Yg, .int .i64 ZH, .int .i64 asT, .int .i64 atY, .row 399 g399 aay.length]), (394, g394, .row false 1 (aec.map (PV.int .i64))), (399, g399, .row false 6 (aay.map zo.pv))], nx⟩)
     (fun i s => False)
     (fun s => False) ?_ ?_ ?_ ?_
    ·refine zA ?_
     refine qd fun I hI => ?_
     obtain ⟨k, f3⟩ := jU f3
     have key : ∀ (k : Nat) (agI : Int), xI qG qO k agI = some e3 → ∀ (nx : Nat) (g12 : Nat) (g394 : Nat) (g399 : Nat), I ⟨[(5, .box 12 g12 0), (6, .list 5 (qG.map za.pv)), (7, .list 5 (qO.map za.pv))], [(12, g12, .var 78 [.str Jt, .str Jy, .list 1 (KO.map PV.str), .list 2 (Kw.map ze.pv), .list 5 (qG.map za.pv), .str Jr, .str JA, .list 1 (KI.map PV.str), .list 2 (Kn.map ze.pv), .list 5 (qO.map za.pv), .row 394 g394 aec.length, .int .i64 Yg, .int .i64 agI, .int .i64 asT, .int .i64 atY, .row 399 g399 aay.length]), (394, g394, .row false 1 (aec.map (PV.int .i64))), (399, g399, .row false 6 (aay.map zo.pv))], nx⟩ := by
      intro k
      induction k with
      | zero => intro agI hh; rw [xI] at hh; cases hh
      | succ k ih =>
       intro agI hh nx g12 g394 g399
       rw [xI] at hh
       refine hI _ ?_
       refine zm ?_
       by_cases h39 : (decide (agI < (if (qO.length : Int) < (qG.length : Int) then (qO.length : Int) else (qG.length : Int)))) = true
       ·rw [if_pos h39] at hh
        obtain ⟨ay2, h40, hh⟩ := zf hh
        obtain ⟨h40a, h40b, h40c⟩ := rd_some h40
        have h40d := kE (f := za.pv) h40c
        have h40f := wo (f := za.pv) h40c
        try simp only [Int.toNat_natCast, Int.reduceToNat] at h40d h40f
        obtain ⟨ax3, h41, hh⟩ := zf hh
        obtain ⟨h41a, h41b, h41c⟩ := rd_some h41
        have h41d := kE (f := za.pv) h41c
        have h41f := wo (f := za.pv) h41c
        try simp only [Int.toNat_natCast, Int.reduceToNat] at h41d h41f
        obtain ⟨al1, h42, hh⟩ := zf hh
        refine zb fun K kk hK => ?_
        simp only [go_sem, h39, of_decide_eq_true h39, h40a, h40b, h40d, h40f.1, h40f.2, h41a, h41b, h41d, h41f.1, h41f.2]
        (repeat refine sd ?_)
        refine zg (QY _ _ _ h42) (by (try simp only [go_sem, h39, of_decide_eq_true h39, h40a, h40b, h40d, h40f.1, h40f.2, h41a, h41b, h41d, h41f.1, h41f.2]) <;> exact wkl) (by rfl) (by rfl) ?_
        simp only [go_sem, h39, of_decide_eq_true h39, h40a, h40b, h40d, h40f.1, h40f.2, h41a, h41b, h41d, h41f.1, h41f.2]
        (repeat refine sd ?_)
        refine hK _ _ fun nx => ?_; clear hK K; try clear kk
        by_cases h43 : (al1) = true
        ·rw [if_pos h43] at hh
         refine zn (by first | exact congrArg PV.bool h43 | rfl) ?_
         refine zy ?_; refine nmx ?_
         refine zA ?_
         refine zu fun K kk hK => ?_
         simp only [go_sem]
         refine hK _ _ fun nx => ?_; clear hK K; try clear kk
         refine nmx ?_
         have ih' := ih _ hh nx
         refine zG ?_
         first | exact ih' _ _ _ | (simp only [pvE, lsE, zq] at ih' ⊢; exact ih' _ _ _) | (simp only [pvE, lsE, zq, h39, h43] at ih' ⊢; exact ih' _ _ _)
        ·rw [if_neg h43] at hh
         replace h43 := Bool.eq_false_iff.mpr h43
         refine zi (by first | exact congrArg PV.bool h43 | rfl) ?_
         refine zU ?_; refine nmx ?_
         refine wX ?_
         refine zG ?_
         refine ⟨_, (Option.some.inj hh), ?_⟩
         first | exact ⟨_, _, _, _, _, rfl⟩ | (simp only [pvE, lsE, zq]; exact ⟨_, _, _, _, _, rfl⟩) | (simp only [pvE, lsE, zq, h39, h43]; exact ⟨_, _, _, _, _, rfl⟩)
       ·rw [if_neg h39] at hh
        replace h39 := Bool.eq_false_iff.mpr h39
        refine zb fun K kk hK => ?_
        simp only [go_sem, h39, of_decide_eq_false h39]
        (repeat refine sd ?_)
        refine hK _ _ fun nx => ?_; clear hK K; try clear kk
        refine zi rfl ?_
        refine zU ?_; refine nmx ?_
        refine wX ?_
        refine zG ?_
        refine ⟨_, (Option.some.inj hh), ?_⟩
        first | exact ⟨_, _, _, _, _, rfl⟩ | (simp only [pvE, lsE, zq]; exact ⟨_, _, _, _, _, rfl⟩) | (simp only [pvE, lsE, zq, h39]; exact ⟨_, _, _, _, _, rfl⟩)
     exact key _ _ f3 _ _ _ _
    ·rintro s ⟨ZH, rfl, aug, nx, g12, g394, g399, rfl⟩
     try dsimp only at hh
     refine zb fun K kk hK => ?_
     simp only [go_sem]
     refine hK _ _ fun nx => ?_; clear hK K; try clear kk
     refine zm ?_
     obtain ⟨e4, f4, hh⟩ := zf hh
     refine QR (fun s => ∃ xQ, xQ = e4 ∧ ∃ (azd : Bool) (nx : Nat) (g12 : Nat) (g394 : Nat) (g399 : Nat), s = ⟨[(5, .box 12 g12 0), (6, .list 5 (qG.map za.pv)), (7, .list 5 (qO.map za.pv)), (8, .int .i64 xQ), (92, .bool azd)], [(12, g12, .var 78 [.str Jt, .str Jy, .list 1 (KO.map PV.str), .list 2 (Kw.map ze.pv), .list 5 (qG.map za.pv), .str Jr, .str JA, .list 1 (KI.map PV.str), .list 2 (Kn.map ze.pv), .list 5 (qO.map za.pv), .row 394 g394 aec.length, .int .i64 Yg, .int .i64 ZH, .int .i64 asT, .int .i64 atY, .row 399 g399 aay.length]), (394, g394, .row false 1 (aec.map (PV.int .i64))), (399, g399, .row false 6 (aay.map zo.pv))], nx⟩)
      (fun i s => False)
      (fun s => False) ?_ ?_ ?_ ?_
     ·refine zA ?_
      refine qd fun I hI => ?_
      obtain ⟨k, f4⟩ := jU f4
      have key : ∀ (k : Nat) (Z9 : Int), yw qG qO ZH k Z9 = some e4 → ∀ (nx : Nat) (g12 : Nat) (g394 : Nat) (g399 : Nat), I ⟨[(5, .box 12 g12 0), (6, .list 5 (qG.map za.pv)), (7, .list 5 (qO.map za.pv)), (8, .int .i64 Z9)], [(12, g12, .var 78 [.str Jt, .str Jy, .list 1 (KO.map PV.str), .list 2 (Kw.map ze.pv), .list 5 (qG.map za.pv), .str Jr, .str JA, .list 1 (KI.map PV.str), .list 2 (Kn.map ze.pv), .list 5 (qO.map za.pv), .row 394 g394 aec.length, .int .i64 Yg, .int .i64 ZH, .int .i64 asT, .int .i64 atY, .row 399 g399 aay.length]), (394, g394, .row false 1 (aec.map (PV.int .i64))), (399, g399, .row false 6 (aay.map zo.pv))], nx⟩ := by
       intro k
       induction k with
       | zero => intro Z9 hh; rw [yw] at hh; cases hh
       | succ k ih =>
        intro Z9 hh nx g12 g394 g399
        rw [yw] at hh
        refine hI _ ?_
        refine zm ?_
        by_cases h49 : (decide (Z9 < (w64 ((if (qO.length : Int) < (qG.length : Int) then (qO.length : Int) else (qG.length : Int)) - ZH)))) = true
        ·rw [if_pos h49] at hh
         obtain ⟨ayt, h50, hh⟩ := zf hh
         obtain ⟨h50a, h50b, h50c⟩ := rd_some h50
         have h50d := kE (f := za.pv) h50c
         have h50f := wo (f := za.pv) h50c
         try simp only [Int.toNat_natCast, Int.reduceToNat] at h50d h50f
         obtain ⟨ayw, h51, hh⟩ := zf hh
         obtain ⟨h51a, h51b, h51c⟩ := rd_some h51
         have h51d := kE (f := za.pv) h51c
         have h51f := wo (f := za.pv) h51c
         try simp only [Int.toNat_natCast, Int.reduceToNat] at h51d h51f
         obtain ⟨alV, h52, hh⟩ := zf hh
         refine zb fun K kk hK => ?_
         simp only [go_sem, h49, of_decide_eq_true h49, h50a, h50b, h50d, h50f.1, h50f.2, h51a, h51b, h51d, h51f.1, h51f.2]
         (repeat refine sd ?_)
         refine zg (QY _ _ _ h52) (by (try simp only [go_sem, h49, of_decide_eq_true h49, h50a, h50b, h50d, h50f.1, h50f.2, h51a, h51b, h51d, h51f.1, h51f.2]) <;> exact wkl) (by rfl) (by rfl) ?_
         simp only [go_sem, h49, of_decide_eq_true h49, h50a, h50b, h50d, h50f.1, h50f.2, h51a, h51b, h51d, h51f.1, h51f.2]
         (repeat refine sd ?_)
         refine hK _ _ fun nx => ?_; clear hK K; try clear kk
         by_cases h53 : (alV) = true
         ·rw [if_pos h53] at hh
          refine zn (by first | exact congrArg PV.bool h53 | rfl) ?_
          refine zy ?_; refine nmx ?_
          refine zA ?_
          refine zu fun K kk hK => ?_
          simp only [go_sem]
          refine hK _ _ fun nx => ?_; clear hK K; try clear kk
          refine nmx ?_
          have ih' := ih _ hh nx
          refine zG ?_
          first | exact ih' _ _ _ | (simp only [pvE, lsE, zq] at ih' ⊢; exact ih' _ _ _) | (simp only [pvE, lsE, zq, h49, h53] at ih' ⊢; exact ih' _ _ _)
         ·rw [if_neg h53] at hh
          replace h53 := Bool.eq_false_iff.mpr h53
          refine zi (by first | exact congrArg PV.bool h53 | rfl) ?_
          refine zU ?_; refine nmx ?_
          refine wX ?_
          refine zG ?_
          refine ⟨_, (Option.some.inj hh), ?_⟩
          first | exact ⟨_, _, _, _, _, rfl⟩ | (simp only [pvE, lsE, zq]; exact ⟨_, _, _, _, _, rfl⟩) | (simp only [pvE, lsE, zq, h49, h53]; exact ⟨_, _, _, _, _, rfl⟩)
        ·rw [if_neg h49] at hh
         replace h49 := Bool.eq_false_iff.mpr h49
         refine zb fun K kk hK => ?_
         simp only [go_sem, h49, of_decide_eq_false h49]
         (repeat refine sd ?_)
         refine hK _ _ fun nx => ?_; clear hK K; try clear kk
         refine zi rfl ?_
         refine zU ?_; refine nmx ?_
         refine wX ?_
         refine zG ?_
         refine ⟨_, (Option.some.inj hh), ?_⟩
         first | exact ⟨_, _, _, _, _, rfl⟩ | (simp only [pvE, lsE, zq]; exact ⟨_, _, _, _, _, rfl⟩) | (simp only [pvE, lsE, zq, h49]; exact ⟨_, _, _, _, _, rfl⟩)
      exact key _ _ f4 _ _ _ _
     ·rintro s ⟨xQ, rfl, azd, nx, g12, g394, g399, rfl⟩
      try dsimp only at hh
      refine zb fun K kk hK => ?_
      simp only [go_sem]
      refine hK _ _ fun nx => ?_; clear hK K; try clear kk
      refine zm ?_
      by_cases h54 : ((w64 ((w64 ((qG.length : Int) - ZH)) - xQ)) != (1 : Int)) = true
      ·rw [if_pos h54] at hh
       refine zb fun K kk hK => ?_
       simp only [go_sem, h54]
       (repeat refine sd ?_)
       refine hK _ _ fun nx => ?_; clear hK K; try clear kk
       refine zn rfl ?_
       refine zU ?_; refine nmx ?_
       refine wX ?_
       refine zG ?_
       refine ⟨_, _, _, _, _, _, _, _, _, _, _, _, _, _, _, _, (Option.some.inj hh), ?_⟩
       first | exact ⟨_, _, _, _, _, rfl⟩ | (simp only [pvE, lsE, zq]; exact ⟨_, _, _, _, _, rfl⟩) | (simp only [pvE, lsE, zq, h54]; exact ⟨_, _, _, _, _, rfl⟩)
      ·rw [if_neg h54] at hh
       replace h54 := Bool.eq_false_iff.mpr h54
       by_cases h55 : ((w64 ((w64 ((qO.length : Int) - ZH)) - xQ)) != (1 : Int)) = true
       ·rw [if_pos h55] at hh
        refine zb fun K kk hK => ?_
        simp only [go_sem, h54, h55]
        (repeat refine sd ?_)
        refine hK _ _ fun nx => ?_; clear hK K; try clear kk
        refine zn rfl ?_
        refine zU ?_; refine nmx ?_
        refine wX ?_
        refine zG ?_
        refine ⟨_, _, _, _, _, _, _, _, _, _, _, _, _, _, _, _, (Option.some.inj hh), ?_⟩
        first | exact ⟨_, _, _, _, _, rfl⟩ | (simp only [pvE, lsE, zq]; exact ⟨_, _, _, _, _, rfl⟩) | (simp only [pvE, lsE, zq, h54, h55]; exact ⟨_, _, _, _, _, rfl⟩)
       ·rw [if_neg h55] at hh
        replace h55 := Bool.eq_false_iff.mpr h55
        obtain ⟨aoP, h56, hh⟩ := zf hh
        obtain ⟨h56a, h56b, h56c⟩ := rd_some h56
        have h56d := kE (f := za.pv) h56c
        have h56f := wo (f := za.pv) h56c
        try simp only [Int.toNat_natCast, Int.reduceToNat] at h56d h56f
        obtain ⟨ao4, h57, hh⟩ := zf hh
        obtain ⟨h57a, h57b, h57c⟩ := rd_some h57
        have h57d := kE (f := za.pv) h57c
        have h57f := wo (f := za.pv) h57c
        try simp only [Int.toNat_natCast, Int.reduceToNat] at h57d h57f
        obtain ⟨ahS, h58, hh⟩ := zf hh
        refine zb fun K kk hK => ?_
        simp only [go_sem, h54, h55, h56a, h56b, h56d, h56f.1, h56f.2, h57a, h57b, h57d, h57f.1, h57f.2]
        (repeat refine sd ?_)
        refine zg (abZ _ _ _ h58) (by (try simp only [go_sem, h54, h55, h56a, h56b, h56d, h56f.1, h56f.2, h57a, h57b, h57d, h57f.1, h57f.2]) <;> exact wkl) (by rfl) (by rfl) ?_
        simp only [go_sem, h54, h55, h56a, h56b, h56d, h56f.1, h56f.2, h57a, h57b, h57d, h57f.1, h57f.2]
        (repeat refine sd ?_)
        refine hK _ _ fun nx => ?_; clear hK K; try clear kk
        by_cases h59 : (!ahS) = true
        ·rw [if_pos h59] at hh
         refine zn (by first | exact congrArg PV.bool h59 | rfl) ?_
         refine zU ?_; refine nmx ?_
         refine wX ?_
         refine zG ?_
         refine ⟨_, _, _, _, _, _, _, _, _, _, _, _, _, _, _, _, (Option.some.inj hh), ?_⟩
         first | exact ⟨_, _, _, _, _, rfl⟩ | (simp only [pvE, lsE, zq]; exact ⟨_, _, _, _, _, rfl⟩) | (simp only [pvE, lsE, zq, h54, h55, h59]; exact ⟨_, _, _, _, _, rfl⟩)
        ·rw [if_neg h59] at hh
         replace h59 := Bool.eq_false_iff.mpr h59
         refine zi (by first | exact congrArg PV.bool h59 | rfl) ?_
         refine zy ?_; refine nmx ?_
         obtain ⟨ax7, h60, hh⟩ := zf hh
         obtain ⟨h60a, h60c⟩ := zV h60
         have h60d := qI (f := (PV.int .i64)) h60c
         have h60e := qK h60c
         try simp only [List.length_cons, List.length_nil, Nat.zero_add, Nat.reduceAdd] at h60a h60e
         try simp only [h60e] at h60a
         try simp only [List.map_cons, List.map_nil, List.nil_append, List.append_nil, List.cons_append, List.singleton_append, zq, pvE] at h60d
         refine zb fun K kk hK => ?_
         simp only [go_sem, h60a, h60d, h60e]
         (repeat refine sd ?_)
         refine hK _ _ fun nx => ?_; clear hK K; try clear kk
         obtain ⟨aya, h61, hh⟩ := zf hh
         obtain ⟨h61a, h61c⟩ := yP h61
         have h61g := Jn h61a
         have h61d := JD (f := za.pv) h61c
         try simp only [Int.toNat_natCast, Int.reduceToNat, List.map_cons, List.map_nil, pvE] at h61d
         obtain ⟨aor, h62, hh⟩ := zf hh
         refine zb fun K kk hK => ?_
         simp only [go_sem, h61a.1, h61a.2.1, h61a.2.2, h61d, h61g]
         (repeat refine sd ?_)
         refine zg (jK _ _ h62) (by (try simp only [go_sem, h61a.1, h61a.2.1, h61a.2.2, h61d, h61g]) <;> exact wkl) (by rfl) (by rfl) ?_
         simp only [go_sem, h61a.1, h61a.2.1, h61a.2.2, h61d, h61g]
         (repeat refine sd ?_)
         refine hK _ _ fun nx => ?_; clear hK K; try clear kk
         refine zu fun K kk hK => ?_
         simp only [go_sem, h56a, h56b, h56d, h56f.1, h56f.2, h57a, h57b, h57d, h57f.1, h57f.2]
         (repeat refine sd ?_)
         refine hK _ _ fun nx => ?_; clear hK K; try clear kk
         refine nmx ?_
         have ih' := ih _ _ _ _ _ _ _ _ _ _ _ _ _ _ _ _ hh nx
         refine zG ?_
         first | exact ih' _ _ _ | (simp only [pvE, lsE, zq, h60e] at ih' ⊢; exact ih' _ _ _) | (simp only [pvE, lsE, zq, h60e, h54, h55, h59] at ih' ⊢; exact ih' _ _ _)
     ·intro i s h; exact h.elim
     ·intro s h; exact h.elim
    ·intro i s h; exact h.elim
    ·intro s h; exact h.elim
  exact key _ _ _ _ _ _ _ _ _ _ _ _ _ _ _ _ _ f0 _ _ _ _
 ·rintro s ⟨apo, ajh, akJ, akU, aj7, akI, akA, ala, akE, akC, akt, aks, akj, ak9, aiN, akQ, rfl, awH, nx, g12, g394, g399, rfl⟩
  try dsimp only at hh
  refine zb fun K kk hK => ?_
  simp only [go_sem]
  refine hK _ _ fun nx => ?_; clear hK K; try clear kk
  refine zk ?_; refine nmx ?_
  obtain hR := Option.some.inj hh
  subst hR
  refine aum (pre := [.str akJ, .str akU, .list 1 (aj7.map PV.str), .list 2 (akI.map ze.pv), .list 5 (apo.map za.pv), .str akA, .str ala, .list 1 (akE.map PV.str), .list 2 (akC.map ze.pv), .list 5 (ajh.map za.pv), .list 1 (aiN.map (PV.int .i64)), .int .i64 akt, .int .i64 aks, .int .i64 akj, .int .i64 ak9]) (post := []) (kr := 399) (by rfl) (by rfl) (by rfl) (by decide) (by rfl) (by rfl) (by rfl) (by rfl) ?_
  exact ⟨by first | rfl | simp only [List.length_map], by first | rfl | (simp only [pvE, lsE, zq]; done) | (simp only [pvE, lsE, zq]; rfl)⟩
 ·intro i s h; exact h.elim
 ·intro s h; exact h.elim
theorem XI (l : (List Str)) (R : (List Str)) (hh : slices_Clone_string l = some R) : PC Tryd.prog 69 [.list 1 (l.map PV.str)] (.own 1 (R.map PV.str)) := by
 rw [slices_Clone_string] at hh
 obtain ⟨ha, hb⟩ := zV hh
 rw [List.nil_append] at hb
 subst hb
 try simp only [List.length_nil, Nat.zero_add] at ha
 refine Jf rfl ?_
 refine zb fun K kk hK => ?_
 simp only [go_sem]
 refine hK _ _ fun nx => ?_; clear hK K; try clear kk
 refine zb fun K kk hK => ?_
 simp only [go_sem]
 refine ⟨fun hnil => hK _ _ fun nx => ?_, hK _ _ fun nx => ?_⟩ <;> (clear hK K; try clear kk)
 ·have hl : l = [] := by simpa using hnil
  subst hl
  first | refine zn rfl ?_ | (refine zm ?_; refine zn rfl ?_)
  refine zb fun K kk hK => ?_
  simp only [go_sem]
  refine hK _ _ fun nx => ?_; clear hK K; try clear kk
  refine zk ?_; refine nmx ?_
  exact Js rfl
 ·first | refine zi rfl ?_ | (refine zm ?_; refine zi rfl ?_)
  refine zy ?_; refine nmx ?_
  refine zb fun K kk hK => ?_
  simp only [go_sem, ha]
  refine hK _ _ fun nx => ?_; clear hK K; try clear kk
  refine zk ?_; refine nmx ?_
  exact X6 (by rfl) (by rfl) (by rfl) (by simp) (by rfl)
theorem ZU (l : (List ze)) (R : (List ze)) (hh : ko l = some R) : PC Tryd.prog 70 [.list 2 (l.map ze.pv)] (.own 2 (R.map ze.pv)) := by
 rw [ko] at hh
 obtain ⟨ha, hb⟩ := zV hh
 rw [List.nil_append] at hb
 subst hb
 try simp only [List.length_nil, Nat.zero_add] at ha
 refine Vq rfl ?_
 refine zb fun K kk hK => ?_
 simp only [go_sem]
 refine hK _ _ fun nx => ?_; clear hK K; try clear kk
 refine zb fun K kk hK => ?_
 simp only [go_sem]
 refine ⟨fun hnil => hK _ _ fun nx => ?_, hK _ _ fun nx => ?_⟩ <;> (clear hK K; try clear kk)
 ·have hl : l = [] := by simpa using hnil
  subst hl
  first | refine zn rfl ?_ | (refine zm ?_; refine zn rfl ?_)
  refine zb fun K kk hK => ?_
  simp only [go_sem]
  refine hK _ _ fun nx => ?_; clear hK K; try clear kk
  refine zk ?_; refine nmx ?_
  exact Js rfl
 ·first | refine zi rfl ?_ | (refine zm ?_; refine zi rfl ?_)
  refine zy ?_; refine nmx ?_
  refine zb fun K kk hK => ?_
  simp only [go_sem, ha]
  refine hK _ _ fun nx => ?_; clear hK K; try clear kk
  refine zk ?_; refine nmx ?_
  exact X6 (by rfl) (by rfl) (by rfl) (by simp) (by rfl)
theorem vN (l : (List za)) (R : (List za)) (hh : qy l = some R) : PC Tryd.prog 71 [.list 5 (l.map za.pv)] (.own 5 (R.map za.pv)) := by
 rw [qy] at hh
 obtain ⟨ha, hb⟩ := zV hh
 rw [List.nil_append] at hb
 subst hb
 try simp only [List.length_nil, Nat.zero_add] at ha
 refine Vt rfl ?_
 refine zb fun K kk hK => ?_
 simp only [go_sem]
 refine hK _ _ fun nx => ?_; clear hK K; try clear kk
 refine zb fun K kk hK => ?_
 simp only [go_sem]
 refine ⟨fun hnil => hK _ _ fun nx => ?_, hK _ _ fun nx => ?_⟩ <;> (clear hK K; try clear kk)
 ·have hl : l = [] := by simpa using hnil
  subst hl
  first | refine zn rfl ?_ | (refine zm ?_; refine zn rfl ?_)
  refine zb fun K kk hK => ?_
  simp only [go_sem]
  refine hK _ _ fun nx => ?_; clear hK K; try clear kk
  refine zk ?_; refine nmx ?_
  exact Js rfl
 ·first | refine zi rfl ?_ | (refine zm ?_; refine zi rfl ?_)
  refine zy ?_; refine nmx ?_
  refine zb fun K kk hK => ?_
  simp only [go_sem, ha]
  refine hK _ _ fun nx => ?_; clear hK K; try clear kk
  refine zk ?_; refine nmx ?_
  exact X6 (by rfl) (by rfl) (by rfl) (by simp) (by rfl)
end Go.Proofs.YtclohbgnaopjfaaDoor
