/- Texts of the proof of diffMakesCard -/
import Derived.Test.YtclohbgnaopjfaaDoorAgC
import Derived.Test.YtclohbgnaopjfaaDoorAgF
import Derived.Test.YtclohbgnaopjfaaDoorAgK0
namespace Go.Proofs.YtclohbgnaopjfaaDoor
set_option linter.unusedSimpArgs false
set_option linter.unusedVariables false
open Go
set_option maxRecDepth 100000
theorem ags : ∀ kr : Nat, (∀ (n_1 : za) (R : Bool), vk kr n_1 = some R → PC Tryd.prog 93 [.agg [.str n_1.Kind, .str n_1.Text, .list 1 (n_1.Marks.map PV.str), .list 2 (n_1.zh.map ze.pv), .list 5 (n_1.Kids.map za.pv)]] (.bool R)) := by
 intro kr
 induction kr with
 | zero => exact (by intro n_1 R hh; rw [vk] at hh; cases hh)
 | succ kr ih =>
  have ih_node_formed := ih
  clear ih
  intro n_1 R hh
  rw [vk] at hh
  refine ac4 rfl ?_
  refine zb fun K kk hK => ?_
  simp only [go_sem]
  refine hK _ _ fun nx => ?_; clear hK K; try clear kk
  refine zm ?_
  obtain ⟨y8, h1, hh⟩ := zf hh
  refine zb fun K kk hK => ?_
  simp only [go_sem]
  refine zg (kV _ _ h1) (by (try simp only [go_sem]) <;> exact wkl) (by rfl) (by rfl) ?_
  simp only [go_sem]
  refine hK _ _ fun nx => ?_; clear hK K; try clear kk
  by_cases h2 : (y8) = true
  ·rw [if_pos h2] at hh
   refine zn (by first | exact congrArg PV.bool h2 | rfl) ?_
   by_cases h3 : (!(n_1.Text == ([] : Str))) = true
   ·rw [if_pos h3] at hh
    obtain ⟨ahD, h4, hh⟩ := zf hh
    by_cases h5 : (ahD) = true
    ·rw [if_pos h5] at hh
     obtain ⟨apB, h6, hh⟩ := zf hh
     by_cases h7 : (apB) = true
     ·rw [if_pos h7] at hh
      refine zb fun K kk hK => ?_
      simp only [go_sem, h3, h5, h7]
      (repeat refine sd ?_)
      refine zg (ve _ _ h4) (by (try simp only [go_sem, h3, h5, h7]) <;> exact wkl) (by rfl) (by rfl) ?_
      simp only [go_sem, h3, h5, h7]
      (repeat refine sd ?_)
      refine zg (Yf _ _ h6) (by (try simp only [go_sem, h3, h5, h7]) <;> exact wkl) (by rfl) (by rfl) ?_
      simp only [go_sem, h3, h5, h7]
      (repeat refine sd ?_)
      refine hK _ _ fun nx => ?_; clear hK K; try clear kk
      refine zk ?_; refine nmx ?_
      obtain hR := Option.some.inj hh
      subst hR
      exact zz
     ·rw [if_neg h7] at hh
      replace h7 := Bool.eq_false_iff.mpr h7
      refine zb fun K kk hK => ?_
      simp only [go_sem, h3, h5, h7]
      (repeat refine sd ?_)
      refine zg (ve _ _ h4) (by (try simp only [go_sem, h3, h5, h7]) <;> exact wkl) (by rfl) (by rfl) ?_
      simp only [go_sem, h3, h5, h7]
      (repeat refine sd ?_)
      refine zg (Yf _ _ h6) (by (try simp only [go_sem, h3, h5, h7]) <;> exact wkl) (by rfl) (by rfl) ?_
      simp only [go_sem, h3, h5, h7]
      (repeat refine sd ?_)
      refine hK _ _ fun nx => ?_; clear hK K; try clear kk
      refine zk ?_; refine nmx ?_
      obtain hR := Option.some.inj hh
      subst hR
      exact zz
    ·rw [if_neg h5] at hh
     replace h5 := Bool.eq_false_iff.mpr h5
     refine zb fun K kk hK => ?_
     simp only [go_sem, h3, h5]
     (repeat refine sd ?_)
     refine zg (ve _ _ h4) (by (try simp only [go_sem, h3, h5]) <;> exact wkl) (by rfl) (by rfl) ?_
     simp only [go_sem, h3, h5]
     (repeat refine sd ?_)
     refine hK _ _ fun nx => ?_; clear hK K; try clear kk
     refine zk ?_; refine nmx ?_
     obtain hR := Option.some.inj hh
     subst hR
     exact zz
   ·rw [if_neg h3] at hh
    replace h3 := Bool.eq_false_iff.mpr h3
    refine zb fun K kk hK => ?_
    simp only [go_sem, h3]
    (repeat refine sd ?_)
    refine hK _ _ fun nx => ?_; clear hK K; try clear kk
    refine zk ?_; refine nmx ?_
    obtain hR := Option.some.inj hh
    subst hR
    exact zz
  ·rw [if_neg h2] at hh
   replace h2 := Bool.eq_false_iff.mpr h2
   refine zi (by first | exact congrArg PV.bool h2 | rfl) ?_
   refine zy ?_; refine nmx ?_
   refine zb fun K kk hK => ?_
   simp only [go_sem]
   refine hK _ _ fun nx => ?_; clear hK K; try clear kk
   refine zm ?_
   refine zb fun K kk hK => ?_
   simp only [go_sem]
   refine hK _ _ fun nx => ?_; clear hK K; try clear kk
   obtain ⟨e0, f0, hh⟩ := zf hh
   obtain ⟨hlen0, f0⟩ := qo f0
   refine qD (kE (fun s => ∃ Xx, .inr Xx = e0 ∧ ∃ (amw : Int) (axQ : Bool) (nx : Nat) (g1 : Nat) (g3 : Nat), s = ⟨[(1, .box 1 g1 0), (3, .row 3 g3 Xx.length), (34, .list 2 (n_1.zh.map ze.pv)), (35, .int .i64 (n_1.zh.length : Int)), (36, .int .i64 amw), (37, .bool axQ)], [(1, g1, .var 28 [.str n_1.Kind, .str n_1.Text, .list 1 (n_1.Marks.map PV.str), .list 2 (n_1.zh.map ze.pv), .list 5 (n_1.Kids.map za.pv)]), (3, g3, .row false 1 (Xx.map PV.str))], nx⟩))
    (fun i s => False)
    (fun s => ∃ ahs, .inl ahs = e0 ∧ zW Tryd.prog [.tmp 2] (.bool ahs) [] .ret s) ?_ ?_ ?_ ?_
   ·refine zC ?_
    refine qg fun I hI => ?_
    have key : ∀ (suf pre : List ze) (v_8 : Int) (Vx : (List Str)), n_1.zh = pre ++ suf → v_8 = (pre.length : Int) → vV suf v_8 Vx = some e0 → ∀ (nx : Nat) (g1 : Nat) (g3 : Nat), I ⟨[(1, .box 1 g1 0), (3, .row 3 g3 Vx.length), (34, .list 2 (n_1.zh.map ze.pv)), (35, .int .i64 (n_1.zh.length : Int)), (36, .int .i64 v_8)], [(1, g1, .var 28 [.str n_1.Kind, .str n_1.Text, .list 1 (n_1.Marks.map PV.str), .list 2 (n_1.zh.map ze.pv), .list 5 (n_1.Kids.map za.pv)]), (3, g3, .row false 1 (Vx.map PV.str))], nx⟩ := by
     intro suf
     induction suf with
     | nil =>
      intro pre v_8 Vx hsplit hidx hh nx g1 g3
      rw [vV] at hh
      refine hI _ ?_
      have h18 := walk_nil hsplit hidx
      refine zb fun K kk hK => ?_
      simp only [go_sem]
      refine hK _ _ fun nx => ?_; clear hK K; try clear kk
      refine zm ?_
      refine zi (by first | exact congrArg PV.bool h18 | rfl) ?_
      refine zU ?_; refine nmx ?_
      refine wJ ?_
      refine zG ?_
      refine ⟨_, (Option.some.inj hh), ?_⟩
      first | exact ⟨_, _, _, _, _, rfl⟩ | (simp only [pvE, lsE, zo]; exact ⟨_, _, _, _, _, rfl⟩) | (simp only [pvE, lsE, zo, h18, h2]; exact ⟨_, _, _, _, _, rfl⟩)
     | cons avX suf ih =>
      intro pre v_8 Vx hsplit hidx hh nx g1 g3
      rw [vV] at hh
      refine hI _ ?_
      obtain ⟨hl0a, hl0b, hl0d, hl0w, h18⟩ := qZ (f := ze.pv) hsplit hidx hlen0
      refine zb fun K kk hK => ?_
      simp only [go_sem]
      refine hK _ _ fun nx => ?_; clear hK K; try clear kk
      refine zm ?_
      refine zn (by first | exact congrArg PV.bool h18 | rfl) ?_
      refine zy ?_; refine nmx ?_
      refine zm ?_
      refine zC ?_
      refine zb fun K kk hK => ?_
      simp only [go_sem, hl0a, hl0b, hl0d, hl0w]
      refine hK _ _ fun nx => ?_; clear hK K; try clear kk
      refine zm ?_
      obtain ⟨aiI, h19, hh⟩ := zf hh
      refine zb fun K kk hK => ?_
      simp only [go_sem, hl0a, hl0b, hl0d, hl0w]
      refine zg (J3 _ _ h19) (by (try simp only [go_sem, hl0a, hl0b, hl0d, hl0w]) <;> exact wkl) (by rfl) (by rfl) ?_
      simp only [go_sem, hl0a, hl0b, hl0d, hl0w]
      refine hK _ _ fun nx => ?_; clear hK K; try clear kk
      by_cases h20 : (!aiI) = true
      ·rw [if_pos h20] at hh
       refine zn (by first | exact congrArg PV.bool h20 | rfl) ?_
       refine zb fun K kk hK => ?_
       simp only [go_sem, hl0a, hl0b, hl0d, hl0w]
       refine hK _ _ fun nx => ?_; clear hK K; try clear kk
       refine zk ?_; refine nmx ?_
       refine Qn ⟨_, (Option.some.inj hh), ?_⟩
       exact zz
      ·rw [if_neg h20] at hh
       replace h20 := Bool.eq_false_iff.mpr h20
       refine zi (by first | exact congrArg PV.bool h20 | rfl) ?_
       refine zy ?_; refine nmx ?_
       obtain ⟨agy, h21, hh⟩ := zf hh
       obtain ⟨h21a, h21c⟩ := zZ h21
       have h21d := qX (f := PV.str) h21c
       have h21e := qW h21c
       try simp only [List.length_cons, List.length_nil, Nat.zero_add, Nat.reduceAdd] at h21a h21e
       try simp only [h21e] at h21a
       try simp only [List.map_cons, List.map_nil, List.nil_append, List.append_nil, List.cons_append, List.singleton_append, zo, pvE] at h21d
       refine zq fun K kk hK => ?_
       simp only [go_sem, h21a, h21d, h21e, hl0a, hl0b, hl0d, hl0w]
       (repeat refine sd ?_)
       refine hK _ _ fun nx => ?_; clear hK K; try clear kk
       refine nmx ?_
       refine zq fun K kk hK => ?_
       simp only [go_sem, hl0a, hl0b, hl0d, hl0w]
       refine hK _ _ fun nx => ?_; clear hK K; try clear kk
       refine nmx ?_
       have ih' := ih (pre ++ [avX]) (v_8 + 1) _ (by rw [hsplit]; simp) (by simp [hidx]) hh nx
       refine zG ?_
       first | exact ih' _ _ | (simp only [pvE, lsE, zo, h21e] at ih' ⊢; exact ih' _ _) | (simp only [pvE, lsE, zo, h21e, h18, h2, h20] at ih' ⊢; exact ih' _ _)
    exact key n_1.zh [] _ _ rfl rfl f0 _ _ _
   ·rintro s ⟨t, hless, Xx, rfl, amw, axQ, nx, g1, g3, rfl⟩
    try dsimp only at hh
    refine nmy ?_
    first | (refine wB hless ?_; try refine kC ?_) | refine qK hless ?_ | refine qI hless ?_
    refine zm ?_
    obtain ⟨alo, h22, hh⟩ := zf hh
    by_cases h23 : (!alo) = true
    ·rw [if_pos h23] at hh
     refine zb fun K kk hK => ?_
     simp only [go_sem, h23]
     (repeat refine sd ?_)
     refine zg (wC _ _ h22) (by (try simp only [go_sem, h23]) <;> exact wkl) (by rfl) (by rfl) ?_
     simp only [go_sem, h23]
     (repeat refine sd ?_)
     refine hK _ _ fun nx => ?_; clear hK K; try clear kk
     refine zn rfl ?_
     refine zb fun K kk hK => ?_
     simp only [go_sem]
     refine hK _ _ fun nx => ?_; clear hK K; try clear kk
     refine zk ?_; refine nmx ?_
     obtain hR := Option.some.inj hh
     subst hR
     exact zz
    ·rw [if_neg h23] at hh
     replace h23 := Bool.eq_false_iff.mpr h23
     by_cases h24 : (!(n_1.Text == ([] : Str))) = true
     ·rw [if_pos h24] at hh
      refine zb fun K kk hK => ?_
      simp only [go_sem, h23, h24]
      (repeat refine sd ?_)
      refine zg (wC _ _ h22) (by (try simp only [go_sem, h23, h24]) <;> exact wkl) (by rfl) (by rfl) ?_
      simp only [go_sem, h23, h24]
      (repeat refine sd ?_)
      refine hK _ _ fun nx => ?_; clear hK K; try clear kk
      refine zn rfl ?_
      refine zb fun K kk hK => ?_
      simp only [go_sem]
      refine hK _ _ fun nx => ?_; clear hK K; try clear kk
      refine zk ?_; refine nmx ?_
      obtain hR := Option.some.inj hh
      subst hR
      exact zz
     ·rw [if_neg h24] at hh
      replace h24 := Bool.eq_false_iff.mpr h24
      by_cases h25 : (decide ((n_1.Marks.length : Int) > (0 : Int))) = true
      ·rw [if_pos h25] at hh
       refine zb fun K kk hK => ?_
       simp only [go_sem, h23, h24, h25, of_decide_eq_true h25]
       (repeat refine sd ?_)
       refine zg (wC _ _ h22) (by (try simp only [go_sem, h23, h24, h25, of_decide_eq_true h25]) <;> exact wkl) (by rfl) (by rfl) ?_
       simp only [go_sem, h23, h24, h25, of_decide_eq_true h25]
       (repeat refine sd ?_)
       refine hK _ _ fun nx => ?_; clear hK K; try clear kk
       refine zn rfl ?_
       refine zb fun K kk hK => ?_
       simp only [go_sem]
       refine hK _ _ fun nx => ?_; clear hK K; try clear kk
       refine zk ?_; refine nmx ?_
       obtain hR := Option.some.inj hh
       subst hR
       exact zz
      ·rw [if_neg h25] at hh
       replace h25 := Bool.eq_false_iff.mpr h25
       obtain ⟨alu, h26, hh⟩ := zf hh
       refine zb fun K kk hK => ?_
       simp only [go_sem, h23, h24, h25, of_decide_eq_false h25]
       (repeat refine sd ?_)
       refine zg (wC _ _ h22) (by (try simp only [go_sem, h23, h24, h25, of_decide_eq_false h25]) <;> exact wkl) (by rfl) (by rfl) ?_
       simp only [go_sem, h23, h24, h25, of_decide_eq_false h25]
       (repeat refine sd ?_)
       refine zg (Yf _ _ h26) (by (try simp only [go_sem, h23, h24, h25, of_decide_eq_false h25]) <;> exact wkl) (by rfl) (by rfl) ?_
       simp only [go_sem, h23, h24, h25, of_decide_eq_false h25]
       (repeat refine sd ?_)
       refine hK _ _ fun nx => ?_; clear hK K; try clear kk
       by_cases h27 : (!alu) = true
       ·rw [if_pos h27] at hh
        refine zn (by first | exact congrArg PV.bool h27 | rfl) ?_
        refine zb fun K kk hK => ?_
        simp only [go_sem]
        refine hK _ _ fun nx => ?_; clear hK K; try clear kk
        refine zk ?_; refine nmx ?_
        obtain hR := Option.some.inj hh
        subst hR
        exact zz
       ·rw [if_neg h27] at hh
        replace h27 := Bool.eq_false_iff.mpr h27
        refine zi (by first | exact congrArg PV.bool h27 | rfl) ?_
        refine zy ?_; refine nmx ?_
        refine zm ?_
        refine zb fun K kk hK => ?_
        simp only [go_sem]
        refine hK _ _ fun nx => ?_; clear hK K; try clear kk
        obtain ⟨e1, f1, hh⟩ := zf hh
        obtain ⟨hlen1, f1⟩ := qo f1
        refine qD (kE (fun s => .inr () = e1 ∧ ∃ (axq : Int) (ax5 : Bool) (nx : Nat) (g1 : Nat), s = ⟨[(1, .box 1 g1 0), (71, .list 5 (n_1.Kids.map za.pv)), (72, .int .i64 (n_1.Kids.length : Int)), (73, .int .i64 axq), (74, .bool ax5)], [(1, g1, .var 28 [.str n_1.Kind, .str n_1.Text, .list 1 (n_1.Marks.map PV.str), .list 2 (n_1.zh.map ze.pv), .list 5 (n_1.Kids.map za.pv)])], nx⟩))
         (fun i s => False)
         (fun s => ∃ ah9, .inl ah9 = e1 ∧ zW Tryd.prog [.tmp 2] (.bool ah9) [] .ret s) ?_ ?_ ?_ ?_
        ·refine zC ?_
         refine qg fun I hI => ?_
         have key : ∀ (suf pre : List za) (Y9 : Int), n_1.Kids = pre ++ suf → Y9 = (pre.length : Int) → kS n_1 (vk kr) suf Y9 = some e1 → ∀ (nx : Nat) (g1 : Nat), I ⟨[(1, .box 1 g1 0), (71, .list 5 (n_1.Kids.map za.pv)), (72, .int .i64 (n_1.Kids.length : Int)), (73, .int .i64 Y9)], [(1, g1, .var 28 [.str n_1.Kind, .str n_1.Text, .list 1 (n_1.Marks.map PV.str), .list 2 (n_1.zh.map ze.pv), .list 5 (n_1.Kids.map za.pv)])], nx⟩ := by
          intro suf
          induction suf with
          | nil =>
           intro pre Y9 hsplit hidx hh nx g1
           rw [kS] at hh
           refine hI _ ?_
           have h44 := walk_nil hsplit hidx
           refine zb fun K kk hK => ?_
           simp only [go_sem]
           refine hK _ _ fun nx => ?_; clear hK K; try clear kk
           refine zm ?_
           refine zi (by first | exact congrArg PV.bool h44 | rfl) ?_
           refine zU ?_; refine nmx ?_
           refine wJ ?_
           refine zG ?_
           refine ⟨(Option.some.inj hh), ?_⟩
           first | exact ⟨_, _, _, _, rfl⟩ | (simp only [pvE, lsE, zo]; exact ⟨_, _, _, _, rfl⟩) | (simp only [pvE, lsE, zo, h2, h23, h24, h25, h27, h44]; exact ⟨_, _, _, _, rfl⟩)
          | cons atw suf ih =>
           intro pre Y9 hsplit hidx hh nx g1
           rw [kS] at hh
           refine hI _ ?_
           obtain ⟨hl1a, hl1b, hl1d, hl1w, h44⟩ := qZ (f := za.pv) hsplit hidx hlen1
           refine zb fun K kk hK => ?_
           simp only [go_sem]
           refine hK _ _ fun nx => ?_; clear hK K; try clear kk
           refine zm ?_
           refine zn (by first | exact congrArg PV.bool h44 | rfl) ?_
           refine zy ?_; refine nmx ?_
           refine zm ?_
           refine zC ?_
           refine zb fun K kk hK => ?_
           simp only [go_sem, hl1a, hl1b, hl1d, hl1w]
           refine hK _ _ fun nx => ?_; clear hK K; try clear kk
           obtain ⟨aeB, h45, hh⟩ := zf hh
           by_cases h46 : (!aeB) = true
           ·rw [if_pos h46] at hh
            refine zb fun K kk hK => ?_
            simp only [go_sem, h46, hl1a, hl1b, hl1d, hl1w]
            (repeat refine sd ?_)
            refine zg (ih_node_formed _ _ h45) (by (try simp only [go_sem, h46, hl1a, hl1b, hl1d, hl1w]) <;> exact wkl) (by rfl) (by rfl) ?_
            simp only [go_sem, h46, hl1a, hl1b, hl1d, hl1w]
            (repeat refine sd ?_)
            refine hK _ _ fun nx => ?_; clear hK K; try clear kk
            refine zn rfl ?_
            refine zb fun K kk hK => ?_
            simp only [go_sem, hl1a, hl1b, hl1d, hl1w]
            refine hK _ _ fun nx => ?_; clear hK K; try clear kk
            refine zk ?_; refine nmx ?_
            refine Qn ⟨_, (Option.some.inj hh), ?_⟩
            exact zz
           ·rw [if_neg h46] at hh
            replace h46 := Bool.eq_false_iff.mpr h46
            by_cases h47 : (decide (Y9 > (0 : Int))) = true
            ·rw [if_pos h47] at hh
             obtain ⟨ax4, h48, hh⟩ := zf hh
             obtain ⟨h48a, h48b, h48c⟩ := rd_some h48
             have h48d := wR (f := za.pv) h48c
             have h48f := qM (f := za.pv) h48c
             try simp only [Int.toNat_natCast, Int.reduceToNat] at h48d h48f
             obtain ⟨ag4, h49, hh⟩ := zf hh
             refine zb fun K kk hK => ?_
             simp only [go_sem, h46, h47, of_decide_eq_true h47, h48a, h48b, h48d, h48f.1, h48f.2, hl1a, hl1b, hl1d, hl1w]
             (repeat refine sd ?_)
             refine zg (ih_node_formed _ _ h45) (by (try simp only [go_sem, h46, h47, of_decide_eq_true h47, h48a, h48b, h48d, h48f.1, h48f.2, hl1a, hl1b, hl1d, hl1w]) <;> exact wkl) (by rfl) (by rfl) ?_
             simp only [go_sem, h46, h47, of_decide_eq_true h47, h48a, h48b, h48d, h48f.1, h48f.2, hl1a, hl1b, hl1d, hl1w]
             (repeat refine sd ?_)
             refine zg (J8 _ _ _ h49) (by (try simp only [go_sem, h46, h47, of_decide_eq_true h47, h48a, h48b, h48d, h48f.1, h48f.2, hl1a, hl1b, hl1d, hl1w]) <;> exact wkl) (by rfl) (by rfl) ?_
             simp only [go_sem, h46, h47, of_decide_eq_true h47, h48a, h48b, h48d, h48f.1, h48f.2, hl1a, hl1b, hl1d, hl1w]
             (repeat refine sd ?_)
             refine hK _ _ fun nx => ?_; clear hK K; try clear kk
             by_cases h50 : (ag4) = true
             ·rw [if_pos h50] at hh
              refine zn (by first | exact congrArg PV.bool h50 | rfl) ?_
              refine zb fun K kk hK => ?_
              simp only [go_sem, hl1a, hl1b, hl1d, hl1w]
              refine hK _ _ fun nx => ?_; clear hK K; try clear kk
              refine zk ?_; refine nmx ?_
              refine Qn ⟨_, (Option.some.inj hh), ?_⟩
              exact zz
             ·rw [if_neg h50] at hh
              replace h50 := Bool.eq_false_iff.mpr h50
              refine zi (by first | exact congrArg PV.bool h50 | rfl) ?_
              refine zy ?_; refine nmx ?_
              refine zq fun K kk hK => ?_
              simp only [go_sem, hl1a, hl1b, hl1d, hl1w]
              refine hK _ _ fun nx => ?_; clear hK K; try clear kk
              refine nmx ?_
              have ih' := ih (pre ++ [atw]) (Y9 + 1) (by rw [hsplit]; simp) (by simp [hidx]) hh nx
              refine zG ?_
              first | exact ih' _ | (simp only [pvE, lsE, zo] at ih' ⊢; exact ih' _) | (simp only [pvE, lsE, zo, h2, h23, h24, h25, h27, h44, h46, h47, h50] at ih' ⊢; exact ih' _)
            ·rw [if_neg h47] at hh
             replace h47 := Bool.eq_false_iff.mpr h47
             refine zb fun K kk hK => ?_
             simp only [go_sem, h46, h47, of_decide_eq_false h47, hl1a, hl1b, hl1d, hl1w]
             (repeat refine sd ?_)
             refine zg (ih_node_formed _ _ h45) (by (try simp only [go_sem, h46, h47, of_decide_eq_false h47, hl1a, hl1b, hl1d, hl1w]) <;> exact wkl) (by rfl) (by rfl) ?_
             simp only [go_sem, h46, h47, of_decide_eq_false h47, hl1a, hl1b, hl1d, hl1w]
             (repeat refine sd ?_)
             refine hK _ _ fun nx => ?_; clear hK K; try clear kk
             refine zi rfl ?_
             refine zy ?_; refine nmx ?_
             refine zq fun K kk hK => ?_
             simp only [go_sem, hl1a, hl1b, hl1d, hl1w]
             refine hK _ _ fun nx => ?_; clear hK K; try clear kk
             refine nmx ?_
             have ih' := ih (pre ++ [atw]) (Y9 + 1) (by rw [hsplit]; simp) (by simp [hidx]) hh nx
             refine zG ?_
             first | exact ih' _ | (simp only [pvE, lsE, zo] at ih' ⊢; exact ih' _) | (simp only [pvE, lsE, zo, h2, h23, h24, h25, h27, h44, h46, h47] at ih' ⊢; exact ih' _)
         exact key n_1.Kids [] _ rfl rfl f1 _ _
        ·rintro s ⟨t, hless, rfl, axq, ax5, nx, g1, rfl⟩
         try dsimp only at hh
         refine nmy ?_
         first | (refine wB hless ?_; try refine kC ?_) | refine qK hless ?_ | refine qI hless ?_
         refine zb fun K kk hK => ?_
         simp only [go_sem]
         refine hK _ _ fun nx => ?_; clear hK K; try clear kk
         refine zk ?_; refine nmx ?_
         obtain hR := Option.some.inj hh
         subst hR
         exact zz
        ·intro i s h; exact h.elim
        ·rintro s ⟨ah9, rfl, hb⟩
         try dsimp only at hh
         obtain hR := Option.some.inj hh
         subst hR
         refine nmx ?_
         exact hb
   ·intro i s h; exact h.elim
   ·rintro s ⟨ahs, rfl, hb⟩
    try dsimp only at hh
    obtain hR := Option.some.inj hh
    subst hR
    refine nmx ?_
    exact hb
theorem ah7 (n_1 : za) (R : Bool) (hh : Ko n_1 = some R) : PC Tryd.prog 93 [.agg [.str n_1.Kind, .str n_1.Text, .list 1 (n_1.Marks.map PV.str), .list 2 (n_1.zh.map ze.pv), .list 5 (n_1.Kids.map za.pv)]] (.bool R) := by
 rw [Ko] at hh
 obtain ⟨kr, hh⟩ := jA hh
 exact (ags kr) _ _ hh
theorem aht : ∀ kr : Nat, (∀ (n_1 : za) (R : Int), vR kr n_1 = some R → PC Tryd.prog 94 [.agg [.str n_1.Kind, .str n_1.Text, .list 1 (n_1.Marks.map PV.str), .list 2 (n_1.zh.map ze.pv), .list 5 (n_1.Kids.map za.pv)]] (.int .i64 R)) := by
 intro kr
 induction kr with
 | zero => exact (by intro n_1 R hh; rw [vR] at hh; cases hh)
 | succ kr ih =>
  have ih_node_Depth := ih
  clear ih
  intro n_1 R hh
  rw [vR] at hh
  refine ae9 rfl ?_
  refine zb fun K kk hK => ?_
  simp only [go_sem]
  refine hK _ _ fun nx => ?_; clear hK K; try clear kk
  refine zm ?_
  obtain ⟨y8, h1, hh⟩ := zf hh
  refine zb fun K kk hK => ?_
  simp only [go_sem]
  refine zg (kV _ _ h1) (by (try simp only [go_sem]) <;> exact wkl) (by rfl) (by rfl) ?_
  simp only [go_sem]
  refine hK _ _ fun nx => ?_; clear hK K; try clear kk
  by_cases h2 : (y8) = true
  ·rw [if_pos h2] at hh
   refine zn (by first | exact congrArg PV.bool h2 | rfl) ?_
   refine zb fun K kk hK => ?_
   simp only [go_sem]
   refine hK _ _ fun nx => ?_; clear hK K; try clear kk
   refine zk ?_; refine nmx ?_
   obtain hR := Option.some.inj hh
   subst hR
   exact zz
  ·rw [if_neg h2] at hh
   replace h2 := Bool.eq_false_iff.mpr h2
   refine zi (by first | exact congrArg PV.bool h2 | rfl) ?_
   refine zy ?_; refine nmx ?_
   refine zb fun K kk hK => ?_
   simp only [go_sem]
   refine hK _ _ fun nx => ?_; clear hK K; try clear kk
   refine zm ?_
   refine zb fun K kk hK => ?_
   simp only [go_sem]
   refine hK _ _ fun nx => ?_; clear hK K; try clear kk
   obtain ⟨e0, f0, hh⟩ := zf hh
   obtain ⟨hlen0, f0⟩ := qo f0
   refine qD (kE (fun s => ∃ VO, VO = e0 ∧ ∃ (Kn : Int) (JI : Bool) (nx : Nat), s = ⟨[(3, .int .i64 VO), (9, .list 5 (n_1.Kids.map za.pv)), (10, .int .i64 (n_1.Kids.length : Int)), (11, .int .i64 Kn), (12, .bool JI)], [], nx⟩))
    (fun i s => False)
    (fun s => False) ?_ ?_ ?_ ?_
   ·refine zC ?_
    refine qg fun I hI => ?_
    have key : ∀ (suf pre : List za) (v_6 : Int) (Zg : Int), n_1.Kids = pre ++ suf → v_6 = (pre.length : Int) → vO (vR kr) suf v_6 Zg = some e0 → ∀ (nx : Nat), I ⟨[(3, .int .i64 Zg), (9, .list 5 (n_1.Kids.map za.pv)), (10, .int .i64 (n_1.Kids.length : Int)), (11, .int .i64 v_6)], [], nx⟩ := by
     intro suf
     induction suf with
     | nil =>
      intro pre v_6 Zg hsplit hidx hh nx
      rw [vO] at hh
      refine hI _ ?_
      have h9 := walk_nil hsplit hidx
      refine zb fun K kk hK => ?_
      simp only [go_sem]
      refine hK _ _ fun nx => ?_; clear hK K; try clear kk
      refine zm ?_
      refine zi (by first | exact congrArg PV.bool h9 | rfl) ?_
      refine zU ?_; refine nmx ?_
      refine wJ ?_
      refine zG ?_
      refine ⟨_, (Option.some.inj hh), ?_⟩
      first | exact ⟨_, _, _, rfl⟩ | (simp only [pvE, lsE, zo]; exact ⟨_, _, _, rfl⟩) | (simp only [pvE, lsE, zo, h2, h9]; exact ⟨_, _, _, rfl⟩)
     | cons y_9 suf ih =>
      intro pre v_6 Zg hsplit hidx hh nx
      rw [vO] at hh
      refine hI _ ?_
      obtain ⟨hl0a, hl0b, hl0d, hl0w, h9⟩ := qZ (f := za.pv) hsplit hidx hlen0
      refine zb fun K kk hK => ?_
      simp only [go_sem]
      refine hK _ _ fun nx => ?_; clear hK K; try clear kk
      refine zm ?_
      refine zn (by first | exact congrArg PV.bool h9 | rfl) ?_
      refine zy ?_; refine nmx ?_
      refine zm ?_
      refine zC ?_
      refine zb fun K kk hK => ?_
      simp only [go_sem, hl0a, hl0b, hl0d, hl0w]
      refine hK _ _ fun nx => ?_; clear hK K; try clear kk
      obtain ⟨aih, h10, hh⟩ := zf hh
      refine zq fun K kk hK => ?_
      simp only [go_sem, hl0a, hl0b, hl0d, hl0w]
      refine zg (ih_node_Depth _ _ h10) (by (try simp only [go_sem, hl0a, hl0b, hl0d, hl0w]) <;> exact wkl) (by rfl) (by rfl) ?_
      simp only [go_sem, hl0a, hl0b, hl0d, hl0w]
      refine hK _ _ fun nx => ?_; clear hK K; try clear kk
      refine nmx ?_
      refine zq fun K kk hK => ?_
      simp only [go_sem, hl0a, hl0b, hl0d, hl0w]
      refine hK _ _ fun nx => ?_; clear hK K; try clear kk
      refine nmx ?_
      have ih' := ih (pre ++ [y_9]) (v_6 + 1) _ (by rw [hsplit]; simp) (by simp [hidx]) hh nx
      refine zG ?_
      first | exact ih' | (simp only [pvE, lsE, zo] at ih' ⊢; exact ih') | (simp only [pvE, lsE, zo, h2, h9] at ih' ⊢; exact ih')
    exact key n_1.Kids [] _ _ rfl rfl f0 _
   ·rintro s ⟨t, hless, VO, rfl, Kn, JI, nx, rfl⟩
    try dsimp only at hh
    refine nmy ?_
    first | (refine wB hless ?_; try refine kC ?_) | refine qK hless ?_ | refine qI hless ?_
    refine zb fun K kk hK => ?_
    simp only [go_sem]
    refine hK _ _ fun nx => ?_; clear hK K; try clear kk
    refine zk ?_; refine nmx ?_
    obtain hR := Option.some.inj hh
    subst hR
    exact zz
   ·intro i s h; exact h.elim
   ·intro s h; exact h.elim
theorem ai5 (n_1 : za) (R : Int) (hh : VE n_1 = some R) : PC Tryd.prog 94 [.agg [.str n_1.Kind, .str n_1.Text, .list 1 (n_1.Marks.map PV.str), .list 2 (n_1.zh.map ze.pv), .list 5 (n_1.Kids.map za.pv)]] (.int .i64 R) := by
 rw [VE] at hh
 obtain ⟨kr, hh⟩ := jA hh
 exact (aht kr) _ _ hh
theorem Kk (n_1 : za) (R : Int) (hh : yT n_1 = some R) : PC Tryd.prog 64 [.agg [.str n_1.Kind, .str n_1.Text, .list 1 (n_1.Marks.map PV.str), .list 2 (n_1.zh.map ze.pv), .list 5 (n_1.Kids.map za.pv)]] (.int .i64 R) := by
 rw [yT] at hh
 refine aeZ rfl ?_
 refine zb fun K kk hK => ?_
 simp only [go_sem]
 refine hK _ _ fun nx => ?_; clear hK K; try clear kk
 refine zm ?_
 refine zC ?_
 obtain ⟨ahc, h1, hh⟩ := zf hh
 refine zb fun K kk hK => ?_
 simp only [go_sem]
 refine zg (ah7 _ _ h1) (by (try simp only [go_sem]) <;> exact wkl) (by rfl) (by rfl) ?_
 simp only [go_sem]
 refine hK _ _ fun nx => ?_; clear hK K; try clear kk
 by_cases h2 : (!ahc) = true
 ·rw [if_pos h2] at hh
  refine zn (by first | exact congrArg PV.bool h2 | rfl) ?_
  refine zb fun K kk hK => ?_
  simp only [go_sem]
  refine hK _ _ fun nx => ?_; clear hK K; try clear kk
  refine zk ?_; refine nmx ?_
  obtain hR := Option.some.inj hh
  subst hR
  exact zz
 ·rw [if_neg h2] at hh
  replace h2 := Bool.eq_false_iff.mpr h2
  refine zi (by first | exact congrArg PV.bool h2 | rfl) ?_
  obtain ⟨alK, h3, hh⟩ := zf hh
  refine zb fun K kk hK => ?_
  simp only [go_sem]
  refine zg (ai5 _ _ h3) (by (try simp only [go_sem]) <;> exact wkl) (by rfl) (by rfl) ?_
  simp only [go_sem]
  refine hK _ _ fun nx => ?_; clear hK K; try clear kk
  by_cases h4 : (decide (alK > (40 : Int))) = true
  ·rw [if_pos h4] at hh
   refine zn (by first | exact congrArg PV.bool h4 | rfl) ?_
   refine zb fun K kk hK => ?_
   simp only [go_sem]
   refine hK _ _ fun nx => ?_; clear hK K; try clear kk
   refine zk ?_; refine nmx ?_
   obtain hR := Option.some.inj hh
   subst hR
   exact zz
  ·rw [if_neg h4] at hh
   replace h4 := Bool.eq_false_iff.mpr h4
   refine zi (by first | exact congrArg PV.bool h4 | rfl) ?_
   obtain ⟨api, h5, hh⟩ := zf hh
   refine zb fun K kk hK => ?_
   simp only [go_sem]
   refine zg (Wn _ _ h5) (by (try simp only [go_sem]) <;> exact wkl) (by rfl) (by rfl) ?_
   simp only [go_sem]
   refine hK _ _ fun nx => ?_; clear hK K; try clear kk
   by_cases h6 : (decide (api > (4000 : Int))) = true
   ·rw [if_pos h6] at hh
    refine zn (by first | exact congrArg PV.bool h6 | rfl) ?_
    refine zb fun K kk hK => ?_
    simp only [go_sem]
    refine hK _ _ fun nx => ?_; clear hK K; try clear kk
    refine zk ?_; refine nmx ?_
    obtain hR := Option.some.inj hh
    subst hR
    exact zz
   ·rw [if_neg h6] at hh
    replace h6 := Bool.eq_false_iff.mpr h6
    refine zi (by first | exact congrArg PV.bool h6 | rfl) ?_
    refine zy ?_; refine nmx ?_
    refine zb fun K kk hK => ?_
    simp only [go_sem]
    refine hK _ _ fun nx => ?_; clear hK K; try clear kk
    refine zk ?_; refine nmx ?_
    obtain hR := Option.some.inj hh
    subst hR
    exact zz
theorem xJ (n_1 : za) (R : Bool) (hh : yY n_1 = some R) : PC Tryd.prog 36 [.agg [.str n_1.Kind, .str n_1.Text, .list 1 (n_1.Marks.map PV.str), .list 2 (n_1.zh.map ze.pv), .list 5 (n_1.Kids.map za.pv)]] (.bool R) := by
 rw [yY] at hh
 refine aeO rfl ?_
 refine zb fun K kk hK => ?_
 simp only [go_sem]
 refine hK _ _ fun nx => ?_; clear hK K; try clear kk
 obtain ⟨aqJ, h1, hh⟩ := zf hh
 refine zb fun K kk hK => ?_
 simp only [go_sem]
 refine zg (Kk _ _ h1) (by (try simp only [go_sem]) <;> exact wkl) (by rfl) (by rfl) ?_
 simp only [go_sem]
 refine hK _ _ fun nx => ?_; clear hK K; try clear kk
 refine zk ?_; refine nmx ?_
 obtain hR := Option.some.inj hh
 subst hR
 exact zz
theorem agE (x_1 : ze) (y_2 : ze) (R : Bool) (hh : Vp x_1 y_2 = some R) : PC Tryd.prog 66 [.agg [.str x_1.Name, .str x_1.Value], .agg [.str y_2.Name, .str y_2.Value]] (.bool R) := by
 rw [Vp] at hh
 refine acm rfl ?_
 refine zb fun K kk hK => ?_
 simp only [go_sem]
 refine hK _ _ fun nx => ?_; clear hK K; try clear kk
 refine zb fun K kk hK => ?_
 simp only [go_sem]
 refine hK _ _ fun nx => ?_; clear hK K; try clear kk
 refine zk ?_; refine nmx ?_
 obtain hR := Option.some.inj hh
 subst hR
 exact zz
theorem yB (kF : (List ze)) (kQ : (List ze)) (R : Bool) (hh : wo kF kQ = some R) : PC Tryd.prog 67 [.list 2 (kF.map ze.pv), .list 2 (kQ.map ze.pv), .fn 66 []] (.bool R) := by
 rw [wo] at hh
 refine xX rfl ?_
 refine zb fun K kk hK => ?_
 simp only [go_sem]
 refine hK _ _ fun nx => ?_; clear hK K; try clear kk
 refine zm ?_
 refine zb fun K kk hK => ?_
 simp only [go_sem]
 refine hK _ _ fun nx => ?_; clear hK K; try clear kk
 by_cases h1 : ((kF.length : Int) != (kQ.length : Int)) = true
 ·rw [if_pos h1] at hh
  refine zn (by first | exact congrArg PV.bool h1 | rfl) ?_
  refine zb fun K kk hK => ?_
  simp only [go_sem]
  refine hK _ _ fun nx => ?_; clear hK K; try clear kk
  refine zk ?_; refine nmx ?_
  obtain hR := Option.some.inj hh
  subst hR
  exact zz
 ·rw [if_neg h1] at hh
  replace h1 := Bool.eq_false_iff.mpr h1
  refine zi (by first | exact congrArg PV.bool h1 | rfl) ?_
  refine zy ?_; refine nmx ?_
  refine zm ?_
  refine zb fun K kk hK => ?_
  simp only [go_sem]
  refine hK _ _ fun nx => ?_; clear hK K; try clear kk
  obtain ⟨e0, f0, hh⟩ := zf hh
  obtain ⟨hlen0, f0⟩ := qo f0
  refine qD (kE (fun s => .inr () = e0 ∧ ∃ (Zv : Int) (XP : Bool) (nx : Nat), s = ⟨[(1, .list 2 (kQ.map ze.pv)), (2, .fn 66 []), (15, .list 2 (kF.map ze.pv)), (16, .int .i64 (kF.length : Int)), (17, .int .i64 Zv), (18, .bool XP)], [], nx⟩))
   (fun i s => False)
   (fun s => ∃ V5, .inl V5 = e0 ∧ zW Tryd.prog [.tmp 6] (.bool V5) [] .ret s) ?_ ?_ ?_ ?_
  ·refine zC ?_
   refine qg fun I hI => ?_
   have key : ∀ (suf pre : List ze) (v_6 : Int), kF = pre ++ suf → v_6 = (pre.length : Int) → zM kQ suf v_6 = some e0 → ∀ (nx : Nat), I ⟨[(1, .list 2 (kQ.map ze.pv)), (2, .fn 66 []), (15, .list 2 (kF.map ze.pv)), (16, .int .i64 (kF.length : Int)), (17, .int .i64 v_6)], [], nx⟩ := by
    intro suf
    induction suf with
    | nil =>
     intro pre v_6 hsplit hidx hh nx
     rw [zM] at hh
     refine hI _ ?_
     have h12 := walk_nil hsplit hidx
     refine zb fun K kk hK => ?_
     simp only [go_sem]
     refine hK _ _ fun nx => ?_; clear hK K; try clear kk
     refine zm ?_
     refine zi (by first | exact congrArg PV.bool h12 | rfl) ?_
     refine zU ?_; refine nmx ?_
     refine wJ ?_
     refine zG ?_
     refine ⟨(Option.some.inj hh), ?_⟩
     first | exact ⟨_, _, _, rfl⟩ | (simp only [pvE, lsE, zo]; exact ⟨_, _, _, rfl⟩) | (simp only [pvE, lsE, zo, h1, h12]; exact ⟨_, _, _, rfl⟩)
    | cons apF suf ih =>
     intro pre v_6 hsplit hidx hh nx
     rw [zM] at hh
     refine hI _ ?_
     obtain ⟨hl0a, hl0b, hl0d, hl0w, h12⟩ := qZ (f := ze.pv) hsplit hidx hlen0
     refine zb fun K kk hK => ?_
     simp only [go_sem]
     refine hK _ _ fun nx => ?_; clear hK K; try clear kk
     refine zm ?_
     refine zn (by first | exact congrArg PV.bool h12 | rfl) ?_
     refine zy ?_; refine nmx ?_
     refine zm ?_
     refine zC ?_
     refine zb fun K kk hK => ?_
     simp only [go_sem, hl0a, hl0b, hl0d, hl0w]
     refine hK _ _ fun nx => ?_; clear hK K; try clear kk
     obtain ⟨adX, h13, hh⟩ := zf hh
     obtain ⟨h13a, h13b, h13c⟩ := rd_some h13
     have h13d := wR (f := ze.pv) h13c
     have h13f := qM (f := ze.pv) h13c
     try simp only [Int.toNat_natCast, Int.reduceToNat] at h13d h13f
     refine zb fun K kk hK => ?_
     simp only [go_sem, h13a, h13b, h13d, h13f.1, h13f.2, hl0a, hl0b, hl0d, hl0w]
     (repeat refine sd ?_)
     refine hK _ _ fun nx => ?_; clear hK K; try clear kk
     obtain ⟨as2, h14, hh⟩ := zf hh
     refine zb fun K kk hK => ?_
     simp only [go_sem, hl0a, hl0b, hl0d, hl0w]
     refine zg (agE _ _ _ h14) (by (try simp only [go_sem, hl0a, hl0b, hl0d, hl0w]) <;> exact wkl) (by rfl) (by rfl) ?_
     simp only [go_sem, hl0a, hl0b, hl0d, hl0w]
     refine hK _ _ fun nx => ?_; clear hK K; try clear kk
     by_cases h15 : (!as2) = true
     ·rw [if_pos h15] at hh
      refine zn (by first | exact congrArg PV.bool h15 | rfl) ?_
      refine zb fun K kk hK => ?_
      simp only [go_sem, hl0a, hl0b, hl0d, hl0w]
      refine hK _ _ fun nx => ?_; clear hK K; try clear kk
      refine zk ?_; refine nmx ?_
      refine Qn ⟨_, (Option.some.inj hh), ?_⟩
      exact zz
     ·rw [if_neg h15] at hh
      replace h15 := Bool.eq_false_iff.mpr h15
      refine zi (by first | exact congrArg PV.bool h15 | rfl) ?_
      refine zy ?_; refine nmx ?_
      refine zq fun K kk hK => ?_
      simp only [go_sem, hl0a, hl0b, hl0d, hl0w]
      refine hK _ _ fun nx => ?_; clear hK K; try clear kk
      refine nmx ?_
      have ih' := ih (pre ++ [apF]) (v_6 + 1) (by rw [hsplit]; simp) (by simp [hidx]) hh nx
      refine zG ?_
      first | exact ih' | (simp only [pvE, lsE, zo] at ih' ⊢; exact ih') | (simp only [pvE, lsE, zo, h1, h12, h15] at ih' ⊢; exact ih')
   exact key kF [] _ rfl rfl f0 _
  ·rintro s ⟨t, hless, rfl, Zv, XP, nx, rfl⟩
   try dsimp only at hh
   refine nmy ?_
   first | (refine wB hless ?_; try refine kC ?_) | refine qK hless ?_ | refine qI hless ?_
   refine zb fun K kk hK => ?_
   simp only [go_sem]
   refine hK _ _ fun nx => ?_; clear hK K; try clear kk
   refine zk ?_; refine nmx ?_
   obtain hR := Option.some.inj hh
   subst hR
   exact zz
  ·intro i s h; exact h.elim
  ·rintro s ⟨V5, rfl, hb⟩
   try dsimp only at hh
   obtain hR := Option.some.inj hh
   subst hR
   refine nmx ?_
   exact hb
theorem abY (a_1 : za) (b_2 : za) (R : Bool) (hh : WZ a_1 b_2 = some R) : PC Tryd.prog 39 [.agg [.str a_1.Kind, .str a_1.Text, .list 1 (a_1.Marks.map PV.str), .list 2 (a_1.zh.map ze.pv), .list 5 (a_1.Kids.map za.pv)], .agg [.str b_2.Kind, .str b_2.Text, .list 1 (b_2.Marks.map PV.str), .list 2 (b_2.zh.map ze.pv), .list 5 (b_2.Kids.map za.pv)]] (.bool R) := by
 rw [WZ] at hh
 refine aeK rfl ?_
 refine zb fun K kk hK => ?_
 simp only [go_sem]
 refine hK _ _ fun nx => ?_; clear hK K; try clear kk
 refine zb fun K kk hK => ?_
 simp only [go_sem]
 refine hK _ _ fun nx => ?_; clear hK K; try clear kk
 by_cases h1 : (a_1.Kind == b_2.Kind) = true
 ·rw [if_pos h1] at hh
  by_cases h2 : (!(a_1.Kind == ([116, 101, 120, 116] : Str))) = true
  ·rw [if_pos h2] at hh
   obtain ⟨attr_3, h3, hh⟩ := zf hh
   refine zb fun K kk hK => ?_
   simp only [go_sem, h1, h2]
   (repeat refine sd ?_)
   refine zg (yB _ _ _ h3) (by (try simp only [go_sem, h1, h2]) <;> exact wkl) (by rfl) (by rfl) ?_
   simp only [go_sem, h1, h2]
   (repeat refine sd ?_)
   refine hK _ _ fun nx => ?_; clear hK K; try clear kk
   refine zk ?_; refine nmx ?_
   obtain hR := Option.some.inj hh
   subst hR
   exact zz
  ·rw [if_neg h2] at hh
   replace h2 := Bool.eq_false_iff.mpr h2
   refine zb fun K kk hK => ?_
   simp only [go_sem, h1, h2]
   (repeat refine sd ?_)
   refine hK _ _ fun nx => ?_; clear hK K; try clear kk
   refine zk ?_; refine nmx ?_
   obtain hR := Option.some.inj hh
   subst hR
   exact zz
 ·rw [if_neg h1] at hh
  replace h1 := Bool.eq_false_iff.mpr h1
  refine zb fun K kk hK => ?_
  simp only [go_sem, h1]
  (repeat refine sd ?_)
  refine hK _ _ fun nx => ?_; clear hK K; try clear kk
  refine zk ?_; refine nmx ?_
  obtain hR := Option.some.inj hh
  subst hR
  exact zz
theorem ZA (kF : (List ze)) (kQ : (List ze)) (R : Bool) (hh : ko kF kQ = some R) : PC Tryd.prog 43 [.list 2 (kF.map ze.pv), .list 2 (kQ.map ze.pv)] (.bool R) := by
 rw [ko] at hh
 refine Vs rfl ?_
 refine zb fun K kk hK => ?_
 simp only [go_sem]
 refine hK _ _ fun nx => ?_; clear hK K; try clear kk
 refine zm ?_
 refine zb fun K kk hK => ?_
 simp only [go_sem]
 refine hK _ _ fun nx => ?_; clear hK K; try clear kk
 by_cases h1 : ((kF.length : Int) != (kQ.length : Int)) = true
 ·rw [if_pos h1] at hh
  refine zn (by first | exact congrArg PV.bool h1 | rfl) ?_
  refine zb fun K kk hK => ?_
  simp only [go_sem]
  refine hK _ _ fun nx => ?_; clear hK K; try clear kk
  refine zk ?_; refine nmx ?_
  obtain hR := Option.some.inj hh
  subst hR
  exact zz
 ·rw [if_neg h1] at hh
  replace h1 := Bool.eq_false_iff.mpr h1
  refine zi (by first | exact congrArg PV.bool h1 | rfl) ?_
  refine zy ?_; refine nmx ?_
  refine zm ?_
  refine zb fun K kk hK => ?_
  simp only [go_sem]
  refine hK _ _ fun nx => ?_; clear hK K; try clear kk
  obtain ⟨e0, f0, hh⟩ := zf hh
  obtain ⟨hlen0, f0⟩ := qo f0
  refine qD (kE (fun s => .inr () = e0 ∧ ∃ (WO : Int) (Kn : Bool) (nx : Nat), s = ⟨[(0, .list 2 (kF.map ze.pv)), (1, .list 2 (kQ.map ze.pv)), (12, .int .i64 (kF.length : Int)), (13, .int .i64 WO), (14, .bool Kn)], [], nx⟩))
   (fun i s => False)
   (fun s => ∃ kD, .inl kD = e0 ∧ zW Tryd.prog [.tmp 4] (.bool kD) [] .ret s) ?_ ?_ ?_ ?_
  ·refine zC ?_
   refine qg fun I hI => ?_
   have key : ∀ (suf pre : List ze) (v_5 : Int), kF = pre ++ suf → v_5 = (pre.length : Int) → qd kQ suf v_5 = some e0 → ∀ (nx : Nat), I ⟨[(0, .list 2 (kF.map ze.pv)), (1, .list 2 (kQ.map ze.pv)), (12, .int .i64 (kF.length : Int)), (13, .int .i64 v_5)], [], nx⟩ := by
    intro suf
    induction suf with
    | nil =>
     intro pre v_5 hsplit hidx hh nx
     rw [qd] at hh
     refine hI _ ?_
     have h10 := walk_nil hsplit hidx
     refine zb fun K kk hK => ?_
     simp only [go_sem]
     refine hK _ _ fun nx => ?_; clear hK K; try clear kk
     refine zm ?_
     refine zi (by first | exact congrArg PV.bool h10 | rfl) ?_
     refine zU ?_; refine nmx ?_
     refine wJ ?_
     refine zG ?_
     refine ⟨(Option.some.inj hh), ?_⟩
     first | exact ⟨_, _, _, rfl⟩ | (simp only [pvE, lsE, zo]; exact ⟨_, _, _, rfl⟩) | (simp only [pvE, lsE, zo, h1, h10]; exact ⟨_, _, _, rfl⟩)
    | cons y_8 suf ih =>
     intro pre v_5 hsplit hidx hh nx
     rw [qd] at hh
     refine hI _ ?_
     obtain ⟨hl0a, hl0b, hl0d, hl0w, h10⟩ := qZ (f := ze.pv) hsplit hidx hlen0
     refine zb fun K kk hK => ?_
     simp only [go_sem]
     refine hK _ _ fun nx => ?_; clear hK K; try clear kk
     refine zm ?_
     refine zn (by first | exact congrArg PV.bool h10 | rfl) ?_
     refine zy ?_; refine nmx ?_
     refine zm ?_
     refine zC ?_
     refine zb fun K kk hK => ?_
     simp only [go_sem, hl0a, hl0b, hl0d, hl0w]
     refine hK _ _ fun nx => ?_; clear hK K; try clear kk
     obtain ⟨x_9, h11, hh⟩ := zf hh
     obtain ⟨h11a, h11b, h11c⟩ := rd_some h11
     have h11d := wR (f := ze.pv) h11c
     have h11f := qM (f := ze.pv) h11c
     try simp only [Int.toNat_natCast, Int.reduceToNat] at h11d h11f
     refine zb fun K kk hK => ?_
     simp only [go_sem, h11a, h11b, h11d, h11f.1, h11f.2, hl0a, hl0b, hl0d, hl0w]
     (repeat refine sd ?_)
     refine hK _ _ fun nx => ?_; clear hK K; try clear kk
     by_cases h12 : ((((y_8.Name == x_9.Name) && (y_8.Value == x_9.Value)) != true)) = true
     ·rw [if_pos h12] at hh
      refine zn (by first | exact congrArg PV.bool h12 | rfl) ?_
      refine zb fun K kk hK => ?_
      simp only [go_sem, hl0a, hl0b, hl0d, hl0w]
      refine hK _ _ fun nx => ?_; clear hK K; try clear kk
      refine zk ?_; refine nmx ?_
      refine Qn ⟨_, (Option.some.inj hh), ?_⟩
      exact zz
     ·rw [if_neg h12] at hh
      replace h12 := Bool.eq_false_iff.mpr h12
      refine zi (by first | exact congrArg PV.bool h12 | rfl) ?_
      refine zy ?_; refine nmx ?_
      refine zq fun K kk hK => ?_
      simp only [go_sem, hl0a, hl0b, hl0d, hl0w]
      refine hK _ _ fun nx => ?_; clear hK K; try clear kk
      refine nmx ?_
      have ih' := ih (pre ++ [y_8]) (v_5 + 1) (by rw [hsplit]; simp) (by simp [hidx]) hh nx
      refine zG ?_
      first | exact ih' | (simp only [pvE, lsE, zo] at ih' ⊢; exact ih') | (simp only [pvE, lsE, zo, h1, h10, h12] at ih' ⊢; exact ih')
   exact key kF [] _ rfl rfl f0 _
  ·rintro s ⟨t, hless, rfl, WO, Kn, nx, rfl⟩
   try dsimp only at hh
   refine nmy ?_
   first | (refine wB hless ?_; try refine kC ?_) | refine qK hless ?_ | refine qI hless ?_
   refine zb fun K kk hK => ?_
   simp only [go_sem]
   refine hK _ _ fun nx => ?_; clear hK K; try clear kk
   refine zk ?_; refine nmx ?_
   obtain hR := Option.some.inj hh
   subst hR
   exact zz
  ·intro i s h; exact h.elim
  ·rintro s ⟨kD, rfl, hb⟩
   try dsimp only at hh
   obtain hR := Option.some.inj hh
   subst hR
   refine nmx ?_
   exact hb
end Go.Proofs.YtclohbgnaopjfaaDoor
