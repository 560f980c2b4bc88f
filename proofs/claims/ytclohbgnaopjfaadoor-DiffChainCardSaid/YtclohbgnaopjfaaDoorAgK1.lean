/- Texts of the proof of diffChainCard -/
import Derived.Test.YtclohbgnaopjfaaDoorAgC
import Derived.Test.YtclohbgnaopjfaaDoorAgF
import Derived.Test.YtclohbgnaopjfaaDoorAgK0
namespace Go.Proofs.YtclohbgnaopjfaaDoor
set_option linter.unusedSimpArgs false
set_option linter.unusedVariables false
open Go
set_option maxRecDepth 100000
theorem agX : ∀ kr : Nat, (∀ (n_1 : za) (R : Bool), vo kr n_1 = some R → PC Tryd.prog 93 [.agg [.str n_1.Kind, .str n_1.Text, .list 1 (n_1.Marks.map PV.str), .list 2 (n_1.zh.map ze.pv), .list 5 (n_1.Kids.map za.pv)]] (.bool R)) := by
 intro kr
 induction kr with
 | zero => exact (by intro n_1 R hh; rw [vo] at hh; cases hh)
 | succ kr ih =>
  have ih_node_formed := ih
  clear ih
  intro n_1 R hh
  rw [vo] at hh
  refine ael rfl ?_
  refine zb fun K kk hK => ?_
  simp only [go_sem]
  refine hK _ _ fun nx => ?_; clear hK K; try clear kk
  refine zm ?_
  obtain ⟨yY, h1, hh⟩ := zf hh
  refine zb fun K kk hK => ?_
  simp only [go_sem]
  refine zg (kV _ _ h1) (by (try simp only [go_sem]) <;> exact wkl) (by rfl) (by rfl) ?_
  simp only [go_sem]
  refine hK _ _ fun nx => ?_; clear hK K; try clear kk
  by_cases h2 : (yY) = true
  ·rw [if_pos h2] at hh
   refine zn (by first | exact congrArg PV.bool h2 | rfl) ?_
   by_cases h3 : (!(n_1.Text == ([] : Str))) = true
   ·rw [if_pos h3] at hh
    obtain ⟨aic, h4, hh⟩ := zf hh
    by_cases h5 : (aic) = true
    ·rw [if_pos h5] at hh
     obtain ⟨ap3, h6, hh⟩ := zf hh
     by_cases h7 : (ap3) = true
     ·rw [if_pos h7] at hh
      refine zb fun K kk hK => ?_
      simp only [go_sem, h3, h5, h7]
      (repeat refine sd ?_)
      refine zg (vk _ _ h4) (by (try simp only [go_sem, h3, h5, h7]) <;> exact wkl) (by rfl) (by rfl) ?_
      simp only [go_sem, h3, h5, h7]
      (repeat refine sd ?_)
      refine zg (XL _ _ h6) (by (try simp only [go_sem, h3, h5, h7]) <;> exact wkl) (by rfl) (by rfl) ?_
      simp only [go_sem, h3, h5, h7]
      (repeat refine sd ?_)
      refine hK _ _ fun nx => ?_; clear hK K; try clear kk
      refine zk ?_; refine nmx ?_
      obtain hR := Option.some.inj hh
      subst hR
      exact zz
     ·rw [if_neg h7] at hh
      replace h7 := Bool.eq_false_iff.mpr h7
      refine zb fun K kk hK => ?_
      simp only [go_sem, h3, h5, h7]
      (repeat refine sd ?_)
      refine zg (vk _ _ h4) (by (try simp only [go_sem, h3, h5, h7]) <;> exact wkl) (by rfl) (by rfl) ?_
      simp only [go_sem, h3, h5, h7]
      (repeat refine sd ?_)
      refine zg (XL _ _ h6) (by (try simp only [go_sem, h3, h5, h7]) <;> exact wkl) (by rfl) (by rfl) ?_
      simp only [go_sem, h3, h5, h7]
      (repeat refine sd ?_)
      refine hK _ _ fun nx => ?_; clear hK K; try clear kk
      refine zk ?_; refine nmx ?_
      obtain hR := Option.some.inj hh
      subst hR
      exact zz
    ·rw [if_neg h5] at hh
     replace h5 := Bool.eq_false_iff.mpr h5
     refine zb fun K kk hK => ?_
     simp only [go_sem, h3, h5]
     (repeat refine sd ?_)
     refine zg (vk _ _ h4) (by (try simp only [go_sem, h3, h5]) <;> exact wkl) (by rfl) (by rfl) ?_
     simp only [go_sem, h3, h5]
     (repeat refine sd ?_)
     refine hK _ _ fun nx => ?_; clear hK K; try clear kk
     refine zk ?_; refine nmx ?_
     obtain hR := Option.some.inj hh
     subst hR
     exact zz
   ·rw [if_neg h3] at hh
    replace h3 := Bool.eq_false_iff.mpr h3
    refine zb fun K kk hK => ?_
    simp only [go_sem, h3]
    (repeat refine sd ?_)
    refine hK _ _ fun nx => ?_; clear hK K; try clear kk
    refine zk ?_; refine nmx ?_
    obtain hR := Option.some.inj hh
    subst hR
    exact zz
  ·rw [if_neg h2] at hh
   replace h2 := Bool.eq_false_iff.mpr h2
   refine zi (by first | exact congrArg PV.bool h2 | rfl) ?_
   refine zy ?_; refine nmx ?_
   refine zb fun K kk hK => ?_
   simp only [go_sem]
   refine hK _ _ fun nx => ?_; clear hK K; try clear kk
   refine zm ?_
   refine zb fun K kk hK => ?_
   simp only [go_sem]
   refine hK _ _ fun nx => ?_; clear hK K; try clear kk
   obtain ⟨e0, f0, hh⟩ := zf hh
   obtain ⟨hlen0, f0⟩ := qf f0
   refine qp (kC (fun s => ∃ Xj, .inr Xj = e0 ∧ ∃ (am5 : Int) (ayV : Bool) (nx : Nat) (g1 : Nat) (g3 : Nat), s = ⟨[(1, .box 1 g1 0), (3, .row 3 g3 Xj.length), (34, .list 2 (n_1.zh.map ze.pv)), (35, .int .i64 (n_1.zh.length : Int)), (36, .int .i64 am5), (37, .bool ayV)], [(1, g1, .var 28 [.str n_1.Kind, .str n_1.Text, .list 1 (n_1.Marks.map PV.str), .list 2 (n_1.zh.map ze.pv), .list 5 (n_1.Kids.map za.pv)]), (3, g3, .row false 1 (Xj.map PV.str))], nx⟩))
    (fun i s => False)
    (fun s => ∃ ahY, .inl ahY = e0 ∧ zS Tryd.prog [.tmp 2] (.bool ahY) [] .ret s) ?_ ?_ ?_ ?_
   ·refine zA ?_
    refine qd fun I hI => ?_
    have key : ∀ (suf pre : List ze) (v_8 : Int) (Vs : (List Str)), n_1.zh = pre ++ suf → v_8 = (pre.length : Int) → vU suf v_8 Vs = some e0 → ∀ (nx : Nat) (g1 : Nat) (g3 : Nat), I ⟨[(1, .box 1 g1 0), (3, .row 3 g3 Vs.length), (34, .list 2 (n_1.zh.map ze.pv)), (35, .int .i64 (n_1.zh.length : Int)), (36, .int .i64 v_8)], [(1, g1, .var 28 [.str n_1.Kind, .str n_1.Text, .list 1 (n_1.Marks.map PV.str), .list 2 (n_1.zh.map ze.pv), .list 5 (n_1.Kids.map za.pv)]), (3, g3, .row false 1 (Vs.map PV.str))], nx⟩ := by
     intro suf
     induction suf with
     | nil =>
      intro pre v_8 Vs hsplit hidx hh nx g1 g3
      rw [vU] at hh
      refine hI _ ?_
      have h18 := walk_nil hsplit hidx
      refine zb fun K kk hK => ?_
      simp only [go_sem]
      refine hK _ _ fun nx => ?_; clear hK K; try clear kk
      refine zm ?_
      refine zi (by first | exact congrArg PV.bool h18 | rfl) ?_
      refine zU ?_; refine nmx ?_
      refine wX ?_
      refine zG ?_
      refine ⟨_, (Option.some.inj hh), ?_⟩
      first | exact ⟨_, _, _, _, _, rfl⟩ | (simp only [pvE, lsE, zq]; exact ⟨_, _, _, _, _, rfl⟩) | (simp only [pvE, lsE, zq, h18, h2]; exact ⟨_, _, _, _, _, rfl⟩)
     | cons avC suf ih =>
      intro pre v_8 Vs hsplit hidx hh nx g1 g3
      rw [vU] at hh
      refine hI _ ?_
      obtain ⟨hl0a, hl0b, hl0d, hl0w, h18⟩ := qM (f := ze.pv) hsplit hidx hlen0
      refine zb fun K kk hK => ?_
      simp only [go_sem]
      refine hK _ _ fun nx => ?_; clear hK K; try clear kk
      refine zm ?_
      refine zn (by first | exact congrArg PV.bool h18 | rfl) ?_
      refine zy ?_; refine nmx ?_
      refine zm ?_
      refine zA ?_
      refine zb fun K kk hK => ?_
      simp only [go_sem, hl0a, hl0b, hl0d, hl0w]
      refine hK _ _ fun nx => ?_; clear hK K; try clear kk
      refine zm ?_
      obtain ⟨ah8, h19, hh⟩ := zf hh
      refine zb fun K kk hK => ?_
      simp only [go_sem, hl0a, hl0b, hl0d, hl0w]
      refine zg (JL _ _ h19) (by (try simp only [go_sem, hl0a, hl0b, hl0d, hl0w]) <;> exact wkl) (by rfl) (by rfl) ?_
      simp only [go_sem, hl0a, hl0b, hl0d, hl0w]
      refine hK _ _ fun nx => ?_; clear hK K; try clear kk
      by_cases h20 : (!ah8) = true
      ·rw [if_pos h20] at hh
       refine zn (by first | exact congrArg PV.bool h20 | rfl) ?_
       refine zb fun K kk hK => ?_
       simp only [go_sem, hl0a, hl0b, hl0d, hl0w]
       refine hK _ _ fun nx => ?_; clear hK K; try clear kk
       refine zk ?_; refine nmx ?_
       refine yN ⟨_, (Option.some.inj hh), ?_⟩
       exact zz
      ·rw [if_neg h20] at hh
       replace h20 := Bool.eq_false_iff.mpr h20
       refine zi (by first | exact congrArg PV.bool h20 | rfl) ?_
       refine zy ?_; refine nmx ?_
       obtain ⟨agW, h21, hh⟩ := zf hh
       obtain ⟨h21a, h21c⟩ := zV h21
       have h21d := qI (f := PV.str) h21c
       have h21e := qK h21c
       try simp only [List.length_cons, List.length_nil, Nat.zero_add, Nat.reduceAdd] at h21a h21e
       try simp only [h21e] at h21a
       try simp only [List.map_cons, List.map_nil, List.nil_append, List.append_nil, List.cons_append, List.singleton_append, zq, pvE] at h21d
       refine zu fun K kk hK => ?_
       simp only [go_sem, h21a, h21d, h21e, hl0a, hl0b, hl0d, hl0w]
       (repeat refine sd ?_)
       refine hK _ _ fun nx => ?_; clear hK K; try clear kk
       refine nmx ?_
       refine zu fun K kk hK => ?_
       simp only [go_sem, hl0a, hl0b, hl0d, hl0w]
       refine hK _ _ fun nx => ?_; clear hK K; try clear kk
       refine nmx ?_
       have ih' := ih (pre ++ [avC]) (v_8 + 1) _ (by rw [hsplit]; simp) (by simp [hidx]) hh nx
       refine zG ?_
       first | exact ih' _ _ | (simp only [pvE, lsE, zq, h21e] at ih' ⊢; exact ih' _ _) | (simp only [pvE, lsE, zq, h21e, h18, h2, h20] at ih' ⊢; exact ih' _ _)
    exact key n_1.zh [] _ _ rfl rfl f0 _ _ _
   ·rintro s ⟨t, hless, Xj, rfl, am5, ayV, nx, g1, g3, rfl⟩
    try dsimp only at hh
    refine nmy ?_
    first | (refine wh hless ?_; try refine ku ?_) | refine qD hless ?_ | refine qE hless ?_
    refine zm ?_
    obtain ⟨alO, h22, hh⟩ := zf hh
    by_cases h23 : (!alO) = true
    ·rw [if_pos h23] at hh
     refine zb fun K kk hK => ?_
     simp only [go_sem, h23]
     (repeat refine sd ?_)
     refine zg (wC _ _ h22) (by (try simp only [go_sem, h23]) <;> exact wkl) (by rfl) (by rfl) ?_
     simp only [go_sem, h23]
     (repeat refine sd ?_)
     refine hK _ _ fun nx => ?_; clear hK K; try clear kk
     refine zn rfl ?_
     refine zb fun K kk hK => ?_
     simp only [go_sem]
     refine hK _ _ fun nx => ?_; clear hK K; try clear kk
     refine zk ?_; refine nmx ?_
     obtain hR := Option.some.inj hh
     subst hR
     exact zz
    ·rw [if_neg h23] at hh
     replace h23 := Bool.eq_false_iff.mpr h23
     by_cases h24 : (!(n_1.Text == ([] : Str))) = true
     ·rw [if_pos h24] at hh
      refine zb fun K kk hK => ?_
      simp only [go_sem, h23, h24]
      (repeat refine sd ?_)
      refine zg (wC _ _ h22) (by (try simp only [go_sem, h23, h24]) <;> exact wkl) (by rfl) (by rfl) ?_
      simp only [go_sem, h23, h24]
      (repeat refine sd ?_)
      refine hK _ _ fun nx => ?_; clear hK K; try clear kk
      refine zn rfl ?_
      refine zb fun K kk hK => ?_
      simp only [go_sem]
      refine hK _ _ fun nx => ?_; clear hK K; try clear kk
      refine zk ?_; refine nmx ?_
      obtain hR := Option.some.inj hh
      subst hR
      exact zz
     ·rw [if_neg h24] at hh
      replace h24 := Bool.eq_false_iff.mpr h24
      by_cases h25 : (decide ((n_1.Marks.length : Int) > (0 : Int))) = true
      ·rw [if_pos h25] at hh
       refine zb fun K kk hK => ?_
       simp only [go_sem, h23, h24, h25, of_decide_eq_true h25]
       (repeat refine sd ?_)
       refine zg (wC _ _ h22) (by (try simp only [go_sem, h23, h24, h25, of_decide_eq_true h25]) <;> exact wkl) (by rfl) (by rfl) ?_
       simp only [go_sem, h23, h24, h25, of_decide_eq_true h25]
       (repeat refine sd ?_)
       refine hK _ _ fun nx => ?_; clear hK K; try clear kk
       refine zn rfl ?_
       refine zb fun K kk hK => ?_
       simp only [go_sem]
       refine hK _ _ fun nx => ?_; clear hK K; try clear kk
       refine zk ?_; refine nmx ?_
       obtain hR := Option.some.inj hh
       subst hR
       exact zz
      ·rw [if_neg h25] at hh
       replace h25 := Bool.eq_false_iff.mpr h25
       obtain ⟨amq, h26, hh⟩ := zf hh
       refine zb fun K kk hK => ?_
       simp only [go_sem, h23, h24, h25, of_decide_eq_false h25]
       (repeat refine sd ?_)
       refine zg (wC _ _ h22) (by (try simp only [go_sem, h23, h24, h25, of_decide_eq_false h25]) <;> exact wkl) (by rfl) (by rfl) ?_
       simp only [go_sem, h23, h24, h25, of_decide_eq_false h25]
       (repeat refine sd ?_)
       refine zg (XL _ _ h26) (by (try simp only [go_sem, h23, h24, h25, of_decide_eq_false h25]) <;> exact wkl) (by rfl) (by rfl) ?_
       simp only [go_sem, h23, h24, h25, of_decide_eq_false h25]
       (repeat refine sd ?_)
       refine hK _ _ fun nx => ?_; clear hK K; try clear kk
       by_cases h27 : (!amq) = true
       ·rw [if_pos h27] at hh
        refine zn (by first | exact congrArg PV.bool h27 | rfl) ?_
        refine zb fun K kk hK => ?_
        simp only [go_sem]
        refine hK _ _ fun nx => ?_; clear hK K; try clear kk
        refine zk ?_; refine nmx ?_
        obtain hR := Option.some.inj hh
        subst hR
        exact zz
       ·rw [if_neg h27] at hh
        replace h27 := Bool.eq_false_iff.mpr h27
        refine zi (by first | exact congrArg PV.bool h27 | rfl) ?_
        refine zy ?_; refine nmx ?_
        refine zm ?_
        refine zb fun K kk hK => ?_
        simp only [go_sem]
        refine hK _ _ fun nx => ?_; clear hK K; try clear kk
        obtain ⟨e1, f1, hh⟩ := zf hh
        obtain ⟨hlen1, f1⟩ := qf f1
        refine qp (kC (fun s => .inr () = e1 ∧ ∃ (aym : Int) (ayP : Bool) (nx : Nat) (g1 : Nat), s = ⟨[(1, .box 1 g1 0), (71, .list 5 (n_1.Kids.map za.pv)), (72, .int .i64 (n_1.Kids.length : Int)), (73, .int .i64 aym), (74, .bool ayP)], [(1, g1, .var 28 [.str n_1.Kind, .str n_1.Text, .list 1 (n_1.Marks.map PV.str), .list 2 (n_1.zh.map ze.pv), .list 5 (n_1.Kids.map za.pv)])], nx⟩))
         (fun i s => False)
         (fun s => ∃ aiV, .inl aiV = e1 ∧ zS Tryd.prog [.tmp 2] (.bool aiV) [] .ret s) ?_ ?_ ?_ ?_
        ·refine zA ?_
         refine qd fun I hI => ?_
         have key : ∀ (suf pre : List za) (aan : Int), n_1.Kids = pre ++ suf → aan = (pre.length : Int) → kY n_1 (vo kr) suf aan = some e1 → ∀ (nx : Nat) (g1 : Nat), I ⟨[(1, .box 1 g1 0), (71, .list 5 (n_1.Kids.map za.pv)), (72, .int .i64 (n_1.Kids.length : Int)), (73, .int .i64 aan)], [(1, g1, .var 28 [.str n_1.Kind, .str n_1.Text, .list 1 (n_1.Marks.map PV.str), .list 2 (n_1.zh.map ze.pv), .list 5 (n_1.Kids.map za.pv)])], nx⟩ := by
          intro suf
          induction suf with
          | nil =>
           intro pre aan hsplit hidx hh nx g1
           rw [kY] at hh
           refine hI _ ?_
           have h44 := walk_nil hsplit hidx
           refine zb fun K kk hK => ?_
           simp only [go_sem]
           refine hK _ _ fun nx => ?_; clear hK K; try clear kk
           refine zm ?_
           refine zi (by first | exact congrArg PV.bool h44 | rfl) ?_
           refine zU ?_; refine nmx ?_
           refine wX ?_
           refine zG ?_
           refine ⟨(Option.some.inj hh), ?_⟩
           first | exact ⟨_, _, _, _, rfl⟩ | (simp only [pvE, lsE, zq]; exact ⟨_, _, _, _, rfl⟩) | (simp only [pvE, lsE, zq, h2, h23, h24, h25, h27, h44]; exact ⟨_, _, _, _, rfl⟩)
          | cons auA suf ih =>
           intro pre aan hsplit hidx hh nx g1
           rw [kY] at hh
           refine hI _ ?_
           obtain ⟨hl1a, hl1b, hl1d, hl1w, h44⟩ := qM (f := za.pv) hsplit hidx hlen1
           refine zb fun K kk hK => ?_
           simp only [go_sem]
           refine hK _ _ fun nx => ?_; clear hK K; try clear kk
           refine zm ?_
           refine zn (by first | exact congrArg PV.bool h44 | rfl) ?_
           refine zy ?_; refine nmx ?_
           refine zm ?_
           refine zA ?_
           refine zb fun K kk hK => ?_
           simp only [go_sem, hl1a, hl1b, hl1d, hl1w]
           refine hK _ _ fun nx => ?_; clear hK K; try clear kk
           obtain ⟨afE, h45, hh⟩ := zf hh
           by_cases h46 : (!afE) = true
           ·rw [if_pos h46] at hh
            refine zb fun K kk hK => ?_
            simp only [go_sem, h46, hl1a, hl1b, hl1d, hl1w]
            (repeat refine sd ?_)
            refine zg (ih_node_formed _ _ h45) (by (try simp only [go_sem, h46, hl1a, hl1b, hl1d, hl1w]) <;> exact wkl) (by rfl) (by rfl) ?_
            simp only [go_sem, h46, hl1a, hl1b, hl1d, hl1w]
            (repeat refine sd ?_)
            refine hK _ _ fun nx => ?_; clear hK K; try clear kk
            refine zn rfl ?_
            refine zb fun K kk hK => ?_
            simp only [go_sem, hl1a, hl1b, hl1d, hl1w]
            refine hK _ _ fun nx => ?_; clear hK K; try clear kk
            refine zk ?_; refine nmx ?_
            refine yN ⟨_, (Option.some.inj hh), ?_⟩
            exact zz
           ·rw [if_neg h46] at hh
            replace h46 := Bool.eq_false_iff.mpr h46
            by_cases h47 : (decide (aan > (0 : Int))) = true
            ·rw [if_pos h47] at hh
             obtain ⟨ayd, h48, hh⟩ := zf hh
             obtain ⟨h48a, h48b, h48c⟩ := rd_some h48
             have h48d := kE (f := za.pv) h48c
             have h48f := wo (f := za.pv) h48c
             try simp only [Int.toNat_natCast, Int.reduceToNat] at h48d h48f
             obtain ⟨ah3, h49, hh⟩ := zf hh
             refine zb fun K kk hK => ?_
             simp only [go_sem, h46, h47, of_decide_eq_true h47, h48a, h48b, h48d, h48f.1, h48f.2, hl1a, hl1b, hl1d, hl1w]
             (repeat refine sd ?_)
             refine zg (ih_node_formed _ _ h45) (by (try simp only [go_sem, h46, h47, of_decide_eq_true h47, h48a, h48b, h48d, h48f.1, h48f.2, hl1a, hl1b, hl1d, hl1w]) <;> exact wkl) (by rfl) (by rfl) ?_
             simp only [go_sem, h46, h47, of_decide_eq_true h47, h48a, h48b, h48d, h48f.1, h48f.2, hl1a, hl1b, hl1d, hl1w]
             (repeat refine sd ?_)
             refine zg (JM _ _ _ h49) (by (try simp only [go_sem, h46, h47, of_decide_eq_true h47, h48a, h48b, h48d, h48f.1, h48f.2, hl1a, hl1b, hl1d, hl1w]) <;> exact wkl) (by rfl) (by rfl) ?_
             simp only [go_sem, h46, h47, of_decide_eq_true h47, h48a, h48b, h48d, h48f.1, h48f.2, hl1a, hl1b, hl1d, hl1w]
             (repeat refine sd ?_)
             refine hK _ _ fun nx => ?_; clear hK K; try clear kk
             by_cases h50 : (ah3) = true
             ·rw [if_pos h50] at hh
              refine zn (by first | exact congrArg PV.bool h50 | rfl) ?_
              refine zb fun K kk hK => ?_
              simp only [go_sem, hl1a, hl1b, hl1d, hl1w]
              refine hK _ _ fun nx => ?_; clear hK K; try clear kk
              refine zk ?_; refine nmx ?_
              refine yN ⟨_, (Option.some.inj hh), ?_⟩
              exact zz
             ·rw [if_neg h50] at hh
              replace h50 := Bool.eq_false_iff.mpr h50
              refine zi (by first | exact congrArg PV.bool h50 | rfl) ?_
              refine zy ?_; refine nmx ?_
              refine zu fun K kk hK => ?_
              simp only [go_sem, hl1a, hl1b, hl1d, hl1w]
              refine hK _ _ fun nx => ?_; clear hK K; try clear kk
              refine nmx ?_
              have ih' := ih (pre ++ [auA]) (aan + 1) (by rw [hsplit]; simp) (by simp [hidx]) hh nx
              refine zG ?_
              first | exact ih' _ | (simp only [pvE, lsE, zq] at ih' ⊢; exact ih' _) | (simp only [pvE, lsE, zq, h2, h23, h24, h25, h27, h44, h46, h47, h50] at ih' ⊢; exact ih' _)
            ·rw [if_neg h47] at hh
             replace h47 := Bool.eq_false_iff.mpr h47
             refine zb fun K kk hK => ?_
             simp only [go_sem, h46, h47, of_decide_eq_false h47, hl1a, hl1b, hl1d, hl1w]
             (repeat refine sd ?_)
             refine zg (ih_node_formed _ _ h45) (by (try simp only [go_sem, h46, h47, of_decide_eq_false h47, hl1a, hl1b, hl1d, hl1w]) <;> exact wkl) (by rfl) (by rfl) ?_
             simp only [go_sem, h46, h47, of_decide_eq_false h47, hl1a, hl1b, hl1d, hl1w]
             (repeat refine sd ?_)
             refine hK _ _ fun nx => ?_; clear hK K; try clear kk
             refine zi rfl ?_
             refine zy ?_; refine nmx ?_
             refine zu fun K kk hK => ?_
             simp only [go_sem, hl1a, hl1b, hl1d, hl1w]
             refine hK _ _ fun nx => ?_; clear hK K; try clear kk
             refine nmx ?_
             have ih' := ih (pre ++ [auA]) (aan + 1) (by rw [hsplit]; simp) (by simp [hidx]) hh nx
             refine zG ?_
             first | exact ih' _ | (simp only [pvE, lsE, zq] at ih' ⊢; exact ih' _) | (simp only [pvE, lsE, zq, h2, h23, h24, h25, h27, h44, h46, h47] at ih' ⊢; exact ih' _)
         exact key n_1.Kids [] _ rfl rfl f1 _ _
        ·rintro s ⟨t, hless, rfl, aym, ayP, nx, g1, rfl⟩
         try dsimp only at hh
         refine nmy ?_
         first | (refine wh hless ?_; try refine ku ?_) | refine qD hless ?_ | refine qE hless ?_
         refine zb fun K kk hK => ?_
         simp only [go_sem]
         refine hK _ _ fun nx => ?_; clear hK K; try clear kk
         refine zk ?_; refine nmx ?_
         obtain hR := Option.some.inj hh
         subst hR
         exact zz
        ·intro i s h; exact h.elim
        ·rintro s ⟨aiV, rfl, hb⟩
         try dsimp only at hh
         obtain hR := Option.some.inj hh
         subst hR
         refine nmx ?_
         exact hb
   ·intro i s h; exact h.elim
   ·rintro s ⟨ahY, rfl, hb⟩
    try dsimp only at hh
    obtain hR := Option.some.inj hh
    subst hR
    refine nmx ?_
    exact hb
theorem aiu (n_1 : za) (R : Bool) (hh : Ko n_1 = some R) : PC Tryd.prog 93 [.agg [.str n_1.Kind, .str n_1.Text, .list 1 (n_1.Marks.map PV.str), .list 2 (n_1.zh.map ze.pv), .list 5 (n_1.Kids.map za.pv)]] (.bool R) := by
 rw [Ko] at hh
 obtain ⟨kr, hh⟩ := jU hh
 exact (agX kr) _ _ hh
theorem ahQ : ∀ kr : Nat, (∀ (n_1 : za) (R : Int), vR kr n_1 = some R → PC Tryd.prog 94 [.agg [.str n_1.Kind, .str n_1.Text, .list 1 (n_1.Marks.map PV.str), .list 2 (n_1.zh.map ze.pv), .list 5 (n_1.Kids.map za.pv)]] (.int .i64 R)) := by
 intro kr
 induction kr with
 | zero => exact (by intro n_1 R hh; rw [vR] at hh; cases hh)
 | succ kr ih =>
  have ih_node_Depth := ih
  clear ih
  intro n_1 R hh
  rw [vR] at hh
  refine ae6 rfl ?_
  refine zb fun K kk hK => ?_
  simp only [go_sem]
  refine hK _ _ fun nx => ?_; clear hK K; try clear kk
  refine zm ?_
  obtain ⟨yY, h1, hh⟩ := zf hh
  refine zb fun K kk hK => ?_
  simp only [go_sem]
  refine zg (kV _ _ h1) (by (try simp only [go_sem]) <;> exact wkl) (by rfl) (by rfl) ?_
  simp only [go_sem]
  refine hK _ _ fun nx => ?_; clear hK K; try clear kk
  by_cases h2 : (yY) = true
  ·rw [if_pos h2] at hh
   refine zn (by first | exact congrArg PV.bool h2 | rfl) ?_
   refine zb fun K kk hK => ?_
   simp only [go_sem]
   refine hK _ _ fun nx => ?_; clear hK K; try clear kk
   refine zk ?_; refine nmx ?_
   obtain hR := Option.some.inj hh
   subst hR
   exact zz
  ·rw [if_neg h2] at hh
   replace h2 := Bool.eq_false_iff.mpr h2
   refine zi (by first | exact congrArg PV.bool h2 | rfl) ?_
   refine zy ?_; refine nmx ?_
   refine zb fun K kk hK => ?_
   simp only [go_sem]
   refine hK _ _ fun nx => ?_; clear hK K; try clear kk
   refine zm ?_
   refine zb fun K kk hK => ?_
   simp only [go_sem]
   refine hK _ _ fun nx => ?_; clear hK K; try clear kk
   obtain ⟨e0, f0, hh⟩ := zf hh
   obtain ⟨hlen0, f0⟩ := qf f0
   refine qp (kC (fun s => ∃ VO, VO = e0 ∧ ∃ (KL : Int) (JO : Bool) (nx : Nat), s = ⟨[(3, .int .i64 VO), (9, .list 5 (n_1.Kids.map za.pv)), (10, .int .i64 (n_1.Kids.length : Int)), (11, .int .i64 KL), (12, .bool JO)], [], nx⟩))
    (fun i s => False)
    (fun s => False) ?_ ?_ ?_ ?_
   ·refine zA ?_
    refine qd fun I hI => ?_
    have key : ∀ (suf pre : List za) (v_6 : Int) (Zf : Int), n_1.Kids = pre ++ suf → v_6 = (pre.length : Int) → vP (vR kr) suf v_6 Zf = some e0 → ∀ (nx : Nat), I ⟨[(3, .int .i64 Zf), (9, .list 5 (n_1.Kids.map za.pv)), (10, .int .i64 (n_1.Kids.length : Int)), (11, .int .i64 v_6)], [], nx⟩ := by
     intro suf
     induction suf with
     | nil =>
      intro pre v_6 Zf hsplit hidx hh nx
      rw [vP] at hh
      refine hI _ ?_
      have h9 := walk_nil hsplit hidx
      refine zb fun K kk hK => ?_
      simp only [go_sem]
      refine hK _ _ fun nx => ?_; clear hK K; try clear kk
      refine zm ?_
      refine zi (by first | exact congrArg PV.bool h9 | rfl) ?_
      refine zU ?_; refine nmx ?_
      refine wX ?_
      refine zG ?_
      refine ⟨_, (Option.some.inj hh), ?_⟩
      first | exact ⟨_, _, _, rfl⟩ | (simp only [pvE, lsE, zq]; exact ⟨_, _, _, rfl⟩) | (simp only [pvE, lsE, zq, h2, h9]; exact ⟨_, _, _, rfl⟩)
     | cons y_9 suf ih =>
      intro pre v_6 Zf hsplit hidx hh nx
      rw [vP] at hh
      refine hI _ ?_
      obtain ⟨hl0a, hl0b, hl0d, hl0w, h9⟩ := qM (f := za.pv) hsplit hidx hlen0
      refine zb fun K kk hK => ?_
      simp only [go_sem]
      refine hK _ _ fun nx => ?_; clear hK K; try clear kk
      refine zm ?_
      refine zn (by first | exact congrArg PV.bool h9 | rfl) ?_
      refine zy ?_; refine nmx ?_
      refine zm ?_
      refine zA ?_
      refine zb fun K kk hK => ?_
      simp only [go_sem, hl0a, hl0b, hl0d, hl0w]
      refine hK _ _ fun nx => ?_; clear hK K; try clear kk
      obtain ⟨ahy, h10, hh⟩ := zf hh
      refine zu fun K kk hK => ?_
      simp only [go_sem, hl0a, hl0b, hl0d, hl0w]
      refine zg (ih_node_Depth _ _ h10) (by (try simp only [go_sem, hl0a, hl0b, hl0d, hl0w]) <;> exact wkl) (by rfl) (by rfl) ?_
      simp only [go_sem, hl0a, hl0b, hl0d, hl0w]
      refine hK _ _ fun nx => ?_; clear hK K; try clear kk
      refine nmx ?_
      refine zu fun K kk hK => ?_
      simp only [go_sem, hl0a, hl0b, hl0d, hl0w]
      refine hK _ _ fun nx => ?_; clear hK K; try clear kk
      refine nmx ?_
      have ih' := ih (pre ++ [y_9]) (v_6 + 1) _ (by rw [hsplit]; simp) (by simp [hidx]) hh nx
      refine zG ?_
      first | exact ih' | (simp only [pvE, lsE, zq] at ih' ⊢; exact ih') | (simp only [pvE, lsE, zq, h2, h9] at ih' ⊢; exact ih')
    exact key n_1.Kids [] _ _ rfl rfl f0 _
   ·rintro s ⟨t, hless, VO, rfl, KL, JO, nx, rfl⟩
    try dsimp only at hh
    refine nmy ?_
    first | (refine wh hless ?_; try refine ku ?_) | refine qD hless ?_ | refine qE hless ?_
    refine zb fun K kk hK => ?_
    simp only [go_sem]
    refine hK _ _ fun nx => ?_; clear hK K; try clear kk
    refine zk ?_; refine nmx ?_
    obtain hR := Option.some.inj hh
    subst hR
    exact zz
   ·intro i s h; exact h.elim
   ·intro s h; exact h.elim
theorem ajy (n_1 : za) (R : Int) (hh : VT n_1 = some R) : PC Tryd.prog 94 [.agg [.str n_1.Kind, .str n_1.Text, .list 1 (n_1.Marks.map PV.str), .list 2 (n_1.zh.map ze.pv), .list 5 (n_1.Kids.map za.pv)]] (.int .i64 R) := by
 rw [VT] at hh
 obtain ⟨kr, hh⟩ := jU hh
 exact (ahQ kr) _ _ hh
theorem Kl (n_1 : za) (R : Int) (hh : yX n_1 = some R) : PC Tryd.prog 64 [.agg [.str n_1.Kind, .str n_1.Text, .list 1 (n_1.Marks.map PV.str), .list 2 (n_1.zh.map ze.pv), .list 5 (n_1.Kids.map za.pv)]] (.int .i64 R) := by
 rw [yX] at hh
 refine aeK rfl ?_
 refine zb fun K kk hK => ?_
 simp only [go_sem]
 refine hK _ _ fun nx => ?_; clear hK K; try clear kk
 refine zm ?_
 refine zA ?_
 obtain ⟨ahN, h1, hh⟩ := zf hh
 refine zb fun K kk hK => ?_
 simp only [go_sem]
 refine zg (aiu _ _ h1) (by (try simp only [go_sem]) <;> exact wkl) (by rfl) (by rfl) ?_
 simp only [go_sem]
 refine hK _ _ fun nx => ?_; clear hK K; try clear kk
 by_cases h2 : (!ahN) = true
 ·rw [if_pos h2] at hh
  refine zn (by first | exact congrArg PV.bool h2 | rfl) ?_
  refine zb fun K kk hK => ?_
  simp only [go_sem]
  refine hK _ _ fun nx => ?_; clear hK K; try clear kk
  refine zk ?_; refine nmx ?_
  obtain hR := Option.some.inj hh
  subst hR
  exact zz
 ·rw [if_neg h2] at hh
  replace h2 := Bool.eq_false_iff.mpr h2
  refine zi (by first | exact congrArg PV.bool h2 | rfl) ?_
  obtain ⟨alT, h3, hh⟩ := zf hh
  refine zb fun K kk hK => ?_
  simp only [go_sem]
  refine zg (ajy _ _ h3) (by (try simp only [go_sem]) <;> exact wkl) (by rfl) (by rfl) ?_
  simp only [go_sem]
  refine hK _ _ fun nx => ?_; clear hK K; try clear kk
  by_cases h4 : (decide (alT > (40 : Int))) = true
  ·rw [if_pos h4] at hh
   refine zn (by first | exact congrArg PV.bool h4 | rfl) ?_
   refine zb fun K kk hK => ?_
   simp only [go_sem]
   refine hK _ _ fun nx => ?_; clear hK K; try clear kk
   refine zk ?_; refine nmx ?_
   obtain hR := Option.some.inj hh
   subst hR
   exact zz
  ·rw [if_neg h4] at hh
   replace h4 := Bool.eq_false_iff.mpr h4
   refine zi (by first | exact congrArg PV.bool h4 | rfl) ?_
   obtain ⟨apf, h5, hh⟩ := zf hh
   refine zb fun K kk hK => ?_
   simp only [go_sem]
   refine zg (Q7 _ _ h5) (by (try simp only [go_sem]) <;> exact wkl) (by rfl) (by rfl) ?_
   simp only [go_sem]
   refine hK _ _ fun nx => ?_; clear hK K; try clear kk
   by_cases h6 : (decide (apf > (4000 : Int))) = true
   ·rw [if_pos h6] at hh
    refine zn (by first | exact congrArg PV.bool h6 | rfl) ?_
    refine zb fun K kk hK => ?_
    simp only [go_sem]
    refine hK _ _ fun nx => ?_; clear hK K; try clear kk
    refine zk ?_; refine nmx ?_
    obtain hR := Option.some.inj hh
    subst hR
    exact zz
   ·rw [if_neg h6] at hh
    replace h6 := Bool.eq_false_iff.mpr h6
    refine zi (by first | exact congrArg PV.bool h6 | rfl) ?_
    refine zy ?_; refine nmx ?_
    refine zb fun K kk hK => ?_
    simp only [go_sem]
    refine hK _ _ fun nx => ?_; clear hK K; try clear kk
    refine zk ?_; refine nmx ?_
    obtain hR := Option.some.inj hh
    subst hR
    exact zz
theorem xL (n_1 : za) (R : Bool) (hh : yZ n_1 = some R) : PC Tryd.prog 36 [.agg [.str n_1.Kind, .str n_1.Text, .list 1 (n_1.Marks.map PV.str), .list 2 (n_1.zh.map ze.pv), .list 5 (n_1.Kids.map za.pv)]] (.bool R) := by
 rw [yZ] at hh
 refine ae0 rfl ?_
 refine zb fun K kk hK => ?_
 simp only [go_sem]
 refine hK _ _ fun nx => ?_; clear hK K; try clear kk
 obtain ⟨aqW, h1, hh⟩ := zf hh
 refine zb fun K kk hK => ?_
 simp only [go_sem]
 refine zg (Kl _ _ h1) (by (try simp only [go_sem]) <;> exact wkl) (by rfl) (by rfl) ?_
 simp only [go_sem]
 refine hK _ _ fun nx => ?_; clear hK K; try clear kk
 refine zk ?_; refine nmx ?_
 obtain hR := Option.some.inj hh
 subst hR
 exact zz
theorem agG (x_1 : ze) (y_2 : ze) (R : Bool) (hh : Vn x_1 y_2 = some R) : PC Tryd.prog 66 [.agg [.str x_1.Name, .str x_1.Value], .agg [.str y_2.Name, .str y_2.Value]] (.bool R) := by
 rw [Vn] at hh
 refine acB rfl ?_
 refine zb fun K kk hK => ?_
 simp only [go_sem]
 refine hK _ _ fun nx => ?_; clear hK K; try clear kk
 refine zb fun K kk hK => ?_
 simp only [go_sem]
 refine hK _ _ fun nx => ?_; clear hK K; try clear kk
 refine zk ?_; refine nmx ?_
 obtain hR := Option.some.inj hh
 subst hR
 exact zz
theorem yE (kD : (List ze)) (kT : (List ze)) (R : Bool) (hh : wu kD kT = some R) : PC Tryd.prog 67 [.list 2 (kD.map ze.pv), .list 2 (kT.map ze.pv), .fn 66 []] (.bool R) := by
 rw [wu] at hh
 refine xV rfl ?_
 refine zb fun K kk hK => ?_
 simp only [go_sem]
 refine hK _ _ fun nx => ?_; clear hK K; try clear kk
 refine zm ?_
 refine zb fun K kk hK => ?_
 simp only [go_sem]
 refine hK _ _ fun nx => ?_; clear hK K; try clear kk
 by_cases h1 : ((kD.length : Int) != (kT.length : Int)) = true
 ·rw [if_pos h1] at hh
  refine zn (by first | exact congrArg PV.bool h1 | rfl) ?_
  refine zb fun K kk hK => ?_
  simp only [go_sem]
  refine hK _ _ fun nx => ?_; clear hK K; try clear kk
  refine zk ?_; refine nmx ?_
  obtain hR := Option.some.inj hh
  subst hR
  exact zz
 ·rw [if_neg h1] at hh
  replace h1 := Bool.eq_false_iff.mpr h1
  refine zi (by first | exact congrArg PV.bool h1 | rfl) ?_
  refine zy ?_; refine nmx ?_
  refine zm ?_
  refine zb fun K kk hK => ?_
  simp only [go_sem]
  refine hK _ _ fun nx => ?_; clear hK K; try clear kk
  obtain ⟨e0, f0, hh⟩ := zf hh
  obtain ⟨hlen0, f0⟩ := qf f0
  refine qp (kC (fun s => .inr () = e0 ∧ ∃ (Zy : Int) (Yc : Bool) (nx : Nat), s = ⟨[(1, .list 2 (kT.map ze.pv)), (2, .fn 66 []), (15, .list 2 (kD.map ze.pv)), (16, .int .i64 (kD.length : Int)), (17, .int .i64 Zy), (18, .bool Yc)], [], nx⟩))
   (fun i s => False)
   (fun s => ∃ V6, .inl V6 = e0 ∧ zS Tryd.prog [.tmp 6] (.bool V6) [] .ret s) ?_ ?_ ?_ ?_
  ·refine zA ?_
   refine qd fun I hI => ?_
   have key : ∀ (suf pre : List ze) (v_6 : Int), kD = pre ++ suf → v_6 = (pre.length : Int) → zM kT suf v_6 = some e0 → ∀ (nx : Nat), I ⟨[(1, .list 2 (kT.map ze.pv)), (2, .fn 66 []), (15, .list 2 (kD.map ze.pv)), (16, .int .i64 (kD.length : Int)), (17, .int .i64 v_6)], [], nx⟩ := by
    intro suf
    induction suf with
    | nil =>
     intro pre v_6 hsplit hidx hh nx
     rw [zM] at hh
     refine hI _ ?_
     have h12 := walk_nil hsplit hidx
     refine zb fun K kk hK => ?_
     simp only [go_sem]
     refine hK _ _ fun nx => ?_; clear hK K; try clear kk
     refine zm ?_
     refine zi (by first | exact congrArg PV.bool h12 | rfl) ?_
     refine zU ?_; refine nmx ?_
     refine wX ?_
     refine zG ?_
     refine ⟨(Option.some.inj hh), ?_⟩
     first | exact ⟨_, _, _, rfl⟩ | (simp only [pvE, lsE, zq]; exact ⟨_, _, _, rfl⟩) | (simp only [pvE, lsE, zq, h1, h12]; exact ⟨_, _, _, rfl⟩)
    | cons apV suf ih =>
     intro pre v_6 hsplit hidx hh nx
     rw [zM] at hh
     refine hI _ ?_
     obtain ⟨hl0a, hl0b, hl0d, hl0w, h12⟩ := qM (f := ze.pv) hsplit hidx hlen0
     refine zb fun K kk hK => ?_
     simp only [go_sem]
     refine hK _ _ fun nx => ?_; clear hK K; try clear kk
     refine zm ?_
     refine zn (by first | exact congrArg PV.bool h12 | rfl) ?_
     refine zy ?_; refine nmx ?_
     refine zm ?_
     refine zA ?_
     refine zb fun K kk hK => ?_
     simp only [go_sem, hl0a, hl0b, hl0d, hl0w]
     refine hK _ _ fun nx => ?_; clear hK K; try clear kk
     obtain ⟨aey, h13, hh⟩ := zf hh
     obtain ⟨h13a, h13b, h13c⟩ := rd_some h13
     have h13d := kE (f := ze.pv) h13c
     have h13f := wo (f := ze.pv) h13c
     try simp only [Int.toNat_natCast, Int.reduceToNat] at h13d h13f
     refine zb fun K kk hK => ?_
     simp only [go_sem, h13a, h13b, h13d, h13f.1, h13f.2, hl0a, hl0b, hl0d, hl0w]
     (repeat refine sd ?_)
     refine hK _ _ fun nx => ?_; clear hK K; try clear kk
     obtain ⟨atq, h14, hh⟩ := zf hh
     refine zb fun K kk hK => ?_
     simp only [go_sem, hl0a, hl0b, hl0d, hl0w]
     refine zg (agG _ _ _ h14) (by (try simp only [go_sem, hl0a, hl0b, hl0d, hl0w]) <;> exact wkl) (by rfl) (by rfl) ?_
     simp only [go_sem, hl0a, hl0b, hl0d, hl0w]
     refine hK _ _ fun nx => ?_; clear hK K; try clear kk
     by_cases h15 : (!atq) = true
     ·rw [if_pos h15] at hh
      refine zn (by first | exact congrArg PV.bool h15 | rfl) ?_
      refine zb fun K kk hK => ?_
      simp only [go_sem, hl0a, hl0b, hl0d, hl0w]
      refine hK _ _ fun nx => ?_; clear hK K; try clear kk
      refine zk ?_; refine nmx ?_
      refine yN ⟨_, (Option.some.inj hh), ?_⟩
      exact zz
     ·rw [if_neg h15] at hh
      replace h15 := Bool.eq_false_iff.mpr h15
      refine zi (by first | exact congrArg PV.bool h15 | rfl) ?_
      refine zy ?_; refine nmx ?_
      refine zu fun K kk hK => ?_
      simp only [go_sem, hl0a, hl0b, hl0d, hl0w]
      refine hK _ _ fun nx => ?_; clear hK K; try clear kk
      refine nmx ?_
      have ih' := ih (pre ++ [apV]) (v_6 + 1) (by rw [hsplit]; simp) (by simp [hidx]) hh nx
      refine zG ?_
      first | exact ih' | (simp only [pvE, lsE, zq] at ih' ⊢; exact ih') | (simp only [pvE, lsE, zq, h1, h12, h15] at ih' ⊢; exact ih')
   exact key kD [] _ rfl rfl f0 _
  ·rintro s ⟨t, hless, rfl, Zy, Yc, nx, rfl⟩
   try dsimp only at hh
   refine nmy ?_
   first | (refine wh hless ?_; try refine ku ?_) | refine qD hless ?_ | refine qE hless ?_
   refine zb fun K kk hK => ?_
   simp only [go_sem]
   refine hK _ _ fun nx => ?_; clear hK K; try clear kk
   refine zk ?_; refine nmx ?_
   obtain hR := Option.some.inj hh
   subst hR
   exact zz
  ·intro i s h; exact h.elim
  ·rintro s ⟨V6, rfl, hb⟩
   try dsimp only at hh
   obtain hR := Option.some.inj hh
   subst hR
   refine nmx ?_
   exact hb
theorem abZ (a_1 : za) (b_2 : za) (R : Bool) (hh : WT a_1 b_2 = some R) : PC Tryd.prog 39 [.agg [.str a_1.Kind, .str a_1.Text, .list 1 (a_1.Marks.map PV.str), .list 2 (a_1.zh.map ze.pv), .list 5 (a_1.Kids.map za.pv)], .agg [.str b_2.Kind, .str b_2.Text, .list 1 (b_2.Marks.map PV.str), .list 2 (b_2.zh.map ze.pv), .list 5 (b_2.Kids.map za.pv)]] (.bool R) := by
 rw [WT] at hh
 refine aeN rfl ?_
 refine zb fun K kk hK => ?_
 simp only [go_sem]
 refine hK _ _ fun nx => ?_; clear hK K; try clear kk
 refine zb fun K kk hK => ?_
 simp only [go_sem]
 refine hK _ _ fun nx => ?_; clear hK K; try clear kk
 by_cases h1 : (a_1.Kind == b_2.Kind) = true
 ·rw [if_pos h1] at hh
  by_cases h2 : (!(a_1.Kind == ([116, 101, 120, 116] : Str))) = true
  ·rw [if_pos h2] at hh
   obtain ⟨attr_3, h3, hh⟩ := zf hh
   refine zb fun K kk hK => ?_
   simp only [go_sem, h1, h2]
   (repeat refine sd ?_)
   refine zg (yE _ _ _ h3) (by (try simp only [go_sem, h1, h2]) <;> exact wkl) (by rfl) (by rfl) ?_
   simp only [go_sem, h1, h2]
   (repeat refine sd ?_)
   refine hK _ _ fun nx => ?_; clear hK K; try clear kk
   refine zk ?_; refine nmx ?_
   obtain hR := Option.some.inj hh
   subst hR
   exact zz
  ·rw [if_neg h2] at hh
   replace h2 := Bool.eq_false_iff.mpr h2
   refine zb fun K kk hK => ?_
   simp only [go_sem, h1, h2]
   (repeat refine sd ?_)
   refine hK _ _ fun nx => ?_; clear hK K; try clear kk
   refine zk ?_; refine nmx ?_
   obtain hR := Option.some.inj hh
   subst hR
   exact zz
 ·rw [if_neg h1] at hh
  replace h1 := Bool.eq_false_iff.mpr h1
  refine zb fun K kk hK => ?_
  simp only [go_sem, h1]
  (repeat refine sd ?_)
  refine hK _ _ fun nx => ?_; clear hK K; try clear kk
  refine zk ?_; refine nmx ?_
  obtain hR := Option.some.inj hh
  subst hR
  exact zz
theorem ZC (kD : (List ze)) (kT : (List ze)) (R : Bool) (hh : wZ kD kT = some R) : PC Tryd.prog 43 [.list 2 (kD.map ze.pv), .list 2 (kT.map ze.pv)] (.bool R) := by
 rw [wZ] at hh
 refine Vl rfl ?_
 refine zb fun K kk hK => ?_
 simp only [go_sem]
 refine hK _ _ fun nx => ?_; clear hK K; try clear kk
 refine zm ?_
 refine zb fun K kk hK => ?_
 simp only [go_sem]
 refine hK _ _ fun nx => ?_; clear hK K; try clear kk
 by_cases h1 : ((kD.length : Int) != (kT.length : Int)) = true
 ·rw [if_pos h1] at hh
  refine zn (by first | exact congrArg PV.bool h1 | rfl) ?_
  refine zb fun K kk hK => ?_
  simp only [go_sem]
  refine hK _ _ fun nx => ?_; clear hK K; try clear kk
  refine zk ?_; refine nmx ?_
  obtain hR := Option.some.inj hh
  subst hR
  exact zz
 ·rw [if_neg h1] at hh
  replace h1 := Bool.eq_false_iff.mpr h1
  refine zi (by first | exact congrArg PV.bool h1 | rfl) ?_
  refine zy ?_; refine nmx ?_
  refine zm ?_
  refine zb fun K kk hK => ?_
  simp only [go_sem]
  refine hK _ _ fun nx => ?_; clear hK K; try clear kk
  obtain ⟨e0, f0, hh⟩ := zf hh
  obtain ⟨hlen0, f0⟩ := qf f0
  refine qp (kC (fun s => .inr () = e0 ∧ ∃ (WU : Int) (KL : Bool) (nx : Nat), s = ⟨[(0, .list 2 (kD.map ze.pv)), (1, .list 2 (kT.map ze.pv)), (12, .int .i64 (kD.length : Int)), (13, .int .i64 WU), (14, .bool KL)], [], nx⟩))
   (fun i s => False)
   (fun s => ∃ kG, .inl kG = e0 ∧ zS Tryd.prog [.tmp 4] (.bool kG) [] .ret s) ?_ ?_ ?_ ?_
  ·refine zA ?_
   refine qd fun I hI => ?_
   have key : ∀ (suf pre : List ze) (v_5 : Int), kD = pre ++ suf → v_5 = (pre.length : Int) → qa kT suf v_5 = some e0 → ∀ (nx : Nat), I ⟨[(0, .list 2 (kD.map ze.pv)), (1, .list 2 (kT.map ze.pv)), (12, .int .i64 (kD.length : Int)), (13, .int .i64 v_5)], [], nx⟩ := by
    intro suf
    induction suf with
    | nil =>
     intro pre v_5 hsplit hidx hh nx
     rw [qa] at hh
     refine hI _ ?_
     have h10 := walk_nil hsplit hidx
     refine zb fun K kk hK => ?_
     simp only [go_sem]
     refine hK _ _ fun nx => ?_; clear hK K; try clear kk
     refine zm ?_
     refine zi (by first | exact congrArg PV.bool h10 | rfl) ?_
     refine zU ?_; refine nmx ?_
     refine wX ?_
     refine zG ?_
     refine ⟨(Option.some.inj hh), ?_⟩
     first | exact ⟨_, _, _, rfl⟩ | (simp only [pvE, lsE, zq]; exact ⟨_, _, _, rfl⟩) | (simp only [pvE, lsE, zq, h1, h10]; exact ⟨_, _, _, rfl⟩)
    | cons y_8 suf ih =>
     intro pre v_5 hsplit hidx hh nx
     rw [qa] at hh
     refine hI _ ?_
     obtain ⟨hl0a, hl0b, hl0d, hl0w, h10⟩ := qM (f := ze.pv) hsplit hidx hlen0
     refine zb fun K kk hK => ?_
     simp only [go_sem]
     refine hK _ _ fun nx => ?_; clear hK K; try clear kk
     refine zm ?_
     refine zn (by first | exact congrArg PV.bool h10 | rfl) ?_
     refine zy ?_; refine nmx ?_
     refine zm ?_
     refine zA ?_
     refine zb fun K kk hK => ?_
     simp only [go_sem, hl0a, hl0b, hl0d, hl0w]
     refine hK _ _ fun nx => ?_; clear hK K; try clear kk
     obtain ⟨x_9, h11, hh⟩ := zf hh
     obtain ⟨h11a, h11b, h11c⟩ := rd_some h11
     have h11d := kE (f := ze.pv) h11c
     have h11f := wo (f := ze.pv) h11c
     try simp only [Int.toNat_natCast, Int.reduceToNat] at h11d h11f
     refine zb fun K kk hK => ?_
     simp only [go_sem, h11a, h11b, h11d, h11f.1, h11f.2, hl0a, hl0b, hl0d, hl0w]
     (repeat refine sd ?_)
     refine hK _ _ fun nx => ?_; clear hK K; try clear kk
     by_cases h12 : ((((y_8.Name == x_9.Name) && (y_8.Value == x_9.Value)) != true)) = true
     ·rw [if_pos h12] at hh
      refine zn (by first | exact congrArg PV.bool h12 | rfl) ?_
      refine zb fun K kk hK => ?_
      simp only [go_sem, hl0a, hl0b, hl0d, hl0w]
      refine hK _ _ fun nx => ?_; clear hK K; try clear kk
      refine zk ?_; refine nmx ?_
      refine yN ⟨_, (Option.some.inj hh), ?_⟩
      exact zz
     ·rw [if_neg h12] at hh
      replace h12 := Bool.eq_false_iff.mpr h12
      refine zi (by first | exact congrArg PV.bool h12 | rfl) ?_
      refine zy ?_; refine nmx ?_
      refine zu fun K kk hK => ?_
      simp only [go_sem, hl0a, hl0b, hl0d, hl0w]
      refine hK _ _ fun nx => ?_; clear hK K; try clear kk
      refine nmx ?_
      have ih' := ih (pre ++ [y_8]) (v_5 + 1) (by rw [hsplit]; simp) (by simp [hidx]) hh nx
      refine zG ?_
      first | exact ih' | (simp only [pvE, lsE, zq] at ih' ⊢; exact ih') | (simp only [pvE, lsE, zq, h1, h10, h12] at ih' ⊢; exact ih')
   exact key kD [] _ rfl rfl f0 _
  ·rintro s ⟨t, hless, rfl, WU, KL, nx, rfl⟩
   try dsimp only at hh
   refine nmy ?_
   first | (refine wh hless ?_; try refine ku ?_) | refine qD hless ?_ | refine qE hless ?_
   refine zb fun K kk hK => ?_
   simp only [go_sem]
   refine hK _ _ fun nx => ?_; clear hK K; try clear kk
   refine zk ?_; refine nmx ?_
   obtain hR := Option.some.inj hh
   subst hR
   exact zz
  ·intro i s h; exact h.elim
  ·rintro s ⟨kG, rfl, hb⟩
   try dsimp only at hh
   obtain hR := Option.some.inj hh
   subst hR
   refine nmx ?_
   exact hb
end Go.Proofs.YtclohbgnaopjfaaDoor
