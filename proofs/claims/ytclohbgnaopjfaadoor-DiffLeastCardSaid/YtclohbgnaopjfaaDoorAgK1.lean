/- Texts of the proof of diffLeastCard -/
import Derived.Test.YtclohbgnaopjfaaDoorAgC
import Derived.Test.YtclohbgnaopjfaaDoorAgF
import Derived.Test.YtclohbgnaopjfaaDoorAgK0
namespace Go.Proofs.YtclohbgnaopjfaaDoor
set_option linter.unusedSimpArgs false
set_option linter.unusedVariables false
open Go
set_option maxRecDepth 100000
theorem afz : ∀ kr : Nat, (∀ (n_1 : za) (R : Bool), kS kr n_1 = some R → PC Tryd.prog 93 [.agg [.str n_1.Kind, .str n_1.Text, .list 1 (n_1.Marks.map PV.str), .list 2 (n_1.zh.map ze.pv), .list 5 (n_1.Kids.map za.pv)]] (.bool R)) := by
 intro kr
 induction kr with
 | zero => exact (by intro n_1 R hh; rw [kS] at hh; cases hh)
 | succ kr ih =>
  have ih_node_formed := ih
  clear ih
  intro n_1 R hh
  rw [kS] at hh
  refine acZ rfl ?_
  refine zb fun K kk hK => ?_
  simp only [go_sem]
  refine hK _ _ fun nx => ?_; clear hK K; try clear kk
  refine zn ?_
  obtain ⟨yI, h1, hh⟩ := zf hh
  refine zb fun K kk hK => ?_
  simp only [go_sem]
  refine zg (kH _ _ h1) (by (try simp only [go_sem]) <;> exact wkl) (by rfl) (by rfl) ?_
  simp only [go_sem]
  refine hK _ _ fun nx => ?_; clear hK K; try clear kk
  by_cases h2 : (yI) = true
  ·rw [if_pos h2] at hh
   refine zm (by first | exact congrArg PV.bool h2 | rfl) ?_
   by_cases h3 : (!(n_1.Text == ([] : Str))) = true
   ·rw [if_pos h3] at hh
    obtain ⟨agT, h4, hh⟩ := zf hh
    by_cases h5 : (agT) = true
    ·rw [if_pos h5] at hh
     obtain ⟨anW, h6, hh⟩ := zf hh
     by_cases h7 : (anW) = true
     ·rw [if_pos h7] at hh
      refine zb fun K kk hK => ?_
      simp only [go_sem, h3, h5, h7]
      (repeat refine sd ?_)
      refine zg (kQ _ _ h4) (by (try simp only [go_sem, h3, h5, h7]) <;> exact wkl) (by rfl) (by rfl) ?_
      simp only [go_sem, h3, h5, h7]
      (repeat refine sd ?_)
      refine zg (Xd _ _ h6) (by (try simp only [go_sem, h3, h5, h7]) <;> exact wkl) (by rfl) (by rfl) ?_
      simp only [go_sem, h3, h5, h7]
      (repeat refine sd ?_)
      refine hK _ _ fun nx => ?_; clear hK K; try clear kk
      refine zk ?_; refine nmx ?_
      obtain hR := Option.some.inj hh
      subst hR
      exact zy
     ·rw [if_neg h7] at hh
      replace h7 := Bool.eq_false_iff.mpr h7
      refine zb fun K kk hK => ?_
      simp only [go_sem, h3, h5, h7]
      (repeat refine sd ?_)
      refine zg (kQ _ _ h4) (by (try simp only [go_sem, h3, h5, h7]) <;> exact wkl) (by rfl) (by rfl) ?_
      simp only [go_sem, h3, h5, h7]
      (repeat refine sd ?_)
      refine zg (Xd _ _ h6) (by (try simp only [go_sem, h3, h5, h7]) <;> exact wkl) (by rfl) (by rfl) ?_
      simp only [go_sem, h3, h5, h7]
      (repeat refine sd ?_)
      refine hK _ _ fun nx => ?_; clear hK K; try clear kk
      refine zk ?_; refine nmx ?_
      obtain hR := Option.some.inj hh
      subst hR
      exact zy
    ·rw [if_neg h5] at hh
     replace h5 := Bool.eq_false_iff.mpr h5
     refine zb fun K kk hK => ?_
     simp only [go_sem, h3, h5]
     (repeat refine sd ?_)
     refine zg (kQ _ _ h4) (by (try simp only [go_sem, h3, h5]) <;> exact wkl) (by rfl) (by rfl) ?_
     simp only [go_sem, h3, h5]
     (repeat refine sd ?_)
     refine hK _ _ fun nx => ?_; clear hK K; try clear kk
     refine zk ?_; refine nmx ?_
     obtain hR := Option.some.inj hh
     subst hR
     exact zy
   ·rw [if_neg h3] at hh
    replace h3 := Bool.eq_false_iff.mpr h3
    refine zb fun K kk hK => ?_
    simp only [go_sem, h3]
    (repeat refine sd ?_)
    refine hK _ _ fun nx => ?_; clear hK K; try clear kk
    refine zk ?_; refine nmx ?_
    obtain hR := Option.some.inj hh
    subst hR
    exact zy
  ·rw [if_neg h2] at hh
   replace h2 := Bool.eq_false_iff.mpr h2
   refine zi (by first | exact congrArg PV.bool h2 | rfl) ?_
   refine zt ?_; refine nmx ?_
   refine zb fun K kk hK => ?_
   simp only [go_sem]
   refine hK _ _ fun nx => ?_; clear hK K; try clear kk
   refine zn ?_
   refine zb fun K kk hK => ?_
   simp only [go_sem]
   refine hK _ _ fun nx => ?_; clear hK K; try clear kk
   obtain ⟨e0, f0, hh⟩ := zf hh
   obtain ⟨hlen0, f0⟩ := qf f0
   refine qH (w9 (fun s => ∃ JI, .inr JI = e0 ∧ ∃ (al4 : Int) (avF : Bool) (nx : Nat) (g1 : Nat) (g3 : Nat), s = ⟨[(1, .box 1 g1 0), (3, .row 3 g3 JI.length), (34, .list 2 (n_1.zh.map ze.pv)), (35, .int .i64 (n_1.zh.length : Int)), (36, .int .i64 al4), (37, .bool avF)], [(1, g1, .var 28 [.str n_1.Kind, .str n_1.Text, .list 1 (n_1.Marks.map PV.str), .list 2 (n_1.zh.map ze.pv), .list 5 (n_1.Kids.map za.pv)]), (3, g3, .row false 1 (JI.map PV.str))], nx⟩))
    (fun i s => False)
    (fun s => ∃ agn, .inl agn = e0 ∧ zS Tryd.prog [.tmp 2] (.bool agn) [] .ret s) ?_ ?_ ?_ ?_
   ·refine zA ?_
    refine qb fun I hI => ?_
    have key : ∀ (suf pre : List ze) (v_8 : Int) (KL : (List Str)), n_1.zh = pre ++ suf → v_8 = (pre.length : Int) → vN suf v_8 KL = some e0 → ∀ (nx : Nat) (g1 : Nat) (g3 : Nat), I ⟨[(1, .box 1 g1 0), (3, .row 3 g3 KL.length), (34, .list 2 (n_1.zh.map ze.pv)), (35, .int .i64 (n_1.zh.length : Int)), (36, .int .i64 v_8)], [(1, g1, .var 28 [.str n_1.Kind, .str n_1.Text, .list 1 (n_1.Marks.map PV.str), .list 2 (n_1.zh.map ze.pv), .list 5 (n_1.Kids.map za.pv)]), (3, g3, .row false 1 (KL.map PV.str))], nx⟩ := by
     intro suf
     induction suf with
     | nil =>
      intro pre v_8 KL hsplit hidx hh nx g1 g3
      rw [vN] at hh
      refine hI _ ?_
      have h18 := walk_nil hsplit hidx
      refine zb fun K kk hK => ?_
      simp only [go_sem]
      refine hK _ _ fun nx => ?_; clear hK K; try clear kk
      refine zn ?_
      refine zi (by first | exact congrArg PV.bool h18 | rfl) ?_
      refine zU ?_; refine nmx ?_
      refine wU ?_
      refine zG ?_
      refine ⟨_, (Option.some.inj hh), ?_⟩
      first | exact ⟨_, _, _, _, _, rfl⟩ | (simp only [pvE, lsE, zo]; exact ⟨_, _, _, _, _, rfl⟩) | (simp only [pvE, lsE, zo, h18, h2]; exact ⟨_, _, _, _, _, rfl⟩)
     | cons aul suf ih =>
      intro pre v_8 KL hsplit hidx hh nx g1 g3
      rw [vN] at hh
      refine hI _ ?_
      obtain ⟨hl0a, hl0b, hl0d, hl0w, h18⟩ := qX (f := ze.pv) hsplit hidx hlen0
      refine zb fun K kk hK => ?_
      simp only [go_sem]
      refine hK _ _ fun nx => ?_; clear hK K; try clear kk
      refine zn ?_
      refine zm (by first | exact congrArg PV.bool h18 | rfl) ?_
      refine zt ?_; refine nmx ?_
      refine zn ?_
      refine zA ?_
      refine zb fun K kk hK => ?_
      simp only [go_sem, hl0a, hl0b, hl0d, hl0w]
      refine hK _ _ fun nx => ?_; clear hK K; try clear kk
      refine zn ?_
      obtain ⟨agF, h19, hh⟩ := zf hh
      refine zb fun K kk hK => ?_
      simp only [go_sem, hl0a, hl0b, hl0d, hl0w]
      refine zg (Jk _ _ h19) (by (try simp only [go_sem, hl0a, hl0b, hl0d, hl0w]) <;> exact wkl) (by rfl) (by rfl) ?_
      simp only [go_sem, hl0a, hl0b, hl0d, hl0w]
      refine hK _ _ fun nx => ?_; clear hK K; try clear kk
      by_cases h20 : (!agF) = true
      ·rw [if_pos h20] at hh
       refine zm (by first | exact congrArg PV.bool h20 | rfl) ?_
       refine zb fun K kk hK => ?_
       simp only [go_sem, hl0a, hl0b, hl0d, hl0w]
       refine hK _ _ fun nx => ?_; clear hK K; try clear kk
       refine zk ?_; refine nmx ?_
       refine QF ⟨_, (Option.some.inj hh), ?_⟩
       exact zy
      ·rw [if_neg h20] at hh
       replace h20 := Bool.eq_false_iff.mpr h20
       refine zi (by first | exact congrArg PV.bool h20 | rfl) ?_
       refine zt ?_; refine nmx ?_
       obtain ⟨afw, h21, hh⟩ := zf hh
       obtain ⟨h21a, h21c⟩ := zW h21
       have h21d := qM (f := PV.str) h21c
       have h21e := qL h21c
       try simp only [List.length_cons, List.length_nil, Nat.zero_add, Nat.reduceAdd] at h21a h21e
       try simp only [h21e] at h21a
       try simp only [List.map_cons, List.map_nil, List.nil_append, List.append_nil, List.cons_append, List.singleton_append, zo, pvE] at h21d
       refine zq fun K kk hK => ?_
       simp only [go_sem, h21a, h21d, h21e, hl0a, hl0b, hl0d, hl0w]
       (repeat refine sd ?_)
       refine hK _ _ fun nx => ?_; clear hK K; try clear kk
       refine nmx ?_
       refine zq fun K kk hK => ?_
       simp only [go_sem, hl0a, hl0b, hl0d, hl0w]
       refine hK _ _ fun nx => ?_; clear hK K; try clear kk
       refine nmx ?_
       have ih' := ih (pre ++ [aul]) (v_8 + 1) _ (by rw [hsplit]; simp) (by simp [hidx]) hh nx
       refine zG ?_
       first | exact ih' _ _ | (simp only [pvE, lsE, zo, h21e] at ih' ⊢; exact ih' _ _) | (simp only [pvE, lsE, zo, h21e, h18, h2, h20] at ih' ⊢; exact ih' _ _)
    exact key n_1.zh [] _ _ rfl rfl f0 _ _ _
   ·rintro s ⟨t, hless, JI, rfl, al4, avF, nx, g1, g3, rfl⟩
    try dsimp only at hh
    refine nmy ?_
    first | (refine wG hless ?_; try refine ku ?_) | refine qP hless ?_ | refine qQ hless ?_
    refine zn ?_
    obtain ⟨akJ, h22, hh⟩ := zf hh
    by_cases h23 : (!akJ) = true
    ·rw [if_pos h23] at hh
     refine zb fun K kk hK => ?_
     simp only [go_sem, h23]
     (repeat refine sd ?_)
     refine zg (wh _ _ h22) (by (try simp only [go_sem, h23]) <;> exact wkl) (by rfl) (by rfl) ?_
     simp only [go_sem, h23]
     (repeat refine sd ?_)
     refine hK _ _ fun nx => ?_; clear hK K; try clear kk
     refine zm rfl ?_
     refine zb fun K kk hK => ?_
     simp only [go_sem]
     refine hK _ _ fun nx => ?_; clear hK K; try clear kk
     refine zk ?_; refine nmx ?_
     obtain hR := Option.some.inj hh
     subst hR
     exact zy
    ·rw [if_neg h23] at hh
     replace h23 := Bool.eq_false_iff.mpr h23
     by_cases h24 : (!(n_1.Text == ([] : Str))) = true
     ·rw [if_pos h24] at hh
      refine zb fun K kk hK => ?_
      simp only [go_sem, h23, h24]
      (repeat refine sd ?_)
      refine zg (wh _ _ h22) (by (try simp only [go_sem, h23, h24]) <;> exact wkl) (by rfl) (by rfl) ?_
      simp only [go_sem, h23, h24]
      (repeat refine sd ?_)
      refine hK _ _ fun nx => ?_; clear hK K; try clear kk
      refine zm rfl ?_
      refine zb fun K kk hK => ?_
      simp only [go_sem]
      refine hK _ _ fun nx => ?_; clear hK K; try clear kk
      refine zk ?_; refine nmx ?_
      obtain hR := Option.some.inj hh
      subst hR
      exact zy
     ·rw [if_neg h24] at hh
      replace h24 := Bool.eq_false_iff.mpr h24
      by_cases h25 : (decide ((n_1.Marks.length : Int) > (0 : Int))) = true
      ·rw [if_pos h25] at hh
       refine zb fun K kk hK => ?_
       simp only [go_sem, h23, h24, h25, of_decide_eq_true h25]
       (repeat refine sd ?_)
       refine zg (wh _ _ h22) (by (try simp only [go_sem, h23, h24, h25, of_decide_eq_true h25]) <;> exact wkl) (by rfl) (by rfl) ?_
       simp only [go_sem, h23, h24, h25, of_decide_eq_true h25]
       (repeat refine sd ?_)
       refine hK _ _ fun nx => ?_; clear hK K; try clear kk
       refine zm rfl ?_
       refine zb fun K kk hK => ?_
       simp only [go_sem]
       refine hK _ _ fun nx => ?_; clear hK K; try clear kk
       refine zk ?_; refine nmx ?_
       obtain hR := Option.some.inj hh
       subst hR
       exact zy
      ·rw [if_neg h25] at hh
       replace h25 := Bool.eq_false_iff.mpr h25
       obtain ⟨ajQ, h26, hh⟩ := zf hh
       refine zb fun K kk hK => ?_
       simp only [go_sem, h23, h24, h25, of_decide_eq_false h25]
       (repeat refine sd ?_)
       refine zg (wh _ _ h22) (by (try simp only [go_sem, h23, h24, h25, of_decide_eq_false h25]) <;> exact wkl) (by rfl) (by rfl) ?_
       simp only [go_sem, h23, h24, h25, of_decide_eq_false h25]
       (repeat refine sd ?_)
       refine zg (Xd _ _ h26) (by (try simp only [go_sem, h23, h24, h25, of_decide_eq_false h25]) <;> exact wkl) (by rfl) (by rfl) ?_
       simp only [go_sem, h23, h24, h25, of_decide_eq_false h25]
       (repeat refine sd ?_)
       refine hK _ _ fun nx => ?_; clear hK K; try clear kk
       by_cases h27 : (!ajQ) = true
       ·rw [if_pos h27] at hh
        refine zm (by first | exact congrArg PV.bool h27 | rfl) ?_
        refine zb fun K kk hK => ?_
        simp only [go_sem]
        refine hK _ _ fun nx => ?_; clear hK K; try clear kk
        refine zk ?_; refine nmx ?_
        obtain hR := Option.some.inj hh
        subst hR
        exact zy
       ·rw [if_neg h27] at hh
        replace h27 := Bool.eq_false_iff.mpr h27
        refine zi (by first | exact congrArg PV.bool h27 | rfl) ?_
        refine zt ?_; refine nmx ?_
        refine zn ?_
        refine zb fun K kk hK => ?_
        simp only [go_sem]
        refine hK _ _ fun nx => ?_; clear hK K; try clear kk
        obtain ⟨e1, f1, hh⟩ := zf hh
        obtain ⟨hlen1, f1⟩ := qf f1
        refine qH (w9 (fun s => .inr () = e1 ∧ ∃ (avK : Int) (avD : Bool) (nx : Nat) (g1 : Nat), s = ⟨[(1, .box 1 g1 0), (71, .list 5 (n_1.Kids.map za.pv)), (72, .int .i64 (n_1.Kids.length : Int)), (73, .int .i64 avK), (74, .bool avD)], [(1, g1, .var 28 [.str n_1.Kind, .str n_1.Text, .list 1 (n_1.Marks.map PV.str), .list 2 (n_1.zh.map ze.pv), .list 5 (n_1.Kids.map za.pv)])], nx⟩))
         (fun i s => False)
         (fun s => ∃ ahG, .inl ahG = e1 ∧ zS Tryd.prog [.tmp 2] (.bool ahG) [] .ret s) ?_ ?_ ?_ ?_
        ·refine zA ?_
         refine qb fun I hI => ?_
         have key : ∀ (suf pre : List za) (Y5 : Int), n_1.Kids = pre ++ suf → Y5 = (pre.length : Int) → kF n_1 (kS kr) suf Y5 = some e1 → ∀ (nx : Nat) (g1 : Nat), I ⟨[(1, .box 1 g1 0), (71, .list 5 (n_1.Kids.map za.pv)), (72, .int .i64 (n_1.Kids.length : Int)), (73, .int .i64 Y5)], [(1, g1, .var 28 [.str n_1.Kind, .str n_1.Text, .list 1 (n_1.Marks.map PV.str), .list 2 (n_1.zh.map ze.pv), .list 5 (n_1.Kids.map za.pv)])], nx⟩ := by
          intro suf
          induction suf with
          | nil =>
           intro pre Y5 hsplit hidx hh nx g1
           rw [kF] at hh
           refine hI _ ?_
           have h44 := walk_nil hsplit hidx
           refine zb fun K kk hK => ?_
           simp only [go_sem]
           refine hK _ _ fun nx => ?_; clear hK K; try clear kk
           refine zn ?_
           refine zi (by first | exact congrArg PV.bool h44 | rfl) ?_
           refine zU ?_; refine nmx ?_
           refine wU ?_
           refine zG ?_
           refine ⟨(Option.some.inj hh), ?_⟩
           first | exact ⟨_, _, _, _, rfl⟩ | (simp only [pvE, lsE, zo]; exact ⟨_, _, _, _, rfl⟩) | (simp only [pvE, lsE, zo, h2, h23, h24, h25, h27, h44]; exact ⟨_, _, _, _, rfl⟩)
          | cons asU suf ih =>
           intro pre Y5 hsplit hidx hh nx g1
           rw [kF] at hh
           refine hI _ ?_
           obtain ⟨hl1a, hl1b, hl1d, hl1w, h44⟩ := qX (f := za.pv) hsplit hidx hlen1
           refine zb fun K kk hK => ?_
           simp only [go_sem]
           refine hK _ _ fun nx => ?_; clear hK K; try clear kk
           refine zn ?_
           refine zm (by first | exact congrArg PV.bool h44 | rfl) ?_
           refine zt ?_; refine nmx ?_
           refine zn ?_
           refine zA ?_
           refine zb fun K kk hK => ?_
           simp only [go_sem, hl1a, hl1b, hl1d, hl1w]
           refine hK _ _ fun nx => ?_; clear hK K; try clear kk
           obtain ⟨aeo, h45, hh⟩ := zf hh
           by_cases h46 : (!aeo) = true
           ·rw [if_pos h46] at hh
            refine zb fun K kk hK => ?_
            simp only [go_sem, h46, hl1a, hl1b, hl1d, hl1w]
            (repeat refine sd ?_)
            refine zg (ih_node_formed _ _ h45) (by (try simp only [go_sem, h46, hl1a, hl1b, hl1d, hl1w]) <;> exact wkl) (by rfl) (by rfl) ?_
            simp only [go_sem, h46, hl1a, hl1b, hl1d, hl1w]
            (repeat refine sd ?_)
            refine hK _ _ fun nx => ?_; clear hK K; try clear kk
            refine zm rfl ?_
            refine zb fun K kk hK => ?_
            simp only [go_sem, hl1a, hl1b, hl1d, hl1w]
            refine hK _ _ fun nx => ?_; clear hK K; try clear kk
            refine zk ?_; refine nmx ?_
            refine QF ⟨_, (Option.some.inj hh), ?_⟩
            exact zy
           ·rw [if_neg h46] at hh
            replace h46 := Bool.eq_false_iff.mpr h46
            by_cases h47 : (decide (Y5 > (0 : Int))) = true
            ·rw [if_pos h47] at hh
             obtain ⟨awd, h48, hh⟩ := zf hh
             obtain ⟨h48a, h48b, h48c⟩ := rd_some h48
             have h48d := wN (f := za.pv) h48c
             have h48f := qG (f := za.pv) h48c
             try simp only [Int.toNat_natCast, Int.reduceToNat] at h48d h48f
             obtain ⟨agP, h49, hh⟩ := zf hh
             refine zb fun K kk hK => ?_
             simp only [go_sem, h46, h47, of_decide_eq_true h47, h48a, h48b, h48d, h48f.1, h48f.2, hl1a, hl1b, hl1d, hl1w]
             (repeat refine sd ?_)
             refine zg (ih_node_formed _ _ h45) (by (try simp only [go_sem, h46, h47, of_decide_eq_true h47, h48a, h48b, h48d, h48f.1, h48f.2, hl1a, hl1b, hl1d, hl1w]) <;> exact wkl) (by rfl) (by rfl) ?_
             simp only [go_sem, h46, h47, of_decide_eq_true h47, h48a, h48b, h48d, h48f.1, h48f.2, hl1a, hl1b, hl1d, hl1w]
             (repeat refine sd ?_)
             refine zg (Jr _ _ _ h49) (by (try simp only [go_sem, h46, h47, of_decide_eq_true h47, h48a, h48b, h48d, h48f.1, h48f.2, hl1a, hl1b, hl1d, hl1w]) <;> exact wkl) (by rfl) (by rfl) ?_
             simp only [go_sem, h46, h47, of_decide_eq_true h47, h48a, h48b, h48d, h48f.1, h48f.2, hl1a, hl1b, hl1d, hl1w]
             (repeat refine sd ?_)
             refine hK _ _ fun nx => ?_; clear hK K; try clear kk
             by_cases h50 : (agP) = true
             ·rw [if_pos h50] at hh
              refine zm (by first | exact congrArg PV.bool h50 | rfl) ?_
              refine zb fun K kk hK => ?_
              simp only [go_sem, hl1a, hl1b, hl1d, hl1w]
              refine hK _ _ fun nx => ?_; clear hK K; try clear kk
              refine zk ?_; refine nmx ?_
              refine QF ⟨_, (Option.some.inj hh), ?_⟩
              exact zy
             ·rw [if_neg h50] at hh
              replace h50 := Bool.eq_false_iff.mpr h50
              refine zi (by first | exact congrArg PV.bool h50 | rfl) ?_
              refine zt ?_; refine nmx ?_
              refine zq fun K kk hK => ?_
              simp only [go_sem, hl1a, hl1b, hl1d, hl1w]
              refine hK _ _ fun nx => ?_; clear hK K; try clear kk
              refine nmx ?_
              have ih' := ih (pre ++ [asU]) (Y5 + 1) (by rw [hsplit]; simp) (by simp [hidx]) hh nx
              refine zG ?_
              first | exact ih' _ | (simp only [pvE, lsE, zo] at ih' ⊢; exact ih' _) | (simp only [pvE, lsE, zo, h2, h23, h24, h25, h27, h44, h46, h47, h50] at ih' ⊢; exact ih' _)
            ·rw [if_neg h47] at hh
             replace h47 := Bool.eq_false_iff.mpr h47
             refine zb fun K kk hK => ?_
             simp only [go_sem, h46, h47, of_decide_eq_false h47, hl1a, hl1b, hl1d, hl1w]
             (repeat refine sd ?_)
             refine zg (ih_node_formed _ _ h45) (by (try simp only [go_sem, h46, h47, of_decide_eq_false h47, hl1a, hl1b, hl1d, hl1w]) <;> exact wkl) (by rfl) (by rfl) ?_
             simp only [go_sem, h46, h47, of_decide_eq_false h47, hl1a, hl1b, hl1d, hl1w]
             (repeat refine sd ?_)
             refine hK _ _ fun nx => ?_; clear hK K; try clear kk
             refine zi rfl ?_
             refine zt ?_; refine nmx ?_
             refine zq fun K kk hK => ?_
             simp only [go_sem, hl1a, hl1b, hl1d, hl1w]
             refine hK _ _ fun nx => ?_; clear hK K; try clear kk
             refine nmx ?_
             have ih' := ih (pre ++ [asU]) (Y5 + 1) (by rw [hsplit]; simp) (by simp [hidx]) hh nx
             refine zG ?_
             first | exact ih' _ | (simp only [pvE, lsE, zo] at ih' ⊢; exact ih' _) | (simp only [pvE, lsE, zo, h2, h23, h24, h25, h27, h44, h46, h47] at ih' ⊢; exact ih' _)
         exact key n_1.Kids [] _ rfl rfl f1 _ _
        ·rintro s ⟨t, hless, rfl, avK, avD, nx, g1, rfl⟩
         try dsimp only at hh
         refine nmy ?_
         first | (refine wG hless ?_; try refine ku ?_) | refine qP hless ?_ | refine qQ hless ?_
         refine zb fun K kk hK => ?_
         simp only [go_sem]
         refine hK _ _ fun nx => ?_; clear hK K; try clear kk
         refine zk ?_; refine nmx ?_
         obtain hR := Option.some.inj hh
         subst hR
         exact zy
        ·intro i s h; exact h.elim
        ·rintro s ⟨ahG, rfl, hb⟩
         try dsimp only at hh
         obtain hR := Option.some.inj hh
         subst hR
         refine nmx ?_
         exact hb
   ·intro i s h; exact h.elim
   ·rintro s ⟨agn, rfl, hb⟩
    try dsimp only at hh
    obtain hR := Option.some.inj hh
    subst hR
    refine nmx ?_
    exact hb
theorem af2 (n_1 : za) (R : Bool) (hh : WS n_1 = some R) : PC Tryd.prog 93 [.agg [.str n_1.Kind, .str n_1.Text, .list 1 (n_1.Marks.map PV.str), .list 2 (n_1.zh.map ze.pv), .list 5 (n_1.Kids.map za.pv)]] (.bool R) := by
 rw [WS] at hh
 obtain ⟨kr, hh⟩ := jH hh
 exact (afz kr) _ _ hh
theorem agU : ∀ kr : Nat, (∀ (n_1 : za) (R : Int), vG kr n_1 = some R → PC Tryd.prog 94 [.agg [.str n_1.Kind, .str n_1.Text, .list 1 (n_1.Marks.map PV.str), .list 2 (n_1.zh.map ze.pv), .list 5 (n_1.Kids.map za.pv)]] (.int .i64 R)) := by
 intro kr
 induction kr with
 | zero => exact (by intro n_1 R hh; rw [vG] at hh; cases hh)
 | succ kr ih =>
  have ih_node_Depth := ih
  clear ih
  intro n_1 R hh
  rw [vG] at hh
  refine aex rfl ?_
  refine zb fun K kk hK => ?_
  simp only [go_sem]
  refine hK _ _ fun nx => ?_; clear hK K; try clear kk
  refine zn ?_
  obtain ⟨yI, h1, hh⟩ := zf hh
  refine zb fun K kk hK => ?_
  simp only [go_sem]
  refine zg (kH _ _ h1) (by (try simp only [go_sem]) <;> exact wkl) (by rfl) (by rfl) ?_
  simp only [go_sem]
  refine hK _ _ fun nx => ?_; clear hK K; try clear kk
  by_cases h2 : (yI) = true
  ·rw [if_pos h2] at hh
   refine zm (by first | exact congrArg PV.bool h2 | rfl) ?_
   refine zb fun K kk hK => ?_
   simp only [go_sem]
   refine hK _ _ fun nx => ?_; clear hK K; try clear kk
   refine zk ?_; refine nmx ?_
   obtain hR := Option.some.inj hh
   subst hR
   exact zy
  ·rw [if_neg h2] at hh
   replace h2 := Bool.eq_false_iff.mpr h2
   refine zi (by first | exact congrArg PV.bool h2 | rfl) ?_
   refine zt ?_; refine nmx ?_
   refine zb fun K kk hK => ?_
   simp only [go_sem]
   refine hK _ _ fun nx => ?_; clear hK K; try clear kk
   refine zn ?_
   refine zb fun K kk hK => ?_
   simp only [go_sem]
   refine hK _ _ fun nx => ?_; clear hK K; try clear kk
   obtain ⟨e0, f0, hh⟩ := zf hh
   obtain ⟨hlen0, f0⟩ := qf f0
   refine qH (w9 (fun s => ∃ Vd, Vd = e0 ∧ ∃ (WJ : Int) (Ji : Bool) (nx : Nat), s = ⟨[(3, .int .i64 Vd), (9, .list 5 (n_1.Kids.map za.pv)), (10, .int .i64 (n_1.Kids.length : Int)), (11, .int .i64 WJ), (12, .bool Ji)], [], nx⟩))
    (fun i s => False)
    (fun s => False) ?_ ?_ ?_ ?_
   ·refine zA ?_
    refine qb fun I hI => ?_
    have key : ∀ (suf pre : List za) (v_6 : Int) (yQ : Int), n_1.Kids = pre ++ suf → v_6 = (pre.length : Int) → vL (vG kr) suf v_6 yQ = some e0 → ∀ (nx : Nat), I ⟨[(3, .int .i64 yQ), (9, .list 5 (n_1.Kids.map za.pv)), (10, .int .i64 (n_1.Kids.length : Int)), (11, .int .i64 v_6)], [], nx⟩ := by
     intro suf
     induction suf with
     | nil =>
      intro pre v_6 yQ hsplit hidx hh nx
      rw [vL] at hh
      refine hI _ ?_
      have h9 := walk_nil hsplit hidx
      refine zb fun K kk hK => ?_
      simp only [go_sem]
      refine hK _ _ fun nx => ?_; clear hK K; try clear kk
      refine zn ?_
      refine zi (by first | exact congrArg PV.bool h9 | rfl) ?_
      refine zU ?_; refine nmx ?_
      refine wU ?_
      refine zG ?_
      refine ⟨_, (Option.some.inj hh), ?_⟩
      first | exact ⟨_, _, _, rfl⟩ | (simp only [pvE, lsE, zo]; exact ⟨_, _, _, rfl⟩) | (simp only [pvE, lsE, zo, h2, h9]; exact ⟨_, _, _, rfl⟩)
     | cons y_9 suf ih =>
      intro pre v_6 yQ hsplit hidx hh nx
      rw [vL] at hh
      refine hI _ ?_
      obtain ⟨hl0a, hl0b, hl0d, hl0w, h9⟩ := qX (f := za.pv) hsplit hidx hlen0
      refine zb fun K kk hK => ?_
      simp only [go_sem]
      refine hK _ _ fun nx => ?_; clear hK K; try clear kk
      refine zn ?_
      refine zm (by first | exact congrArg PV.bool h9 | rfl) ?_
      refine zt ?_; refine nmx ?_
      refine zn ?_
      refine zA ?_
      refine zb fun K kk hK => ?_
      simp only [go_sem, hl0a, hl0b, hl0d, hl0w]
      refine hK _ _ fun nx => ?_; clear hK K; try clear kk
      obtain ⟨ahB, h10, hh⟩ := zf hh
      refine zq fun K kk hK => ?_
      simp only [go_sem, hl0a, hl0b, hl0d, hl0w]
      refine zg (ih_node_Depth _ _ h10) (by (try simp only [go_sem, hl0a, hl0b, hl0d, hl0w]) <;> exact wkl) (by rfl) (by rfl) ?_
      simp only [go_sem, hl0a, hl0b, hl0d, hl0w]
      refine hK _ _ fun nx => ?_; clear hK K; try clear kk
      refine nmx ?_
      refine zq fun K kk hK => ?_
      simp only [go_sem, hl0a, hl0b, hl0d, hl0w]
      refine hK _ _ fun nx => ?_; clear hK K; try clear kk
      refine nmx ?_
      have ih' := ih (pre ++ [y_9]) (v_6 + 1) _ (by rw [hsplit]; simp) (by simp [hidx]) hh nx
      refine zG ?_
      first | exact ih' | (simp only [pvE, lsE, zo] at ih' ⊢; exact ih') | (simp only [pvE, lsE, zo, h2, h9] at ih' ⊢; exact ih')
    exact key n_1.Kids [] _ _ rfl rfl f0 _
   ·rintro s ⟨t, hless, Vd, rfl, WJ, Ji, nx, rfl⟩
    try dsimp only at hh
    refine nmy ?_
    first | (refine wG hless ?_; try refine ku ?_) | refine qP hless ?_ | refine qQ hless ?_
    refine zb fun K kk hK => ?_
    simp only [go_sem]
    refine hK _ _ fun nx => ?_; clear hK K; try clear kk
    refine zk ?_; refine nmx ?_
    obtain hR := Option.some.inj hh
    subst hR
    exact zy
   ·intro i s h; exact h.elim
   ·intro s h; exact h.elim
theorem aih (n_1 : za) (R : Int) (hh : Vq n_1 = some R) : PC Tryd.prog 94 [.agg [.str n_1.Kind, .str n_1.Text, .list 1 (n_1.Marks.map PV.str), .list 2 (n_1.zh.map ze.pv), .list 5 (n_1.Kids.map za.pv)]] (.int .i64 R) := by
 rw [Vq] at hh
 obtain ⟨kr, hh⟩ := jH hh
 exact (agU kr) _ _ hh
theorem WE (n_1 : za) (R : Int) (hh : yz n_1 = some R) : PC Tryd.prog 64 [.agg [.str n_1.Kind, .str n_1.Text, .list 1 (n_1.Marks.map PV.str), .list 2 (n_1.zh.map ze.pv), .list 5 (n_1.Kids.map za.pv)]] (.int .i64 R) := by
 rw [yz] at hh
 refine adP rfl ?_
 refine zb fun K kk hK => ?_
 simp only [go_sem]
 refine hK _ _ fun nx => ?_; clear hK K; try clear kk
 refine zn ?_
 refine zA ?_
 obtain ⟨agR, h1, hh⟩ := zf hh
 refine zb fun K kk hK => ?_
 simp only [go_sem]
 refine zg (af2 _ _ h1) (by (try simp only [go_sem]) <;> exact wkl) (by rfl) (by rfl) ?_
 simp only [go_sem]
 refine hK _ _ fun nx => ?_; clear hK K; try clear kk
 by_cases h2 : (!agR) = true
 ·rw [if_pos h2] at hh
  refine zm (by first | exact congrArg PV.bool h2 | rfl) ?_
  refine zb fun K kk hK => ?_
  simp only [go_sem]
  refine hK _ _ fun nx => ?_; clear hK K; try clear kk
  refine zk ?_; refine nmx ?_
  obtain hR := Option.some.inj hh
  subst hR
  exact zy
 ·rw [if_neg h2] at hh
  replace h2 := Bool.eq_false_iff.mpr h2
  refine zi (by first | exact congrArg PV.bool h2 | rfl) ?_
  obtain ⟨aks, h3, hh⟩ := zf hh
  refine zb fun K kk hK => ?_
  simp only [go_sem]
  refine zg (aih _ _ h3) (by (try simp only [go_sem]) <;> exact wkl) (by rfl) (by rfl) ?_
  simp only [go_sem]
  refine hK _ _ fun nx => ?_; clear hK K; try clear kk
  by_cases h4 : (decide (aks > (40 : Int))) = true
  ·rw [if_pos h4] at hh
   refine zm (by first | exact congrArg PV.bool h4 | rfl) ?_
   refine zb fun K kk hK => ?_
   simp only [go_sem]
   refine hK _ _ fun nx => ?_; clear hK K; try clear kk
   refine zk ?_; refine nmx ?_
   obtain hR := Option.some.inj hh
   subst hR
   exact zy
  ·rw [if_neg h4] at hh
   replace h4 := Bool.eq_false_iff.mpr h4
   refine zi (by first | exact congrArg PV.bool h4 | rfl) ?_
   obtain ⟨anD, h5, hh⟩ := zf hh
   refine zb fun K kk hK => ?_
   simp only [go_sem]
   refine zg (QD _ _ h5) (by (try simp only [go_sem]) <;> exact wkl) (by rfl) (by rfl) ?_
   simp only [go_sem]
   refine hK _ _ fun nx => ?_; clear hK K; try clear kk
   by_cases h6 : (decide (anD > (4000 : Int))) = true
   ·rw [if_pos h6] at hh
    refine zm (by first | exact congrArg PV.bool h6 | rfl) ?_
    refine zb fun K kk hK => ?_
    simp only [go_sem]
    refine hK _ _ fun nx => ?_; clear hK K; try clear kk
    refine zk ?_; refine nmx ?_
    obtain hR := Option.some.inj hh
    subst hR
    exact zy
   ·rw [if_neg h6] at hh
    replace h6 := Bool.eq_false_iff.mpr h6
    refine zi (by first | exact congrArg PV.bool h6 | rfl) ?_
    refine zt ?_; refine nmx ?_
    refine zb fun K kk hK => ?_
    simp only [go_sem]
    refine hK _ _ fun nx => ?_; clear hK K; try clear kk
    refine zk ?_; refine nmx ?_
    obtain hR := Option.some.inj hh
    subst hR
    exact zy
theorem xq (n_1 : za) (R : Bool) (hh : yG n_1 = some R) : PC Tryd.prog 36 [.agg [.str n_1.Kind, .str n_1.Text, .list 1 (n_1.Marks.map PV.str), .list 2 (n_1.zh.map ze.pv), .list 5 (n_1.Kids.map za.pv)]] (.bool R) := by
 rw [yG] at hh
 refine adU rfl ?_
 refine zb fun K kk hK => ?_
 simp only [go_sem]
 refine hK _ _ fun nx => ?_; clear hK K; try clear kk
 obtain ⟨aoW, h1, hh⟩ := zf hh
 refine zb fun K kk hK => ?_
 simp only [go_sem]
 refine zg (WE _ _ h1) (by (try simp only [go_sem]) <;> exact wkl) (by rfl) (by rfl) ?_
 simp only [go_sem]
 refine hK _ _ fun nx => ?_; clear hK K; try clear kk
 refine zk ?_; refine nmx ?_
 obtain hR := Option.some.inj hh
 subst hR
 exact zy
theorem afM (x_1 : ze) (y_2 : ze) (R : Bool) (hh : KO x_1 y_2 = some R) : PC Tryd.prog 66 [.agg [.str x_1.Name, .str x_1.Value], .agg [.str y_2.Name, .str y_2.Value]] (.bool R) := by
 rw [KO] at hh
 refine abD rfl ?_
 refine zb fun K kk hK => ?_
 simp only [go_sem]
 refine hK _ _ fun nx => ?_; clear hK K; try clear kk
 refine zb fun K kk hK => ?_
 simp only [go_sem]
 refine hK _ _ fun nx => ?_; clear hK K; try clear kk
 refine zk ?_; refine nmx ?_
 obtain hR := Option.some.inj hh
 subst hR
 exact zy
theorem xZ (wT : (List ze)) (kC : (List ze)) (R : Bool) (hh : qV wT kC = some R) : PC Tryd.prog 67 [.list 2 (wT.map ze.pv), .list 2 (kC.map ze.pv), .fn 66 []] (.bool R) := by
 rw [qV] at hh
 refine xI rfl ?_
 refine zb fun K kk hK => ?_
 simp only [go_sem]
 refine hK _ _ fun nx => ?_; clear hK K; try clear kk
 refine zn ?_
 refine zb fun K kk hK => ?_
 simp only [go_sem]
 refine hK _ _ fun nx => ?_; clear hK K; try clear kk
 by_cases h1 : ((wT.length : Int) != (kC.length : Int)) = true
 ·rw [if_pos h1] at hh
  refine zm (by first | exact congrArg PV.bool h1 | rfl) ?_
  refine zb fun K kk hK => ?_
  simp only [go_sem]
  refine hK _ _ fun nx => ?_; clear hK K; try clear kk
  refine zk ?_; refine nmx ?_
  obtain hR := Option.some.inj hh
  subst hR
  exact zy
 ·rw [if_neg h1] at hh
  replace h1 := Bool.eq_false_iff.mpr h1
  refine zi (by first | exact congrArg PV.bool h1 | rfl) ?_
  refine zt ?_; refine nmx ?_
  refine zn ?_
  refine zb fun K kk hK => ?_
  simp only [go_sem]
  refine hK _ _ fun nx => ?_; clear hK K; try clear kk
  obtain ⟨e0, f0, hh⟩ := zf hh
  obtain ⟨hlen0, f0⟩ := qf f0
  refine qH (w9 (fun s => .inr () = e0 ∧ ∃ (Zh : Int) (aao : Bool) (nx : Nat), s = ⟨[(1, .list 2 (kC.map ze.pv)), (2, .fn 66 []), (15, .list 2 (wT.map ze.pv)), (16, .int .i64 (wT.length : Int)), (17, .int .i64 Zh), (18, .bool aao)], [], nx⟩))
   (fun i s => False)
   (fun s => ∃ VA, .inl VA = e0 ∧ zS Tryd.prog [.tmp 6] (.bool VA) [] .ret s) ?_ ?_ ?_ ?_
  ·refine zA ?_
   refine qb fun I hI => ?_
   have key : ∀ (suf pre : List ze) (v_6 : Int), wT = pre ++ suf → v_6 = (pre.length : Int) → zJ kC suf v_6 = some e0 → ∀ (nx : Nat), I ⟨[(1, .list 2 (kC.map ze.pv)), (2, .fn 66 []), (15, .list 2 (wT.map ze.pv)), (16, .int .i64 (wT.length : Int)), (17, .int .i64 v_6)], [], nx⟩ := by
    intro suf
    induction suf with
    | nil =>
     intro pre v_6 hsplit hidx hh nx
     rw [zJ] at hh
     refine hI _ ?_
     have h12 := walk_nil hsplit hidx
     refine zb fun K kk hK => ?_
     simp only [go_sem]
     refine hK _ _ fun nx => ?_; clear hK K; try clear kk
     refine zn ?_
     refine zi (by first | exact congrArg PV.bool h12 | rfl) ?_
     refine zU ?_; refine nmx ?_
     refine wU ?_
     refine zG ?_
     refine ⟨(Option.some.inj hh), ?_⟩
     first | exact ⟨_, _, _, rfl⟩ | (simp only [pvE, lsE, zo]; exact ⟨_, _, _, rfl⟩) | (simp only [pvE, lsE, zo, h1, h12]; exact ⟨_, _, _, rfl⟩)
    | cons anH suf ih =>
     intro pre v_6 hsplit hidx hh nx
     rw [zJ] at hh
     refine hI _ ?_
     obtain ⟨hl0a, hl0b, hl0d, hl0w, h12⟩ := qX (f := ze.pv) hsplit hidx hlen0
     refine zb fun K kk hK => ?_
     simp only [go_sem]
     refine hK _ _ fun nx => ?_; clear hK K; try clear kk
     refine zn ?_
     refine zm (by first | exact congrArg PV.bool h12 | rfl) ?_
     refine zt ?_; refine nmx ?_
     refine zn ?_
     refine zA ?_
     refine zb fun K kk hK => ?_
     simp only [go_sem, hl0a, hl0b, hl0d, hl0w]
     refine hK _ _ fun nx => ?_; clear hK K; try clear kk
     obtain ⟨acx, h13, hh⟩ := zf hh
     obtain ⟨h13a, h13b, h13c⟩ := rd_some h13
     have h13d := wN (f := ze.pv) h13c
     have h13f := qG (f := ze.pv) h13c
     try simp only [Int.toNat_natCast, Int.reduceToNat] at h13d h13f
     refine zb fun K kk hK => ?_
     simp only [go_sem, h13a, h13b, h13d, h13f.1, h13f.2, hl0a, hl0b, hl0d, hl0w]
     (repeat refine sd ?_)
     refine hK _ _ fun nx => ?_; clear hK K; try clear kk
     obtain ⟨ar0, h14, hh⟩ := zf hh
     refine zb fun K kk hK => ?_
     simp only [go_sem, hl0a, hl0b, hl0d, hl0w]
     refine zg (afM _ _ _ h14) (by (try simp only [go_sem, hl0a, hl0b, hl0d, hl0w]) <;> exact wkl) (by rfl) (by rfl) ?_
     simp only [go_sem, hl0a, hl0b, hl0d, hl0w]
     refine hK _ _ fun nx => ?_; clear hK K; try clear kk
     by_cases h15 : (!ar0) = true
     ·rw [if_pos h15] at hh
      refine zm (by first | exact congrArg PV.bool h15 | rfl) ?_
      refine zb fun K kk hK => ?_
      simp only [go_sem, hl0a, hl0b, hl0d, hl0w]
      refine hK _ _ fun nx => ?_; clear hK K; try clear kk
      refine zk ?_; refine nmx ?_
      refine QF ⟨_, (Option.some.inj hh), ?_⟩
      exact zy
     ·rw [if_neg h15] at hh
      replace h15 := Bool.eq_false_iff.mpr h15
      refine zi (by first | exact congrArg PV.bool h15 | rfl) ?_
      refine zt ?_; refine nmx ?_
      refine zq fun K kk hK => ?_
      simp only [go_sem, hl0a, hl0b, hl0d, hl0w]
      refine hK _ _ fun nx => ?_; clear hK K; try clear kk
      refine nmx ?_
      have ih' := ih (pre ++ [anH]) (v_6 + 1) (by rw [hsplit]; simp) (by simp [hidx]) hh nx
      refine zG ?_
      first | exact ih' | (simp only [pvE, lsE, zo] at ih' ⊢; exact ih') | (simp only [pvE, lsE, zo, h1, h12, h15] at ih' ⊢; exact ih')
   exact key wT [] _ rfl rfl f0 _
  ·rintro s ⟨t, hless, rfl, Zh, aao, nx, rfl⟩
   try dsimp only at hh
   refine nmy ?_
   first | (refine wG hless ?_; try refine ku ?_) | refine qP hless ?_ | refine qQ hless ?_
   refine zb fun K kk hK => ?_
   simp only [go_sem]
   refine hK _ _ fun nx => ?_; clear hK K; try clear kk
   refine zk ?_; refine nmx ?_
   obtain hR := Option.some.inj hh
   subst hR
   exact zy
  ·intro i s h; exact h.elim
  ·rintro s ⟨VA, rfl, hb⟩
   try dsimp only at hh
   obtain hR := Option.some.inj hh
   subst hR
   refine nmx ?_
   exact hb
theorem aaW (a_1 : za) (b_2 : za) (R : Bool) (hh : Wh a_1 b_2 = some R) : PC Tryd.prog 39 [.agg [.str a_1.Kind, .str a_1.Text, .list 1 (a_1.Marks.map PV.str), .list 2 (a_1.zh.map ze.pv), .list 5 (a_1.Kids.map za.pv)], .agg [.str b_2.Kind, .str b_2.Text, .list 1 (b_2.Marks.map PV.str), .list 2 (b_2.zh.map ze.pv), .list 5 (b_2.Kids.map za.pv)]] (.bool R) := by
 rw [Wh] at hh
 refine ad9 rfl ?_
 refine zb fun K kk hK => ?_
 simp only [go_sem]
 refine hK _ _ fun nx => ?_; clear hK K; try clear kk
 refine zb fun K kk hK => ?_
 simp only [go_sem]
 refine hK _ _ fun nx => ?_; clear hK K; try clear kk
 by_cases h1 : (a_1.Kind == b_2.Kind) = true
 ·rw [if_pos h1] at hh
  by_cases h2 : (!(a_1.Kind == ([116, 101, 120, 116] : Str))) = true
  ·rw [if_pos h2] at hh
   obtain ⟨attr_3, h3, hh⟩ := zf hh
   refine zb fun K kk hK => ?_
   simp only [go_sem, h1, h2]
   (repeat refine sd ?_)
   refine zg (xZ _ _ _ h3) (by (try simp only [go_sem, h1, h2]) <;> exact wkl) (by rfl) (by rfl) ?_
   simp only [go_sem, h1, h2]
   (repeat refine sd ?_)
   refine hK _ _ fun nx => ?_; clear hK K; try clear kk
   refine zk ?_; refine nmx ?_
   obtain hR := Option.some.inj hh
   subst hR
   exact zy
  ·rw [if_neg h2] at hh
   replace h2 := Bool.eq_false_iff.mpr h2
   refine zb fun K kk hK => ?_
   simp only [go_sem, h1, h2]
   (repeat refine sd ?_)
   refine hK _ _ fun nx => ?_; clear hK K; try clear kk
   refine zk ?_; refine nmx ?_
   obtain hR := Option.some.inj hh
   subst hR
   exact zy
 ·rw [if_neg h1] at hh
  replace h1 := Bool.eq_false_iff.mpr h1
  refine zb fun K kk hK => ?_
  simp only [go_sem, h1]
  (repeat refine sd ?_)
  refine hK _ _ fun nx => ?_; clear hK K; try clear kk
  refine zk ?_; refine nmx ?_
  obtain hR := Option.some.inj hh
  subst hR
  exact zy
theorem Zk (wT : (List ze)) (kC : (List ze)) (R : Bool) (hh : vw wT kC = some R) : PC Tryd.prog 43 [.list 2 (wT.map ze.pv), .list 2 (kC.map ze.pv)] (.bool R) := by
 rw [vw] at hh
 refine KN rfl ?_
 refine zb fun K kk hK => ?_
 simp only [go_sem]
 refine hK _ _ fun nx => ?_; clear hK K; try clear kk
 refine zn ?_
 refine zb fun K kk hK => ?_
 simp only [go_sem]
 refine hK _ _ fun nx => ?_; clear hK K; try clear kk
 by_cases h1 : ((wT.length : Int) != (kC.length : Int)) = true
 ·rw [if_pos h1] at hh
  refine zm (by first | exact congrArg PV.bool h1 | rfl) ?_
  refine zb fun K kk hK => ?_
  simp only [go_sem]
  refine hK _ _ fun nx => ?_; clear hK K; try clear kk
  refine zk ?_; refine nmx ?_
  obtain hR := Option.some.inj hh
  subst hR
  exact zy
 ·rw [if_neg h1] at hh
  replace h1 := Bool.eq_false_iff.mpr h1
  refine zi (by first | exact congrArg PV.bool h1 | rfl) ?_
  refine zt ?_; refine nmx ?_
  refine zn ?_
  refine zb fun K kk hK => ?_
  simp only [go_sem]
  refine hK _ _ fun nx => ?_; clear hK K; try clear kk
  obtain ⟨e0, f0, hh⟩ := zf hh
  obtain ⟨hlen0, f0⟩ := qf f0
  refine qH (w9 (fun s => .inr () = e0 ∧ ∃ (WA : Int) (WJ : Bool) (nx : Nat), s = ⟨[(0, .list 2 (wT.map ze.pv)), (1, .list 2 (kC.map ze.pv)), (12, .int .i64 (wT.length : Int)), (13, .int .i64 WA), (14, .bool WJ)], [], nx⟩))
   (fun i s => False)
   (fun s => ∃ wS, .inl wS = e0 ∧ zS Tryd.prog [.tmp 4] (.bool wS) [] .ret s) ?_ ?_ ?_ ?_
  ·refine zA ?_
   refine qb fun I hI => ?_
   have key : ∀ (suf pre : List ze) (v_5 : Int), wT = pre ++ suf → v_5 = (pre.length : Int) → qA kC suf v_5 = some e0 → ∀ (nx : Nat), I ⟨[(0, .list 2 (wT.map ze.pv)), (1, .list 2 (kC.map ze.pv)), (12, .int .i64 (wT.length : Int)), (13, .int .i64 v_5)], [], nx⟩ := by
    intro suf
    induction suf with
    | nil =>
     intro pre v_5 hsplit hidx hh nx
     rw [qA] at hh
     refine hI _ ?_
     have h10 := walk_nil hsplit hidx
     refine zb fun K kk hK => ?_
     simp only [go_sem]
     refine hK _ _ fun nx => ?_; clear hK K; try clear kk
     refine zn ?_
     refine zi (by first | exact congrArg PV.bool h10 | rfl) ?_
     refine zU ?_; refine nmx ?_
     refine wU ?_
     refine zG ?_
     refine ⟨(Option.some.inj hh), ?_⟩
     first | exact ⟨_, _, _, rfl⟩ | (simp only [pvE, lsE, zo]; exact ⟨_, _, _, rfl⟩) | (simp only [pvE, lsE, zo, h1, h10]; exact ⟨_, _, _, rfl⟩)
    | cons y_8 suf ih =>
     intro pre v_5 hsplit hidx hh nx
     rw [qA] at hh
     refine hI _ ?_
     obtain ⟨hl0a, hl0b, hl0d, hl0w, h10⟩ := qX (f := ze.pv) hsplit hidx hlen0
     refine zb fun K kk hK => ?_
     simp only [go_sem]
     refine hK _ _ fun nx => ?_; clear hK K; try clear kk
     refine zn ?_
     refine zm (by first | exact congrArg PV.bool h10 | rfl) ?_
     refine zt ?_; refine nmx ?_
     refine zn ?_
     refine zA ?_
     refine zb fun K kk hK => ?_
     simp only [go_sem, hl0a, hl0b, hl0d, hl0w]
     refine hK _ _ fun nx => ?_; clear hK K; try clear kk
     obtain ⟨x_9, h11, hh⟩ := zf hh
     obtain ⟨h11a, h11b, h11c⟩ := rd_some h11
     have h11d := wN (f := ze.pv) h11c
     have h11f := qG (f := ze.pv) h11c
     try simp only [Int.toNat_natCast, Int.reduceToNat] at h11d h11f
     refine zb fun K kk hK => ?_
     simp only [go_sem, h11a, h11b, h11d, h11f.1, h11f.2, hl0a, hl0b, hl0d, hl0w]
     (repeat refine sd ?_)
     refine hK _ _ fun nx => ?_; clear hK K; try clear kk
     by_cases h12 : ((((y_8.Name == x_9.Name) && (y_8.Value == x_9.Value)) != true)) = true
     ·rw [if_pos h12] at hh
      refine zm (by first | exact congrArg PV.bool h12 | rfl) ?_
      refine zb fun K kk hK => ?_
      simp only [go_sem, hl0a, hl0b, hl0d, hl0w]
      refine hK _ _ fun nx => ?_; clear hK K; try clear kk
      refine zk ?_; refine nmx ?_
      refine QF ⟨_, (Option.some.inj hh), ?_⟩
      exact zy
     ·rw [if_neg h12] at hh
      replace h12 := Bool.eq_false_iff.mpr h12
      refine zi (by first | exact congrArg PV.bool h12 | rfl) ?_
      refine zt ?_; refine nmx ?_
      refine zq fun K kk hK => ?_
      simp only [go_sem, hl0a, hl0b, hl0d, hl0w]
      refine hK _ _ fun nx => ?_; clear hK K; try clear kk
      refine nmx ?_
      have ih' := ih (pre ++ [y_8]) (v_5 + 1) (by rw [hsplit]; simp) (by simp [hidx]) hh nx
      refine zG ?_
      first | exact ih' | (simp only [pvE, lsE, zo] at ih' ⊢; exact ih') | (simp only [pvE, lsE, zo, h1, h10, h12] at ih' ⊢; exact ih')
   exact key wT [] _ rfl rfl f0 _
  ·rintro s ⟨t, hless, rfl, WA, WJ, nx, rfl⟩
   try dsimp only at hh
   refine nmy ?_
   first | (refine wG hless ?_; try refine ku ?_) | refine qP hless ?_ | refine qQ hless ?_
   refine zb fun K kk hK => ?_
   simp only [go_sem]
   refine hK _ _ fun nx => ?_; clear hK K; try clear kk
   refine zk ?_; refine nmx ?_
   obtain hR := Option.some.inj hh
   subst hR
   exact zy
  ·intro i s h; exact h.elim
  ·rintro s ⟨wS, rfl, hb⟩
   try dsimp only at hh
   obtain hR := Option.some.inj hh
   subst hR
   refine nmx ?_
   exact hb
end Go.Proofs.YtclohbgnaopjfaaDoor
