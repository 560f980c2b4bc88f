/- Texts of the proof of stepTokensCard -/
import Derived.Test.YtclohbgnaopjfaaGreatDoorAgC
import Derived.Test.YtclohbgnaopjfaaGreatDoorAgF
import Derived.Test.YtclohbgnaopjfaaGreatDoorAgK0
import Derived.Test.YtclohbgnaopjfaaGreatDoorAgK1
namespace Go.Proofs.YtclohbgnaopjfaaGreatDoor
set_option linter.unusedSimpArgs false
set_option linter.unusedVariables false
open Go
set_option maxRecDepth 100000
theorem afy : ∀ kr : Nat, (∀ (n_1 : za) (R : Bool), kS kr n_1 = some R → PC Tryz.prog 95 [.agg [.str n_1.Kind, .str n_1.Text, .list 1 (n_1.Marks.map PV.str), .list 2 (n_1.zq.map zf.pv), .list 5 (n_1.Kids.map za.pv)]] (.bool R)) := by
 intro kr
 induction kr with
 | zero => exact (by intro n_1 R hh; rw [kS] at hh; cases hh)
 | succ kr ih =>
  have ih_node_formed := ih
  clear ih
  intro n_1 R hh
  rw [kS] at hh
  refine ab7 rfl ?_
  refine zb fun K kk hK => ?_
  simp only [go_sem]
  refine hK _ _ fun nx => ?_; clear hK K; try clear kk
  refine zm ?_
  obtain ⟨yf, h1, hh⟩ := ze hh
  refine zb fun K kk hK => ?_
  simp only [go_sem]
  refine zg (kG _ _ h1) (by (try simp only [go_sem]) <;> exact wkl) (by rfl) (by rfl) ?_
  simp only [go_sem]
  refine hK _ _ fun nx => ?_; clear hK K; try clear kk
  by_cases h2 : (yf) = true
  ·rw [if_pos h2] at hh
   refine zk (by first | exact congrArg PV.bool h2 | rfl) ?_
   by_cases h3 : (!(n_1.Text == ([] : Str))) = true
   ·rw [if_pos h3] at hh
    obtain ⟨ahI, h4, hh⟩ := ze hh
    by_cases h5 : (ahI) = true
    ·rw [if_pos h5] at hh
     obtain ⟨anu, h6, hh⟩ := ze hh
     by_cases h7 : (anu) = true
     ·rw [if_pos h7] at hh
      refine zb fun K kk hK => ?_
      simp only [go_sem, h3, h5, h7]
      (repeat refine sd ?_)
      refine zg (kQ _ _ h4) (by (try simp only [go_sem, h3, h5, h7]) <;> exact wkl) (by rfl) (by rfl) ?_
      simp only [go_sem, h3, h5, h7]
      (repeat refine sd ?_)
      refine zg (Xw _ _ h6) (by (try simp only [go_sem, h3, h5, h7]) <;> exact wkl) (by rfl) (by rfl) ?_
      simp only [go_sem, h3, h5, h7]
      (repeat refine sd ?_)
      refine hK _ _ fun nx => ?_; clear hK K; try clear kk
      refine zn ?_; refine nmx ?_
      obtain hR := Option.some.inj hh
      subst hR
      exact zz
     ·rw [if_neg h7] at hh
      replace h7 := Bool.eq_false_iff.mpr h7
      refine zb fun K kk hK => ?_
      simp only [go_sem, h3, h5, h7]
      (repeat refine sd ?_)
      refine zg (kQ _ _ h4) (by (try simp only [go_sem, h3, h5, h7]) <;> exact wkl) (by rfl) (by rfl) ?_
      simp only [go_sem, h3, h5, h7]
      (repeat refine sd ?_)
      refine zg (Xw _ _ h6) (by (try simp only [go_sem, h3, h5, h7]) <;> exact wkl) (by rfl) (by rfl) ?_
      simp only [go_sem, h3, h5, h7]
      (repeat refine sd ?_)
      refine hK _ _ fun nx => ?_; clear hK K; try clear kk
      refine zn ?_; refine nmx ?_
      obtain hR := Option.some.inj hh
      subst hR
      exact zz
    ·rw [if_neg h5] at hh
     replace h5 := Bool.eq_false_iff.mpr h5
     refine zb fun K kk hK => ?_
     simp only [go_sem, h3, h5]
     (repeat refine sd ?_)
     refine zg (kQ _ _ h4) (by (try simp only [go_sem, h3, h5]) <;> exact wkl) (by rfl) (by rfl) ?_
     simp only [go_sem, h3, h5]
     (repeat refine sd ?_)
     refine hK _ _ fun nx => ?_; clear hK K; try clear kk
     refine zn ?_; refine nmx ?_
     obtain hR := Option.some.inj hh
     subst hR
     exact zz
   ·rw [if_neg h3] at hh
    replace h3 := Bool.eq_false_iff.mpr h3
    refine zb fun K kk hK => ?_
    simp only [go_sem, h3]
    (repeat refine sd ?_)
    refine hK _ _ fun nx => ?_; clear hK K; try clear kk
    refine zn ?_; refine nmx ?_
    obtain hR := Option.some.inj hh
    subst hR
    exact zz
  ·rw [if_neg h2] at hh
   replace h2 := Bool.eq_false_iff.mpr h2
   refine zh (by first | exact congrArg PV.bool h2 | rfl) ?_
   refine zy ?_; refine nmx ?_
   refine zb fun K kk hK => ?_
   simp only [go_sem]
   refine hK _ _ fun nx => ?_; clear hK K; try clear kk
   refine zm ?_
   refine zb fun K kk hK => ?_
   simp only [go_sem]
   refine hK _ _ fun nx => ?_; clear hK K; try clear kk
   obtain ⟨e0, f0, hh⟩ := ze hh
   obtain ⟨hlen0, f0⟩ := zR f0
   refine qz (w9 (fun s => ∃ JQ, .inr JQ = e0 ∧ ∃ (amm : Int) (awN : Bool) (nx : Nat) (g1 : Nat) (g3 : Nat), s = ⟨[(1, .box 1 g1 0), (3, .row 3 g3 JQ.length), (34, .list 2 (n_1.zq.map zf.pv)), (35, .int .i64 (n_1.zq.length : Int)), (36, .int .i64 amm), (37, .bool awN)], [(1, g1, .var 28 [.str n_1.Kind, .str n_1.Text, .list 1 (n_1.Marks.map PV.str), .list 2 (n_1.zq.map zf.pv), .list 5 (n_1.Kids.map za.pv)]), (3, g3, .row false 1 (JQ.map PV.str))], nx⟩))
    (fun i s => False)
    (fun s => ∃ af3, .inl af3 = e0 ∧ zZ Tryz.prog [.tmp 2] (.bool af3) [] .ret s) ?_ ?_ ?_ ?_
   ·refine zC ?_
    refine qi fun I hI => ?_
    have key : ∀ (suf pre : List zf) (v_8 : Int) (Kw : (List Str)), n_1.zq = pre ++ suf → v_8 = (pre.length : Int) → vF suf v_8 Kw = some e0 → ∀ (nx : Nat) (g1 : Nat) (g3 : Nat), I ⟨[(1, .box 1 g1 0), (3, .row 3 g3 Kw.length), (34, .list 2 (n_1.zq.map zf.pv)), (35, .int .i64 (n_1.zq.length : Int)), (36, .int .i64 v_8)], [(1, g1, .var 28 [.str n_1.Kind, .str n_1.Text, .list 1 (n_1.Marks.map PV.str), .list 2 (n_1.zq.map zf.pv), .list 5 (n_1.Kids.map za.pv)]), (3, g3, .row false 1 (Kw.map PV.str))], nx⟩ := by
     intro suf
     induction suf with
     | nil =>
      intro pre v_8 Kw hsplit hidx hh nx g1 g3
      rw [vF] at hh
      refine hI _ ?_
      have h18 := walk_nil hsplit hidx
      refine zb fun K kk hK => ?_
      simp only [go_sem]
      refine hK _ _ fun nx => ?_; clear hK K; try clear kk
      refine zm ?_
      refine zh (by first | exact congrArg PV.bool h18 | rfl) ?_
      refine zV ?_; refine nmx ?_
      refine wU ?_
      refine zH ?_
      refine ⟨_, (Option.some.inj hh), ?_⟩
      first | exact ⟨_, _, _, _, _, rfl⟩ | (simp only [pvE, lsE, zo]; exact ⟨_, _, _, _, _, rfl⟩) | (simp only [pvE, lsE, zo, h18, h2]; exact ⟨_, _, _, _, _, rfl⟩)
     | cons atP suf ih =>
      intro pre v_8 Kw hsplit hidx hh nx g1 g3
      rw [vF] at hh
      refine hI _ ?_
      obtain ⟨hl0a, hl0b, hl0d, hl0w, h18⟩ := qV (f := zf.pv) hsplit hidx hlen0
      refine zb fun K kk hK => ?_
      simp only [go_sem]
      refine hK _ _ fun nx => ?_; clear hK K; try clear kk
      refine zm ?_
      refine zk (by first | exact congrArg PV.bool h18 | rfl) ?_
      refine zy ?_; refine nmx ?_
      refine zm ?_
      refine zC ?_
      refine zb fun K kk hK => ?_
      simp only [go_sem, hl0a, hl0b, hl0d, hl0w]
      refine hK _ _ fun nx => ?_; clear hK K; try clear kk
      refine zm ?_
      obtain ⟨agy, h19, hh⟩ := ze hh
      refine zb fun K kk hK => ?_
      simp only [go_sem, hl0a, hl0b, hl0d, hl0w]
      refine zg (Jh _ _ h19) (by (try simp only [go_sem, hl0a, hl0b, hl0d, hl0w]) <;> exact wkl) (by rfl) (by rfl) ?_
      simp only [go_sem, hl0a, hl0b, hl0d, hl0w]
      refine hK _ _ fun nx => ?_; clear hK K; try clear kk
      by_cases h20 : (!agy) = true
      ·rw [if_pos h20] at hh
       refine zk (by first | exact congrArg PV.bool h20 | rfl) ?_
       refine zb fun K kk hK => ?_
       simp only [go_sem, hl0a, hl0b, hl0d, hl0w]
       refine hK _ _ fun nx => ?_; clear hK K; try clear kk
       refine zn ?_; refine nmx ?_
       refine xI ⟨_, (Option.some.inj hh), ?_⟩
       exact zz
      ·rw [if_neg h20] at hh
       replace h20 := Bool.eq_false_iff.mpr h20
       refine zh (by first | exact congrArg PV.bool h20 | rfl) ?_
       refine zy ?_; refine nmx ?_
       obtain ⟨avJ, h21, hh⟩ := ze hh
       obtain ⟨h21a, h21c⟩ := zX h21
       have h21d := qF (f := PV.str) h21c
       have h21e := qE h21c
       try simp only [List.length_cons, List.length_nil, Nat.zero_add, Nat.reduceAdd] at h21a h21e
       try simp only [h21e] at h21a
       try simp only [List.map_cons, List.map_nil, List.nil_append, List.append_nil, List.cons_append, List.singleton_append, zo, pvE] at h21d
       refine zt fun K kk hK => ?_
       simp only [go_sem, h21a, h21d, h21e, hl0a, hl0b, hl0d, hl0w]
       (repeat refine sd ?_)
       refine hK _ _ fun nx => ?_; clear hK K; try clear kk
       refine nmx ?_
       refine zt fun K kk hK => ?_
       simp only [go_sem, hl0a, hl0b, hl0d, hl0w]
       refine hK _ _ fun nx => ?_; clear hK K; try clear kk
       refine nmx ?_
       have ih' := ih (pre ++ [atP]) (v_8 + 1) _ (by rw [hsplit]; simp) (by simp [hidx]) hh nx
       refine zH ?_
       first | exact ih' _ _ | (simp only [pvE, lsE, zo, h21e] at ih' ⊢; exact ih' _ _) | (simp only [pvE, lsE, zo, h21e, h18, h2, h20] at ih' ⊢; exact ih' _ _)
    exact key n_1.zq [] _ _ rfl rfl f0 _ _ _
   ·rintro s ⟨t, hless, JQ, rfl, amm, awN, nx, g1, g3, rfl⟩
    try dsimp only at hh
    refine nmy ?_
    first | (refine qW hless ?_; try refine wY ?_) | refine qC hless ?_ | refine qD hless ?_
    refine zm ?_
    obtain ⟨aj0, h22, hh⟩ := ze hh
    by_cases h23 : (!aj0) = true
    ·rw [if_pos h23] at hh
     refine zb fun K kk hK => ?_
     simp only [go_sem, h23]
     (repeat refine sd ?_)
     refine zg (wm _ _ h22) (by (try simp only [go_sem, h23]) <;> exact wkl) (by rfl) (by rfl) ?_
     simp only [go_sem, h23]
     (repeat refine sd ?_)
     refine hK _ _ fun nx => ?_; clear hK K; try clear kk
     refine zk rfl ?_
     refine zb fun K kk hK => ?_
     simp only [go_sem]
     refine hK _ _ fun nx => ?_; clear hK K; try clear kk
     refine zn ?_; refine nmx ?_
     obtain hR := Option.some.inj hh
     subst hR
     exact zz
    ·rw [if_neg h23] at hh
     replace h23 := Bool.eq_false_iff.mpr h23
     by_cases h24 : (!(n_1.Text == ([] : Str))) = true
     ·rw [if_pos h24] at hh
      refine zb fun K kk hK => ?_
      simp only [go_sem, h23, h24]
      (repeat refine sd ?_)
      refine zg (wm _ _ h22) (by (try simp only [go_sem, h23, h24]) <;> exact wkl) (by rfl) (by rfl) ?_
      simp only [go_sem, h23, h24]
      (repeat refine sd ?_)
      refine hK _ _ fun nx => ?_; clear hK K; try clear kk
      refine zk rfl ?_
      refine zb fun K kk hK => ?_
      simp only [go_sem]
      refine hK _ _ fun nx => ?_; clear hK K; try clear kk
      refine zn ?_; refine nmx ?_
      obtain hR := Option.some.inj hh
      subst hR
      exact zz
     ·rw [if_neg h24] at hh
      replace h24 := Bool.eq_false_iff.mpr h24
      by_cases h25 : (decide ((n_1.Marks.length : Int) > (0 : Int))) = true
      ·rw [if_pos h25] at hh
       refine zb fun K kk hK => ?_
       simp only [go_sem, h23, h24, h25, of_decide_eq_true h25]
       (repeat refine sd ?_)
       refine zg (wm _ _ h22) (by (try simp only [go_sem, h23, h24, h25, of_decide_eq_true h25]) <;> exact wkl) (by rfl) (by rfl) ?_
       simp only [go_sem, h23, h24, h25, of_decide_eq_true h25]
       (repeat refine sd ?_)
       refine hK _ _ fun nx => ?_; clear hK K; try clear kk
       refine zk rfl ?_
       refine zb fun K kk hK => ?_
       simp only [go_sem]
       refine hK _ _ fun nx => ?_; clear hK K; try clear kk
       refine zn ?_; refine nmx ?_
       obtain hR := Option.some.inj hh
       subst hR
       exact zz
      ·rw [if_neg h25] at hh
       replace h25 := Bool.eq_false_iff.mpr h25
       obtain ⟨akI, h26, hh⟩ := ze hh
       refine zb fun K kk hK => ?_
       simp only [go_sem, h23, h24, h25, of_decide_eq_false h25]
       (repeat refine sd ?_)
       refine zg (wm _ _ h22) (by (try simp only [go_sem, h23, h24, h25, of_decide_eq_false h25]) <;> exact wkl) (by rfl) (by rfl) ?_
       simp only [go_sem, h23, h24, h25, of_decide_eq_false h25]
       (repeat refine sd ?_)
       refine zg (Xw _ _ h26) (by (try simp only [go_sem, h23, h24, h25, of_decide_eq_false h25]) <;> exact wkl) (by rfl) (by rfl) ?_
       simp only [go_sem, h23, h24, h25, of_decide_eq_false h25]
       (repeat refine sd ?_)
       refine hK _ _ fun nx => ?_; clear hK K; try clear kk
       by_cases h27 : (!akI) = true
       ·rw [if_pos h27] at hh
        refine zk (by first | exact congrArg PV.bool h27 | rfl) ?_
        refine zb fun K kk hK => ?_
        simp only [go_sem]
        refine hK _ _ fun nx => ?_; clear hK K; try clear kk
        refine zn ?_; refine nmx ?_
        obtain hR := Option.some.inj hh
        subst hR
        exact zz
       ·rw [if_neg h27] at hh
        replace h27 := Bool.eq_false_iff.mpr h27
        refine zh (by first | exact congrArg PV.bool h27 | rfl) ?_
        refine zy ?_; refine nmx ?_
        refine zm ?_
        refine zb fun K kk hK => ?_
        simp only [go_sem]
        refine hK _ _ fun nx => ?_; clear hK K; try clear kk
        obtain ⟨e1, f1, hh⟩ := ze hh
        obtain ⟨hlen1, f1⟩ := zR f1
        refine qz (w9 (fun s => .inr () = e1 ∧ ∃ (XO : Int) (awg : Bool) (nx : Nat) (g1 : Nat), s = ⟨[(1, .box 1 g1 0), (71, .list 5 (n_1.Kids.map za.pv)), (72, .int .i64 (n_1.Kids.length : Int)), (73, .int .i64 XO), (74, .bool awg)], [(1, g1, .var 28 [.str n_1.Kind, .str n_1.Text, .list 1 (n_1.Marks.map PV.str), .list 2 (n_1.zq.map zf.pv), .list 5 (n_1.Kids.map za.pv)])], nx⟩))
         (fun i s => False)
         (fun s => ∃ ahc, .inl ahc = e1 ∧ zZ Tryz.prog [.tmp 2] (.bool ahc) [] .ret s) ?_ ?_ ?_ ?_
        ·refine zC ?_
         refine qi fun I hI => ?_
         have key : ∀ (suf pre : List za) (Yl : Int), n_1.Kids = pre ++ suf → Yl = (pre.length : Int) → kH n_1 (kS kr) suf Yl = some e1 → ∀ (nx : Nat) (g1 : Nat), I ⟨[(1, .box 1 g1 0), (71, .list 5 (n_1.Kids.map za.pv)), (72, .int .i64 (n_1.Kids.length : Int)), (73, .int .i64 Yl)], [(1, g1, .var 28 [.str n_1.Kind, .str n_1.Text, .list 1 (n_1.Marks.map PV.str), .list 2 (n_1.zq.map zf.pv), .list 5 (n_1.Kids.map za.pv)])], nx⟩ := by
          intro suf
          induction suf with
          | nil =>
           intro pre Yl hsplit hidx hh nx g1
           rw [kH] at hh
           refine hI _ ?_
           have h44 := walk_nil hsplit hidx
           refine zb fun K kk hK => ?_
           simp only [go_sem]
           refine hK _ _ fun nx => ?_; clear hK K; try clear kk
           refine zm ?_
           refine zh (by first | exact congrArg PV.bool h44 | rfl) ?_
           refine zV ?_; refine nmx ?_
           refine wU ?_
           refine zH ?_
           refine ⟨(Option.some.inj hh), ?_⟩
           first | exact ⟨_, _, _, _, rfl⟩ | (simp only [pvE, lsE, zo]; exact ⟨_, _, _, _, rfl⟩) | (simp only [pvE, lsE, zo, h2, h23, h24, h25, h27, h44]; exact ⟨_, _, _, _, rfl⟩)
          | cons aq0 suf ih =>
           intro pre Yl hsplit hidx hh nx g1
           rw [kH] at hh
           refine hI _ ?_
           obtain ⟨hl1a, hl1b, hl1d, hl1w, h44⟩ := qV (f := za.pv) hsplit hidx hlen1
           refine zb fun K kk hK => ?_
           simp only [go_sem]
           refine hK _ _ fun nx => ?_; clear hK K; try clear kk
           refine zm ?_
           refine zk (by first | exact congrArg PV.bool h44 | rfl) ?_
           refine zy ?_; refine nmx ?_
           refine zm ?_
           refine zC ?_
           refine zb fun K kk hK => ?_
           simp only [go_sem, hl1a, hl1b, hl1d, hl1w]
           refine hK _ _ fun nx => ?_; clear hK K; try clear kk
           obtain ⟨aev, h45, hh⟩ := ze hh
           by_cases h46 : (!aev) = true
           ·rw [if_pos h46] at hh
            refine zb fun K kk hK => ?_
            simp only [go_sem, h46, hl1a, hl1b, hl1d, hl1w]
            (repeat refine sd ?_)
            refine zg (ih_node_formed _ _ h45) (by (try simp only [go_sem, h46, hl1a, hl1b, hl1d, hl1w]) <;> exact wkl) (by rfl) (by rfl) ?_
            simp only [go_sem, h46, hl1a, hl1b, hl1d, hl1w]
            (repeat refine sd ?_)
            refine hK _ _ fun nx => ?_; clear hK K; try clear kk
            refine zk rfl ?_
            refine zb fun K kk hK => ?_
            simp only [go_sem, hl1a, hl1b, hl1d, hl1w]
            refine hK _ _ fun nx => ?_; clear hK K; try clear kk
            refine zn ?_; refine nmx ?_
            refine xI ⟨_, (Option.some.inj hh), ?_⟩
            exact zz
           ·rw [if_neg h46] at hh
            replace h46 := Bool.eq_false_iff.mpr h46
            by_cases h47 : (decide (Yl > (0 : Int))) = true
            ·rw [if_pos h47] at hh
             obtain ⟨awS, h48, hh⟩ := ze hh
             obtain ⟨h48a, h48b, h48c⟩ := rd_some h48
             have h48d := kR (f := za.pv) h48c
             have h48f := wL (f := za.pv) h48c
             try simp only [Int.toNat_natCast, Int.reduceToNat] at h48d h48f
             obtain ⟨ags, h49, hh⟩ := ze hh
             refine zb fun K kk hK => ?_
             simp only [go_sem, h46, h47, of_decide_eq_true h47, h48a, h48b, h48d, h48f.1, h48f.2, hl1a, hl1b, hl1d, hl1w]
             (repeat refine sd ?_)
             refine zg (ih_node_formed _ _ h45) (by (try simp only [go_sem, h46, h47, of_decide_eq_true h47, h48a, h48b, h48d, h48f.1, h48f.2, hl1a, hl1b, hl1d, hl1w]) <;> exact wkl) (by rfl) (by rfl) ?_
             simp only [go_sem, h46, h47, of_decide_eq_true h47, h48a, h48b, h48d, h48f.1, h48f.2, hl1a, hl1b, hl1d, hl1w]
             (repeat refine sd ?_)
             refine zg (V5 _ _ _ h49) (by (try simp only [go_sem, h46, h47, of_decide_eq_true h47, h48a, h48b, h48d, h48f.1, h48f.2, hl1a, hl1b, hl1d, hl1w]) <;> exact wkl) (by rfl) (by rfl) ?_
             simp only [go_sem, h46, h47, of_decide_eq_true h47, h48a, h48b, h48d, h48f.1, h48f.2, hl1a, hl1b, hl1d, hl1w]
             (repeat refine sd ?_)
             refine hK _ _ fun nx => ?_; clear hK K; try clear kk
             by_cases h50 : (ags) = true
             ·rw [if_pos h50] at hh
              refine zk (by first | exact congrArg PV.bool h50 | rfl) ?_
              refine zb fun K kk hK => ?_
              simp only [go_sem, hl1a, hl1b, hl1d, hl1w]
              refine hK _ _ fun nx => ?_; clear hK K; try clear kk
              refine zn ?_; refine nmx ?_
              refine xI ⟨_, (Option.some.inj hh), ?_⟩
              exact zz
             ·rw [if_neg h50] at hh
              replace h50 := Bool.eq_false_iff.mpr h50
              refine zh (by first | exact congrArg PV.bool h50 | rfl) ?_
              refine zy ?_; refine nmx ?_
              refine zt fun K kk hK => ?_
              simp only [go_sem, hl1a, hl1b, hl1d, hl1w]
              refine hK _ _ fun nx => ?_; clear hK K; try clear kk
              refine nmx ?_
              have ih' := ih (pre ++ [aq0]) (Yl + 1) (by rw [hsplit]; simp) (by simp [hidx]) hh nx
              refine zH ?_
              first | exact ih' _ | (simp only [pvE, lsE, zo] at ih' ⊢; exact ih' _) | (simp only [pvE, lsE, zo, h2, h23, h24, h25, h27, h44, h46, h47, h50] at ih' ⊢; exact ih' _)
            ·rw [if_neg h47] at hh
             replace h47 := Bool.eq_false_iff.mpr h47
             refine zb fun K kk hK => ?_
             simp only [go_sem, h46, h47, of_decide_eq_false h47, hl1a, hl1b, hl1d, hl1w]
             (repeat refine sd ?_)
             refine zg (ih_node_formed _ _ h45) (by (try simp only [go_sem, h46, h47, of_decide_eq_false h47, hl1a, hl1b, hl1d, hl1w]) <;> exact wkl) (by rfl) (by rfl) ?_
             simp only [go_sem, h46, h47, of_decide_eq_false h47, hl1a, hl1b, hl1d, hl1w]
             (repeat refine sd ?_)
             refine hK _ _ fun nx => ?_; clear hK K; try clear kk
             refine zh rfl ?_
             refine zy ?_; refine nmx ?_
             refine zt fun K kk hK => ?_
             simp only [go_sem, hl1a, hl1b, hl1d, hl1w]
             refine hK _ _ fun nx => ?_; clear hK K; try clear kk
             refine nmx ?_
             have ih' := ih (pre ++ [aq0]) (Yl + 1) (by rw [hsplit]; simp) (by simp [hidx]) hh nx
             refine zH ?_
             first | exact ih' _ | (simp only [pvE, lsE, zo] at ih' ⊢; exact ih' _) | (simp only [pvE, lsE, zo, h2, h23, h24, h25, h27, h44, h46, h47] at ih' ⊢; exact ih' _)
         exact key n_1.Kids [] _ rfl rfl f1 _ _
        ·rintro s ⟨t, hless, rfl, XO, awg, nx, g1, rfl⟩
         try dsimp only at hh
         refine nmy ?_
         first | (refine qW hless ?_; try refine wY ?_) | refine qC hless ?_ | refine qD hless ?_
         refine zb fun K kk hK => ?_
         simp only [go_sem]
         refine hK _ _ fun nx => ?_; clear hK K; try clear kk
         refine zn ?_; refine nmx ?_
         obtain hR := Option.some.inj hh
         subst hR
         exact zz
        ·intro i s h; exact h.elim
        ·rintro s ⟨ahc, rfl, hb⟩
         try dsimp only at hh
         obtain hR := Option.some.inj hh
         subst hR
         refine nmx ?_
         exact hb
   ·intro i s h; exact h.elim
   ·rintro s ⟨af3, rfl, hb⟩
    try dsimp only at hh
    obtain hR := Option.some.inj hh
    subst hR
    refine nmx ?_
    exact hb
theorem agh (n_1 : za) (R : Bool) (hh : WJ n_1 = some R) : PC Tryz.prog 95 [.agg [.str n_1.Kind, .str n_1.Text, .list 1 (n_1.Marks.map PV.str), .list 2 (n_1.zq.map zf.pv), .list 5 (n_1.Kids.map za.pv)]] (.bool R) := by
 rw [WJ] at hh
 obtain ⟨kr, hh⟩ := jL hh
 exact (afy kr) _ _ hh
theorem af0 : ∀ kr : Nat, (∀ (n_1 : za) (R : Int), vv kr n_1 = some R → PC Tryz.prog 96 [.agg [.str n_1.Kind, .str n_1.Text, .list 1 (n_1.Marks.map PV.str), .list 2 (n_1.zq.map zf.pv), .list 5 (n_1.Kids.map za.pv)]] (.int .i64 R)) := by
 intro kr
 induction kr with
 | zero => exact (by intro n_1 R hh; rw [vv] at hh; cases hh)
 | succ kr ih =>
  have ih_node_Depth := ih
  clear ih
  intro n_1 R hh
  rw [vv] at hh
  refine adV rfl ?_
  refine zb fun K kk hK => ?_
  simp only [go_sem]
  refine hK _ _ fun nx => ?_; clear hK K; try clear kk
  refine zm ?_
  obtain ⟨yf, h1, hh⟩ := ze hh
  refine zb fun K kk hK => ?_
  simp only [go_sem]
  refine zg (kG _ _ h1) (by (try simp only [go_sem]) <;> exact wkl) (by rfl) (by rfl) ?_
  simp only [go_sem]
  refine hK _ _ fun nx => ?_; clear hK K; try clear kk
  by_cases h2 : (yf) = true
  ·rw [if_pos h2] at hh
   refine zk (by first | exact congrArg PV.bool h2 | rfl) ?_
   refine zb fun K kk hK => ?_
   simp only [go_sem]
   refine hK _ _ fun nx => ?_; clear hK K; try clear kk
   refine zn ?_; refine nmx ?_
   obtain hR := Option.some.inj hh
   subst hR
   exact zz
  ·rw [if_neg h2] at hh
   replace h2 := Bool.eq_false_iff.mpr h2
   refine zh (by first | exact congrArg PV.bool h2 | rfl) ?_
   refine zy ?_; refine nmx ?_
   refine zb fun K kk hK => ?_
   simp only [go_sem]
   refine hK _ _ fun nx => ?_; clear hK K; try clear kk
   refine zm ?_
   refine zb fun K kk hK => ?_
   simp only [go_sem]
   refine hK _ _ fun nx => ?_; clear hK K; try clear kk
   obtain ⟨e0, f0, hh⟩ := ze hh
   obtain ⟨hlen0, f0⟩ := zR f0
   refine qz (w9 (fun s => ∃ KZ, KZ = e0 ∧ ∃ (KU : Int) (XM : Bool) (nx : Nat), s = ⟨[(3, .int .i64 KZ), (9, .list 5 (n_1.Kids.map za.pv)), (10, .int .i64 (n_1.Kids.length : Int)), (11, .int .i64 KU), (12, .bool XM)], [], nx⟩))
    (fun i s => False)
    (fun s => False) ?_ ?_ ?_ ?_
   ·refine zC ?_
    refine qi fun I hI => ?_
    have key : ∀ (suf pre : List za) (v_6 : Int) (yw : Int), n_1.Kids = pre ++ suf → v_6 = (pre.length : Int) → vC (vv kr) suf v_6 yw = some e0 → ∀ (nx : Nat), I ⟨[(3, .int .i64 yw), (9, .list 5 (n_1.Kids.map za.pv)), (10, .int .i64 (n_1.Kids.length : Int)), (11, .int .i64 v_6)], [], nx⟩ := by
     intro suf
     induction suf with
     | nil =>
      intro pre v_6 yw hsplit hidx hh nx
      rw [vC] at hh
      refine hI _ ?_
      have h9 := walk_nil hsplit hidx
      refine zb fun K kk hK => ?_
      simp only [go_sem]
      refine hK _ _ fun nx => ?_; clear hK K; try clear kk
      refine zm ?_
      refine zh (by first | exact congrArg PV.bool h9 | rfl) ?_
      refine zV ?_; refine nmx ?_
      refine wU ?_
      refine zH ?_
      refine ⟨_, (Option.some.inj hh), ?_⟩
      first | exact ⟨_, _, _, rfl⟩ | (simp only [pvE, lsE, zo]; exact ⟨_, _, _, rfl⟩) | (simp only [pvE, lsE, zo, h2, h9]; exact ⟨_, _, _, rfl⟩)
     | cons y_9 suf ih =>
      intro pre v_6 yw hsplit hidx hh nx
      rw [vC] at hh
      refine hI _ ?_
      obtain ⟨hl0a, hl0b, hl0d, hl0w, h9⟩ := qV (f := za.pv) hsplit hidx hlen0
      refine zb fun K kk hK => ?_
      simp only [go_sem]
      refine hK _ _ fun nx => ?_; clear hK K; try clear kk
      refine zm ?_
      refine zk (by first | exact congrArg PV.bool h9 | rfl) ?_
      refine zy ?_; refine nmx ?_
      refine zm ?_
      refine zC ?_
      refine zb fun K kk hK => ?_
      simp only [go_sem, hl0a, hl0b, hl0d, hl0w]
      refine hK _ _ fun nx => ?_; clear hK K; try clear kk
      obtain ⟨agv, h10, hh⟩ := ze hh
      refine zt fun K kk hK => ?_
      simp only [go_sem, hl0a, hl0b, hl0d, hl0w]
      refine zg (ih_node_Depth _ _ h10) (by (try simp only [go_sem, hl0a, hl0b, hl0d, hl0w]) <;> exact wkl) (by rfl) (by rfl) ?_
      simp only [go_sem, hl0a, hl0b, hl0d, hl0w]
      refine hK _ _ fun nx => ?_; clear hK K; try clear kk
      refine nmx ?_
      refine zt fun K kk hK => ?_
      simp only [go_sem, hl0a, hl0b, hl0d, hl0w]
      refine hK _ _ fun nx => ?_; clear hK K; try clear kk
      refine nmx ?_
      have ih' := ih (pre ++ [y_9]) (v_6 + 1) _ (by rw [hsplit]; simp) (by simp [hidx]) hh nx
      refine zH ?_
      first | exact ih' | (simp only [pvE, lsE, zo] at ih' ⊢; exact ih') | (simp only [pvE, lsE, zo, h2, h9] at ih' ⊢; exact ih')
    exact key n_1.Kids [] _ _ rfl rfl f0 _
   ·rintro s ⟨t, hless, KZ, rfl, KU, XM, nx, rfl⟩
    try dsimp only at hh
    refine nmy ?_
    first | (refine qW hless ?_; try refine wY ?_) | refine qC hless ?_ | refine qD hless ?_
    refine zb fun K kk hK => ?_
    simp only [go_sem]
    refine hK _ _ fun nx => ?_; clear hK K; try clear kk
    refine zn ?_; refine nmx ?_
    obtain hR := Option.some.inj hh
    subst hR
    exact zz
   ·intro i s h; exact h.elim
   ·intro s h; exact h.elim
theorem aiv (n_1 : za) (R : Int) (hh : Ve n_1 = some R) : PC Tryz.prog 96 [.agg [.str n_1.Kind, .str n_1.Text, .list 1 (n_1.Marks.map PV.str), .list 2 (n_1.zq.map zf.pv), .list 5 (n_1.Kids.map za.pv)]] (.int .i64 R) := by
 rw [Ve] at hh
 obtain ⟨kr, hh⟩ := jL hh
 exact (af0 kr) _ _ hh
theorem Q6 (n_1 : za) (R : Int) (hh : yh n_1 = some R) : PC Tryz.prog 51 [.agg [.str n_1.Kind, .str n_1.Text, .list 1 (n_1.Marks.map PV.str), .list 2 (n_1.zq.map zf.pv), .list 5 (n_1.Kids.map za.pv)]] (.int .i64 R) := by
 rw [yh] at hh
 refine aer rfl ?_
 refine zb fun K kk hK => ?_
 simp only [go_sem]
 refine hK _ _ fun nx => ?_; clear hK K; try clear kk
 refine zm ?_
 refine zC ?_
 obtain ⟨agi, h1, hh⟩ := ze hh
 refine zb fun K kk hK => ?_
 simp only [go_sem]
 refine zg (agh _ _ h1) (by (try simp only [go_sem]) <;> exact wkl) (by rfl) (by rfl) ?_
 simp only [go_sem]
 refine hK _ _ fun nx => ?_; clear hK K; try clear kk
 by_cases h2 : (!agi) = true
 ·rw [if_pos h2] at hh
  refine zk (by first | exact congrArg PV.bool h2 | rfl) ?_
  refine zb fun K kk hK => ?_
  simp only [go_sem]
  refine hK _ _ fun nx => ?_; clear hK K; try clear kk
  refine zn ?_; refine nmx ?_
  obtain hR := Option.some.inj hh
  subst hR
  exact zz
 ·rw [if_neg h2] at hh
  replace h2 := Bool.eq_false_iff.mpr h2
  refine zh (by first | exact congrArg PV.bool h2 | rfl) ?_
  obtain ⟨akV, h3, hh⟩ := ze hh
  refine zb fun K kk hK => ?_
  simp only [go_sem]
  refine zg (aiv _ _ h3) (by (try simp only [go_sem]) <;> exact wkl) (by rfl) (by rfl) ?_
  simp only [go_sem]
  refine hK _ _ fun nx => ?_; clear hK K; try clear kk
  by_cases h4 : (decide (akV > (40 : Int))) = true
  ·rw [if_pos h4] at hh
   refine zk (by first | exact congrArg PV.bool h4 | rfl) ?_
   refine zb fun K kk hK => ?_
   simp only [go_sem]
   refine hK _ _ fun nx => ?_; clear hK K; try clear kk
   refine zn ?_; refine nmx ?_
   obtain hR := Option.some.inj hh
   subst hR
   exact zz
  ·rw [if_neg h4] at hh
   replace h4 := Bool.eq_false_iff.mpr h4
   refine zh (by first | exact congrArg PV.bool h4 | rfl) ?_
   obtain ⟨anJ, h5, hh⟩ := ze hh
   refine zb fun K kk hK => ?_
   simp only [go_sem]
   refine zg (ZT _ _ h5) (by (try simp only [go_sem]) <;> exact wkl) (by rfl) (by rfl) ?_
   simp only [go_sem]
   refine hK _ _ fun nx => ?_; clear hK K; try clear kk
   by_cases h6 : (decide (anJ > (4000 : Int))) = true
   ·rw [if_pos h6] at hh
    refine zk (by first | exact congrArg PV.bool h6 | rfl) ?_
    refine zb fun K kk hK => ?_
    simp only [go_sem]
    refine hK _ _ fun nx => ?_; clear hK K; try clear kk
    refine zn ?_; refine nmx ?_
    obtain hR := Option.some.inj hh
    subst hR
    exact zz
   ·rw [if_neg h6] at hh
    replace h6 := Bool.eq_false_iff.mpr h6
    refine zh (by first | exact congrArg PV.bool h6 | rfl) ?_
    refine zy ?_; refine nmx ?_
    refine zb fun K kk hK => ?_
    simp only [go_sem]
    refine hK _ _ fun nx => ?_; clear hK K; try clear kk
    refine zn ?_; refine nmx ?_
    obtain hR := Option.some.inj hh
    subst hR
    exact zz
theorem aiw (s_1 : zG) (R : Bool) (hh : xD s_1 = some R) : PC Tryz.prog 19 [.agg [.int .u8 s_1.Kind, .int .i64 s_1.From, .int .i64 s_1.To, .list 5 (s_1.wJ.map za.pv), .str s_1.Name, .str s_1.Value]] (.bool R) := by
 rw [xD] at hh
 refine aeB rfl ?_
 refine zb fun K kk hK => ?_
 simp only [go_sem]
 refine hK _ _ fun nx => ?_; clear hK K; try clear kk
 refine zm ?_
 obtain ⟨e0, f0, hh⟩ := ze hh
 refine Qg (fun s => ∃ V4, V4 = e0 ∧ ∃ (nx : Nat) (g1 : Nat), s = ⟨[(1, .box 1 g1 0), (3, .bool V4)], [(1, g1, .var 31 [.int .u8 s_1.Kind, .int .i64 s_1.From, .int .i64 s_1.To, .list 5 (s_1.wJ.map za.pv), .str s_1.Name, .str s_1.Value])], nx⟩)
  (fun i s => False)
  (fun s => False) ?_ ?_ ?_ ?_
 ·have hh := f0
  by_cases h1 : (decide (s_1.From ≥ (0 : Int))) = true
  ·rw [if_pos h1] at hh
   by_cases h2 : (decide (s_1.From ≤ s_1.To)) = true
   ·rw [if_pos h2] at hh
    refine zt fun K kk hK => ?_
    simp only [go_sem, h1, of_decide_eq_true h1, h2, of_decide_eq_true h2]
    (repeat refine sd ?_)
    refine hK _ _ fun nx => ?_; clear hK K; try clear kk
    refine nmx ?_
    refine wU ?_
    refine zH ?_
    refine ⟨_, (Option.some.inj hh), ?_⟩
    first | exact ⟨_, _, rfl⟩ | (simp only [pvE, lsE, zo]; exact ⟨_, _, rfl⟩) | (simp only [pvE, lsE, zo, h1, h2]; exact ⟨_, _, rfl⟩)
   ·rw [if_neg h2] at hh
    replace h2 := Bool.eq_false_iff.mpr h2
    refine zt fun K kk hK => ?_
    simp only [go_sem, h1, of_decide_eq_true h1, h2, of_decide_eq_false h2]
    (repeat refine sd ?_)
    refine hK _ _ fun nx => ?_; clear hK K; try clear kk
    refine nmx ?_
    refine wU ?_
    refine zH ?_
    refine ⟨_, (Option.some.inj hh), ?_⟩
    first | exact ⟨_, _, rfl⟩ | (simp only [pvE, lsE, zo]; exact ⟨_, _, rfl⟩) | (simp only [pvE, lsE, zo, h1, h2]; exact ⟨_, _, rfl⟩)
  ·rw [if_neg h1] at hh
   replace h1 := Bool.eq_false_iff.mpr h1
   refine zt fun K kk hK => ?_
   simp only [go_sem, h1, of_decide_eq_false h1]
   (repeat refine sd ?_)
   refine hK _ _ fun nx => ?_; clear hK K; try clear kk
   refine nmx ?_
   refine wU ?_
   refine zH ?_
   refine ⟨_, (Option.some.inj hh), ?_⟩
   first | exact ⟨_, _, rfl⟩ | (simp only [pvE, lsE, zo]; exact ⟨_, _, rfl⟩) | (simp only [pvE, lsE, zo, h1]; exact ⟨_, _, rfl⟩)
 ·rintro s ⟨V4, rfl, nx, g1, rfl⟩
  try dsimp only at hh
  refine zm ?_
  refine zb fun K kk hK => ?_
  simp only [go_sem]
  refine hK _ _ fun nx => ?_; clear hK K; try clear kk
  refine zC ?_
  refine zb fun K kk hK => ?_
  simp only [go_sem]
  refine hK _ _ fun nx => ?_; clear hK K; try clear kk
  by_cases h3 : (s_1.Kind == (114 : Int)) = true
  ·rw [if_pos h3] at hh
   refine zk (by first | exact congrArg PV.bool h3 | rfl) ?_
   obtain ⟨akz, h4, hh⟩ := ze hh
   refine zb fun K kk hK => ?_
   simp only [go_sem]
   refine zg (Q6 _ _ h4) (by (try simp only [go_sem]) <;> exact wkl) (by rfl) (by rfl) ?_
   simp only [go_sem]
   refine hK _ _ fun nx => ?_; clear hK K; try clear kk
   by_cases h5 : (V4) = true
   ·rw [if_pos h5] at hh
    by_cases h6 : (akz != (2 : Int)) = true
    ·rw [if_pos h6] at hh
     obtain ⟨h7, hh⟩ := zR hh
     refine zb fun K kk hK => ?_
     simp only [go_sem, h5, h6, h7]
     (repeat refine sd ?_)
     refine hK _ _ fun nx => ?_; clear hK K; try clear kk
     refine zn ?_; refine nmx ?_
     obtain hR := Option.some.inj hh
     subst hR
     exact zz
    ·rw [if_neg h6] at hh
     replace h6 := Bool.eq_false_iff.mpr h6
     refine zb fun K kk hK => ?_
     simp only [go_sem, h5, h6]
     (repeat refine sd ?_)
     refine hK _ _ fun nx => ?_; clear hK K; try clear kk
     refine zn ?_; refine nmx ?_
     obtain hR := Option.some.inj hh
     subst hR
     exact zz
   ·rw [if_neg h5] at hh
    replace h5 := Bool.eq_false_iff.mpr h5
    refine zb fun K kk hK => ?_
    simp only [go_sem, h5]
    (repeat refine sd ?_)
    refine hK _ _ fun nx => ?_; clear hK K; try clear kk
    refine zn ?_; refine nmx ?_
    obtain hR := Option.some.inj hh
    subst hR
    exact zz
  ·rw [if_neg h3] at hh
   replace h3 := Bool.eq_false_iff.mpr h3
   refine zh (by first | exact congrArg PV.bool h3 | rfl) ?_
   refine zb fun K kk hK => ?_
   simp only [go_sem]
   refine hK _ _ fun nx => ?_; clear hK K; try clear kk
   by_cases h8 : (s_1.Kind == (97 : Int)) = true
   ·rw [if_pos h8] at hh
    refine zk (by first | exact congrArg PV.bool h8 | rfl) ?_
    by_cases h9 : (decide (s_1.From ≥ (-1 : Int))) = true
    ·rw [if_pos h9] at hh
     by_cases h10 : (decide (s_1.From ≤ (1048576 : Int))) = true
     ·rw [if_pos h10] at hh
      by_cases h11 : (s_1.To == (0 : Int)) = true
      ·rw [if_pos h11] at hh
       obtain ⟨ano, h12, hh⟩ := ze hh
       by_cases h13 : (ano) = true
       ·rw [if_pos h13] at hh
        obtain ⟨ajV, h14, hh⟩ := ze hh
        by_cases h15 : (ajV) = true
        ·rw [if_pos h15] at hh
         refine zb fun K kk hK => ?_
         simp only [go_sem, h9, of_decide_eq_true h9, h10, of_decide_eq_true h10, h11, h13, h15]
         (repeat refine sd ?_)
         refine zg (wm _ _ h12) (by (try simp only [go_sem, h9, of_decide_eq_true h9, h10, of_decide_eq_true h10, h11, h13, h15]) <;> exact wkl) (by rfl) (by rfl) ?_
         simp only [go_sem, h9, of_decide_eq_true h9, h10, of_decide_eq_true h10, h11, h13, h15]
         (repeat refine sd ?_)
         refine zg (Jh _ _ h14) (by (try simp only [go_sem, h9, of_decide_eq_true h9, h10, of_decide_eq_true h10, h11, h13, h15]) <;> exact wkl) (by rfl) (by rfl) ?_
         simp only [go_sem, h9, of_decide_eq_true h9, h10, of_decide_eq_true h10, h11, h13, h15]
         (repeat refine sd ?_)
         refine hK _ _ fun nx => ?_; clear hK K; try clear kk
         refine zn ?_; refine nmx ?_
         obtain hR := Option.some.inj hh
         subst hR
         exact zz
        ·rw [if_neg h15] at hh
         replace h15 := Bool.eq_false_iff.mpr h15
         refine zb fun K kk hK => ?_
         simp only [go_sem, h9, of_decide_eq_true h9, h10, of_decide_eq_true h10, h11, h13, h15]
         (repeat refine sd ?_)
         refine zg (wm _ _ h12) (by (try simp only [go_sem, h9, of_decide_eq_true h9, h10, of_decide_eq_true h10, h11, h13, h15]) <;> exact wkl) (by rfl) (by rfl) ?_
         simp only [go_sem, h9, of_decide_eq_true h9, h10, of_decide_eq_true h10, h11, h13, h15]
         (repeat refine sd ?_)
         refine zg (Jh _ _ h14) (by (try simp only [go_sem, h9, of_decide_eq_true h9, h10, of_decide_eq_true h10, h11, h13, h15]) <;> exact wkl) (by rfl) (by rfl) ?_
         simp only [go_sem, h9, of_decide_eq_true h9, h10, of_decide_eq_true h10, h11, h13, h15]
         (repeat refine sd ?_)
         refine hK _ _ fun nx => ?_; clear hK K; try clear kk
         refine zn ?_; refine nmx ?_
         obtain hR := Option.some.inj hh
         subst hR
         exact zz
       ·rw [if_neg h13] at hh
        replace h13 := Bool.eq_false_iff.mpr h13
        refine zb fun K kk hK => ?_
        simp only [go_sem, h9, of_decide_eq_true h9, h10, of_decide_eq_true h10, h11, h13]
        (repeat refine sd ?_)
        refine zg (wm _ _ h12) (by (try simp only [go_sem, h9, of_decide_eq_true h9, h10, of_decide_eq_true h10, h11, h13]) <;> exact wkl) (by rfl) (by rfl) ?_
        simp only [go_sem, h9, of_decide_eq_true h9, h10, of_decide_eq_true h10, h11, h13]
        (repeat refine sd ?_)
        refine hK _ _ fun nx => ?_; clear hK K; try clear kk
        refine zn ?_; refine nmx ?_
        obtain hR := Option.some.inj hh
        subst hR
        exact zz
      ·rw [if_neg h11] at hh
       replace h11 := Bool.eq_false_iff.mpr h11
       refine zb fun K kk hK => ?_
       simp only [go_sem, h9, of_decide_eq_true h9, h10, of_decide_eq_true h10, h11]
       (repeat refine sd ?_)
       refine hK _ _ fun nx => ?_; clear hK K; try clear kk
       refine zn ?_; refine nmx ?_
       obtain hR := Option.some.inj hh
       subst hR
       exact zz
     ·rw [if_neg h10] at hh
      replace h10 := Bool.eq_false_iff.mpr h10
      refine zb fun K kk hK => ?_
      simp only [go_sem, h9, of_decide_eq_true h9, h10, of_decide_eq_false h10]
      (repeat refine sd ?_)
      refine hK _ _ fun nx => ?_; clear hK K; try clear kk
      refine zn ?_; refine nmx ?_
      obtain hR := Option.some.inj hh
      subst hR
      exact zz
    ·rw [if_neg h9] at hh
     replace h9 := Bool.eq_false_iff.mpr h9
     refine zb fun K kk hK => ?_
     simp only [go_sem, h9, of_decide_eq_false h9]
     (repeat refine sd ?_)
     refine hK _ _ fun nx => ?_; clear hK K; try clear kk
     refine zn ?_; refine nmx ?_
     obtain hR := Option.some.inj hh
     subst hR
     exact zz
   ·rw [if_neg h8] at hh
    replace h8 := Bool.eq_false_iff.mpr h8
    refine zh (by first | exact congrArg PV.bool h8 | rfl) ?_
    refine zm ?_
    refine zb fun K kk hK => ?_
    simp only [go_sem]
    refine hK _ _ fun nx => ?_; clear hK K; try clear kk
    by_cases h16 : (s_1.Kind == (109 : Int)) = true
    ·rw [if_pos h16] at hh
     refine zk (by first | exact congrArg PV.bool h16 | rfl) ?_
     refine zy ?_; refine nmx ?_
     refine zk (by first | exact congrArg PV.bool h16 | rfl) ?_
     by_cases h17 : (V4) = true
     ·rw [if_pos h17] at hh
      obtain ⟨am6, h18, hh⟩ := ze hh
      by_cases h19 : (am6) = true
      ·rw [if_pos h19] at hh
       by_cases h20 : ((s_1.wJ.length : Int) == (0 : Int)) = true
       ·rw [if_pos h20] at hh
        refine zb fun K kk hK => ?_
        simp only [go_sem, h17, h19, h20]
        (repeat refine sd ?_)
        refine zg (wm _ _ h18) (by (try simp only [go_sem, h17, h19, h20]) <;> exact wkl) (by rfl) (by rfl) ?_
        simp only [go_sem, h17, h19, h20]
        (repeat refine sd ?_)
        refine hK _ _ fun nx => ?_; clear hK K; try clear kk
        refine zn ?_; refine nmx ?_
        obtain hR := Option.some.inj hh
        subst hR
        exact zz
       ·rw [if_neg h20] at hh
        replace h20 := Bool.eq_false_iff.mpr h20
        refine zb fun K kk hK => ?_
        simp only [go_sem, h17, h19, h20]
        (repeat refine sd ?_)
        refine zg (wm _ _ h18) (by (try simp only [go_sem, h17, h19, h20]) <;> exact wkl) (by rfl) (by rfl) ?_
        simp only [go_sem, h17, h19, h20]
        (repeat refine sd ?_)
        refine hK _ _ fun nx => ?_; clear hK K; try clear kk
        refine zn ?_; refine nmx ?_
        obtain hR := Option.some.inj hh
        subst hR
        exact zz
      ·rw [if_neg h19] at hh
       replace h19 := Bool.eq_false_iff.mpr h19
       refine zb fun K kk hK => ?_
       simp only [go_sem, h17, h19]
       (repeat refine sd ?_)
       refine zg (wm _ _ h18) (by (try simp only [go_sem, h17, h19]) <;> exact wkl) (by rfl) (by rfl) ?_
       simp only [go_sem, h17, h19]
       (repeat refine sd ?_)
       refine hK _ _ fun nx => ?_; clear hK K; try clear kk
       refine zn ?_; refine nmx ?_
       obtain hR := Option.some.inj hh
       subst hR
       exact zz
     ·rw [if_neg h17] at hh
      replace h17 := Bool.eq_false_iff.mpr h17
      refine zb fun K kk hK => ?_
      simp only [go_sem, h17]
      (repeat refine sd ?_)
      refine hK _ _ fun nx => ?_; clear hK K; try clear kk
      refine zn ?_; refine nmx ?_
      obtain hR := Option.some.inj hh
      subst hR
      exact zz
    ·rw [if_neg h16] at hh
     replace h16 := Bool.eq_false_iff.mpr h16
     refine zh (by first | exact congrArg PV.bool h16 | rfl) ?_
     refine zt fun K kk hK => ?_
     simp only [go_sem]
     refine hK _ _ fun nx => ?_; clear hK K; try clear kk
     refine nmx ?_
     by_cases h21 : (s_1.Kind == (117 : Int)) = true
     ·rw [if_pos h21] at hh
      refine zk (by first | exact congrArg PV.bool h21 | rfl) ?_
      by_cases h22 : (V4) = true
      ·rw [if_pos h22] at hh
       obtain ⟨anS, h23, hh⟩ := ze hh
       by_cases h24 : (anS) = true
       ·rw [if_pos h24] at hh
        by_cases h25 : ((s_1.wJ.length : Int) == (0 : Int)) = true
        ·rw [if_pos h25] at hh
         refine zb fun K kk hK => ?_
         simp only [go_sem, h22, h24, h25]
         (repeat refine sd ?_)
         refine zg (wm _ _ h23) (by (try simp only [go_sem, h22, h24, h25]) <;> exact wkl) (by rfl) (by rfl) ?_
         simp only [go_sem, h22, h24, h25]
         (repeat refine sd ?_)
         refine hK _ _ fun nx => ?_; clear hK K; try clear kk
         refine zn ?_; refine nmx ?_
         obtain hR := Option.some.inj hh
         subst hR
         exact zz
        ·rw [if_neg h25] at hh
         replace h25 := Bool.eq_false_iff.mpr h25
         refine zb fun K kk hK => ?_
         simp only [go_sem, h22, h24, h25]
         (repeat refine sd ?_)
         refine zg (wm _ _ h23) (by (try simp only [go_sem, h22, h24, h25]) <;> exact wkl) (by rfl) (by rfl) ?_
         simp only [go_sem, h22, h24, h25]
         (repeat refine sd ?_)
         refine hK _ _ fun nx => ?_; clear hK K; try clear kk
         refine zn ?_; refine nmx ?_
         obtain hR := Option.some.inj hh
         subst hR
         exact zz
       ·rw [if_neg h24] at hh
        replace h24 := Bool.eq_false_iff.mpr h24
        refine zb fun K kk hK => ?_
        simp only [go_sem, h22, h24]
        (repeat refine sd ?_)
        refine zg (wm _ _ h23) (by (try simp only [go_sem, h22, h24]) <;> exact wkl) (by rfl) (by rfl) ?_
        simp only [go_sem, h22, h24]
        (repeat refine sd ?_)
        refine hK _ _ fun nx => ?_; clear hK K; try clear kk
        refine zn ?_; refine nmx ?_
        obtain hR := Option.some.inj hh
        subst hR
        exact zz
      ·rw [if_neg h22] at hh
       replace h22 := Bool.eq_false_iff.mpr h22
       refine zb fun K kk hK => ?_
       simp only [go_sem, h22]
       (repeat refine sd ?_)
       refine hK _ _ fun nx => ?_; clear hK K; try clear kk
       refine zn ?_; refine nmx ?_
       obtain hR := Option.some.inj hh
       subst hR
       exact zz
     ·rw [if_neg h21] at hh
      replace h21 := Bool.eq_false_iff.mpr h21
      refine zh (by first | exact congrArg PV.bool h21 | rfl) ?_
      refine zy ?_; refine nmx ?_
      refine zb fun K kk hK => ?_
      simp only [go_sem]
      refine hK _ _ fun nx => ?_; clear hK K; try clear kk
      refine zn ?_; refine nmx ?_
      obtain hR := Option.some.inj hh
      subst hR
      exact zz
 ·intro i s h; exact h.elim
 ·intro s h; exact h.elim
theorem abg (n_1 : za) (R : Bool) (hh : QJ n_1 = some R) : PC Tryz.prog 35 [.agg [.str n_1.Kind, .str n_1.Text, .list 1 (n_1.Marks.map PV.str), .list 2 (n_1.zq.map zf.pv), .list 5 (n_1.Kids.map za.pv)]] (.bool R) := by
 rw [QJ] at hh
 refine adW rfl ?_
 refine zb fun K kk hK => ?_
 simp only [go_sem]
 refine hK _ _ fun nx => ?_; clear hK K; try clear kk
 obtain ⟨aoY, h1, hh⟩ := ze hh
 refine zb fun K kk hK => ?_
 simp only [go_sem]
 refine zg (Q6 _ _ h1) (by (try simp only [go_sem]) <;> exact wkl) (by rfl) (by rfl) ?_
 simp only [go_sem]
 refine hK _ _ fun nx => ?_; clear hK K; try clear kk
 refine zn ?_; refine nmx ?_
 obtain hR := Option.some.inj hh
 subst hR
 exact zz
end Go.Proofs.YtclohbgnaopjfaaGreatDoor
