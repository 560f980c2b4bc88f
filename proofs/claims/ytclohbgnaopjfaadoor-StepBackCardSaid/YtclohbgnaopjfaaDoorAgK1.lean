/- Texts of the proof of stepBackCard -/
import Derived.Test.YtclohbgnaopjfaaDoorAgC
import Derived.Test.YtclohbgnaopjfaaDoorAgF
import Derived.Test.YtclohbgnaopjfaaDoorAgK0
namespace Go.Proofs.YtclohbgnaopjfaaDoor
set_option linter.unusedSimpArgs false
set_option linter.unusedVariables false
open Go
set_option maxRecDepth 100000
theorem agb : ∀ kr : Nat, (∀ (n_1 : za) (R : Bool), kY kr n_1 = some R → PC Tryd.prog 93 [.agg [.str n_1.Kind, .str n_1.Text, .list 1 (n_1.Marks.map PV.str), .list 2 (n_1.zo.map zg.pv), .list 5 (n_1.Kids.map za.pv)]] (.bool R)) := by
 intro kr
 induction kr with
 | zero => exact (by intro n_1 R hh; rw [kY] at hh; cases hh)
 | succ kr ih =>
  have ih_node_formed := ih
  clear ih
  intro n_1 R hh
  rw [kY] at hh
  refine acS rfl ?_
  refine zb fun K kk hK => ?_
  simp only [go_sem]
  refine hK _ _ fun nx => ?_; clear hK K; try clear kk
  refine zm ?_
  obtain ⟨yK, h1, hh⟩ := zf hh
  refine zb fun K kk hK => ?_
  simp only [go_sem]
  refine ze (wY _ _ h1) (by (try simp only [go_sem]) <;> exact wkl) (by rfl) (by rfl) ?_
  simp only [go_sem]
  refine hK _ _ fun nx => ?_; clear hK K; try clear kk
  by_cases h2 : (yK) = true
  ·rw [if_pos h2] at hh
   refine zn (by first | exact congrArg PV.bool h2 | rfl) ?_
   by_cases h3 : (!(n_1.Text == ([] : Str))) = true
   ·rw [if_pos h3] at hh
    obtain ⟨ahV, h4, hh⟩ := zf hh
    by_cases h5 : (ahV) = true
    ·rw [if_pos h5] at hh
     obtain ⟨anE, h6, hh⟩ := zf hh
     by_cases h7 : (anE) = true
     ·rw [if_pos h7] at hh
      refine zb fun K kk hK => ?_
      simp only [go_sem, h3, h5, h7]
      (repeat refine sd ?_)
      refine ze (kW _ _ h4) (by (try simp only [go_sem, h3, h5, h7]) <;> exact wkl) (by rfl) (by rfl) ?_
      simp only [go_sem, h3, h5, h7]
      (repeat refine sd ?_)
      refine ze (XR _ _ h6) (by (try simp only [go_sem, h3, h5, h7]) <;> exact wkl) (by rfl) (by rfl) ?_
      simp only [go_sem, h3, h5, h7]
      (repeat refine sd ?_)
      refine hK _ _ fun nx => ?_; clear hK K; try clear kk
      refine zi ?_; refine nmx ?_
      obtain hR := Option.some.inj hh
      subst hR
      exact zy
     ·rw [if_neg h7] at hh
      replace h7 := Bool.eq_false_iff.mpr h7
      refine zb fun K kk hK => ?_
      simp only [go_sem, h3, h5, h7]
      (repeat refine sd ?_)
      refine ze (kW _ _ h4) (by (try simp only [go_sem, h3, h5, h7]) <;> exact wkl) (by rfl) (by rfl) ?_
      simp only [go_sem, h3, h5, h7]
      (repeat refine sd ?_)
      refine ze (XR _ _ h6) (by (try simp only [go_sem, h3, h5, h7]) <;> exact wkl) (by rfl) (by rfl) ?_
      simp only [go_sem, h3, h5, h7]
      (repeat refine sd ?_)
      refine hK _ _ fun nx => ?_; clear hK K; try clear kk
      refine zi ?_; refine nmx ?_
      obtain hR := Option.some.inj hh
      subst hR
      exact zy
    ·rw [if_neg h5] at hh
     replace h5 := Bool.eq_false_iff.mpr h5
     refine zb fun K kk hK => ?_
     simp only [go_sem, h3, h5]
     (repeat refine sd ?_)
     refine ze (kW _ _ h4) (by (try simp only [go_sem, h3, h5]) <;> exact wkl) (by rfl) (by rfl) ?_
     simp only [go_sem, h3, h5]
     (repeat refine sd ?_)
     refine hK _ _ fun nx => ?_; clear hK K; try clear kk
     refine zi ?_; refine nmx ?_
     obtain hR := Option.some.inj hh
     subst hR
     exact zy
   ·rw [if_neg h3] at hh
    replace h3 := Bool.eq_false_iff.mpr h3
    refine zb fun K kk hK => ?_
    simp only [go_sem, h3]
    (repeat refine sd ?_)
    refine hK _ _ fun nx => ?_; clear hK K; try clear kk
    refine zi ?_; refine nmx ?_
    obtain hR := Option.some.inj hh
    subst hR
    exact zy
  ·rw [if_neg h2] at hh
   replace h2 := Bool.eq_false_iff.mpr h2
   refine zh (by first | exact congrArg PV.bool h2 | rfl) ?_
   refine zx ?_; refine nmx ?_
   refine zb fun K kk hK => ?_
   simp only [go_sem]
   refine hK _ _ fun nx => ?_; clear hK K; try clear kk
   refine zm ?_
   refine zb fun K kk hK => ?_
   simp only [go_sem]
   refine hK _ _ fun nx => ?_; clear hK K; try clear kk
   obtain ⟨e0, f0, hh⟩ := zf hh
   obtain ⟨hlen0, f0⟩ := z8 f0
   refine qz (kv (fun s => ∃ Xk, .inr Xk = e0 ∧ ∃ (amt : Int) (awK : Bool) (nx : Nat) (g1 : Nat) (g3 : Nat), s = ⟨[(1, .box 1 g1 0), (3, .row 3 g3 Xk.length), (34, .list 2 (n_1.zo.map zg.pv)), (35, .int .i64 (n_1.zo.length : Int)), (36, .int .i64 amt), (37, .bool awK)], [(1, g1, .var 28 [.str n_1.Kind, .str n_1.Text, .list 1 (n_1.Marks.map PV.str), .list 2 (n_1.zo.map zg.pv), .list 5 (n_1.Kids.map za.pv)]), (3, g3, .row false 1 (Xk.map PV.str))], nx⟩))
    (fun i s => False)
    (fun s => ∃ ahJ, .inl ahJ = e0 ∧ zS Tryd.prog [.tmp 2] (.bool ahJ) [] .ret s) ?_ ?_ ?_ ?_
   ·refine zC ?_
    refine qh fun I hI => ?_
    have key : ∀ (suf pre : List zg) (v_8 : Int) (KZ : (List Str)), n_1.zo = pre ++ suf → v_8 = (pre.length : Int) → vX suf v_8 KZ = some e0 → ∀ (nx : Nat) (g1 : Nat) (g3 : Nat), I ⟨[(1, .box 1 g1 0), (3, .row 3 g3 KZ.length), (34, .list 2 (n_1.zo.map zg.pv)), (35, .int .i64 (n_1.zo.length : Int)), (36, .int .i64 v_8)], [(1, g1, .var 28 [.str n_1.Kind, .str n_1.Text, .list 1 (n_1.Marks.map PV.str), .list 2 (n_1.zo.map zg.pv), .list 5 (n_1.Kids.map za.pv)]), (3, g3, .row false 1 (KZ.map PV.str))], nx⟩ := by
     intro suf
     induction suf with
     | nil =>
      intro pre v_8 KZ hsplit hidx hh nx g1 g3
      rw [vX] at hh
      refine hI _ ?_
      have h18 := walk_nil hsplit hidx
      refine zb fun K kk hK => ?_
      simp only [go_sem]
      refine hK _ _ fun nx => ?_; clear hK K; try clear kk
      refine zm ?_
      refine zh (by first | exact congrArg PV.bool h18 | rfl) ?_
      refine zZ ?_; refine nmx ?_
      refine kN ?_
      refine zJ ?_
      refine ⟨_, (Option.some.inj hh), ?_⟩
      first | exact ⟨_, _, _, _, _, rfl⟩ | (simp only [pvE, lsE, zq]; exact ⟨_, _, _, _, _, rfl⟩) | (simp only [pvE, lsE, zq, h18, h2]; exact ⟨_, _, _, _, _, rfl⟩)
     | cons atM suf ih =>
      intro pre v_8 KZ hsplit hidx hh nx g1 g3
      rw [vX] at hh
      refine hI _ ?_
      obtain ⟨hl0a, hl0b, hl0d, hl0w, h18⟩ := qI (f := zg.pv) hsplit hidx hlen0
      refine zb fun K kk hK => ?_
      simp only [go_sem]
      refine hK _ _ fun nx => ?_; clear hK K; try clear kk
      refine zm ?_
      refine zn (by first | exact congrArg PV.bool h18 | rfl) ?_
      refine zx ?_; refine nmx ?_
      refine zm ?_
      refine zC ?_
      refine zb fun K kk hK => ?_
      simp only [go_sem, hl0a, hl0b, hl0d, hl0w]
      refine hK _ _ fun nx => ?_; clear hK K; try clear kk
      refine zm ?_
      obtain ⟨aiF, h19, hh⟩ := zf hh
      refine zb fun K kk hK => ?_
      simp only [go_sem, hl0a, hl0b, hl0d, hl0w]
      refine ze (Jz _ _ h19) (by (try simp only [go_sem, hl0a, hl0b, hl0d, hl0w]) <;> exact wkl) (by rfl) (by rfl) ?_
      simp only [go_sem, hl0a, hl0b, hl0d, hl0w]
      refine hK _ _ fun nx => ?_; clear hK K; try clear kk
      by_cases h20 : (!aiF) = true
      ·rw [if_pos h20] at hh
       refine zn (by first | exact congrArg PV.bool h20 | rfl) ?_
       refine zb fun K kk hK => ?_
       simp only [go_sem, hl0a, hl0b, hl0d, hl0w]
       refine hK _ _ fun nx => ?_; clear hK K; try clear kk
       refine zi ?_; refine nmx ?_
       refine QD ⟨_, (Option.some.inj hh), ?_⟩
       exact zy
      ·rw [if_neg h20] at hh
       replace h20 := Bool.eq_false_iff.mpr h20
       refine zh (by first | exact congrArg PV.bool h20 | rfl) ?_
       refine zx ?_; refine nmx ?_
       obtain ⟨awo, h21, hh⟩ := zf hh
       obtain ⟨h21a, h21c⟩ := zX h21
       have h21d := qP (f := PV.str) h21c
       have h21e := qQ h21c
       try simp only [List.length_cons, List.length_nil, Nat.zero_add, Nat.reduceAdd] at h21a h21e
       try simp only [h21e] at h21a
       try simp only [List.map_cons, List.map_nil, List.nil_append, List.append_nil, List.cons_append, List.singleton_append, zq, pvE] at h21d
       refine zu fun K kk hK => ?_
       simp only [go_sem, h21a, h21d, h21e, hl0a, hl0b, hl0d, hl0w]
       (repeat refine sd ?_)
       refine hK _ _ fun nx => ?_; clear hK K; try clear kk
       refine nmx ?_
       refine zu fun K kk hK => ?_
       simp only [go_sem, hl0a, hl0b, hl0d, hl0w]
       refine hK _ _ fun nx => ?_; clear hK K; try clear kk
       refine nmx ?_
       have ih' := ih (pre ++ [atM]) (v_8 + 1) _ (by rw [hsplit]; simp) (by simp [hidx]) hh nx
       refine zJ ?_
       first | exact ih' _ _ | (simp only [pvE, lsE, zq, h21e] at ih' ⊢; exact ih' _ _) | (simp only [pvE, lsE, zq, h21e, h18, h2, h20] at ih' ⊢; exact ih' _ _)
    exact key n_1.zo [] _ _ rfl rfl f0 _ _ _
   ·rintro s ⟨t, hless, Xk, rfl, amt, awK, nx, g1, g3, rfl⟩
    try dsimp only at hh
    refine nmy ?_
    first | (refine wm hless ?_; try refine kz ?_) | refine qH hless ?_ | refine qG hless ?_
    refine zm ?_
    obtain ⟨akF, h22, hh⟩ := zf hh
    by_cases h23 : (!akF) = true
    ·rw [if_pos h23] at hh
     refine zb fun K kk hK => ?_
     simp only [go_sem, h23]
     (repeat refine sd ?_)
     refine ze (qZ _ _ h22) (by (try simp only [go_sem, h23]) <;> exact wkl) (by rfl) (by rfl) ?_
     simp only [go_sem, h23]
     (repeat refine sd ?_)
     refine hK _ _ fun nx => ?_; clear hK K; try clear kk
     refine zn rfl ?_
     refine zb fun K kk hK => ?_
     simp only [go_sem]
     refine hK _ _ fun nx => ?_; clear hK K; try clear kk
     refine zi ?_; refine nmx ?_
     obtain hR := Option.some.inj hh
     subst hR
     exact zy
    ·rw [if_neg h23] at hh
     replace h23 := Bool.eq_false_iff.mpr h23
     by_cases h24 : (!(n_1.Text == ([] : Str))) = true
     ·rw [if_pos h24] at hh
      refine zb fun K kk hK => ?_
      simp only [go_sem, h23, h24]
      (repeat refine sd ?_)
      refine ze (qZ _ _ h22) (by (try simp only [go_sem, h23, h24]) <;> exact wkl) (by rfl) (by rfl) ?_
      simp only [go_sem, h23, h24]
      (repeat refine sd ?_)
      refine hK _ _ fun nx => ?_; clear hK K; try clear kk
      refine zn rfl ?_
      refine zb fun K kk hK => ?_
      simp only [go_sem]
      refine hK _ _ fun nx => ?_; clear hK K; try clear kk
      refine zi ?_; refine nmx ?_
      obtain hR := Option.some.inj hh
      subst hR
      exact zy
     ·rw [if_neg h24] at hh
      replace h24 := Bool.eq_false_iff.mpr h24
      by_cases h25 : (decide ((n_1.Marks.length : Int) > (0 : Int))) = true
      ·rw [if_pos h25] at hh
       refine zb fun K kk hK => ?_
       simp only [go_sem, h23, h24, h25, of_decide_eq_true h25]
       (repeat refine sd ?_)
       refine ze (qZ _ _ h22) (by (try simp only [go_sem, h23, h24, h25, of_decide_eq_true h25]) <;> exact wkl) (by rfl) (by rfl) ?_
       simp only [go_sem, h23, h24, h25, of_decide_eq_true h25]
       (repeat refine sd ?_)
       refine hK _ _ fun nx => ?_; clear hK K; try clear kk
       refine zn rfl ?_
       refine zb fun K kk hK => ?_
       simp only [go_sem]
       refine hK _ _ fun nx => ?_; clear hK K; try clear kk
       refine zi ?_; refine nmx ?_
       obtain hR := Option.some.inj hh
       subst hR
       exact zy
      ·rw [if_neg h25] at hh
       replace h25 := Bool.eq_false_iff.mpr h25
       obtain ⟨alv, h26, hh⟩ := zf hh
       refine zb fun K kk hK => ?_
       simp only [go_sem, h23, h24, h25, of_decide_eq_false h25]
       (repeat refine sd ?_)
       refine ze (qZ _ _ h22) (by (try simp only [go_sem, h23, h24, h25, of_decide_eq_false h25]) <;> exact wkl) (by rfl) (by rfl) ?_
       simp only [go_sem, h23, h24, h25, of_decide_eq_false h25]
       (repeat refine sd ?_)
       refine ze (XR _ _ h26) (by (try simp only [go_sem, h23, h24, h25, of_decide_eq_false h25]) <;> exact wkl) (by rfl) (by rfl) ?_
       simp only [go_sem, h23, h24, h25, of_decide_eq_false h25]
       (repeat refine sd ?_)
       refine hK _ _ fun nx => ?_; clear hK K; try clear kk
       by_cases h27 : (!alv) = true
       ·rw [if_pos h27] at hh
        refine zn (by first | exact congrArg PV.bool h27 | rfl) ?_
        refine zb fun K kk hK => ?_
        simp only [go_sem]
        refine hK _ _ fun nx => ?_; clear hK K; try clear kk
        refine zi ?_; refine nmx ?_
        obtain hR := Option.some.inj hh
        subst hR
        exact zy
       ·rw [if_neg h27] at hh
        replace h27 := Bool.eq_false_iff.mpr h27
        refine zh (by first | exact congrArg PV.bool h27 | rfl) ?_
        refine zx ?_; refine nmx ?_
        refine zm ?_
        refine zb fun K kk hK => ?_
        simp only [go_sem]
        refine hK _ _ fun nx => ?_; clear hK K; try clear kk
        obtain ⟨e1, f1, hh⟩ := zf hh
        obtain ⟨hlen1, f1⟩ := z8 f1
        refine qz (kv (fun s => .inr () = e1 ∧ ∃ (awc : Int) (awv : Bool) (nx : Nat) (g1 : Nat), s = ⟨[(1, .box 1 g1 0), (71, .list 5 (n_1.Kids.map za.pv)), (72, .int .i64 (n_1.Kids.length : Int)), (73, .int .i64 awc), (74, .bool awv)], [(1, g1, .var 28 [.str n_1.Kind, .str n_1.Text, .list 1 (n_1.Marks.map PV.str), .list 2 (n_1.zo.map zg.pv), .list 5 (n_1.Kids.map za.pv)])], nx⟩))
         (fun i s => False)
         (fun s => ∃ ahm, .inl ahm = e1 ∧ zS Tryd.prog [.tmp 2] (.bool ahm) [] .ret s) ?_ ?_ ?_ ?_
        ·refine zC ?_
         refine qh fun I hI => ?_
         have key : ∀ (suf pre : List za) (Y7 : Int), n_1.Kids = pre ++ suf → Y7 = (pre.length : Int) → kP n_1 (kY kr) suf Y7 = some e1 → ∀ (nx : Nat) (g1 : Nat), I ⟨[(1, .box 1 g1 0), (71, .list 5 (n_1.Kids.map za.pv)), (72, .int .i64 (n_1.Kids.length : Int)), (73, .int .i64 Y7)], [(1, g1, .var 28 [.str n_1.Kind, .str n_1.Text, .list 1 (n_1.Marks.map PV.str), .list 2 (n_1.zo.map zg.pv), .list 5 (n_1.Kids.map za.pv)])], nx⟩ := by
          intro suf
          induction suf with
          | nil =>
           intro pre Y7 hsplit hidx hh nx g1
           rw [kP] at hh
           refine hI _ ?_
           have h44 := walk_nil hsplit hidx
           refine zb fun K kk hK => ?_
           simp only [go_sem]
           refine hK _ _ fun nx => ?_; clear hK K; try clear kk
           refine zm ?_
           refine zh (by first | exact congrArg PV.bool h44 | rfl) ?_
           refine zZ ?_; refine nmx ?_
           refine kN ?_
           refine zJ ?_
           refine ⟨(Option.some.inj hh), ?_⟩
           first | exact ⟨_, _, _, _, rfl⟩ | (simp only [pvE, lsE, zq]; exact ⟨_, _, _, _, rfl⟩) | (simp only [pvE, lsE, zq, h2, h23, h24, h25, h27, h44]; exact ⟨_, _, _, _, rfl⟩)
          | cons ath suf ih =>
           intro pre Y7 hsplit hidx hh nx g1
           rw [kP] at hh
           refine hI _ ?_
           obtain ⟨hl1a, hl1b, hl1d, hl1w, h44⟩ := qI (f := za.pv) hsplit hidx hlen1
           refine zb fun K kk hK => ?_
           simp only [go_sem]
           refine hK _ _ fun nx => ?_; clear hK K; try clear kk
           refine zm ?_
           refine zn (by first | exact congrArg PV.bool h44 | rfl) ?_
           refine zx ?_; refine nmx ?_
           refine zm ?_
           refine zC ?_
           refine zb fun K kk hK => ?_
           simp only [go_sem, hl1a, hl1b, hl1d, hl1w]
           refine hK _ _ fun nx => ?_; clear hK K; try clear kk
           obtain ⟨aec, h45, hh⟩ := zf hh
           by_cases h46 : (!aec) = true
           ·rw [if_pos h46] at hh
            refine zb fun K kk hK => ?_
            simp only [go_sem, h46, hl1a, hl1b, hl1d, hl1w]
            (repeat refine sd ?_)
            refine ze (ih_node_formed _ _ h45) (by (try simp only [go_sem, h46, hl1a, hl1b, hl1d, hl1w]) <;> exact wkl) (by rfl) (by rfl) ?_
            simp only [go_sem, h46, hl1a, hl1b, hl1d, hl1w]
            (repeat refine sd ?_)
            refine hK _ _ fun nx => ?_; clear hK K; try clear kk
            refine zn rfl ?_
            refine zb fun K kk hK => ?_
            simp only [go_sem, hl1a, hl1b, hl1d, hl1w]
            refine hK _ _ fun nx => ?_; clear hK K; try clear kk
            refine zi ?_; refine nmx ?_
            refine QD ⟨_, (Option.some.inj hh), ?_⟩
            exact zy
           ·rw [if_neg h46] at hh
            replace h46 := Bool.eq_false_iff.mpr h46
            by_cases h47 : (decide (Y7 > (0 : Int))) = true
            ·rw [if_pos h47] at hh
             obtain ⟨awF, h48, hh⟩ := zf hh
             obtain ⟨h48a, h48b, h48c⟩ := rd_some h48
             have h48d := vz (f := za.pv) h48c
             have h48f := wX (f := za.pv) h48c
             try simp only [Int.toNat_natCast, Int.reduceToNat] at h48d h48f
             obtain ⟨ag7, h49, hh⟩ := zf hh
             refine zb fun K kk hK => ?_
             simp only [go_sem, h46, h47, of_decide_eq_true h47, h48a, h48b, h48d, h48f.1, h48f.2, hl1a, hl1b, hl1d, hl1w]
             (repeat refine sd ?_)
             refine ze (ih_node_formed _ _ h45) (by (try simp only [go_sem, h46, h47, of_decide_eq_true h47, h48a, h48b, h48d, h48f.1, h48f.2, hl1a, hl1b, hl1d, hl1w]) <;> exact wkl) (by rfl) (by rfl) ?_
             simp only [go_sem, h46, h47, of_decide_eq_true h47, h48a, h48b, h48d, h48f.1, h48f.2, hl1a, hl1b, hl1d, hl1w]
             (repeat refine sd ?_)
             refine ze (JD _ _ _ h49) (by (try simp only [go_sem, h46, h47, of_decide_eq_true h47, h48a, h48b, h48d, h48f.1, h48f.2, hl1a, hl1b, hl1d, hl1w]) <;> exact wkl) (by rfl) (by rfl) ?_
             simp only [go_sem, h46, h47, of_decide_eq_true h47, h48a, h48b, h48d, h48f.1, h48f.2, hl1a, hl1b, hl1d, hl1w]
             (repeat refine sd ?_)
             refine hK _ _ fun nx => ?_; clear hK K; try clear kk
             by_cases h50 : (ag7) = true
             ·rw [if_pos h50] at hh
              refine zn (by first | exact congrArg PV.bool h50 | rfl) ?_
              refine zb fun K kk hK => ?_
              simp only [go_sem, hl1a, hl1b, hl1d, hl1w]
              refine hK _ _ fun nx => ?_; clear hK K; try clear kk
              refine zi ?_; refine nmx ?_
              refine QD ⟨_, (Option.some.inj hh), ?_⟩
              exact zy
             ·rw [if_neg h50] at hh
              replace h50 := Bool.eq_false_iff.mpr h50
              refine zh (by first | exact congrArg PV.bool h50 | rfl) ?_
              refine zx ?_; refine nmx ?_
              refine zu fun K kk hK => ?_
              simp only [go_sem, hl1a, hl1b, hl1d, hl1w]
              refine hK _ _ fun nx => ?_; clear hK K; try clear kk
              refine nmx ?_
              have ih' := ih (pre ++ [ath]) (Y7 + 1) (by rw [hsplit]; simp) (by simp [hidx]) hh nx
              refine zJ ?_
              first | exact ih' _ | (simp only [pvE, lsE, zq] at ih' ⊢; exact ih' _) | (simp only [pvE, lsE, zq, h2, h23, h24, h25, h27, h44, h46, h47, h50] at ih' ⊢; exact ih' _)
            ·rw [if_neg h47] at hh
             replace h47 := Bool.eq_false_iff.mpr h47
             refine zb fun K kk hK => ?_
             simp only [go_sem, h46, h47, of_decide_eq_false h47, hl1a, hl1b, hl1d, hl1w]
             (repeat refine sd ?_)
             refine ze (ih_node_formed _ _ h45) (by (try simp only [go_sem, h46, h47, of_decide_eq_false h47, hl1a, hl1b, hl1d, hl1w]) <;> exact wkl) (by rfl) (by rfl) ?_
             simp only [go_sem, h46, h47, of_decide_eq_false h47, hl1a, hl1b, hl1d, hl1w]
             (repeat refine sd ?_)
             refine hK _ _ fun nx => ?_; clear hK K; try clear kk
             refine zh rfl ?_
             refine zx ?_; refine nmx ?_
             refine zu fun K kk hK => ?_
             simp only [go_sem, hl1a, hl1b, hl1d, hl1w]
             refine hK _ _ fun nx => ?_; clear hK K; try clear kk
             refine nmx ?_
             have ih' := ih (pre ++ [ath]) (Y7 + 1) (by rw [hsplit]; simp) (by simp [hidx]) hh nx
             refine zJ ?_
             first | exact ih' _ | (simp only [pvE, lsE, zq] at ih' ⊢; exact ih' _) | (simp only [pvE, lsE, zq, h2, h23, h24, h25, h27, h44, h46, h47] at ih' ⊢; exact ih' _)
         exact key n_1.Kids [] _ rfl rfl f1 _ _
        ·rintro s ⟨t, hless, rfl, awc, awv, nx, g1, rfl⟩
         try dsimp only at hh
         refine nmy ?_
         first | (refine wm hless ?_; try refine kz ?_) | refine qH hless ?_ | refine qG hless ?_
         refine zb fun K kk hK => ?_
         simp only [go_sem]
         refine hK _ _ fun nx => ?_; clear hK K; try clear kk
         refine zi ?_; refine nmx ?_
         obtain hR := Option.some.inj hh
         subst hR
         exact zy
        ·intro i s h; exact h.elim
        ·rintro s ⟨ahm, rfl, hb⟩
         try dsimp only at hh
         obtain hR := Option.some.inj hh
         subst hR
         refine nmx ?_
         exact hb
   ·intro i s h; exact h.elim
   ·rintro s ⟨ahJ, rfl, hb⟩
    try dsimp only at hh
    obtain hR := Option.some.inj hh
    subst hR
    refine nmx ?_
    exact hb
theorem ag9 (n_1 : za) (R : Bool) (hh : Kr n_1 = some R) : PC Tryd.prog 93 [.agg [.str n_1.Kind, .str n_1.Text, .list 1 (n_1.Marks.map PV.str), .list 2 (n_1.zo.map zg.pv), .list 5 (n_1.Kids.map za.pv)]] (.bool R) := by
 rw [Kr] at hh
 obtain ⟨kr, hh⟩ := xZ hh
 exact (agb kr) _ _ hh
theorem ah8 : ∀ kr : Nat, (∀ (n_1 : za) (R : Int), vN kr n_1 = some R → PC Tryd.prog 94 [.agg [.str n_1.Kind, .str n_1.Text, .list 1 (n_1.Marks.map PV.str), .list 2 (n_1.zo.map zg.pv), .list 5 (n_1.Kids.map za.pv)]] (.int .i64 R)) := by
 intro kr
 induction kr with
 | zero => exact (by intro n_1 R hh; rw [vN] at hh; cases hh)
 | succ kr ih =>
  have ih_node_Depth := ih
  clear ih
  intro n_1 R hh
  rw [vN] at hh
  refine ae3 rfl ?_
  refine zb fun K kk hK => ?_
  simp only [go_sem]
  refine hK _ _ fun nx => ?_; clear hK K; try clear kk
  refine zm ?_
  obtain ⟨yK, h1, hh⟩ := zf hh
  refine zb fun K kk hK => ?_
  simp only [go_sem]
  refine ze (wY _ _ h1) (by (try simp only [go_sem]) <;> exact wkl) (by rfl) (by rfl) ?_
  simp only [go_sem]
  refine hK _ _ fun nx => ?_; clear hK K; try clear kk
  by_cases h2 : (yK) = true
  ·rw [if_pos h2] at hh
   refine zn (by first | exact congrArg PV.bool h2 | rfl) ?_
   refine zb fun K kk hK => ?_
   simp only [go_sem]
   refine hK _ _ fun nx => ?_; clear hK K; try clear kk
   refine zi ?_; refine nmx ?_
   obtain hR := Option.some.inj hh
   subst hR
   exact zy
  ·rw [if_neg h2] at hh
   replace h2 := Bool.eq_false_iff.mpr h2
   refine zh (by first | exact congrArg PV.bool h2 | rfl) ?_
   refine zx ?_; refine nmx ?_
   refine zb fun K kk hK => ?_
   simp only [go_sem]
   refine hK _ _ fun nx => ?_; clear hK K; try clear kk
   refine zm ?_
   refine zb fun K kk hK => ?_
   simp only [go_sem]
   refine hK _ _ fun nx => ?_; clear hK K; try clear kk
   obtain ⟨e0, f0, hh⟩ := zf hh
   obtain ⟨hlen0, f0⟩ := z8 f0
   refine qz (kv (fun s => ∃ VP, VP = e0 ∧ ∃ (Kq : Int) (Yh : Bool) (nx : Nat), s = ⟨[(3, .int .i64 VP), (9, .list 5 (n_1.Kids.map za.pv)), (10, .int .i64 (n_1.Kids.length : Int)), (11, .int .i64 Kq), (12, .bool Yh)], [], nx⟩))
    (fun i s => False)
    (fun s => False) ?_ ?_ ?_ ?_
   ·refine zC ?_
    refine qh fun I hI => ?_
    have key : ∀ (suf pre : List za) (v_6 : Int) (yV : Int), n_1.Kids = pre ++ suf → v_6 = (pre.length : Int) → vL (vN kr) suf v_6 yV = some e0 → ∀ (nx : Nat), I ⟨[(3, .int .i64 yV), (9, .list 5 (n_1.Kids.map za.pv)), (10, .int .i64 (n_1.Kids.length : Int)), (11, .int .i64 v_6)], [], nx⟩ := by
     intro suf
     induction suf with
     | nil =>
      intro pre v_6 yV hsplit hidx hh nx
      rw [vL] at hh
      refine hI _ ?_
      have h9 := walk_nil hsplit hidx
      refine zb fun K kk hK => ?_
      simp only [go_sem]
      refine hK _ _ fun nx => ?_; clear hK K; try clear kk
      refine zm ?_
      refine zh (by first | exact congrArg PV.bool h9 | rfl) ?_
      refine zZ ?_; refine nmx ?_
      refine kN ?_
      refine zJ ?_
      refine ⟨_, (Option.some.inj hh), ?_⟩
      first | exact ⟨_, _, _, rfl⟩ | (simp only [pvE, lsE, zq]; exact ⟨_, _, _, rfl⟩) | (simp only [pvE, lsE, zq, h2, h9]; exact ⟨_, _, _, rfl⟩)
     | cons y_9 suf ih =>
      intro pre v_6 yV hsplit hidx hh nx
      rw [vL] at hh
      refine hI _ ?_
      obtain ⟨hl0a, hl0b, hl0d, hl0w, h9⟩ := qI (f := za.pv) hsplit hidx hlen0
      refine zb fun K kk hK => ?_
      simp only [go_sem]
      refine hK _ _ fun nx => ?_; clear hK K; try clear kk
      refine zm ?_
      refine zn (by first | exact congrArg PV.bool h9 | rfl) ?_
      refine zx ?_; refine nmx ?_
      refine zm ?_
      refine zC ?_
      refine zb fun K kk hK => ?_
      simp only [go_sem, hl0a, hl0b, hl0d, hl0w]
      refine hK _ _ fun nx => ?_; clear hK K; try clear kk
      obtain ⟨ain, h10, hh⟩ := zf hh
      refine zu fun K kk hK => ?_
      simp only [go_sem, hl0a, hl0b, hl0d, hl0w]
      refine ze (ih_node_Depth _ _ h10) (by (try simp only [go_sem, hl0a, hl0b, hl0d, hl0w]) <;> exact wkl) (by rfl) (by rfl) ?_
      simp only [go_sem, hl0a, hl0b, hl0d, hl0w]
      refine hK _ _ fun nx => ?_; clear hK K; try clear kk
      refine nmx ?_
      refine zu fun K kk hK => ?_
      simp only [go_sem, hl0a, hl0b, hl0d, hl0w]
      refine hK _ _ fun nx => ?_; clear hK K; try clear kk
      refine nmx ?_
      have ih' := ih (pre ++ [y_9]) (v_6 + 1) _ (by rw [hsplit]; simp) (by simp [hidx]) hh nx
      refine zJ ?_
      first | exact ih' | (simp only [pvE, lsE, zq] at ih' ⊢; exact ih') | (simp only [pvE, lsE, zq, h2, h9] at ih' ⊢; exact ih')
    exact key n_1.Kids [] _ _ rfl rfl f0 _
   ·rintro s ⟨t, hless, VP, rfl, Kq, Yh, nx, rfl⟩
    try dsimp only at hh
    refine nmy ?_
    first | (refine wm hless ?_; try refine kz ?_) | refine qH hless ?_ | refine qG hless ?_
    refine zb fun K kk hK => ?_
    simp only [go_sem]
    refine hK _ _ fun nx => ?_; clear hK K; try clear kk
    refine zi ?_; refine nmx ?_
    obtain hR := Option.some.inj hh
    subst hR
    exact zy
   ·intro i s h; exact h.elim
   ·intro s h; exact h.elim
theorem ai2 (n_1 : za) (R : Int) (hh : VA n_1 = some R) : PC Tryd.prog 94 [.agg [.str n_1.Kind, .str n_1.Text, .list 1 (n_1.Marks.map PV.str), .list 2 (n_1.zo.map zg.pv), .list 5 (n_1.Kids.map za.pv)]] (.int .i64 R) := by
 rw [VA] at hh
 obtain ⟨kr, hh⟩ := xZ hh
 exact (ah8 kr) _ _ hh
theorem WH (n_1 : za) (R : Int) (hh : yE n_1 = some R) : PC Tryd.prog 64 [.agg [.str n_1.Kind, .str n_1.Text, .list 1 (n_1.Marks.map PV.str), .list 2 (n_1.zo.map zg.pv), .list 5 (n_1.Kids.map za.pv)]] (.int .i64 R) := by
 rw [yE] at hh
 refine aek rfl ?_
 refine zb fun K kk hK => ?_
 simp only [go_sem]
 refine hK _ _ fun nx => ?_; clear hK K; try clear kk
 refine zm ?_
 refine zC ?_
 obtain ⟨ah1, h1, hh⟩ := zf hh
 refine zb fun K kk hK => ?_
 simp only [go_sem]
 refine ze (ag9 _ _ h1) (by (try simp only [go_sem]) <;> exact wkl) (by rfl) (by rfl) ?_
 simp only [go_sem]
 refine hK _ _ fun nx => ?_; clear hK K; try clear kk
 by_cases h2 : (!ah1) = true
 ·rw [if_pos h2] at hh
  refine zn (by first | exact congrArg PV.bool h2 | rfl) ?_
  refine zb fun K kk hK => ?_
  simp only [go_sem]
  refine hK _ _ fun nx => ?_; clear hK K; try clear kk
  refine zi ?_; refine nmx ?_
  obtain hR := Option.some.inj hh
  subst hR
  exact zy
 ·rw [if_neg h2] at hh
  replace h2 := Bool.eq_false_iff.mpr h2
  refine zh (by first | exact congrArg PV.bool h2 | rfl) ?_
  obtain ⟨akj, h3, hh⟩ := zf hh
  refine zb fun K kk hK => ?_
  simp only [go_sem]
  refine ze (ai2 _ _ h3) (by (try simp only [go_sem]) <;> exact wkl) (by rfl) (by rfl) ?_
  simp only [go_sem]
  refine hK _ _ fun nx => ?_; clear hK K; try clear kk
  by_cases h4 : (decide (akj > (40 : Int))) = true
  ·rw [if_pos h4] at hh
   refine zn (by first | exact congrArg PV.bool h4 | rfl) ?_
   refine zb fun K kk hK => ?_
   simp only [go_sem]
   refine hK _ _ fun nx => ?_; clear hK K; try clear kk
   refine zi ?_; refine nmx ?_
   obtain hR := Option.some.inj hh
   subst hR
   exact zy
  ·rw [if_neg h4] at hh
   replace h4 := Bool.eq_false_iff.mpr h4
   refine zh (by first | exact congrArg PV.bool h4 | rfl) ?_
   obtain ⟨aoI, h5, hh⟩ := zf hh
   refine zb fun K kk hK => ?_
   simp only [go_sem]
   refine ze (ky _ _ h5) (by (try simp only [go_sem]) <;> exact wkl) (by rfl) (by rfl) ?_
   simp only [go_sem]
   refine hK _ _ fun nx => ?_; clear hK K; try clear kk
   by_cases h6 : (decide (aoI > (4000 : Int))) = true
   ·rw [if_pos h6] at hh
    refine zn (by first | exact congrArg PV.bool h6 | rfl) ?_
    refine zb fun K kk hK => ?_
    simp only [go_sem]
    refine hK _ _ fun nx => ?_; clear hK K; try clear kk
    refine zi ?_; refine nmx ?_
    obtain hR := Option.some.inj hh
    subst hR
    exact zy
   ·rw [if_neg h6] at hh
    replace h6 := Bool.eq_false_iff.mpr h6
    refine zh (by first | exact congrArg PV.bool h6 | rfl) ?_
    refine zx ?_; refine nmx ?_
    refine zb fun K kk hK => ?_
    simp only [go_sem]
    refine hK _ _ fun nx => ?_; clear hK K; try clear kk
    refine zi ?_; refine nmx ?_
    obtain hR := Option.some.inj hh
    subst hR
    exact zy
theorem WJ (n_1 : za) (R : Bool) (hh : yJ n_1 = some R) : PC Tryd.prog 36 [.agg [.str n_1.Kind, .str n_1.Text, .list 1 (n_1.Marks.map PV.str), .list 2 (n_1.zo.map zg.pv), .list 5 (n_1.Kids.map za.pv)]] (.bool R) := by
 rw [yJ] at hh
 refine aeC rfl ?_
 refine zb fun K kk hK => ?_
 simp only [go_sem]
 refine hK _ _ fun nx => ?_; clear hK K; try clear kk
 obtain ⟨aoY, h1, hh⟩ := zf hh
 refine zb fun K kk hK => ?_
 simp only [go_sem]
 refine ze (WH _ _ h1) (by (try simp only [go_sem]) <;> exact wkl) (by rfl) (by rfl) ?_
 simp only [go_sem]
 refine hK _ _ fun nx => ?_; clear hK K; try clear kk
 refine zi ?_; refine nmx ?_
 obtain hR := Option.some.inj hh
 subst hR
 exact zy
theorem JB (l : (List zg)) (R : (List zg)) (hh : vD l = some R) : PC Tryd.prog 70 [.list 2 (l.map zg.pv)] (.own 2 (R.map zg.pv)) := by
 rw [vD] at hh
 obtain ⟨ha, hb⟩ := zX hh
 rw [List.nil_append] at hb
 subst hb
 try simp only [List.length_nil, Nat.zero_add] at ha
 refine Vd rfl ?_
 refine zb fun K kk hK => ?_
 simp only [go_sem]
 refine hK _ _ fun nx => ?_; clear hK K; try clear kk
 refine zb fun K kk hK => ?_
 simp only [go_sem]
 refine ⟨fun hnil => hK _ _ fun nx => ?_, hK _ _ fun nx => ?_⟩ <;> (clear hK K; try clear kk)
 ·have hl : l = [] := by simpa using hnil
  subst hl
  first | refine zn rfl ?_ | (refine zm ?_; refine zn rfl ?_)
  refine zb fun K kk hK => ?_
  simp only [go_sem]
  refine hK _ _ fun nx => ?_; clear hK K; try clear kk
  refine zi ?_; refine nmx ?_
  exact aag rfl
 ·first | refine zh rfl ?_ | (refine zm ?_; refine zh rfl ?_)
  refine zx ?_; refine nmx ?_
  refine zb fun K kk hK => ?_
  simp only [go_sem, ha]
  refine hK _ _ fun nx => ?_; clear hK K; try clear kk
  refine zi ?_; refine nmx ?_
  exact aaF (by rfl) (by rfl) (by rfl) (by simp) (by rfl)
theorem aaJ (l : (List Int)) (R : (List Int)) (hh : slices_Clone_int l = some R) : PC Tryd.prog 100 [.list 1 (l.map (PV.int .i64))] (.own 1 (R.map (PV.int .i64))) := by
 rw [slices_Clone_int] at hh
 obtain ⟨ha, hb⟩ := zX hh
 rw [List.nil_append] at hb
 subst hb
 try simp only [List.length_nil, Nat.zero_add] at ha
 refine XM rfl ?_
 refine zb fun K kk hK => ?_
 simp only [go_sem]
 refine hK _ _ fun nx => ?_; clear hK K; try clear kk
 refine zb fun K kk hK => ?_
 simp only [go_sem]
 refine ⟨fun hnil => hK _ _ fun nx => ?_, hK _ _ fun nx => ?_⟩ <;> (clear hK K; try clear kk)
 ·have hl : l = [] := by simpa using hnil
  subst hl
  first | refine zn rfl ?_ | (refine zm ?_; refine zn rfl ?_)
  refine zb fun K kk hK => ?_
  simp only [go_sem]
  refine hK _ _ fun nx => ?_; clear hK K; try clear kk
  refine zi ?_; refine nmx ?_
  exact aag rfl
 ·first | refine zh rfl ?_ | (refine zm ?_; refine zh rfl ?_)
  refine zx ?_; refine nmx ?_
  refine zb fun K kk hK => ?_
  simp only [go_sem, ha]
  refine hK _ _ fun nx => ?_; clear hK K; try clear kk
  refine zi ?_; refine nmx ?_
  exact aaF (by rfl) (by rfl) (by rfl) (by simp) (by rfl)
theorem yH (n_1 : za) (wz : (List Int)) (R : (za × Int)) (hh : vv n_1 wz = some R) : PC Tryd.prog 75 [.agg [.str n_1.Kind, .str n_1.Text, .list 1 (n_1.Marks.map PV.str), .list 2 (n_1.zo.map zg.pv), .list 5 (n_1.Kids.map za.pv)], .list 1 (wz.map (PV.int .i64))] (.tup [.agg [.str R.1.Kind, .str R.1.Text, .list 1 (R.1.Marks.map PV.str), .list 2 (R.1.zo.map zg.pv), .list 5 (R.1.Kids.map za.pv)], .int .i64 R.2]) := by
 rw [vv] at hh
 refine adx rfl ?_
 refine zb fun K kk hK => ?_
 simp only [go_sem]
 refine hK _ _ fun nx => ?_; clear hK K; try clear kk
 refine zm ?_
 refine zb fun K kk hK => ?_
 simp only [go_sem]
 refine hK _ _ fun nx => ?_; clear hK K; try clear kk
 obtain ⟨e0, f0, hh⟩ := zf hh
 obtain ⟨hlen0, f0⟩ := z8 f0
 refine qz (kv (fun s => ∃ aiA, .inr aiA = e0 ∧ ∃ (Kq : Int) (Yh : Bool) (nx : Nat) (g2 : Nat) (g4 : Nat), s = ⟨[(2, .box 2 g2 0), (4, .box 4 g4 0), (8, .list 1 (wz.map (PV.int .i64))), (9, .int .i64 (wz.length : Int)), (10, .int .i64 Kq), (11, .bool Yh)], [(2, g2, .var 28 [.str aiA.Kind, .str aiA.Text, .list 1 (aiA.Marks.map PV.str), .list 2 (aiA.zo.map zg.pv), .list 5 (aiA.Kids.map za.pv)]), (4, g4, .var 28 [.str ([] : Str), .str ([] : Str), .list 1 ([].map PV.str), .list 2 ([].map zg.pv), .list 5 ([].map za.pv)])], nx⟩))
  (fun i s => False)
  (fun s => ∃ Jo, .inl Jo = e0 ∧ zS Tryd.prog [.cell 4 28, .tmp 5] (.tup [.agg [.str Jo.1.Kind, .str Jo.1.Text, .list 1 (Jo.1.Marks.map PV.str), .list 2 (Jo.1.zo.map zg.pv), .list 5 (Jo.1.Kids.map za.pv)], .int .i64 Jo.2]) [] .ret s) ?_ ?_ ?_ ?_
 ·refine zC ?_
  refine qh fun I hI => ?_
  have key : ∀ (suf pre : List Int) (v_6 : Int) (n_5 : za), wz = pre ++ suf → v_6 = (pre.length : Int) → qB suf v_6 n_5 = some e0 → ∀ (nx : Nat) (g2 : Nat) (g4 : Nat), I ⟨[(2, .box 2 g2 0), (4, .box 4 g4 0), (8, .list 1 (wz.map (PV.int .i64))), (9, .int .i64 (wz.length : Int)), (10, .int .i64 v_6)], [(2, g2, .var 28 [.str n_5.Kind, .str n_5.Text, .list 1 (n_5.Marks.map PV.str), .list 2 (n_5.zo.map zg.pv), .list 5 (n_5.Kids.map za.pv)]), (4, g4, .var 28 [.str ([] : Str), .str ([] : Str), .list 1 ([].map PV.str), .list 2 ([].map zg.pv), .list 5 ([].map za.pv)])], nx⟩ := by
   intro suf
   induction suf with
   | nil =>
    intro pre v_6 n_5 hsplit hidx hh nx g2 g4
    rw [qB] at hh
    refine hI _ ?_
    have h13 := walk_nil hsplit hidx
    refine zb fun K kk hK => ?_
    simp only [go_sem]
    refine hK _ _ fun nx => ?_; clear hK K; try clear kk
    refine zm ?_
    refine zh (by first | exact congrArg PV.bool h13 | rfl) ?_
    refine zZ ?_; refine nmx ?_
    refine kN ?_
    refine zJ ?_
    refine ⟨_, (Option.some.inj hh), ?_⟩
    first | exact ⟨_, _, _, _, _, rfl⟩ | (simp only [pvE, lsE, zq]; exact ⟨_, _, _, _, _, rfl⟩) | (simp only [pvE, lsE, zq, h13]; exact ⟨_, _, _, _, _, rfl⟩)
   | cons y_9 suf ih =>
    intro pre v_6 n_5 hsplit hidx hh nx g2 g4
    rw [qB] at hh
    refine hI _ ?_
    obtain ⟨hl0a, hl0b, hl0d, hl0w, h13⟩ := qI (f := (PV.int .i64)) hsplit hidx hlen0
    refine zb fun K kk hK => ?_
    simp only [go_sem]
    refine hK _ _ fun nx => ?_; clear hK K; try clear kk
    refine zm ?_
    refine zn (by first | exact congrArg PV.bool h13 | rfl) ?_
    refine zx ?_; refine nmx ?_
    refine zm ?_
    refine zC ?_
    refine zb fun K kk hK => ?_
    simp only [go_sem, hl0a, hl0b, hl0d, hl0w]
    refine hK _ _ fun nx => ?_; clear hK K; try clear kk
    refine zm ?_
    by_cases h14 : (decide (y_9 < (0 : Int))) = true
    ·rw [if_pos h14] at hh
     refine zb fun K kk hK => ?_
     simp only [go_sem, h14, of_decide_eq_true h14, hl0a, hl0b, hl0d, hl0w]
     (repeat refine sd ?_)
     refine hK _ _ fun nx => ?_; clear hK K; try clear kk
     refine zn rfl ?_
     refine zb fun K kk hK => ?_
     simp only [go_sem, hl0a, hl0b, hl0d, hl0w]
     refine hK _ _ fun nx => ?_; clear hK K; try clear kk
     refine zi ?_; refine nmx ?_
     refine QD ⟨_, (Option.some.inj hh), ?_⟩
     exact zy
    ·rw [if_neg h14] at hh
     replace h14 := Bool.eq_false_iff.mpr h14
     by_cases h15 : (decide (y_9 ≥ (n_5.Kids.length : Int))) = true
     ·rw [if_pos h15] at hh
      refine zb fun K kk hK => ?_
      simp only [go_sem, h14, of_decide_eq_false h14, h15, of_decide_eq_true h15, hl0a, hl0b, hl0d, hl0w]
      (repeat refine sd ?_)
      refine hK _ _ fun nx => ?_; clear hK K; try clear kk
      refine zn rfl ?_
      refine zb fun K kk hK => ?_
      simp only [go_sem, hl0a, hl0b, hl0d, hl0w]
      refine hK _ _ fun nx => ?_; clear hK K; try clear kk
      refine zi ?_; refine nmx ?_
      refine QD ⟨_, (Option.some.inj hh), ?_⟩
      exact zy
     ·rw [if_neg h15] at hh
      replace h15 := Bool.eq_false_iff.mpr h15
      refine zb fun K kk hK => ?_
      simp only [go_sem, h14, of_decide_eq_false h14, h15, of_decide_eq_false h15, hl0a, hl0b, hl0d, hl0w]
      (repeat refine sd ?_)
      refine hK _ _ fun nx => ?_; clear hK K; try clear kk
      by_cases h16 : (n_5.Kind == ([116, 101, 120, 116] : Str)) = true
      ·rw [if_pos h16] at hh
       refine zn (by first | exact congrArg PV.bool h16 | rfl) ?_
       refine zb fun K kk hK => ?_
       simp only [go_sem, hl0a, hl0b, hl0d, hl0w]
       refine hK _ _ fun nx => ?_; clear hK K; try clear kk
       refine zi ?_; refine nmx ?_
       refine QD ⟨_, (Option.some.inj hh), ?_⟩
       exact zy
      ·rw [if_neg h16] at hh
       replace h16 := Bool.eq_false_iff.mpr h16
       refine zh (by first | exact congrArg PV.bool h16 | rfl) ?_
       refine zx ?_; refine nmx ?_
       obtain ⟨aiR, h17, hh⟩ := zf hh
       obtain ⟨h17a, h17b, h17c⟩ := rd_some h17
       have h17d := vz (f := za.pv) h17c
       have h17f := wX (f := za.pv) h17c
       try simp only [Int.toNat_natCast, Int.reduceToNat] at h17d h17f
       refine zu fun K kk hK => ?_
       simp only [go_sem, h17a, h17b, h17d, h17f.1, h17f.2, hl0a, hl0b, hl0d, hl0w]
       (repeat refine sd ?_)
       refine hK _ _ fun nx => ?_; clear hK K; try clear kk
       refine nmx ?_
       refine zu fun K kk hK => ?_
       simp only [go_sem, hl0a, hl0b, hl0d, hl0w]
       refine hK _ _ fun nx => ?_; clear hK K; try clear kk
       refine nmx ?_
       have ih' := ih (pre ++ [y_9]) (v_6 + 1) _ (by rw [hsplit]; simp) (by simp [hidx]) hh nx
       refine zJ ?_
       first | exact ih' _ _ | (simp only [pvE, lsE, zq] at ih' ⊢; exact ih' _ _) | (simp only [pvE, lsE, zq, h13, h14, h15, h16] at ih' ⊢; exact ih' _ _)
  exact key wz [] _ _ rfl rfl f0 _ _ _
 ·rintro s ⟨t, hless, aiA, rfl, Kq, Yh, nx, g2, g4, rfl⟩
  try dsimp only at hh
  refine nmy ?_
  first | (refine wm hless ?_; try refine kz ?_) | refine qH hless ?_ | refine qG hless ?_
  refine zm ?_
  refine zb fun K kk hK => ?_
  simp only [go_sem]
  refine hK _ _ fun nx => ?_; clear hK K; try clear kk
  by_cases h18 : (aiA.Kind == ([116, 101, 120, 116] : Str)) = true
  ·rw [if_pos h18] at hh
   refine zn (by first | exact congrArg PV.bool h18 | rfl) ?_
   refine zb fun K kk hK => ?_
   simp only [go_sem]
   refine hK _ _ fun nx => ?_; clear hK K; try clear kk
   refine zi ?_; refine nmx ?_
   obtain hR := Option.some.inj hh
   subst hR
   exact zy
  ·rw [if_neg h18] at hh
   replace h18 := Bool.eq_false_iff.mpr h18
   refine zh (by first | exact congrArg PV.bool h18 | rfl) ?_
   refine zx ?_; refine nmx ?_
   refine zb fun K kk hK => ?_
   simp only [go_sem]
   refine hK _ _ fun nx => ?_; clear hK K; try clear kk
   refine zi ?_; refine nmx ?_
   obtain hR := Option.some.inj hh
   subst hR
   exact zy
 ·intro i s h; exact h.elim
 ·rintro s ⟨Jo, rfl, hb⟩
  try dsimp only at hh
  obtain hR := Option.some.inj hh
  subst hR
  refine nmx ?_
  exact hb
end Go.Proofs.YtclohbgnaopjfaaDoor
