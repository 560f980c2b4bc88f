/- Texts of the proof of stepThroughCard -/
import Derived.Test.YtclohbgnaopjfaaDoorAgC
import Derived.Test.YtclohbgnaopjfaaDoorAgF
import Derived.Test.YtclohbgnaopjfaaDoorAgK0
import Derived.Test.YtclohbgnaopjfaaDoorAgK2
namespace Go.Proofs.YtclohbgnaopjfaaDoor
set_option linter.unusedSimpArgs false
set_option linter.unusedVariables false
open Go
set_option maxRecDepth 100000
theorem JH (n_1 : za) (zP : Int) (vE : Int) (zA : Int) (jF : Int) (ko : (List za)) (vH : Str) (w9 : Str) (l_9 : (List zg)) (R : ((List za) × Int × Int × Int × (List za) × Str × Str × (List zg))) (hh : vR n_1 zP vE zA jF ko vH w9 l_9 = some R) : BC Tryd.prog 101 [.box 1000 0 0, .agg [.str n_1.Kind, .str n_1.Text, .list 1 (n_1.Marks.map PV.str), .list 2 (n_1.zu.map zh.pv), .list 5 (n_1.Kids.map za.pv)], .int .i64 zP] [.var 136 [.int .u8 vE, .int .i64 zA, .int .i64 jF, .list 5 (ko.map za.pv), .str vH, .str w9, .row 1001 0 l_9.length], .row false 3 (l_9.map zg.pv)] (.list 5 (R.1.map za.pv)) [.var 136 [.int .u8 R.2.1, .int .i64 R.2.2.1, .int .i64 R.2.2.2.1, .list 5 (R.2.2.2.2.1.map za.pv), .str R.2.2.2.2.2.1, .str R.2.2.2.2.2.2.1, .row 1001 0 R.2.2.2.2.2.2.2.length], .moved 3 (R.2.2.2.2.2.2.2.map zg.pv)] := by
  rw [vR] at hh
  refine Vn rfl rfl rfl ?_
  refine zb fun K kk hK => ?_
  simp only [go_sem]
  refine hK _ _ fun nx => ?_; clear hK K; try clear kk
  refine zb fun K kk hK => ?_
  simp only [go_sem]
  refine hK _ _ fun nx => ?_; clear hK K; try clear kk
  refine zb fun K kk hK => ?_
  simp only [go_sem]
  refine hK _ _ fun nx => ?_; clear hK K; try clear kk
  refine zb fun K kk hK => ?_
  simp only [go_sem]
  refine hK _ _ fun nx => ?_; clear hK K; try clear kk
  obtain ⟨⟨XT, adp⟩, h1, hh⟩ := ze hh
  dsimp only at hh
  refine zb fun K kk hK => ?_
  simp only [go_sem]
  refine zf (acm _ _ _ h1) (by (try simp only [go_sem]) <;> exact wkl) (by rfl) (by rfl) ?_
  simp only [go_sem]
  refine hK _ _ fun nx => ?_; clear hK K; try clear kk
  refine zm ?_
  by_cases h2 : (!adp) = true
  · rw [if_pos h2] at hh
    refine zb fun K kk hK => ?_
    simp only [go_sem, h2]
    (repeat refine sd ?_)
    refine hK _ _ fun nx => ?_; clear hK K; try clear kk
    refine zn rfl ?_
    refine zb fun K kk hK => ?_
    simp only [go_sem]
    refine hK _ _ fun nx => ?_; clear hK K; try clear kk
    refine zk ?_; refine nmx ?_
    obtain hR := Option.some.inj hh
    subst hR
    refine ku ?_ (by rfl) ?_
    · simp only [go_sem, qV, jf, wP, kM, yl, List.map_cons, List.map_append, List.head?_cons, h2]
      all_goals exact wkw
    · (try simp only [go_sem, h2]); (try simp only [List.length_append, List.map_append]); all_goals exact wkb
  · rw [if_neg h2] at hh
    replace h2 := Bool.eq_false_iff.mpr h2
    refine zb fun K kk hK => ?_
    simp only [go_sem, h2]
    (repeat refine sd ?_)
    refine hK _ _ fun nx => ?_; clear hK K; try clear kk
    by_cases h3 : ((if ((runes n_1.Text).length : Int) < (if (0 : Int) > (w64 (zA - zP)) then (0 : Int) else w64 (zA - zP)) then ((runes n_1.Text).length : Int) else (if (0 : Int) > (w64 (zA - zP)) then (0 : Int) else w64 (zA - zP))) == (if ((runes n_1.Text).length : Int) < (if (if ((runes n_1.Text).length : Int) < (if (0 : Int) > (w64 (zA - zP)) then (0 : Int) else w64 (zA - zP)) then ((runes n_1.Text).length : Int) else (if (0 : Int) > (w64 (zA - zP)) then (0 : Int) else w64 (zA - zP))) > (w64 (jF - zP)) then (if ((runes n_1.Text).length : Int) < (if (0 : Int) > (w64 (zA - zP)) then (0 : Int) else w64 (zA - zP)) then ((runes n_1.Text).length : Int) else (if (0 : Int) > (w64 (zA - zP)) then (0 : Int) else w64 (zA - zP))) else w64 (jF - zP)) then ((runes n_1.Text).length : Int) else (if (if ((runes n_1.Text).length : Int) < (if (0 : Int) > (w64 (zA - zP)) then (0 : Int) else w64 (zA - zP)) then ((runes n_1.Text).length : Int) else (if (0 : Int) > (w64 (zA - zP)) then (0 : Int) else w64 (zA - zP))) > (w64 (jF - zP)) then (if ((runes n_1.Text).length : Int) < (if (0 : Int) > (w64 (zA - zP)) then (0 : Int) else w64 (zA - zP)) then ((runes n_1.Text).length : Int) else (if (0 : Int) > (w64 (zA - zP)) then (0 : Int) else w64 (zA - zP))) else w64 (jF - zP)))) = true
    · rw [if_pos h3] at hh
      refine zn (by first | exact congrArg PV.bool h3 | rfl) ?_
      refine zb fun K kk hK => ?_
      simp only [go_sem]
      refine hK _ _ fun nx => ?_; clear hK K; try clear kk
      refine zk ?_; refine nmx ?_
      obtain hR := Option.some.inj hh
      subst hR
      refine ku ?_ (by rfl) ?_
      · simp only [go_sem, qV, jf, wP, kM, yl, List.map_cons, List.map_append, List.head?_cons, h2, h3]
        all_goals exact wkw
      · (try simp only [go_sem, h2, h3]); (try simp only [List.length_append, List.map_append]); all_goals exact wkb
    · rw [if_neg h3] at hh
      replace h3 := Bool.eq_false_iff.mpr h3
      refine zi (by first | exact congrArg PV.bool h3 | rfl) ?_
      refine zt ?_; refine nmx ?_
      obtain ⟨⟨anw, anG, atj, alf, aoa, akP, aqw⟩, h4, hh⟩ := ze hh
      dsimp only at hh
      refine zb fun K kk hK => ?_
      simp only [go_sem]
      refine xc [1000, 1001] (by decide) (Xe _ _ _ _ _ _ _ _ _ _ h4) (by (try simp only [go_sem, h2, h3]) <;> exact wkb) (by rfl) ?_
      simp only [go_sem]
      refine hK _ _ fun nx => ?_; clear hK K; try clear kk
      refine zb fun K kk hK => ?_
      simp only [go_sem]
      refine hK _ _ fun nx => ?_; clear hK K; try clear kk
      obtain ⟨as5, h5, hh⟩ := ze hh
      obtain ⟨atc, h6, hh⟩ := ze hh
      obtain ⟨atd, h7, hh⟩ := ze hh
      refine zb fun K kk hK => ?_
      simp only [go_sem]
      refine abE [4, 7] (by decide) (by decide) (j5 _ _ _ _ _ _ h5) (by (try simp only [go_sem, h2, h3]) <;> exact wkb) (by rfl) (by rfl) ?_
      simp only [go_sem]
      refine abE [4, 7] (by decide) (by decide) (j5 _ _ _ _ _ _ h6) (by (try simp only [go_sem, h2, h3]) <;> exact wkb) (by rfl) (by rfl) ?_
      simp only [go_sem]
      refine abE [4, 7] (by decide) (by decide) (j5 _ _ _ _ _ _ h7) (by (try simp only [go_sem, h2, h3]) <;> exact wkb) (by rfl) (by rfl) ?_
      simp only [go_sem]
      refine hK _ _ fun nx => ?_; clear hK K; try clear kk
      refine zk ?_; refine nmx ?_
      obtain hR := Option.some.inj hh
      subst hR
      refine ku ?_ (by rfl) ?_
      · simp only [go_sem, qV, jf, wP, kM, yl, List.map_cons, List.map_append, List.head?_cons, h2, h3]
        all_goals exact wkw
      · (try simp only [go_sem, h2, h3]); (try simp only [List.length_append, List.map_append]); all_goals exact wkb
theorem Xg (l_1 : (List za)) (R : (List za)) (hh : Q6 l_1 = some R) : PC Tryd.prog 82 [.list 5 (l_1.map za.pv)] (.own 5 (R.map za.pv)) := by
  rw [Q6] at hh
  refine afb rfl ?_
  refine zb fun K kk hK => ?_
  simp only [go_sem]
  refine hK _ _ fun nx => ?_; clear hK K; try clear kk
  refine zb fun K kk hK => ?_
  simp only [go_sem]
  refine hK _ _ fun nx => ?_; clear hK K; try clear kk
  refine zm ?_
  refine zb fun K kk hK => ?_
  simp only [go_sem]
  refine hK _ _ fun nx => ?_; clear hK K; try clear kk
  obtain ⟨e0, f0, hh⟩ := ze hh
  obtain ⟨hlen0, f0⟩ := qa f0
  refine qx (wS (fun s => ∃ adU, adU = e0 ∧ ∃ (auV : Int) (apZ : Bool) (nx : Nat) (g3 : Nat), s = ⟨[(3, .row 3 g3 adU.length), (7, .list 5 (l_1.map za.pv)), (8, .int .i64 (l_1.length : Int)), (9, .int .i64 auV), (10, .bool apZ)], [(3, g3, .row false 5 (adU.map za.pv))], nx⟩))
    (fun i s => False)
    (fun s => False) ?_ ?_ ?_ ?_
  · refine zC ?_
    refine qo fun I hI => ?_
    have key : ∀ (suf pre : List za) (Wi : Int) (vQ : (List za)), l_1 = pre ++ suf → Wi = (pre.length : Int) → wO suf Wi vQ = some e0 → ∀ (nx : Nat) (g3 : Nat), I ⟨[(3, .row 3 g3 vQ.length), (7, .list 5 (l_1.map za.pv)), (8, .int .i64 (l_1.length : Int)), (9, .int .i64 Wi)], [(3, g3, .row false 5 (vQ.map za.pv))], nx⟩ := by
      intro suf
      induction suf with
      | nil =>
        intro pre Wi vQ hsplit hidx hh nx g3
        rw [wO] at hh
        refine hI _ ?_
        have h43 := walk_nil hsplit hidx
        refine zb fun K kk hK => ?_
        simp only [go_sem]
        refine hK _ _ fun nx => ?_; clear hK K; try clear kk
        refine zm ?_
        refine zi (by first | exact congrArg PV.bool h43 | rfl) ?_
        refine zZ ?_; refine nmx ?_
        refine kg ?_
        refine zJ ?_
        refine ⟨_, (Option.some.inj hh), ?_⟩
        first | exact ⟨_, _, _, _, rfl⟩ | (simp only [pvE, lsE, zo]; exact ⟨_, _, _, _, rfl⟩) | (simp only [pvE, lsE, zo, h43]; exact ⟨_, _, _, _, rfl⟩)
      | cons KW suf ih =>
        intro pre Wi vQ hsplit hidx hh nx g3
        rw [wO] at hh
        refine hI _ ?_
        obtain ⟨hl0a, hl0b, hl0d, hl0w, h43⟩ := qD (f := za.pv) hsplit hidx hlen0
        refine zb fun K kk hK => ?_
        simp only [go_sem]
        refine hK _ _ fun nx => ?_; clear hK K; try clear kk
        refine zm ?_
        refine zn (by first | exact congrArg PV.bool h43 | rfl) ?_
        refine zt ?_; refine nmx ?_
        refine zm ?_
        refine zC ?_
        refine zb fun K kk hK => ?_
        simp only [go_sem, hl0a, hl0b, hl0d, hl0w]
        refine hK _ _ fun nx => ?_; clear hK K; try clear kk
        refine zb fun K kk hK => ?_
        simp only [go_sem, hl0a, hl0b, hl0d, hl0w]
        refine hK _ _ fun nx => ?_; clear hK K; try clear kk
        refine zC ?_
        obtain ⟨adV, h44, hh⟩ := ze hh
        by_cases h45 : (adV) = true
        · rw [if_pos h45] at hh
          refine zb fun K kk hK => ?_
          simp only [go_sem, h45, hl0a, hl0b, hl0d, hl0w]
          (repeat refine sd ?_)
          refine zf (kv _ _ h44) (by (try simp only [go_sem, h45, hl0a, hl0b, hl0d, hl0w]) <;> exact wkl) (by rfl) (by rfl) ?_
          simp only [go_sem, h45, hl0a, hl0b, hl0d, hl0w]
          (repeat refine sd ?_)
          refine hK _ _ fun nx => ?_; clear hK K; try clear kk
          by_cases h46 : (KW.Text == ([] : Str)) = true
          · rw [if_pos h46] at hh
            refine zn (by first | exact congrArg PV.bool h46 | rfl) ?_
            refine zt ?_; refine nmx ?_
            refine zq fun K kk hK => ?_
            simp only [go_sem, hl0a, hl0b, hl0d, hl0w]
            refine hK _ _ fun nx => ?_; clear hK K; try clear kk
            refine nmx ?_
            have ih' := ih (pre ++ [KW]) (Wi + 1) _ (by rw [hsplit]; simp) (by simp [hidx]) hh nx
            refine zJ ?_
            first | exact ih' _ | (simp only [pvE, lsE, zo] at ih' ⊢; exact ih' _) | (simp only [pvE, lsE, zo, h43, h45, h46] at ih' ⊢; exact ih' _)
          · rw [if_neg h46] at hh
            replace h46 := Bool.eq_false_iff.mpr h46
            refine zi (by first | exact congrArg PV.bool h46 | rfl) ?_
            by_cases h47 : (decide ((w64 ((vQ.length : Int) - (1 : Int))) ≥ (0 : Int))) = true
            · rw [if_pos h47] at hh
              obtain ⟨asn, h48, hh⟩ := ze hh
              obtain ⟨h48a, h48b, h48c⟩ := rd_some h48
              have h48d := vD (f := za.pv) h48c
              have h48f := wY (f := za.pv) h48c
              try simp only [Int.toNat_natCast, Int.reduceToNat] at h48d h48f
              obtain ⟨agt, h49, hh⟩ := ze hh
              refine zb fun K kk hK => ?_
              simp only [go_sem, h47, of_decide_eq_true h47, h48a, h48b, h48d, h48f.1, h48f.2, hl0a, hl0b, hl0d, hl0w]
              (repeat refine sd ?_)
              refine zf (V7 _ _ _ h49) (by (try simp only [go_sem, h47, of_decide_eq_true h47, h48a, h48b, h48d, h48f.1, h48f.2, hl0a, hl0b, hl0d, hl0w]) <;> exact wkl) (by rfl) (by rfl) ?_
              simp only [go_sem, h47, of_decide_eq_true h47, h48a, h48b, h48d, h48f.1, h48f.2, hl0a, hl0b, hl0d, hl0w]
              (repeat refine sd ?_)
              refine hK _ _ fun nx => ?_; clear hK K; try clear kk
              by_cases h50 : (agt) = true
              · rw [if_pos h50] at hh
                refine zn (by first | exact congrArg PV.bool h50 | rfl) ?_
                obtain ⟨h51, hh⟩ := qa hh
                refine zb fun K kk hK => ?_
                simp only [go_sem, h48a, h48b, h48d, h48f.1, h48f.2, h51, hl0a, hl0b, hl0d, hl0w]
                (repeat refine sd ?_)
                refine hK _ _ fun nx => ?_; clear hK K; try clear kk
                obtain ⟨apN, h52, hh⟩ := ze hh
                obtain ⟨h52a, h52c⟩ := Y3 h52
                have h52d := adS (f := za.pv) h52c
                try simp only [Int.toNat_natCast, Int.reduceToNat, List.map_cons, List.map_nil, List.cons_append, List.nil_append, List.singleton_append, pvE] at h52d
                have h52e := adq h52c
                have h48b_h52 := h48b; rw [h52e] at h48b_h52
                have h48f1_h52 := h48f.1; rw [h52e] at h48f1_h52
                have h48a_h52 := h48a; try rw [h52e] at h48a_h52
                have h48d_h52 := h48d; try rw [h52e] at h48d_h52
                try rw [h52e] at h52d
                have h52bw := h52a.2; rw [h52e] at h52bw
                refine zq fun K kk hK => ?_
                simp only [go_sem, h48a, h48b, h48d, h48f.1, h48f.2, h52a.1, h52a.2, h52d, h52e, h48b_h52, h48f1_h52, h48a_h52, h48d_h52, h52bw, hl0a, hl0b, hl0d, hl0w]
                (repeat refine sd ?_)
                try simp only [go_sem, h48a, h48b, h48d, h48f.1, h48f.2, h52a.1, h52a.2, h52d, h52e, h48b_h52, h48f1_h52, h48a_h52, h48d_h52, h52bw, hl0a, hl0b, hl0d, hl0w]
                refine hK _ _ fun nx => ?_; clear hK K; try clear kk
                refine nmx ?_
                refine zq fun K kk hK => ?_
                simp only [go_sem, hl0a, hl0b, hl0d, hl0w]
                refine hK _ _ fun nx => ?_; clear hK K; try clear kk
                refine nmx ?_
                have ih' := ih (pre ++ [KW]) (Wi + 1) _ (by rw [hsplit]; simp) (by simp [hidx]) hh nx
                refine zJ ?_
                first | exact ih' _ | (simp only [pvE, lsE, zo, h52e] at ih' ⊢; exact ih' _) | (simp only [pvE, lsE, zo, h52e, h43, h45, h46, h47, h50] at ih' ⊢; exact ih' _)
              · rw [if_neg h50] at hh
                replace h50 := Bool.eq_false_iff.mpr h50
                refine zi (by first | exact congrArg PV.bool h50 | rfl) ?_
                obtain ⟨apY, h53, hh⟩ := ze hh
                obtain ⟨h53a, h53c⟩ := z8 h53
                have h53d := qO (f := za.pv) h53c
                have h53e := qQ h53c
                try simp only [List.length_cons, List.length_nil, Nat.zero_add, Nat.reduceAdd] at h53a h53e
                try simp only [h53e] at h53a
                try simp only [List.map_cons, List.map_nil, List.nil_append, List.append_nil, List.cons_append, List.singleton_append, zo, pvE] at h53d
                refine zq fun K kk hK => ?_
                simp only [go_sem, h53a, h53d, h53e, hl0a, hl0b, hl0d, hl0w]
                (repeat refine sd ?_)
                refine hK _ _ fun nx => ?_; clear hK K; try clear kk
                refine nmx ?_
                refine zq fun K kk hK => ?_
                simp only [go_sem, hl0a, hl0b, hl0d, hl0w]
                refine hK _ _ fun nx => ?_; clear hK K; try clear kk
                refine nmx ?_
                have ih' := ih (pre ++ [KW]) (Wi + 1) _ (by rw [hsplit]; simp) (by simp [hidx]) hh nx
                refine zJ ?_
                first | exact ih' _ | (simp only [pvE, lsE, zo, h53e] at ih' ⊢; exact ih' _) | (simp only [pvE, lsE, zo, h53e, h43, h45, h46, h47, h50] at ih' ⊢; exact ih' _)
            · rw [if_neg h47] at hh
              replace h47 := Bool.eq_false_iff.mpr h47
              refine zb fun K kk hK => ?_
              simp only [go_sem, h47, of_decide_eq_false h47, hl0a, hl0b, hl0d, hl0w]
              (repeat refine sd ?_)
              refine hK _ _ fun nx => ?_; clear hK K; try clear kk
              refine zi rfl ?_
              obtain ⟨aqE, h54, hh⟩ := ze hh
              obtain ⟨h54a, h54c⟩ := z8 h54
              have h54d := qO (f := za.pv) h54c
              have h54e := qQ h54c
              try simp only [List.length_cons, List.length_nil, Nat.zero_add, Nat.reduceAdd] at h54a h54e
              try simp only [h54e] at h54a
              try simp only [List.map_cons, List.map_nil, List.nil_append, List.append_nil, List.cons_append, List.singleton_append, zo, pvE] at h54d
              refine zq fun K kk hK => ?_
              simp only [go_sem, h54a, h54d, h54e, hl0a, hl0b, hl0d, hl0w]
              (repeat refine sd ?_)
              refine hK _ _ fun nx => ?_; clear hK K; try clear kk
              refine nmx ?_
              refine zq fun K kk hK => ?_
              simp only [go_sem, hl0a, hl0b, hl0d, hl0w]
              refine hK _ _ fun nx => ?_; clear hK K; try clear kk
              refine nmx ?_
              have ih' := ih (pre ++ [KW]) (Wi + 1) _ (by rw [hsplit]; simp) (by simp [hidx]) hh nx
              refine zJ ?_
              first | exact ih' _ | (simp only [pvE, lsE, zo, h54e] at ih' ⊢; exact ih' _) | (simp only [pvE, lsE, zo, h54e, h43, h45, h46, h47] at ih' ⊢; exact ih' _)
        · rw [if_neg h45] at hh
          replace h45 := Bool.eq_false_iff.mpr h45
          refine zb fun K kk hK => ?_
          simp only [go_sem, h45, hl0a, hl0b, hl0d, hl0w]
          (repeat refine sd ?_)
          refine zf (kv _ _ h44) (by (try simp only [go_sem, h45, hl0a, hl0b, hl0d, hl0w]) <;> exact wkl) (by rfl) (by rfl) ?_
          simp only [go_sem, h45, hl0a, hl0b, hl0d, hl0w]
          (repeat refine sd ?_)
          refine hK _ _ fun nx => ?_; clear hK K; try clear kk
          refine zi rfl ?_
          by_cases h55 : (decide ((w64 ((vQ.length : Int) - (1 : Int))) ≥ (0 : Int))) = true
          · rw [if_pos h55] at hh
            obtain ⟨asy, h56, hh⟩ := ze hh
            obtain ⟨h56a, h56b, h56c⟩ := rd_some h56
            have h56d := vD (f := za.pv) h56c
            have h56f := wY (f := za.pv) h56c
            try simp only [Int.toNat_natCast, Int.reduceToNat] at h56d h56f
            obtain ⟨agz, h57, hh⟩ := ze hh
            refine zb fun K kk hK => ?_
            simp only [go_sem, h55, of_decide_eq_true h55, h56a, h56b, h56d, h56f.1, h56f.2, hl0a, hl0b, hl0d, hl0w]
            (repeat refine sd ?_)
            refine zf (V7 _ _ _ h57) (by (try simp only [go_sem, h55, of_decide_eq_true h55, h56a, h56b, h56d, h56f.1, h56f.2, hl0a, hl0b, hl0d, hl0w]) <;> exact wkl) (by rfl) (by rfl) ?_
            simp only [go_sem, h55, of_decide_eq_true h55, h56a, h56b, h56d, h56f.1, h56f.2, hl0a, hl0b, hl0d, hl0w]
            (repeat refine sd ?_)
            refine hK _ _ fun nx => ?_; clear hK K; try clear kk
            by_cases h58 : (agz) = true
            · rw [if_pos h58] at hh
              refine zn (by first | exact congrArg PV.bool h58 | rfl) ?_
              obtain ⟨h59, hh⟩ := qa hh
              refine zb fun K kk hK => ?_
              simp only [go_sem, h56a, h56b, h56d, h56f.1, h56f.2, h59, hl0a, hl0b, hl0d, hl0w]
              (repeat refine sd ?_)
              refine hK _ _ fun nx => ?_; clear hK K; try clear kk
              obtain ⟨aus, h60, hh⟩ := ze hh
              obtain ⟨h60a, h60c⟩ := Y3 h60
              have h60d := adS (f := za.pv) h60c
              try simp only [Int.toNat_natCast, Int.reduceToNat, List.map_cons, List.map_nil, List.cons_append, List.nil_append, List.singleton_append, pvE] at h60d
              have h60e := adq h60c
              have h56b_h60 := h56b; rw [h60e] at h56b_h60
              have h56f1_h60 := h56f.1; rw [h60e] at h56f1_h60
              have h56a_h60 := h56a; try rw [h60e] at h56a_h60
              have h56d_h60 := h56d; try rw [h60e] at h56d_h60
              try rw [h60e] at h60d
              have h60bw := h60a.2; rw [h60e] at h60bw
              refine zq fun K kk hK => ?_
              simp only [go_sem, h56a, h56b, h56d, h56f.1, h56f.2, h60a.1, h60a.2, h60d, h60e, h56b_h60, h56f1_h60, h56a_h60, h56d_h60, h60bw, hl0a, hl0b, hl0d, hl0w]
              (repeat refine sd ?_)
              try simp only [go_sem, h56a, h56b, h56d, h56f.1, h56f.2, h60a.1, h60a.2, h60d, h60e, h56b_h60, h56f1_h60, h56a_h60, h56d_h60, h60bw, hl0a, hl0b, hl0d, hl0w]
              refine hK _ _ fun nx => ?_; clear hK K; try clear kk
              refine nmx ?_
              refine zq fun K kk hK => ?_
              simp only [go_sem, hl0a, hl0b, hl0d, hl0w]
              refine hK _ _ fun nx => ?_; clear hK K; try clear kk
              refine nmx ?_
              have ih' := ih (pre ++ [KW]) (Wi + 1) _ (by rw [hsplit]; simp) (by simp [hidx]) hh nx
              refine zJ ?_
              first | exact ih' _ | (simp only [pvE, lsE, zo, h60e] at ih' ⊢; exact ih' _) | (simp only [pvE, lsE, zo, h60e, h43, h45, h55, h58] at ih' ⊢; exact ih' _)
            · rw [if_neg h58] at hh
              replace h58 := Bool.eq_false_iff.mpr h58
              refine zi (by first | exact congrArg PV.bool h58 | rfl) ?_
              obtain ⟨avp, h61, hh⟩ := ze hh
              obtain ⟨h61a, h61c⟩ := z8 h61
              have h61d := qO (f := za.pv) h61c
              have h61e := qQ h61c
              try simp only [List.length_cons, List.length_nil, Nat.zero_add, Nat.reduceAdd] at h61a h61e
              try simp only [h61e] at h61a
              try simp only [List.map_cons, List.map_nil, List.nil_append, List.append_nil, List.cons_append, List.singleton_append, zo, pvE] at h61d
              refine zq fun K kk hK => ?_
              simp only [go_sem, h61a, h61d, h61e, hl0a, hl0b, hl0d, hl0w]
              (repeat refine sd ?_)
              refine hK _ _ fun nx => ?_; clear hK K; try clear kk
              refine nmx ?_
              refine zq fun K kk hK => ?_
              simp only [go_sem, hl0a, hl0b, hl0d, hl0w]
              refine hK _ _ fun nx => ?_; clear hK K; try clear kk
              refine nmx ?_
              have ih' := ih (pre ++ [KW]) (Wi + 1) _ (by rw [hsplit]; simp) (by simp [hidx]) hh nx
              refine zJ ?_
              first | exact ih' _ | (simp only [pvE, lsE, zo, h61e] at ih' ⊢; exact ih' _) | (simp only [pvE, lsE, zo, h61e, h43, h45, h55, h58] at ih' ⊢; exact ih' _)
          · rw [if_neg h55] at hh
            replace h55 := Bool.eq_false_iff.mpr h55
            refine zb fun K kk hK => ?_
            simp only [go_sem, h55, of_decide_eq_false h55, hl0a, hl0b, hl0d, hl0w]
            (repeat refine sd ?_)
            refine hK _ _ fun nx => ?_; clear hK K; try clear kk
            refine zi rfl ?_
            obtain ⟨auT, h62, hh⟩ := ze hh
            obtain ⟨h62a, h62c⟩ := z8 h62
            have h62d := qO (f := za.pv) h62c
            have h62e := qQ h62c
            try simp only [List.length_cons, List.length_nil, Nat.zero_add, Nat.reduceAdd] at h62a h62e
            try simp only [h62e] at h62a
            try simp only [List.map_cons, List.map_nil, List.nil_append, List.append_nil, List.cons_append, List.singleton_append, zo, pvE] at h62d
            refine zq fun K kk hK => ?_
            simp only [go_sem, h62a, h62d, h62e, hl0a, hl0b, hl0d, hl0w]
            (repeat refine sd ?_)
            refine hK _ _ fun nx => ?_; clear hK K; try clear kk
            refine nmx ?_
            refine zq fun K kk hK => ?_
            simp only [go_sem, hl0a, hl0b, hl0d, hl0w]
            refine hK _ _ fun nx => ?_; clear hK K; try clear kk
            refine nmx ?_
            have ih' := ih (pre ++ [KW]) (Wi + 1) _ (by rw [hsplit]; simp) (by simp [hidx]) hh nx
            refine zJ ?_
            first | exact ih' _ | (simp only [pvE, lsE, zo, h62e] at ih' ⊢; exact ih' _) | (simp only [pvE, lsE, zo, h62e, h43, h45, h55] at ih' ⊢; exact ih' _)
    exact key l_1 [] _ _ rfl rfl f0 _ _
  · rintro s ⟨t, hless, adU, rfl, auV, apZ, nx, g3, rfl⟩
    try dsimp only at hh
    refine nmy ?_
    first | (refine qR hless ?_; try refine wT ?_) | refine qC hless ?_ | refine qE hless ?_
    refine zb fun K kk hK => ?_
    simp only [go_sem]
    refine hK _ _ fun nx => ?_; clear hK K; try clear kk
    refine zk ?_; refine nmx ?_
    obtain hR := Option.some.inj hh
    subst hR
    exact YT (by rfl) (by rfl) (by rfl) (by simp only [List.length_map, List.length_cons, List.length_nil, Nat.zero_add, Nat.reduceAdd]) (by first | rfl | (simp only [pvE, lsE, zo]; done) | (simp only [pvE, lsE, zo]; rfl))
  · intro i s h; exact h.elim
  · intro s h; exact h.elim
theorem Jb : ∀ kr : Nat, (∀ (l_1 : (List za)) (zP : Int) (vE : Int) (zA : Int) (jF : Int) (ko : (List za)) (vH : Str) (w9 : Str) (l_9 : (List zg)) (R : ((List za) × Int × Int × Int × (List za) × Str × Str × (List zg))), qB kr l_1 zP vE zA jF ko vH w9 l_9 = some R → BC Tryd.prog 79 [.box 1000 0 0, .list 5 (l_1.map za.pv), .int .i64 zP] [.var 136 [.int .u8 vE, .int .i64 zA, .int .i64 jF, .list 5 (ko.map za.pv), .str vH, .str w9, .row 1001 0 l_9.length], .row false 3 (l_9.map zg.pv)] (.list 5 (R.1.map za.pv)) [.var 136 [.int .u8 R.2.1, .int .i64 R.2.2.1, .int .i64 R.2.2.2.1, .list 5 (R.2.2.2.2.1.map za.pv), .str R.2.2.2.2.2.1, .str R.2.2.2.2.2.2.1, .row 1001 0 R.2.2.2.2.2.2.2.length], .moved 3 (R.2.2.2.2.2.2.2.map zg.pv)]) := by
  intro kr
  induction kr with
  | zero => exact (by intro l_1 zP vE zA jF ko vH w9 l_9 R hh; rw [qB] at hh; cases hh)
  | succ kr ih =>
    have ih_step_painter_kids_x := ih
    clear ih
    intro l_1 zP vE zA jF ko vH w9 l_9 R hh
    rw [qB] at hh
    refine Vm rfl rfl rfl ?_
    refine zb fun K kk hK => ?_
    simp only [go_sem]
    refine hK _ _ fun nx => ?_; clear hK K; try clear kk
    refine zb fun K kk hK => ?_
    simp only [go_sem]
    refine hK _ _ fun nx => ?_; clear hK K; try clear kk
    refine zm ?_
    refine zb fun K kk hK => ?_
    simp only [go_sem]
    refine hK _ _ fun nx => ?_; clear hK K; try clear kk
    obtain ⟨e0, f0, hh⟩ := ze hh
    obtain ⟨hlen0, f0⟩ := qa f0
    refine qx (wS (fun s => ∃ adG, ∃ aqu, ∃ arB, ∃ aqU, ∃ aqc, ∃ apW, ∃ ari, ∃ aou, (adG, aqu, arB, aqU, aqc, apW, ari, aou) = e0 ∧ ∃ (ath : Int) (avj : Int) (auR : Bool) (nx : Nat) (g7 : Nat) (g1001 : Nat), s = ⟨[(0, .box 1000 0 0), (2, .int .i64 ath), (7, .row 7 g7 adG.length), (11, .list 5 (l_1.map za.pv)), (12, .int .i64 (l_1.length : Int)), (13, .int .i64 avj), (14, .bool auR)], [(7, g7, .row false 5 (adG.map za.pv)), (1000, 0, .var 136 [.int .u8 aqu, .int .i64 arB, .int .i64 aqU, .list 5 (aqc.map za.pv), .str apW, .str ari, .row 1001 g1001 aou.length]), (1001, g1001, .row false 3 (aou.map zg.pv))], nx⟩))
      (fun i s => False)
      (fun s => False) ?_ ?_ ?_ ?_
    · refine zC ?_
      refine qo fun I hI => ?_
      have key : ∀ (suf pre : List za) (ahk : Int) (aaq : Int) (VY : (List za)) (ajQ : Int) (ajJ : Int) (aj8 : Int) (akb : (List za)) (ajm : Str) (akh : Str) (Yl : (List zg)), l_1 = pre ++ suf → ahk = (pre.length : Int) → qd (qB kr) suf ahk aaq VY ajQ ajJ aj8 akb ajm akh Yl = some e0 → ∀ (nx : Nat) (g7 : Nat) (g1001 : Nat), I ⟨[(0, .box 1000 0 0), (2, .int .i64 aaq), (7, .row 7 g7 VY.length), (11, .list 5 (l_1.map za.pv)), (12, .int .i64 (l_1.length : Int)), (13, .int .i64 ahk)], [(7, g7, .row false 5 (VY.map za.pv)), (1000, 0, .var 136 [.int .u8 ajQ, .int .i64 ajJ, .int .i64 aj8, .list 5 (akb.map za.pv), .str ajm, .str akh, .row 1001 g1001 Yl.length]), (1001, g1001, .row false 3 (Yl.map zg.pv))], nx⟩ := by
        intro suf
        induction suf with
        | nil =>
          intro pre ahk aaq VY ajQ ajJ aj8 akb ajm akh Yl hsplit hidx hh nx g7 g1001
          rw [qd] at hh
          refine hI _ ?_
          have h17 := walk_nil hsplit hidx
          refine zb fun K kk hK => ?_
          simp only [go_sem]
          refine hK _ _ fun nx => ?_; clear hK K; try clear kk
          refine zm ?_
          refine zi (by first | exact congrArg PV.bool h17 | rfl) ?_
          refine zZ ?_; refine nmx ?_
          refine kg ?_
          refine zJ ?_
          refine ⟨_, _, _, _, _, _, _, _, (Option.some.inj hh), ?_⟩
          first | exact ⟨_, _, _, _, _, _, rfl⟩ | (simp only [pvE, lsE, zo]; exact ⟨_, _, _, _, _, _, rfl⟩) | (simp only [pvE, lsE, zo, h17]; exact ⟨_, _, _, _, _, _, rfl⟩)
        | cons ajE suf ih =>
          intro pre ahk aaq VY ajQ ajJ aj8 akb ajm akh Yl hsplit hidx hh nx g7 g1001
          rw [qd] at hh
          refine hI _ ?_
          obtain ⟨hl0a, hl0b, hl0d, hl0w, h17⟩ := qD (f := za.pv) hsplit hidx hlen0
          refine zb fun K kk hK => ?_
          simp only [go_sem]
          refine hK _ _ fun nx => ?_; clear hK K; try clear kk
          refine zm ?_
          refine zn (by first | exact congrArg PV.bool h17 | rfl) ?_
          refine zt ?_; refine nmx ?_
          refine zm ?_
          refine zC ?_
          refine zb fun K kk hK => ?_
          simp only [go_sem, hl0a, hl0b, hl0d, hl0w]
          refine hK _ _ fun nx => ?_; clear hK K; try clear kk
          obtain ⟨ajT, h18, hh⟩ := ze hh
          refine zb fun K kk hK => ?_
          simp only [go_sem, hl0a, hl0b, hl0d, hl0w]
          refine zf (QE _ _ h18) (by (try simp only [go_sem, hl0a, hl0b, hl0d, hl0w]) <;> exact wkl) (by rfl) (by rfl) ?_
          simp only [go_sem, hl0a, hl0b, hl0d, hl0w]
          refine hK _ _ fun nx => ?_; clear hK K; try clear kk
          refine zm ?_
          refine zb fun K kk hK => ?_
          simp only [go_sem, hl0a, hl0b, hl0d, hl0w]
          refine hK _ _ fun nx => ?_; clear hK K; try clear kk
          by_cases h19 : (ajE.Kind == ([116, 101, 120, 116] : Str)) = true
          · rw [if_pos h19] at hh
            refine zn (by first | exact congrArg PV.bool h19 | rfl) ?_
            obtain ⟨⟨ava, anU, aoi, as7, ak5, anT, alx, amC⟩, h20, hh⟩ := ze hh
            dsimp only at hh
            obtain ⟨avf, h21, hh⟩ := ze hh
            obtain ⟨h21a, h21c⟩ := z8 h21
            have h21d := qO (f := za.pv) h21c
            have h21e := qQ h21c
            try simp only [List.length_cons, List.length_nil, Nat.zero_add, Nat.reduceAdd] at h21a h21e
            try simp only [h21e] at h21a
            try simp only [List.map_cons, List.map_nil, List.nil_append, List.append_nil, List.cons_append, List.singleton_append, zo, pvE] at h21d
            refine zq fun K kk hK => ?_
            simp only [go_sem, h21a, h21d, h21e, hl0a, hl0b, hl0d, hl0w]
            (repeat refine sd ?_)
            refine xc [1000, 1001] (by decide) (JH _ _ _ _ _ _ _ _ _ _ h20) (by (try simp only [go_sem, h21a, h21d, h21e, hl0a, hl0b, hl0d, hl0w, h17, h19]) <;> exact wkb) (by rfl) ?_
            simp only [go_sem, h21a, h21d, h21e, hl0a, hl0b, hl0d, hl0w]
            (repeat refine sd ?_)
            refine hK _ _ fun nx => ?_; clear hK K; try clear kk
            refine nmx ?_
            refine zq fun K kk hK => ?_
            simp only [go_sem, hl0a, hl0b, hl0d, hl0w]
            refine hK _ _ fun nx => ?_; clear hK K; try clear kk
            refine nmx ?_
            refine zq fun K kk hK => ?_
            simp only [go_sem, hl0a, hl0b, hl0d, hl0w]
            refine hK _ _ fun nx => ?_; clear hK K; try clear kk
            refine nmx ?_
            have ih' := ih (pre ++ [ajE]) (ahk + 1) _ _ _ _ _ _ _ _ _ (by rw [hsplit]; simp) (by simp [hidx]) hh nx
            refine zJ ?_
            first | exact ih' _ _ | (simp only [pvE, lsE, zo, h21e] at ih' ⊢; exact ih' _ _) | (simp only [pvE, lsE, zo, h21e, h17, h19] at ih' ⊢; exact ih' _ _)
          · rw [if_neg h19] at hh
            replace h19 := Bool.eq_false_iff.mpr h19
            refine zi (by first | exact congrArg PV.bool h19 | rfl) ?_
            obtain ⟨⟨auS, an4, ant, as8, alD, an6, ak8, auA⟩, h22, hh⟩ := ze hh
            dsimp only at hh
            refine zb fun K kk hK => ?_
            simp only [go_sem, hl0a, hl0b, hl0d, hl0w]
            refine xc [1000, 1001] (by decide) (ih_step_painter_kids_x _ _ _ _ _ _ _ _ _ _ h22) (by (try simp only [go_sem, hl0a, hl0b, hl0d, hl0w, h17, h19]) <;> exact wkb) (by rfl) ?_
            simp only [go_sem, hl0a, hl0b, hl0d, hl0w]
            refine hK _ _ fun nx => ?_; clear hK K; try clear kk
            obtain ⟨amJ, h23, hh⟩ := ze hh
            obtain ⟨h23a, h23c⟩ := z8 h23
            have h23d := qO (f := za.pv) h23c
            have h23e := qQ h23c
            try simp only [List.length_cons, List.length_nil, Nat.zero_add, Nat.reduceAdd] at h23a h23e
            try simp only [h23e] at h23a
            try simp only [List.map_cons, List.map_nil, List.nil_append, List.append_nil, List.cons_append, List.singleton_append, zo, pvE] at h23d
            refine zq fun K kk hK => ?_
            simp only [go_sem, h23a, h23d, h23e, hl0a, hl0b, hl0d, hl0w]
            (repeat refine sd ?_)
            refine hK _ _ fun nx => ?_; clear hK K; try clear kk
            refine nmx ?_
            refine zq fun K kk hK => ?_
            simp only [go_sem, hl0a, hl0b, hl0d, hl0w]
            refine hK _ _ fun nx => ?_; clear hK K; try clear kk
            refine nmx ?_
            refine zq fun K kk hK => ?_
            simp only [go_sem, hl0a, hl0b, hl0d, hl0w]
            refine hK _ _ fun nx => ?_; clear hK K; try clear kk
            refine nmx ?_
            have ih' := ih (pre ++ [ajE]) (ahk + 1) _ _ _ _ _ _ _ _ _ (by rw [hsplit]; simp) (by simp [hidx]) hh nx
            refine zJ ?_
            first | exact ih' _ _ | (simp only [pvE, lsE, zo, h23e] at ih' ⊢; exact ih' _ _) | (simp only [pvE, lsE, zo, h23e, h17, h19] at ih' ⊢; exact ih' _ _)
      exact key l_1 [] _ _ _ _ _ _ _ _ _ _ rfl rfl f0 _ _ _
    · rintro s ⟨t, hless, adG, aqu, arB, aqU, aqc, apW, ari, aou, rfl, ath, avj, auR, nx, g7, g1001, rfl⟩
      try dsimp only at hh
      refine nmy ?_
      first | (refine qR hless ?_; try refine wT ?_) | refine qC hless ?_ | refine qE hless ?_
      obtain ⟨anI, h24, hh⟩ := ze hh
      refine zb fun K kk hK => ?_
      simp only [go_sem]
      refine zf (Xg _ _ h24).list (by (try simp only [go_sem]) <;> exact wkl) (by rfl) (by rfl) ?_
      simp only [go_sem]
      refine hK _ _ fun nx => ?_; clear hK K; try clear kk
      refine zk ?_; refine nmx ?_
      obtain hR := Option.some.inj hh
      subst hR
      refine ku ?_ (by rfl) ?_
      · simp only [go_sem, qV, jf, wP, kM, yl, List.map_cons, List.map_append, List.head?_cons]
        all_goals exact wkw
      · (try simp only [go_sem]); (try simp only [List.length_append, List.map_append]); all_goals exact wkb
    · intro i s h; exact h.elim
    · intro s h; exact h.elim
theorem JK (l_1 : (List za)) (zP : Int) (vE : Int) (zA : Int) (jF : Int) (ko : (List za)) (vH : Str) (w9 : Str) (l_9 : (List zg)) (R : ((List za) × Int × Int × Int × (List za) × Str × Str × (List zg))) (hh : vS l_1 zP vE zA jF ko vH w9 l_9 = some R) : BC Tryd.prog 79 [.box 1000 0 0, .list 5 (l_1.map za.pv), .int .i64 zP] [.var 136 [.int .u8 vE, .int .i64 zA, .int .i64 jF, .list 5 (ko.map za.pv), .str vH, .str w9, .row 1001 0 l_9.length], .row false 3 (l_9.map zg.pv)] (.list 5 (R.1.map za.pv)) [.var 136 [.int .u8 R.2.1, .int .i64 R.2.2.1, .int .i64 R.2.2.2.1, .list 5 (R.2.2.2.2.1.map za.pv), .str R.2.2.2.2.2.1, .str R.2.2.2.2.2.2.1, .row 1001 0 R.2.2.2.2.2.2.2.length], .moved 3 (R.2.2.2.2.2.2.2.map zg.pv)] := by
 rw [vS] at hh
 obtain ⟨kr, hh⟩ := y8 hh
 exact (Jb kr) _ _ _ _ _ _ _ _ _ _ hh
theorem ah3 (n_1 : za) (s_2 : zz) (R : (za × (List zg) × Int)) (hh : Zz n_1 s_2 = some R) : PC Tryd.prog 47 [.agg [.str n_1.Kind, .str n_1.Text, .list 1 (n_1.Marks.map PV.str), .list 2 (n_1.zu.map zh.pv), .list 5 (n_1.Kids.map za.pv)], .agg [.int .u8 s_2.Kind, .int .i64 s_2.From, .int .i64 s_2.To, .list 5 (s_2.qK.map za.pv), .str s_2.Name, .str s_2.Value]] (.tup [.agg [.str R.1.Kind, .str R.1.Text, .list 1 (R.1.Marks.map PV.str), .list 2 (R.1.zu.map zh.pv), .list 5 (R.1.Kids.map za.pv)], .list 3 (R.2.1.map zg.pv), .int .i64 R.2.2]) := by
  rw [Zz] at hh
  refine ad8 rfl ?_
  refine zb fun K kk hK => ?_
  simp only [go_sem]
  refine hK _ _ fun nx => ?_; clear hK K; try clear kk
  refine zm ?_
  obtain ⟨Qi, h1, hh⟩ := ze hh
  refine zb fun K kk hK => ?_
  simp only [go_sem]
  refine zf (j6 _ _ h1) (by (try simp only [go_sem]) <;> exact wkl) (by rfl) (by rfl) ?_
  simp only [go_sem]
  refine hK _ _ fun nx => ?_; clear hK K; try clear kk
  by_cases h2 : (decide (s_2.To > Qi)) = true
  · rw [if_pos h2] at hh
    refine zn (by first | exact congrArg PV.bool h2 | rfl) ?_
    refine zb fun K kk hK => ?_
    simp only [go_sem]
    refine hK _ _ fun nx => ?_; clear hK K; try clear kk
    refine zk ?_; refine nmx ?_
    obtain hR := Option.some.inj hh
    subst hR
    exact zy
  · rw [if_neg h2] at hh
    replace h2 := Bool.eq_false_iff.mpr h2
    refine zi (by first | exact congrArg PV.bool h2 | rfl) ?_
    refine zt ?_; refine nmx ?_
    refine zb fun K kk hK => ?_
    simp only [go_sem]
    refine hK _ _ fun nx => ?_; clear hK K; try clear kk
    obtain ⟨⟨r_4, at5, auh, avO, ar5, atV, apV, aqT⟩, h3, hh⟩ := ze hh
    dsimp only at hh
    refine zb fun K kk hK => ?_
    simp only [go_sem]
    refine xc [17, 425] (by decide) (JK _ _ _ _ _ _ _ _ _ _ h3) (by (try simp only [go_sem, h2]) <;> exact wkb) (by rfl) ?_
    simp only [go_sem]
    refine hK _ _ fun nx => ?_; clear hK K; try clear kk
    refine zb fun K kk hK => ?_
    simp only [go_sem]
    refine hK _ _ fun nx => ?_; clear hK K; try clear kk
    refine zk ?_; refine nmx ?_
    obtain hR := Option.some.inj hh
    subst hR
    exact zy
end Go.Proofs.YtclohbgnaopjfaaDoor
