/- Texts of the proof of stepAttrsCard -/
import Derived.Test.YtclohbgnaopjfaaDoorAgC
import Derived.Test.YtclohbgnaopjfaaDoorAgF
import Derived.Test.YtclohbgnaopjfaaDoorAgK0
import Derived.Test.YtclohbgnaopjfaaDoorAgK2
namespace Go.Proofs.YtclohbgnaopjfaaDoor
set_option linter.unusedSimpArgs false
set_option linter.unusedVariables false
open Go
set_option maxRecDepth 100000
theorem JR (n_1 : za) (zL : Int) (vF : Int) (zA : Int) (jr : Int) (wY : (List za)) (vH : Str) (wZ : Str) (l_9 : (List zn)) (R : ((List za) × Int × Int × Int × (List za) × Str × Str × (List zn))) (hh : vV n_1 zL vF zA jr wY vH wZ l_9 = some R) : BC Tryd.prog 101 [.box 1000 0 0, .agg [.str n_1.Kind, .str n_1.Text, .list 1 (n_1.Marks.map PV.str), .list 2 (n_1.zt.map zf.pv), .list 5 (n_1.Kids.map za.pv)], .int .i64 zL] [.var 136 [.int .u8 vF, .int .i64 zA, .int .i64 jr, .list 5 (wY.map za.pv), .str vH, .str wZ, .row 1001 0 l_9.length], .row false 3 (l_9.map zn.pv)] (.list 5 (R.1.map za.pv)) [.var 136 [.int .u8 R.2.1, .int .i64 R.2.2.1, .int .i64 R.2.2.2.1, .list 5 (R.2.2.2.2.1.map za.pv), .str R.2.2.2.2.2.1, .str R.2.2.2.2.2.2.1, .row 1001 0 R.2.2.2.2.2.2.2.length], .moved 3 (R.2.2.2.2.2.2.2.map zn.pv)] := by
  rw [vV] at hh
  refine Vj rfl rfl rfl ?_
  refine zb fun K kk hK => ?_
  simp only [go_sem]
  refine hK _ _ fun nx => ?_; clear hK K; try clear kk
  refine zb fun K kk hK => ?_
  simp only [go_sem]
  refine hK _ _ fun nx => ?_; clear hK K; try clear kk
  refine zb fun K kk hK => ?_
  simp only [go_sem]
  refine hK _ _ fun nx => ?_; clear hK K; try clear kk
  refine zb fun K kk hK => ?_
  simp only [go_sem]
  refine hK _ _ fun nx => ?_; clear hK K; try clear kk
  obtain ⟨⟨KR, VI⟩, h1, hh⟩ := ze hh
  dsimp only at hh
  refine zb fun K kk hK => ?_
  simp only [go_sem]
  refine zg (acs _ _ _ h1) (by (try simp only [go_sem]) <;> exact wkl) (by rfl) (by rfl) ?_
  simp only [go_sem]
  refine hK _ _ fun nx => ?_; clear hK K; try clear kk
  refine zm ?_
  by_cases h2 : (!VI) = true
  · rw [if_pos h2] at hh
    refine zb fun K kk hK => ?_
    simp only [go_sem, h2]
    (repeat refine sd ?_)
    refine hK _ _ fun nx => ?_; clear hK K; try clear kk
    refine zk rfl ?_
    refine zb fun K kk hK => ?_
    simp only [go_sem]
    refine hK _ _ fun nx => ?_; clear hK K; try clear kk
    refine zi ?_; refine nmx ?_
    obtain hR := Option.some.inj hh
    subst hR
    refine kR ?_ (by rfl) ?_
    · simp only [go_sem, wu, jA, ku, ve, yP, List.map_cons, List.map_append, List.head?_cons, h2]
      all_goals exact wkw
    · (try simp only [go_sem, h2]); (try simp only [List.length_append, List.map_append]); all_goals exact wkb
  · rw [if_neg h2] at hh
    replace h2 := Bool.eq_false_iff.mpr h2
    refine zb fun K kk hK => ?_
    simp only [go_sem, h2]
    (repeat refine sd ?_)
    refine hK _ _ fun nx => ?_; clear hK K; try clear kk
    by_cases h3 : ((if ((runes n_1.Text).length : Int) < (if (0 : Int) > (w64 (zA - zL)) then (0 : Int) else w64 (zA - zL)) then ((runes n_1.Text).length : Int) else (if (0 : Int) > (w64 (zA - zL)) then (0 : Int) else w64 (zA - zL))) == (if ((runes n_1.Text).length : Int) < (if (if ((runes n_1.Text).length : Int) < (if (0 : Int) > (w64 (zA - zL)) then (0 : Int) else w64 (zA - zL)) then ((runes n_1.Text).length : Int) else (if (0 : Int) > (w64 (zA - zL)) then (0 : Int) else w64 (zA - zL))) > (w64 (jr - zL)) then (if ((runes n_1.Text).length : Int) < (if (0 : Int) > (w64 (zA - zL)) then (0 : Int) else w64 (zA - zL)) then ((runes n_1.Text).length : Int) else (if (0 : Int) > (w64 (zA - zL)) then (0 : Int) else w64 (zA - zL))) else w64 (jr - zL)) then ((runes n_1.Text).length : Int) else (if (if ((runes n_1.Text).length : Int) < (if (0 : Int) > (w64 (zA - zL)) then (0 : Int) else w64 (zA - zL)) then ((runes n_1.Text).length : Int) else (if (0 : Int) > (w64 (zA - zL)) then (0 : Int) else w64 (zA - zL))) > (w64 (jr - zL)) then (if ((runes n_1.Text).length : Int) < (if (0 : Int) > (w64 (zA - zL)) then (0 : Int) else w64 (zA - zL)) then ((runes n_1.Text).length : Int) else (if (0 : Int) > (w64 (zA - zL)) then (0 : Int) else w64 (zA - zL))) else w64 (jr - zL)))) = true
    · rw [if_pos h3] at hh
      refine zk (by first | exact congrArg PV.bool h3 | rfl) ?_
      refine zb fun K kk hK => ?_
      simp only [go_sem]
      refine hK _ _ fun nx => ?_; clear hK K; try clear kk
      refine zi ?_; refine nmx ?_
      obtain hR := Option.some.inj hh
      subst hR
      refine kR ?_ (by rfl) ?_
      · simp only [go_sem, wu, jA, ku, ve, yP, List.map_cons, List.map_append, List.head?_cons, h2, h3]
        all_goals exact wkw
      · (try simp only [go_sem, h2, h3]); (try simp only [List.length_append, List.map_append]); all_goals exact wkb
    · rw [if_neg h3] at hh
      replace h3 := Bool.eq_false_iff.mpr h3
      refine zh (by first | exact congrArg PV.bool h3 | rfl) ?_
      refine zx ?_; refine nmx ?_
      obtain ⟨⟨anv, anL, asL, alJ, anX, akt, aqR⟩, h4, hh⟩ := ze hh
      dsimp only at hh
      refine zb fun K kk hK => ?_
      simp only [go_sem]
      refine jm [1000, 1001] (by decide) (J4 _ _ _ _ _ _ _ _ _ _ h4) (by (try simp only [go_sem, h2, h3]) <;> exact wkb) (by rfl) ?_
      simp only [go_sem]
      refine hK _ _ fun nx => ?_; clear hK K; try clear kk
      refine zb fun K kk hK => ?_
      simp only [go_sem]
      refine hK _ _ fun nx => ?_; clear hK K; try clear kk
      obtain ⟨asP, h5, hh⟩ := ze hh
      obtain ⟨asQ, h6, hh⟩ := ze hh
      obtain ⟨asT, h7, hh⟩ := ze hh
      refine zb fun K kk hK => ?_
      simp only [go_sem]
      refine aa6 [4, 7] (by decide) (by decide) (jR _ _ _ _ _ _ h5) (by (try simp only [go_sem, h2, h3]) <;> exact wkb) (by rfl) (by rfl) ?_
      simp only [go_sem]
      refine aa6 [4, 7] (by decide) (by decide) (jR _ _ _ _ _ _ h6) (by (try simp only [go_sem, h2, h3]) <;> exact wkb) (by rfl) (by rfl) ?_
      simp only [go_sem]
      refine aa6 [4, 7] (by decide) (by decide) (jR _ _ _ _ _ _ h7) (by (try simp only [go_sem, h2, h3]) <;> exact wkb) (by rfl) (by rfl) ?_
      simp only [go_sem]
      refine hK _ _ fun nx => ?_; clear hK K; try clear kk
      refine zi ?_; refine nmx ?_
      obtain hR := Option.some.inj hh
      subst hR
      refine kR ?_ (by rfl) ?_
      · simp only [go_sem, wu, jA, ku, ve, yP, List.map_cons, List.map_append, List.head?_cons, h2, h3]
        all_goals exact wkw
      · (try simp only [go_sem, h2, h3]); (try simp only [List.length_append, List.map_append]); all_goals exact wkb
theorem JA (l_1 : (List za)) (R : (List za)) (hh : QS l_1 = some R) : PC Tryd.prog 82 [.list 5 (l_1.map za.pv)] (.own 5 (R.map za.pv)) := by
  rw [QS] at hh
  refine aeT rfl ?_
  refine zb fun K kk hK => ?_
  simp only [go_sem]
  refine hK _ _ fun nx => ?_; clear hK K; try clear kk
  refine zb fun K kk hK => ?_
  simp only [go_sem]
  refine hK _ _ fun nx => ?_; clear hK K; try clear kk
  refine zm ?_
  refine zb fun K kk hK => ?_
  simp only [go_sem]
  refine hK _ _ fun nx => ?_; clear hK K; try clear kk
  obtain ⟨e0, f0, hh⟩ := ze hh
  obtain ⟨hlen0, f0⟩ := zZ f0
  refine qy (wS (fun s => ∃ adn, adn = e0 ∧ ∃ (aua : Int) (aqW : Bool) (nx : Nat) (g3 : Nat), s = ⟨[(3, .row 3 g3 adn.length), (7, .list 5 (l_1.map za.pv)), (8, .int .i64 (l_1.length : Int)), (9, .int .i64 aua), (10, .bool aqW)], [(3, g3, .row false 5 (adn.map za.pv))], nx⟩))
    (fun i s => False)
    (fun s => False) ?_ ?_ ?_ ?_
  · refine zD ?_
    refine qi fun I hI => ?_
    have key : ∀ (suf pre : List za) (ZV : Int) (vS : (List za)), l_1 = pre ++ suf → ZV = (pre.length : Int) → wF suf ZV vS = some e0 → ∀ (nx : Nat) (g3 : Nat), I ⟨[(3, .row 3 g3 vS.length), (7, .list 5 (l_1.map za.pv)), (8, .int .i64 (l_1.length : Int)), (9, .int .i64 ZV)], [(3, g3, .row false 5 (vS.map za.pv))], nx⟩ := by
      intro suf
      induction suf with
      | nil =>
        intro pre ZV vS hsplit hidx hh nx g3
        rw [wF] at hh
        refine hI _ ?_
        have h43 := walk_nil hsplit hidx
        refine zb fun K kk hK => ?_
        simp only [go_sem]
        refine hK _ _ fun nx => ?_; clear hK K; try clear kk
        refine zm ?_
        refine zh (by first | exact congrArg PV.bool h43 | rfl) ?_
        refine qd ?_; refine nmx ?_
        refine kL ?_
        refine zH ?_
        refine ⟨_, (Option.some.inj hh), ?_⟩
        first | exact ⟨_, _, _, _, rfl⟩ | (simp only [pvE, lsE, zo]; exact ⟨_, _, _, _, rfl⟩) | (simp only [pvE, lsE, zo, h43]; exact ⟨_, _, _, _, rfl⟩)
      | cons K3 suf ih =>
        intro pre ZV vS hsplit hidx hh nx g3
        rw [wF] at hh
        refine hI _ ?_
        obtain ⟨hl0a, hl0b, hl0d, hl0w, h43⟩ := qD (f := za.pv) hsplit hidx hlen0
        refine zb fun K kk hK => ?_
        simp only [go_sem]
        refine hK _ _ fun nx => ?_; clear hK K; try clear kk
        refine zm ?_
        refine zk (by first | exact congrArg PV.bool h43 | rfl) ?_
        refine zx ?_; refine nmx ?_
        refine zm ?_
        refine zD ?_
        refine zb fun K kk hK => ?_
        simp only [go_sem, hl0a, hl0b, hl0d, hl0w]
        refine hK _ _ fun nx => ?_; clear hK K; try clear kk
        refine zb fun K kk hK => ?_
        simp only [go_sem, hl0a, hl0b, hl0d, hl0w]
        refine hK _ _ fun nx => ?_; clear hK K; try clear kk
        refine zD ?_
        obtain ⟨adE, h44, hh⟩ := ze hh
        by_cases h45 : (adE) = true
        · rw [if_pos h45] at hh
          refine zb fun K kk hK => ?_
          simp only [go_sem, h45, hl0a, hl0b, hl0d, hl0w]
          (repeat refine sd ?_)
          refine zg (wJ _ _ h44) (by (try simp only [go_sem, h45, hl0a, hl0b, hl0d, hl0w]) <;> exact wkl) (by rfl) (by rfl) ?_
          simp only [go_sem, h45, hl0a, hl0b, hl0d, hl0w]
          (repeat refine sd ?_)
          refine hK _ _ fun nx => ?_; clear hK K; try clear kk
          by_cases h46 : (K3.Text == ([] : Str)) = true
          · rw [if_pos h46] at hh
            refine zk (by first | exact congrArg PV.bool h46 | rfl) ?_
            refine zx ?_; refine nmx ?_
            refine zq fun K kk hK => ?_
            simp only [go_sem, hl0a, hl0b, hl0d, hl0w]
            refine hK _ _ fun nx => ?_; clear hK K; try clear kk
            refine nmx ?_
            have ih' := ih (pre ++ [K3]) (ZV + 1) _ (by rw [hsplit]; simp) (by simp [hidx]) hh nx
            refine zH ?_
            first | exact ih' _ | (simp only [pvE, lsE, zo] at ih' ⊢; exact ih' _) | (simp only [pvE, lsE, zo, h43, h45, h46] at ih' ⊢; exact ih' _)
          · rw [if_neg h46] at hh
            replace h46 := Bool.eq_false_iff.mpr h46
            refine zh (by first | exact congrArg PV.bool h46 | rfl) ?_
            by_cases h47 : (decide ((w64 ((vS.length : Int) - (1 : Int))) ≥ (0 : Int))) = true
            · rw [if_pos h47] at hh
              obtain ⟨ar6, h48, hh⟩ := ze hh
              obtain ⟨h48a, h48b, h48c⟩ := rd_some h48
              have h48d := kZ (f := za.pv) h48c
              have h48f := wO (f := za.pv) h48c
              try simp only [Int.toNat_natCast, Int.reduceToNat] at h48d h48f
              obtain ⟨afC, h49, hh⟩ := ze hh
              refine zb fun K kk hK => ?_
              simp only [go_sem, h47, of_decide_eq_true h47, h48a, h48b, h48d, h48f.1, h48f.2, hl0a, hl0b, hl0d, hl0w]
              (repeat refine sd ?_)
              refine zg (VU _ _ _ h49) (by (try simp only [go_sem, h47, of_decide_eq_true h47, h48a, h48b, h48d, h48f.1, h48f.2, hl0a, hl0b, hl0d, hl0w]) <;> exact wkl) (by rfl) (by rfl) ?_
              simp only [go_sem, h47, of_decide_eq_true h47, h48a, h48b, h48d, h48f.1, h48f.2, hl0a, hl0b, hl0d, hl0w]
              (repeat refine sd ?_)
              refine hK _ _ fun nx => ?_; clear hK K; try clear kk
              by_cases h50 : (afC) = true
              · rw [if_pos h50] at hh
                refine zk (by first | exact congrArg PV.bool h50 | rfl) ?_
                obtain ⟨h51, hh⟩ := zZ hh
                refine zb fun K kk hK => ?_
                simp only [go_sem, h48a, h48b, h48d, h48f.1, h48f.2, h51, hl0a, hl0b, hl0d, hl0w]
                (repeat refine sd ?_)
                refine hK _ _ fun nx => ?_; clear hK K; try clear kk
                obtain ⟨arb, h52, hh⟩ := ze hh
                obtain ⟨h52a, h52c⟩ := YC h52
                have h52d := adH (f := za.pv) h52c
                try simp only [Int.toNat_natCast, Int.reduceToNat, List.map_cons, List.map_nil, List.cons_append, List.nil_append, List.singleton_append, pvE] at h52d
                have h52e := adw h52c
                have h48b_h52 := h48b; rw [h52e] at h48b_h52
                have h48f1_h52 := h48f.1; rw [h52e] at h48f1_h52
                have h48a_h52 := h48a; try rw [h52e] at h48a_h52
                have h48d_h52 := h48d; try rw [h52e] at h48d_h52
                try rw [h52e] at h52d
                have h52bw := h52a.2; rw [h52e] at h52bw
                refine zq fun K kk hK => ?_
                simp only [go_sem, h48a, h48b, h48d, h48f.1, h48f.2, h52a.1, h52a.2, h52d, h52e, h48b_h52, h48f1_h52, h48a_h52, h48d_h52, h52bw, hl0a, hl0b, hl0d, hl0w]
                (repeat refine sd ?_)
                try simp only [go_sem, h48a, h48b, h48d, h48f.1, h48f.2, h52a.1, h52a.2, h52d, h52e, h48b_h52, h48f1_h52, h48a_h52, h48d_h52, h52bw, hl0a, hl0b, hl0d, hl0w]
                refine hK _ _ fun nx => ?_; clear hK K; try clear kk
                refine nmx ?_
                refine zq fun K kk hK => ?_
                simp only [go_sem, hl0a, hl0b, hl0d, hl0w]
                refine hK _ _ fun nx => ?_; clear hK K; try clear kk
                refine nmx ?_
                have ih' := ih (pre ++ [K3]) (ZV + 1) _ (by rw [hsplit]; simp) (by simp [hidx]) hh nx
                refine zH ?_
                first | exact ih' _ | (simp only [pvE, lsE, zo, h52e] at ih' ⊢; exact ih' _) | (simp only [pvE, lsE, zo, h52e, h43, h45, h46, h47, h50] at ih' ⊢; exact ih' _)
              · rw [if_neg h50] at hh
                replace h50 := Bool.eq_false_iff.mpr h50
                refine zh (by first | exact congrArg PV.bool h50 | rfl) ?_
                obtain ⟨aqQ, h53, hh⟩ := ze hh
                obtain ⟨h53a, h53c⟩ := zX h53
                have h53d := qH (f := za.pv) h53c
                have h53e := qG h53c
                try simp only [List.length_cons, List.length_nil, Nat.zero_add, Nat.reduceAdd] at h53a h53e
                try simp only [h53e] at h53a
                try simp only [List.map_cons, List.map_nil, List.nil_append, List.append_nil, List.cons_append, List.singleton_append, zo, pvE] at h53d
                refine zq fun K kk hK => ?_
                simp only [go_sem, h53a, h53d, h53e, hl0a, hl0b, hl0d, hl0w]
                (repeat refine sd ?_)
                refine hK _ _ fun nx => ?_; clear hK K; try clear kk
                refine nmx ?_
                refine zq fun K kk hK => ?_
                simp only [go_sem, hl0a, hl0b, hl0d, hl0w]
                refine hK _ _ fun nx => ?_; clear hK K; try clear kk
                refine nmx ?_
                have ih' := ih (pre ++ [K3]) (ZV + 1) _ (by rw [hsplit]; simp) (by simp [hidx]) hh nx
                refine zH ?_
                first | exact ih' _ | (simp only [pvE, lsE, zo, h53e] at ih' ⊢; exact ih' _) | (simp only [pvE, lsE, zo, h53e, h43, h45, h46, h47, h50] at ih' ⊢; exact ih' _)
            · rw [if_neg h47] at hh
              replace h47 := Bool.eq_false_iff.mpr h47
              refine zb fun K kk hK => ?_
              simp only [go_sem, h47, of_decide_eq_false h47, hl0a, hl0b, hl0d, hl0w]
              (repeat refine sd ?_)
              refine hK _ _ fun nx => ?_; clear hK K; try clear kk
              refine zh rfl ?_
              obtain ⟨aqT, h54, hh⟩ := ze hh
              obtain ⟨h54a, h54c⟩ := zX h54
              have h54d := qH (f := za.pv) h54c
              have h54e := qG h54c
              try simp only [List.length_cons, List.length_nil, Nat.zero_add, Nat.reduceAdd] at h54a h54e
              try simp only [h54e] at h54a
              try simp only [List.map_cons, List.map_nil, List.nil_append, List.append_nil, List.cons_append, List.singleton_append, zo, pvE] at h54d
              refine zq fun K kk hK => ?_
              simp only [go_sem, h54a, h54d, h54e, hl0a, hl0b, hl0d, hl0w]
              (repeat refine sd ?_)
              refine hK _ _ fun nx => ?_; clear hK K; try clear kk
              refine nmx ?_
              refine zq fun K kk hK => ?_
              simp only [go_sem, hl0a, hl0b, hl0d, hl0w]
              refine hK _ _ fun nx => ?_; clear hK K; try clear kk
              refine nmx ?_
              have ih' := ih (pre ++ [K3]) (ZV + 1) _ (by rw [hsplit]; simp) (by simp [hidx]) hh nx
              refine zH ?_
              first | exact ih' _ | (simp only [pvE, lsE, zo, h54e] at ih' ⊢; exact ih' _) | (simp only [pvE, lsE, zo, h54e, h43, h45, h46, h47] at ih' ⊢; exact ih' _)
        · rw [if_neg h45] at hh
          replace h45 := Bool.eq_false_iff.mpr h45
          refine zb fun K kk hK => ?_
          simp only [go_sem, h45, hl0a, hl0b, hl0d, hl0w]
          (repeat refine sd ?_)
          refine zg (wJ _ _ h44) (by (try simp only [go_sem, h45, hl0a, hl0b, hl0d, hl0w]) <;> exact wkl) (by rfl) (by rfl) ?_
          simp only [go_sem, h45, hl0a, hl0b, hl0d, hl0w]
          (repeat refine sd ?_)
          refine hK _ _ fun nx => ?_; clear hK K; try clear kk
          refine zh rfl ?_
          by_cases h55 : (decide ((w64 ((vS.length : Int) - (1 : Int))) ≥ (0 : Int))) = true
          · rw [if_pos h55] at hh
            obtain ⟨arQ, h56, hh⟩ := ze hh
            obtain ⟨h56a, h56b, h56c⟩ := rd_some h56
            have h56d := kZ (f := za.pv) h56c
            have h56f := wO (f := za.pv) h56c
            try simp only [Int.toNat_natCast, Int.reduceToNat] at h56d h56f
            obtain ⟨afM, h57, hh⟩ := ze hh
            refine zb fun K kk hK => ?_
            simp only [go_sem, h55, of_decide_eq_true h55, h56a, h56b, h56d, h56f.1, h56f.2, hl0a, hl0b, hl0d, hl0w]
            (repeat refine sd ?_)
            refine zg (VU _ _ _ h57) (by (try simp only [go_sem, h55, of_decide_eq_true h55, h56a, h56b, h56d, h56f.1, h56f.2, hl0a, hl0b, hl0d, hl0w]) <;> exact wkl) (by rfl) (by rfl) ?_
            simp only [go_sem, h55, of_decide_eq_true h55, h56a, h56b, h56d, h56f.1, h56f.2, hl0a, hl0b, hl0d, hl0w]
            (repeat refine sd ?_)
            refine hK _ _ fun nx => ?_; clear hK K; try clear kk
            by_cases h58 : (afM) = true
            · rw [if_pos h58] at hh
              refine zk (by first | exact congrArg PV.bool h58 | rfl) ?_
              obtain ⟨h59, hh⟩ := zZ hh
              refine zb fun K kk hK => ?_
              simp only [go_sem, h56a, h56b, h56d, h56f.1, h56f.2, h59, hl0a, hl0b, hl0d, hl0w]
              (repeat refine sd ?_)
              refine hK _ _ fun nx => ?_; clear hK K; try clear kk
              obtain ⟨auu, h60, hh⟩ := ze hh
              obtain ⟨h60a, h60c⟩ := YC h60
              have h60d := adH (f := za.pv) h60c
              try simp only [Int.toNat_natCast, Int.reduceToNat, List.map_cons, List.map_nil, List.cons_append, List.nil_append, List.singleton_append, pvE] at h60d
              have h60e := adw h60c
              have h56b_h60 := h56b; rw [h60e] at h56b_h60
              have h56f1_h60 := h56f.1; rw [h60e] at h56f1_h60
              have h56a_h60 := h56a; try rw [h60e] at h56a_h60
              have h56d_h60 := h56d; try rw [h60e] at h56d_h60
              try rw [h60e] at h60d
              have h60bw := h60a.2; rw [h60e] at h60bw
              refine zq fun K kk hK => ?_
              simp only [go_sem, h56a, h56b, h56d, h56f.1, h56f.2, h60a.1, h60a.2, h60d, h60e, h56b_h60, h56f1_h60, h56a_h60, h56d_h60, h60bw, hl0a, hl0b, hl0d, hl0w]
              (repeat refine sd ?_)
              try simp only [go_sem, h56a, h56b, h56d, h56f.1, h56f.2, h60a.1, h60a.2, h60d, h60e, h56b_h60, h56f1_h60, h56a_h60, h56d_h60, h60bw, hl0a, hl0b, hl0d, hl0w]
              refine hK _ _ fun nx => ?_; clear hK K; try clear kk
              refine nmx ?_
              refine zq fun K kk hK => ?_
              simp only [go_sem, hl0a, hl0b, hl0d, hl0w]
              refine hK _ _ fun nx => ?_; clear hK K; try clear kk
              refine nmx ?_
              have ih' := ih (pre ++ [K3]) (ZV + 1) _ (by rw [hsplit]; simp) (by simp [hidx]) hh nx
              refine zH ?_
              first | exact ih' _ | (simp only [pvE, lsE, zo, h60e] at ih' ⊢; exact ih' _) | (simp only [pvE, lsE, zo, h60e, h43, h45, h55, h58] at ih' ⊢; exact ih' _)
            · rw [if_neg h58] at hh
              replace h58 := Bool.eq_false_iff.mpr h58
              refine zh (by first | exact congrArg PV.bool h58 | rfl) ?_
              obtain ⟨auL, h61, hh⟩ := ze hh
              obtain ⟨h61a, h61c⟩ := zX h61
              have h61d := qH (f := za.pv) h61c
              have h61e := qG h61c
              try simp only [List.length_cons, List.length_nil, Nat.zero_add, Nat.reduceAdd] at h61a h61e
              try simp only [h61e] at h61a
              try simp only [List.map_cons, List.map_nil, List.nil_append, List.append_nil, List.cons_append, List.singleton_append, zo, pvE] at h61d
              refine zq fun K kk hK => ?_
              simp only [go_sem, h61a, h61d, h61e, hl0a, hl0b, hl0d, hl0w]
              (repeat refine sd ?_)
              refine hK _ _ fun nx => ?_; clear hK K; try clear kk
              refine nmx ?_
              refine zq fun K kk hK => ?_
              simp only [go_sem, hl0a, hl0b, hl0d, hl0w]
              refine hK _ _ fun nx => ?_; clear hK K; try clear kk
              refine nmx ?_
              have ih' := ih (pre ++ [K3]) (ZV + 1) _ (by rw [hsplit]; simp) (by simp [hidx]) hh nx
              refine zH ?_
              first | exact ih' _ | (simp only [pvE, lsE, zo, h61e] at ih' ⊢; exact ih' _) | (simp only [pvE, lsE, zo, h61e, h43, h45, h55, h58] at ih' ⊢; exact ih' _)
          · rw [if_neg h55] at hh
            replace h55 := Bool.eq_false_iff.mpr h55
            refine zb fun K kk hK => ?_
            simp only [go_sem, h55, of_decide_eq_false h55, hl0a, hl0b, hl0d, hl0w]
            (repeat refine sd ?_)
            refine hK _ _ fun nx => ?_; clear hK K; try clear kk
            refine zh rfl ?_
            obtain ⟨auh, h62, hh⟩ := ze hh
            obtain ⟨h62a, h62c⟩ := zX h62
            have h62d := qH (f := za.pv) h62c
            have h62e := qG h62c
            try simp only [List.length_cons, List.length_nil, Nat.zero_add, Nat.reduceAdd] at h62a h62e
            try simp only [h62e] at h62a
            try simp only [List.map_cons, List.map_nil, List.nil_append, List.append_nil, List.cons_append, List.singleton_append, zo, pvE] at h62d
            refine zq fun K kk hK => ?_
            simp only [go_sem, h62a, h62d, h62e, hl0a, hl0b, hl0d, hl0w]
            (repeat refine sd ?_)
            refine hK _ _ fun nx => ?_; clear hK K; try clear kk
            refine nmx ?_
            refine zq fun K kk hK => ?_
            simp only [go_sem, hl0a, hl0b, hl0d, hl0w]
            refine hK _ _ fun nx => ?_; clear hK K; try clear kk
            refine nmx ?_
            have ih' := ih (pre ++ [K3]) (ZV + 1) _ (by rw [hsplit]; simp) (by simp [hidx]) hh nx
            refine zH ?_
            first | exact ih' _ | (simp only [pvE, lsE, zo, h62e] at ih' ⊢; exact ih' _) | (simp only [pvE, lsE, zo, h62e, h43, h45, h55] at ih' ⊢; exact ih' _)
    exact key l_1 [] _ _ rfl rfl f0 _ _
  · rintro s ⟨t, hless, adn, rfl, aua, aqW, nx, g3, rfl⟩
    try dsimp only at hh
    refine nmy ?_
    first | (refine wh hless ?_; try refine kg ?_) | refine qF hless ?_ | refine qE hless ?_
    refine zb fun K kk hK => ?_
    simp only [go_sem]
    refine hK _ _ fun nx => ?_; clear hK K; try clear kk
    refine zi ?_; refine nmx ?_
    obtain hR := Option.some.inj hh
    subst hR
    exact Yy (by rfl) (by rfl) (by rfl) (by simp only [List.length_map, List.length_cons, List.length_nil, Nat.zero_add, Nat.reduceAdd]) (by first | rfl | (simp only [pvE, lsE, zo]; done) | (simp only [pvE, lsE, zo]; rfl))
  · intro i s h; exact h.elim
  · intro s h; exact h.elim
theorem Jq : ∀ kr : Nat, (∀ (l_1 : (List za)) (zL : Int) (vF : Int) (zA : Int) (jr : Int) (wY : (List za)) (vH : Str) (wZ : Str) (l_9 : (List zn)) (R : ((List za) × Int × Int × Int × (List za) × Str × Str × (List zn))), qx kr l_1 zL vF zA jr wY vH wZ l_9 = some R → BC Tryd.prog 79 [.box 1000 0 0, .list 5 (l_1.map za.pv), .int .i64 zL] [.var 136 [.int .u8 vF, .int .i64 zA, .int .i64 jr, .list 5 (wY.map za.pv), .str vH, .str wZ, .row 1001 0 l_9.length], .row false 3 (l_9.map zn.pv)] (.list 5 (R.1.map za.pv)) [.var 136 [.int .u8 R.2.1, .int .i64 R.2.2.1, .int .i64 R.2.2.2.1, .list 5 (R.2.2.2.2.1.map za.pv), .str R.2.2.2.2.2.1, .str R.2.2.2.2.2.2.1, .row 1001 0 R.2.2.2.2.2.2.2.length], .moved 3 (R.2.2.2.2.2.2.2.map zn.pv)]) := by
  intro kr
  induction kr with
  | zero => exact (by intro l_1 zL vF zA jr wY vH wZ l_9 R hh; rw [qx] at hh; cases hh)
  | succ kr ih =>
    have ih_step_painter_kids_x := ih
    clear ih
    intro l_1 zL vF zA jr wY vH wZ l_9 R hh
    rw [qx] at hh
    refine Vk rfl rfl rfl ?_
    refine zb fun K kk hK => ?_
    simp only [go_sem]
    refine hK _ _ fun nx => ?_; clear hK K; try clear kk
    refine zb fun K kk hK => ?_
    simp only [go_sem]
    refine hK _ _ fun nx => ?_; clear hK K; try clear kk
    refine zm ?_
    refine zb fun K kk hK => ?_
    simp only [go_sem]
    refine hK _ _ fun nx => ?_; clear hK K; try clear kk
    obtain ⟨e0, f0, hh⟩ := ze hh
    obtain ⟨hlen0, f0⟩ := zZ f0
    refine qy (wS (fun s => ∃ adL, ∃ arj, ∃ aq5, ∃ apF, ∃ aqg, ∃ ap8, ∃ aqf, ∃ ao7, (adL, arj, aq5, apF, aqg, ap8, aqf, ao7) = e0 ∧ ∃ (asK : Int) (aut : Int) (auK : Bool) (nx : Nat) (g7 : Nat) (g1001 : Nat), s = ⟨[(0, .box 1000 0 0), (2, .int .i64 asK), (7, .row 7 g7 adL.length), (11, .list 5 (l_1.map za.pv)), (12, .int .i64 (l_1.length : Int)), (13, .int .i64 aut), (14, .bool auK)], [(7, g7, .row false 5 (adL.map za.pv)), (1000, 0, .var 136 [.int .u8 arj, .int .i64 aq5, .int .i64 apF, .list 5 (aqg.map za.pv), .str ap8, .str aqf, .row 1001 g1001 ao7.length]), (1001, g1001, .row false 3 (ao7.map zn.pv))], nx⟩))
      (fun i s => False)
      (fun s => False) ?_ ?_ ?_ ?_
    · refine zD ?_
      refine qi fun I hI => ?_
      have key : ∀ (suf pre : List za) (afk : Int) (aan : Int) (VW : (List za)) (ajN : Int) (ajp : Int) (ajH : Int) (ajT : (List za)) (ajP : Str) (ajA : Str) (Ym : (List zn)), l_1 = pre ++ suf → afk = (pre.length : Int) → qa (qx kr) suf afk aan VW ajN ajp ajH ajT ajP ajA Ym = some e0 → ∀ (nx : Nat) (g7 : Nat) (g1001 : Nat), I ⟨[(0, .box 1000 0 0), (2, .int .i64 aan), (7, .row 7 g7 VW.length), (11, .list 5 (l_1.map za.pv)), (12, .int .i64 (l_1.length : Int)), (13, .int .i64 afk)], [(7, g7, .row false 5 (VW.map za.pv)), (1000, 0, .var 136 [.int .u8 ajN, .int .i64 ajp, .int .i64 ajH, .list 5 (ajT.map za.pv), .str ajP, .str ajA, .row 1001 g1001 Ym.length]), (1001, g1001, .row false 3 (Ym.map zn.pv))], nx⟩ := by
        intro suf
        induction suf with
        | nil =>
          intro pre afk aan VW ajN ajp ajH ajT ajP ajA Ym hsplit hidx hh nx g7 g1001
          rw [qa] at hh
          refine hI _ ?_
          have h17 := walk_nil hsplit hidx
          refine zb fun K kk hK => ?_
          simp only [go_sem]
          refine hK _ _ fun nx => ?_; clear hK K; try clear kk
          refine zm ?_
          refine zh (by first | exact congrArg PV.bool h17 | rfl) ?_
          refine qd ?_; refine nmx ?_
          refine kL ?_
          refine zH ?_
          refine ⟨_, _, _, _, _, _, _, _, (Option.some.inj hh), ?_⟩
          first | exact ⟨_, _, _, _, _, _, rfl⟩ | (simp only [pvE, lsE, zo]; exact ⟨_, _, _, _, _, _, rfl⟩) | (simp only [pvE, lsE, zo, h17]; exact ⟨_, _, _, _, _, _, rfl⟩)
        | cons ai5 suf ih =>
          intro pre afk aan VW ajN ajp ajH ajT ajP ajA Ym hsplit hidx hh nx g7 g1001
          rw [qa] at hh
          refine hI _ ?_
          obtain ⟨hl0a, hl0b, hl0d, hl0w, h17⟩ := qD (f := za.pv) hsplit hidx hlen0
          refine zb fun K kk hK => ?_
          simp only [go_sem]
          refine hK _ _ fun nx => ?_; clear hK K; try clear kk
          refine zm ?_
          refine zk (by first | exact congrArg PV.bool h17 | rfl) ?_
          refine zx ?_; refine nmx ?_
          refine zm ?_
          refine zD ?_
          refine zb fun K kk hK => ?_
          simp only [go_sem, hl0a, hl0b, hl0d, hl0w]
          refine hK _ _ fun nx => ?_; clear hK K; try clear kk
          obtain ⟨ajD, h18, hh⟩ := ze hh
          refine zb fun K kk hK => ?_
          simp only [go_sem, hl0a, hl0b, hl0d, hl0w]
          refine zg (Qi _ _ h18) (by (try simp only [go_sem, hl0a, hl0b, hl0d, hl0w]) <;> exact wkl) (by rfl) (by rfl) ?_
          simp only [go_sem, hl0a, hl0b, hl0d, hl0w]
          refine hK _ _ fun nx => ?_; clear hK K; try clear kk
          refine zm ?_
          refine zb fun K kk hK => ?_
          simp only [go_sem, hl0a, hl0b, hl0d, hl0w]
          refine hK _ _ fun nx => ?_; clear hK K; try clear kk
          by_cases h19 : (ai5.Kind == ([116, 101, 120, 116] : Str)) = true
          · rw [if_pos h19] at hh
            refine zk (by first | exact congrArg PV.bool h19 | rfl) ?_
            obtain ⟨⟨auX, anh, anr, asR, ale, am4, akw, amv⟩, h20, hh⟩ := ze hh
            dsimp only at hh
            obtain ⟨avb, h21, hh⟩ := ze hh
            obtain ⟨h21a, h21c⟩ := zX h21
            have h21d := qH (f := za.pv) h21c
            have h21e := qG h21c
            try simp only [List.length_cons, List.length_nil, Nat.zero_add, Nat.reduceAdd] at h21a h21e
            try simp only [h21e] at h21a
            try simp only [List.map_cons, List.map_nil, List.nil_append, List.append_nil, List.cons_append, List.singleton_append, zo, pvE] at h21d
            refine zq fun K kk hK => ?_
            simp only [go_sem, h21a, h21d, h21e, hl0a, hl0b, hl0d, hl0w]
            (repeat refine sd ?_)
            refine jm [1000, 1001] (by decide) (JR _ _ _ _ _ _ _ _ _ _ h20) (by (try simp only [go_sem, h21a, h21d, h21e, hl0a, hl0b, hl0d, hl0w, h17, h19]) <;> exact wkb) (by rfl) ?_
            simp only [go_sem, h21a, h21d, h21e, hl0a, hl0b, hl0d, hl0w]
            (repeat refine sd ?_)
            refine hK _ _ fun nx => ?_; clear hK K; try clear kk
            refine nmx ?_
            refine zq fun K kk hK => ?_
            simp only [go_sem, hl0a, hl0b, hl0d, hl0w]
            refine hK _ _ fun nx => ?_; clear hK K; try clear kk
            refine nmx ?_
            refine zq fun K kk hK => ?_
            simp only [go_sem, hl0a, hl0b, hl0d, hl0w]
            refine hK _ _ fun nx => ?_; clear hK K; try clear kk
            refine nmx ?_
            have ih' := ih (pre ++ [ai5]) (afk + 1) _ _ _ _ _ _ _ _ _ (by rw [hsplit]; simp) (by simp [hidx]) hh nx
            refine zH ?_
            first | exact ih' _ _ | (simp only [pvE, lsE, zo, h21e] at ih' ⊢; exact ih' _ _) | (simp only [pvE, lsE, zo, h21e, h17, h19] at ih' ⊢; exact ih' _ _)
          · rw [if_neg h19] at hh
            replace h19 := Bool.eq_false_iff.mpr h19
            refine zh (by first | exact congrArg PV.bool h19 | rfl) ?_
            obtain ⟨⟨auw, anf, am7, asU, akr, ane, ajY, au0⟩, h22, hh⟩ := ze hh
            dsimp only at hh
            refine zb fun K kk hK => ?_
            simp only [go_sem, hl0a, hl0b, hl0d, hl0w]
            refine jm [1000, 1001] (by decide) (ih_step_painter_kids_x _ _ _ _ _ _ _ _ _ _ h22) (by (try simp only [go_sem, hl0a, hl0b, hl0d, hl0w, h17, h19]) <;> exact wkb) (by rfl) ?_
            simp only [go_sem, hl0a, hl0b, hl0d, hl0w]
            refine hK _ _ fun nx => ?_; clear hK K; try clear kk
            obtain ⟨amK, h23, hh⟩ := ze hh
            obtain ⟨h23a, h23c⟩ := zX h23
            have h23d := qH (f := za.pv) h23c
            have h23e := qG h23c
            try simp only [List.length_cons, List.length_nil, Nat.zero_add, Nat.reduceAdd] at h23a h23e
            try simp only [h23e] at h23a
            try simp only [List.map_cons, List.map_nil, List.nil_append, List.append_nil, List.cons_append, List.singleton_append, zo, pvE] at h23d
            refine zq fun K kk hK => ?_
            simp only [go_sem, h23a, h23d, h23e, hl0a, hl0b, hl0d, hl0w]
            (repeat refine sd ?_)
            refine hK _ _ fun nx => ?_; clear hK K; try clear kk
            refine nmx ?_
            refine zq fun K kk hK => ?_
            simp only [go_sem, hl0a, hl0b, hl0d, hl0w]
            refine hK _ _ fun nx => ?_; clear hK K; try clear kk
            refine nmx ?_
            refine zq fun K kk hK => ?_
            simp only [go_sem, hl0a, hl0b, hl0d, hl0w]
            refine hK _ _ fun nx => ?_; clear hK K; try clear kk
            refine nmx ?_
            have ih' := ih (pre ++ [ai5]) (afk + 1) _ _ _ _ _ _ _ _ _ (by rw [hsplit]; simp) (by simp [hidx]) hh nx
            refine zH ?_
            first | exact ih' _ _ | (simp only [pvE, lsE, zo, h23e] at ih' ⊢; exact ih' _ _) | (simp only [pvE, lsE, zo, h23e, h17, h19] at ih' ⊢; exact ih' _ _)
      exact key l_1 [] _ _ _ _ _ _ _ _ _ _ rfl rfl f0 _ _ _
    · rintro s ⟨t, hless, adL, arj, aq5, apF, aqg, ap8, aqf, ao7, rfl, asK, aut, auK, nx, g7, g1001, rfl⟩
      try dsimp only at hh
      refine nmy ?_
      first | (refine wh hless ?_; try refine kg ?_) | refine qF hless ?_ | refine qE hless ?_
      obtain ⟨anw, h24, hh⟩ := ze hh
      refine zb fun K kk hK => ?_
      simp only [go_sem]
      refine zg (JA _ _ h24).list (by (try simp only [go_sem]) <;> exact wkl) (by rfl) (by rfl) ?_
      simp only [go_sem]
      refine hK _ _ fun nx => ?_; clear hK K; try clear kk
      refine zi ?_; refine nmx ?_
      obtain hR := Option.some.inj hh
      subst hR
      refine kR ?_ (by rfl) ?_
      · simp only [go_sem, wu, jA, ku, ve, yP, List.map_cons, List.map_append, List.head?_cons]
        all_goals exact wkw
      · (try simp only [go_sem]); (try simp only [List.length_append, List.map_append]); all_goals exact wkb
    · intro i s h; exact h.elim
    · intro s h; exact h.elim
theorem JE (l_1 : (List za)) (zL : Int) (vF : Int) (zA : Int) (jr : Int) (wY : (List za)) (vH : Str) (wZ : Str) (l_9 : (List zn)) (R : ((List za) × Int × Int × Int × (List za) × Str × Str × (List zn))) (hh : vW l_1 zL vF zA jr wY vH wZ l_9 = some R) : BC Tryd.prog 79 [.box 1000 0 0, .list 5 (l_1.map za.pv), .int .i64 zL] [.var 136 [.int .u8 vF, .int .i64 zA, .int .i64 jr, .list 5 (wY.map za.pv), .str vH, .str wZ, .row 1001 0 l_9.length], .row false 3 (l_9.map zn.pv)] (.list 5 (R.1.map za.pv)) [.var 136 [.int .u8 R.2.1, .int .i64 R.2.2.1, .int .i64 R.2.2.2.1, .list 5 (R.2.2.2.2.1.map za.pv), .str R.2.2.2.2.2.1, .str R.2.2.2.2.2.2.1, .row 1001 0 R.2.2.2.2.2.2.2.length], .moved 3 (R.2.2.2.2.2.2.2.map zn.pv)] := by
 rw [vW] at hh
 obtain ⟨kr, hh⟩ := xV hh
 exact (Jq kr) _ _ _ _ _ _ _ _ _ _ hh
theorem aal (n_1 : za) (s_2 : zz) (R : (za × (List zn) × Int)) (hh : yf n_1 s_2 = some R) : PC Tryd.prog 47 [.agg [.str n_1.Kind, .str n_1.Text, .list 1 (n_1.Marks.map PV.str), .list 2 (n_1.zt.map zf.pv), .list 5 (n_1.Kids.map za.pv)], .agg [.int .u8 s_2.Kind, .int .i64 s_2.From, .int .i64 s_2.To, .list 5 (s_2.wC.map za.pv), .str s_2.Name, .str s_2.Value]] (.tup [.agg [.str R.1.Kind, .str R.1.Text, .list 1 (R.1.Marks.map PV.str), .list 2 (R.1.zt.map zf.pv), .list 5 (R.1.Kids.map za.pv)], .list 3 (R.2.1.map zn.pv), .int .i64 R.2.2]) := by
  rw [yf] at hh
  refine adg rfl ?_
  refine zb fun K kk hK => ?_
  simp only [go_sem]
  refine hK _ _ fun nx => ?_; clear hK K; try clear kk
  refine zm ?_
  obtain ⟨Qt, h1, hh⟩ := ze hh
  refine zb fun K kk hK => ?_
  simp only [go_sem]
  refine zg (jS _ _ h1) (by (try simp only [go_sem]) <;> exact wkl) (by rfl) (by rfl) ?_
  simp only [go_sem]
  refine hK _ _ fun nx => ?_; clear hK K; try clear kk
  by_cases h2 : (decide (s_2.To > Qt)) = true
  · rw [if_pos h2] at hh
    refine zk (by first | exact congrArg PV.bool h2 | rfl) ?_
    refine zb fun K kk hK => ?_
    simp only [go_sem]
    refine hK _ _ fun nx => ?_; clear hK K; try clear kk
    refine zi ?_; refine nmx ?_
    obtain hR := Option.some.inj hh
    subst hR
    exact zy
  · rw [if_neg h2] at hh
    replace h2 := Bool.eq_false_iff.mpr h2
    refine zh (by first | exact congrArg PV.bool h2 | rfl) ?_
    refine zx ?_; refine nmx ?_
    refine zb fun K kk hK => ?_
    simp only [go_sem]
    refine hK _ _ fun nx => ?_; clear hK K; try clear kk
    obtain ⟨⟨r_4, ati, atU, avu, ase, as7, apK, aqc⟩, h3, hh⟩ := ze hh
    dsimp only at hh
    refine zb fun K kk hK => ?_
    simp only [go_sem]
    refine jm [17, 425] (by decide) (JE _ _ _ _ _ _ _ _ _ _ h3) (by (try simp only [go_sem, h2]) <;> exact wkb) (by rfl) ?_
    simp only [go_sem]
    refine hK _ _ fun nx => ?_; clear hK K; try clear kk
    refine zb fun K kk hK => ?_
    simp only [go_sem]
    refine hK _ _ fun nx => ?_; clear hK K; try clear kk
    refine zi ?_; refine nmx ?_
    obtain hR := Option.some.inj hh
    subst hR
    exact zy
end Go.Proofs.YtclohbgnaopjfaaDoor
