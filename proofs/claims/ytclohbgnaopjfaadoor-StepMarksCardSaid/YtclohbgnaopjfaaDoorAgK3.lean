/- Texts of the proof of stepMarksCard -/
import Derived.Test.YtclohbgnaopjfaaDoorAgC
import Derived.Test.YtclohbgnaopjfaaDoorAgF
import Derived.Test.YtclohbgnaopjfaaDoorAgK0
import Derived.Test.YtclohbgnaopjfaaDoorAgK2
namespace Go.Proofs.YtclohbgnaopjfaaDoor
set_option linter.unusedSimpArgs false
set_option linter.unusedVariables false
open Go
set_option maxRecDepth 100000
theorem Jk (n_1 : za) (zL : Int) (vv : Int) (zz : Int) (jg : Int) (wV : (List za)) (vw : Str) (wW : Str) (l_9 : (List zo)) (R : ((List za) × Int × Int × Int × (List za) × Str × Str × (List zo))) (hh : vN n_1 zL vv zz jg wV vw wW l_9 = some R) : BC Tryd.prog 101 [.box 1000 0 0, .agg [.str n_1.Kind, .str n_1.Text, .list 1 (n_1.Marks.map PV.str), .list 2 (n_1.zu.map zg.pv), .list 5 (n_1.Kids.map za.pv)], .int .i64 zL] [.var 136 [.int .u8 vv, .int .i64 zz, .int .i64 jg, .list 5 (wV.map za.pv), .str vw, .str wW, .row 1001 0 l_9.length], .row false 3 (l_9.map zo.pv)] (.list 5 (R.1.map za.pv)) [.var 136 [.int .u8 R.2.1, .int .i64 R.2.2.1, .int .i64 R.2.2.2.1, .list 5 (R.2.2.2.2.1.map za.pv), .str R.2.2.2.2.2.1, .str R.2.2.2.2.2.2.1, .row 1001 0 R.2.2.2.2.2.2.2.length], .moved 3 (R.2.2.2.2.2.2.2.map zo.pv)] := by
  rw [vN] at hh
  refine KW rfl rfl rfl ?_
  refine zb fun K kk hK => ?_
  simp only [go_sem]
  refine hK _ _ fun nx => ?_; clear hK K; try clear kk
  refine zb fun K kk hK => ?_
  simp only [go_sem]
  refine hK _ _ fun nx => ?_; clear hK K; try clear kk
  refine zb fun K kk hK => ?_
  simp only [go_sem]
  refine hK _ _ fun nx => ?_; clear hK K; try clear kk
  refine zb fun K kk hK => ?_
  simp only [go_sem]
  refine hK _ _ fun nx => ?_; clear hK K; try clear kk
  obtain ⟨⟨V8, abU⟩, h1, hh⟩ := ze hh
  dsimp only at hh
  refine zb fun K kk hK => ?_
  simp only [go_sem]
  refine zf (abS _ _ _ h1) (by (try simp only [go_sem]) <;> exact wkl) (by rfl) (by rfl) ?_
  simp only [go_sem]
  refine hK _ _ fun nx => ?_; clear hK K; try clear kk
  refine zk ?_
  by_cases h2 : (!abU) = true
  · rw [if_pos h2] at hh
    refine zb fun K kk hK => ?_
    simp only [go_sem, h2]
    (repeat refine sd ?_)
    refine hK _ _ fun nx => ?_; clear hK K; try clear kk
    refine zm rfl ?_
    refine zb fun K kk hK => ?_
    simp only [go_sem]
    refine hK _ _ fun nx => ?_; clear hK K; try clear kk
    refine zi ?_; refine nmx ?_
    obtain hR := Option.some.inj hh
    subst hR
    refine kH ?_ (by rfl) ?_
    · simp only [go_sem, wo, jo, wX, kS, yC, List.map_cons, List.map_append, List.head?_cons, h2]
      all_goals exact wkw
    · (try simp only [go_sem, h2]); (try simp only [List.length_append, List.map_append]); all_goals exact wkb
  · rw [if_neg h2] at hh
    replace h2 := Bool.eq_false_iff.mpr h2
    refine zb fun K kk hK => ?_
    simp only [go_sem, h2]
    (repeat refine sd ?_)
    refine hK _ _ fun nx => ?_; clear hK K; try clear kk
    by_cases h3 : ((if ((runes n_1.Text).length : Int) < (if (0 : Int) > (w64 (zz - zL)) then (0 : Int) else w64 (zz - zL)) then ((runes n_1.Text).length : Int) else (if (0 : Int) > (w64 (zz - zL)) then (0 : Int) else w64 (zz - zL))) == (if ((runes n_1.Text).length : Int) < (if (if ((runes n_1.Text).length : Int) < (if (0 : Int) > (w64 (zz - zL)) then (0 : Int) else w64 (zz - zL)) then ((runes n_1.Text).length : Int) else (if (0 : Int) > (w64 (zz - zL)) then (0 : Int) else w64 (zz - zL))) > (w64 (jg - zL)) then (if ((runes n_1.Text).length : Int) < (if (0 : Int) > (w64 (zz - zL)) then (0 : Int) else w64 (zz - zL)) then ((runes n_1.Text).length : Int) else (if (0 : Int) > (w64 (zz - zL)) then (0 : Int) else w64 (zz - zL))) else w64 (jg - zL)) then ((runes n_1.Text).length : Int) else (if (if ((runes n_1.Text).length : Int) < (if (0 : Int) > (w64 (zz - zL)) then (0 : Int) else w64 (zz - zL)) then ((runes n_1.Text).length : Int) else (if (0 : Int) > (w64 (zz - zL)) then (0 : Int) else w64 (zz - zL))) > (w64 (jg - zL)) then (if ((runes n_1.Text).length : Int) < (if (0 : Int) > (w64 (zz - zL)) then (0 : Int) else w64 (zz - zL)) then ((runes n_1.Text).length : Int) else (if (0 : Int) > (w64 (zz - zL)) then (0 : Int) else w64 (zz - zL))) else w64 (jg - zL)))) = true
    · rw [if_pos h3] at hh
      refine zm (by first | exact congrArg PV.bool h3 | rfl) ?_
      refine zb fun K kk hK => ?_
      simp only [go_sem]
      refine hK _ _ fun nx => ?_; clear hK K; try clear kk
      refine zi ?_; refine nmx ?_
      obtain hR := Option.some.inj hh
      subst hR
      refine kH ?_ (by rfl) ?_
      · simp only [go_sem, wo, jo, wX, kS, yC, List.map_cons, List.map_append, List.head?_cons, h2, h3]
        all_goals exact wkw
      · (try simp only [go_sem, h2, h3]); (try simp only [List.length_append, List.map_append]); all_goals exact wkb
    · rw [if_neg h3] at hh
      replace h3 := Bool.eq_false_iff.mpr h3
      refine zh (by first | exact congrArg PV.bool h3 | rfl) ?_
      refine zx ?_; refine nmx ?_
      obtain ⟨⟨amw, am1, arS, aj8, anc, akM, aov⟩, h4, hh⟩ := ze hh
      dsimp only at hh
      refine zb fun K kk hK => ?_
      simp only [go_sem]
      refine jb [1000, 1001] (by decide) (Jl _ _ _ _ _ _ _ _ _ _ h4) (by (try simp only [go_sem, h2, h3]) <;> exact wkb) (by rfl) ?_
      simp only [go_sem]
      refine hK _ _ fun nx => ?_; clear hK K; try clear kk
      refine zb fun K kk hK => ?_
      simp only [go_sem]
      refine hK _ _ fun nx => ?_; clear hK K; try clear kk
      obtain ⟨arN, h5, hh⟩ := ze hh
      obtain ⟨arU, h6, hh⟩ := ze hh
      obtain ⟨arO, h7, hh⟩ := ze hh
      refine zb fun K kk hK => ?_
      simp only [go_sem]
      refine aaC [4, 7] (by decide) (by decide) (jH _ _ _ _ _ _ h5) (by (try simp only [go_sem, h2, h3]) <;> exact wkb) (by rfl) (by rfl) ?_
      simp only [go_sem]
      refine aaC [4, 7] (by decide) (by decide) (jH _ _ _ _ _ _ h6) (by (try simp only [go_sem, h2, h3]) <;> exact wkb) (by rfl) (by rfl) ?_
      simp only [go_sem]
      refine aaC [4, 7] (by decide) (by decide) (jH _ _ _ _ _ _ h7) (by (try simp only [go_sem, h2, h3]) <;> exact wkb) (by rfl) (by rfl) ?_
      simp only [go_sem]
      refine hK _ _ fun nx => ?_; clear hK K; try clear kk
      refine zi ?_; refine nmx ?_
      obtain hR := Option.some.inj hh
      subst hR
      refine kH ?_ (by rfl) ?_
      · simp only [go_sem, wo, jo, wX, kS, yC, List.map_cons, List.map_append, List.head?_cons, h2, h3]
        all_goals exact wkw
      · (try simp only [go_sem, h2, h3]); (try simp only [List.length_append, List.map_append]); all_goals exact wkb
theorem Jh (l_1 : (List za)) (R : (List za)) (hh : QA l_1 = some R) : PC Tryd.prog 82 [.list 5 (l_1.map za.pv)] (.own 5 (R.map za.pv)) := by
  rw [QA] at hh
  refine aee rfl ?_
  refine zb fun K kk hK => ?_
  simp only [go_sem]
  refine hK _ _ fun nx => ?_; clear hK K; try clear kk
  refine zb fun K kk hK => ?_
  simp only [go_sem]
  refine hK _ _ fun nx => ?_; clear hK K; try clear kk
  refine zk ?_
  refine zb fun K kk hK => ?_
  simp only [go_sem]
  refine hK _ _ fun nx => ?_; clear hK K; try clear kk
  obtain ⟨e0, f0, hh⟩ := ze hh
  obtain ⟨hlen0, f0⟩ := zY f0
  refine qz (wZ (fun s => ∃ acM, acM = e0 ∧ ∃ (atm : Int) (apE : Bool) (nx : Nat) (g3 : Nat), s = ⟨[(3, .row 3 g3 acM.length), (7, .list 5 (l_1.map za.pv)), (8, .int .i64 (l_1.length : Int)), (9, .int .i64 atm), (10, .bool apE)], [(3, g3, .row false 5 (acM.map za.pv))], nx⟩))
    (fun i s => False)
    (fun s => False) ?_ ?_ ?_ ?_
  · refine zC ?_
    refine qp fun I hI => ?_
    have key : ∀ (suf pre : List za) (ZJ : Int) (vM : (List za)), l_1 = pre ++ suf → ZJ = (pre.length : Int) → wE suf ZJ vM = some e0 → ∀ (nx : Nat) (g3 : Nat), I ⟨[(3, .row 3 g3 vM.length), (7, .list 5 (l_1.map za.pv)), (8, .int .i64 (l_1.length : Int)), (9, .int .i64 ZJ)], [(3, g3, .row false 5 (vM.map za.pv))], nx⟩ := by
      intro suf
      induction suf with
      | nil =>
        intro pre ZJ vM hsplit hidx hh nx g3
        rw [wE] at hh
        refine hI _ ?_
        have h43 := walk_nil hsplit hidx
        refine zb fun K kk hK => ?_
        simp only [go_sem]
        refine hK _ _ fun nx => ?_; clear hK K; try clear kk
        refine zk ?_
        refine zh (by first | exact congrArg PV.bool h43 | rfl) ?_
        refine qa ?_; refine nmx ?_
        refine kF ?_
        refine zH ?_
        refine ⟨_, (Option.some.inj hh), ?_⟩
        first | exact ⟨_, _, _, _, rfl⟩ | (simp only [pvE, lsE, zn]; exact ⟨_, _, _, _, rfl⟩) | (simp only [pvE, lsE, zn, h43]; exact ⟨_, _, _, _, rfl⟩)
      | cons Ko suf ih =>
        intro pre ZJ vM hsplit hidx hh nx g3
        rw [wE] at hh
        refine hI _ ?_
        obtain ⟨hl0a, hl0b, hl0d, hl0w, h43⟩ := qF (f := za.pv) hsplit hidx hlen0
        refine zb fun K kk hK => ?_
        simp only [go_sem]
        refine hK _ _ fun nx => ?_; clear hK K; try clear kk
        refine zk ?_
        refine zm (by first | exact congrArg PV.bool h43 | rfl) ?_
        refine zx ?_; refine nmx ?_
        refine zk ?_
        refine zC ?_
        refine zb fun K kk hK => ?_
        simp only [go_sem, hl0a, hl0b, hl0d, hl0w]
        refine hK _ _ fun nx => ?_; clear hK K; try clear kk
        refine zb fun K kk hK => ?_
        simp only [go_sem, hl0a, hl0b, hl0d, hl0w]
        refine hK _ _ fun nx => ?_; clear hK K; try clear kk
        refine zC ?_
        obtain ⟨acV, h44, hh⟩ := ze hh
        by_cases h45 : (acV) = true
        · rw [if_pos h45] at hh
          refine zb fun K kk hK => ?_
          simp only [go_sem, h45, hl0a, hl0b, hl0d, hl0w]
          (repeat refine sd ?_)
          refine zf (wH _ _ h44) (by (try simp only [go_sem, h45, hl0a, hl0b, hl0d, hl0w]) <;> exact wkl) (by rfl) (by rfl) ?_
          simp only [go_sem, h45, hl0a, hl0b, hl0d, hl0w]
          (repeat refine sd ?_)
          refine hK _ _ fun nx => ?_; clear hK K; try clear kk
          by_cases h46 : (Ko.Text == ([] : Str)) = true
          · rw [if_pos h46] at hh
            refine zm (by first | exact congrArg PV.bool h46 | rfl) ?_
            refine zx ?_; refine nmx ?_
            refine zq fun K kk hK => ?_
            simp only [go_sem, hl0a, hl0b, hl0d, hl0w]
            refine hK _ _ fun nx => ?_; clear hK K; try clear kk
            refine nmx ?_
            have ih' := ih (pre ++ [Ko]) (ZJ + 1) _ (by rw [hsplit]; simp) (by simp [hidx]) hh nx
            refine zH ?_
            first | exact ih' _ | (simp only [pvE, lsE, zn] at ih' ⊢; exact ih' _) | (simp only [pvE, lsE, zn, h43, h45, h46] at ih' ⊢; exact ih' _)
          · rw [if_neg h46] at hh
            replace h46 := Bool.eq_false_iff.mpr h46
            refine zh (by first | exact congrArg PV.bool h46 | rfl) ?_
            by_cases h47 : (decide ((w64 ((vM.length : Int) - (1 : Int))) ≥ (0 : Int))) = true
            · rw [if_pos h47] at hh
              obtain ⟨aq2, h48, hh⟩ := ze hh
              obtain ⟨h48a, h48b, h48c⟩ := rd_some h48
              have h48d := vz (f := za.pv) h48c
              have h48f := wY (f := za.pv) h48c
              try simp only [Int.toNat_natCast, Int.reduceToNat] at h48d h48f
              obtain ⟨afJ, h49, hh⟩ := ze hh
              refine zb fun K kk hK => ?_
              simp only [go_sem, h47, of_decide_eq_true h47, h48a, h48b, h48d, h48f.1, h48f.2, hl0a, hl0b, hl0d, hl0w]
              (repeat refine sd ?_)
              refine zf (Vt _ _ _ h49) (by (try simp only [go_sem, h47, of_decide_eq_true h47, h48a, h48b, h48d, h48f.1, h48f.2, hl0a, hl0b, hl0d, hl0w]) <;> exact wkl) (by rfl) (by rfl) ?_
              simp only [go_sem, h47, of_decide_eq_true h47, h48a, h48b, h48d, h48f.1, h48f.2, hl0a, hl0b, hl0d, hl0w]
              (repeat refine sd ?_)
              refine hK _ _ fun nx => ?_; clear hK K; try clear kk
              by_cases h50 : (afJ) = true
              · rw [if_pos h50] at hh
                refine zm (by first | exact congrArg PV.bool h50 | rfl) ?_
                obtain ⟨h51, hh⟩ := zY hh
                refine zb fun K kk hK => ?_
                simp only [go_sem, h48a, h48b, h48d, h48f.1, h48f.2, h51, hl0a, hl0b, hl0d, hl0w]
                (repeat refine sd ?_)
                refine hK _ _ fun nx => ?_; clear hK K; try clear kk
                obtain ⟨aql, h52, hh⟩ := ze hh
                obtain ⟨h52a, h52c⟩ := Yl h52
                have h52d := acT (f := za.pv) h52c
                try simp only [Int.toNat_natCast, Int.reduceToNat, List.map_cons, List.map_nil, List.cons_append, List.nil_append, List.singleton_append, pvE] at h52d
                have h52e := adq h52c
                have h48b_h52 := h48b; rw [h52e] at h48b_h52
                have h48f1_h52 := h48f.1; rw [h52e] at h48f1_h52
                have h48a_h52 := h48a; try rw [h52e] at h48a_h52
                have h48d_h52 := h48d; try rw [h52e] at h48d_h52
                try rw [h52e] at h52d
                have h52bw := h52a.2; rw [h52e] at h52bw
                refine zq fun K kk hK => ?_
                simp only [go_sem, h48a, h48b, h48d, h48f.1, h48f.2, h52a.1, h52a.2, h52d, h52e, h48b_h52, h48f1_h52, h48a_h52, h48d_h52, h52bw, hl0a, hl0b, hl0d, hl0w]
                (repeat refine sd ?_)
                try simp only [go_sem, h48a, h48b, h48d, h48f.1, h48f.2, h52a.1, h52a.2, h52d, h52e, h48b_h52, h48f1_h52, h48a_h52, h48d_h52, h52bw, hl0a, hl0b, hl0d, hl0w]
                refine hK _ _ fun nx => ?_; clear hK K; try clear kk
                refine nmx ?_
                refine zq fun K kk hK => ?_
                simp only [go_sem, hl0a, hl0b, hl0d, hl0w]
                refine hK _ _ fun nx => ?_; clear hK K; try clear kk
                refine nmx ?_
                have ih' := ih (pre ++ [Ko]) (ZJ + 1) _ (by rw [hsplit]; simp) (by simp [hidx]) hh nx
                refine zH ?_
                first | exact ih' _ | (simp only [pvE, lsE, zn, h52e] at ih' ⊢; exact ih' _) | (simp only [pvE, lsE, zn, h52e, h43, h45, h46, h47, h50] at ih' ⊢; exact ih' _)
              · rw [if_neg h50] at hh
                replace h50 := Bool.eq_false_iff.mpr h50
                refine zh (by first | exact congrArg PV.bool h50 | rfl) ?_
                obtain ⟨apl, h53, hh⟩ := ze hh
                obtain ⟨h53a, h53c⟩ := zV h53
                have h53d := qE (f := za.pv) h53c
                have h53e := qH h53c
                try simp only [List.length_cons, List.length_nil, Nat.zero_add, Nat.reduceAdd] at h53a h53e
                try simp only [h53e] at h53a
                try simp only [List.map_cons, List.map_nil, List.nil_append, List.append_nil, List.cons_append, List.singleton_append, zn, pvE] at h53d
                refine zq fun K kk hK => ?_
                simp only [go_sem, h53a, h53d, h53e, hl0a, hl0b, hl0d, hl0w]
                (repeat refine sd ?_)
                refine hK _ _ fun nx => ?_; clear hK K; try clear kk
                refine nmx ?_
                refine zq fun K kk hK => ?_
                simp only [go_sem, hl0a, hl0b, hl0d, hl0w]
                refine hK _ _ fun nx => ?_; clear hK K; try clear kk
                refine nmx ?_
                have ih' := ih (pre ++ [Ko]) (ZJ + 1) _ (by rw [hsplit]; simp) (by simp [hidx]) hh nx
                refine zH ?_
                first | exact ih' _ | (simp only [pvE, lsE, zn, h53e] at ih' ⊢; exact ih' _) | (simp only [pvE, lsE, zn, h53e, h43, h45, h46, h47, h50] at ih' ⊢; exact ih' _)
            · rw [if_neg h47] at hh
              replace h47 := Bool.eq_false_iff.mpr h47
              refine zb fun K kk hK => ?_
              simp only [go_sem, h47, of_decide_eq_false h47, hl0a, hl0b, hl0d, hl0w]
              (repeat refine sd ?_)
              refine hK _ _ fun nx => ?_; clear hK K; try clear kk
              refine zh rfl ?_
              obtain ⟨apL, h54, hh⟩ := ze hh
              obtain ⟨h54a, h54c⟩ := zV h54
              have h54d := qE (f := za.pv) h54c
              have h54e := qH h54c
              try simp only [List.length_cons, List.length_nil, Nat.zero_add, Nat.reduceAdd] at h54a h54e
              try simp only [h54e] at h54a
              try simp only [List.map_cons, List.map_nil, List.nil_append, List.append_nil, List.cons_append, List.singleton_append, zn, pvE] at h54d
              refine zq fun K kk hK => ?_
              simp only [go_sem, h54a, h54d, h54e, hl0a, hl0b, hl0d, hl0w]
              (repeat refine sd ?_)
              refine hK _ _ fun nx => ?_; clear hK K; try clear kk
              refine nmx ?_
              refine zq fun K kk hK => ?_
              simp only [go_sem, hl0a, hl0b, hl0d, hl0w]
              refine hK _ _ fun nx => ?_; clear hK K; try clear kk
              refine nmx ?_
              have ih' := ih (pre ++ [Ko]) (ZJ + 1) _ (by rw [hsplit]; simp) (by simp [hidx]) hh nx
              refine zH ?_
              first | exact ih' _ | (simp only [pvE, lsE, zn, h54e] at ih' ⊢; exact ih' _) | (simp only [pvE, lsE, zn, h54e, h43, h45, h46, h47] at ih' ⊢; exact ih' _)
        · rw [if_neg h45] at hh
          replace h45 := Bool.eq_false_iff.mpr h45
          refine zb fun K kk hK => ?_
          simp only [go_sem, h45, hl0a, hl0b, hl0d, hl0w]
          (repeat refine sd ?_)
          refine zf (wH _ _ h44) (by (try simp only [go_sem, h45, hl0a, hl0b, hl0d, hl0w]) <;> exact wkl) (by rfl) (by rfl) ?_
          simp only [go_sem, h45, hl0a, hl0b, hl0d, hl0w]
          (repeat refine sd ?_)
          refine hK _ _ fun nx => ?_; clear hK K; try clear kk
          refine zh rfl ?_
          by_cases h55 : (decide ((w64 ((vM.length : Int) - (1 : Int))) ≥ (0 : Int))) = true
          · rw [if_pos h55] at hh
            obtain ⟨aqP, h56, hh⟩ := ze hh
            obtain ⟨h56a, h56b, h56c⟩ := rd_some h56
            have h56d := vz (f := za.pv) h56c
            have h56f := wY (f := za.pv) h56c
            try simp only [Int.toNat_natCast, Int.reduceToNat] at h56d h56f
            obtain ⟨af1, h57, hh⟩ := ze hh
            refine zb fun K kk hK => ?_
            simp only [go_sem, h55, of_decide_eq_true h55, h56a, h56b, h56d, h56f.1, h56f.2, hl0a, hl0b, hl0d, hl0w]
            (repeat refine sd ?_)
            refine zf (Vt _ _ _ h57) (by (try simp only [go_sem, h55, of_decide_eq_true h55, h56a, h56b, h56d, h56f.1, h56f.2, hl0a, hl0b, hl0d, hl0w]) <;> exact wkl) (by rfl) (by rfl) ?_
            simp only [go_sem, h55, of_decide_eq_true h55, h56a, h56b, h56d, h56f.1, h56f.2, hl0a, hl0b, hl0d, hl0w]
            (repeat refine sd ?_)
            refine hK _ _ fun nx => ?_; clear hK K; try clear kk
            by_cases h58 : (af1) = true
            · rw [if_pos h58] at hh
              refine zm (by first | exact congrArg PV.bool h58 | rfl) ?_
              obtain ⟨h59, hh⟩ := zY hh
              refine zb fun K kk hK => ?_
              simp only [go_sem, h56a, h56b, h56d, h56f.1, h56f.2, h59, hl0a, hl0b, hl0d, hl0w]
              (repeat refine sd ?_)
              refine hK _ _ fun nx => ?_; clear hK K; try clear kk
              obtain ⟨atl, h60, hh⟩ := ze hh
              obtain ⟨h60a, h60c⟩ := Yl h60
              have h60d := acT (f := za.pv) h60c
              try simp only [Int.toNat_natCast, Int.reduceToNat, List.map_cons, List.map_nil, List.cons_append, List.nil_append, List.singleton_append, pvE] at h60d
              have h60e := adq h60c
              have h56b_h60 := h56b; rw [h60e] at h56b_h60
              have h56f1_h60 := h56f.1; rw [h60e] at h56f1_h60
              have h56a_h60 := h56a; try rw [h60e] at h56a_h60
              have h56d_h60 := h56d; try rw [h60e] at h56d_h60
              try rw [h60e] at h60d
              have h60bw := h60a.2; rw [h60e] at h60bw
              refine zq fun K kk hK => ?_
              simp only [go_sem, h56a, h56b, h56d, h56f.1, h56f.2, h60a.1, h60a.2, h60d, h60e, h56b_h60, h56f1_h60, h56a_h60, h56d_h60, h60bw, hl0a, hl0b, hl0d, hl0w]
              (repeat refine sd ?_)
              try simp only [go_sem, h56a, h56b, h56d, h56f.1, h56f.2, h60a.1, h60a.2, h60d, h60e, h56b_h60, h56f1_h60, h56a_h60, h56d_h60, h60bw, hl0a, hl0b, hl0d, hl0w]
              refine hK _ _ fun nx => ?_; clear hK K; try clear kk
              refine nmx ?_
              refine zq fun K kk hK => ?_
              simp only [go_sem, hl0a, hl0b, hl0d, hl0w]
              refine hK _ _ fun nx => ?_; clear hK K; try clear kk
              refine nmx ?_
              have ih' := ih (pre ++ [Ko]) (ZJ + 1) _ (by rw [hsplit]; simp) (by simp [hidx]) hh nx
              refine zH ?_
              first | exact ih' _ | (simp only [pvE, lsE, zn, h60e] at ih' ⊢; exact ih' _) | (simp only [pvE, lsE, zn, h60e, h43, h45, h55, h58] at ih' ⊢; exact ih' _)
            · rw [if_neg h58] at hh
              replace h58 := Bool.eq_false_iff.mpr h58
              refine zh (by first | exact congrArg PV.bool h58 | rfl) ?_
              obtain ⟨aty, h61, hh⟩ := ze hh
              obtain ⟨h61a, h61c⟩ := zV h61
              have h61d := qE (f := za.pv) h61c
              have h61e := qH h61c
              try simp only [List.length_cons, List.length_nil, Nat.zero_add, Nat.reduceAdd] at h61a h61e
              try simp only [h61e] at h61a
              try simp only [List.map_cons, List.map_nil, List.nil_append, List.append_nil, List.cons_append, List.singleton_append, zn, pvE] at h61d
              refine zq fun K kk hK => ?_
              simp only [go_sem, h61a, h61d, h61e, hl0a, hl0b, hl0d, hl0w]
              (repeat refine sd ?_)
              refine hK _ _ fun nx => ?_; clear hK K; try clear kk
              refine nmx ?_
              refine zq fun K kk hK => ?_
              simp only [go_sem, hl0a, hl0b, hl0d, hl0w]
              refine hK _ _ fun nx => ?_; clear hK K; try clear kk
              refine nmx ?_
              have ih' := ih (pre ++ [Ko]) (ZJ + 1) _ (by rw [hsplit]; simp) (by simp [hidx]) hh nx
              refine zH ?_
              first | exact ih' _ | (simp only [pvE, lsE, zn, h61e] at ih' ⊢; exact ih' _) | (simp only [pvE, lsE, zn, h61e, h43, h45, h55, h58] at ih' ⊢; exact ih' _)
          · rw [if_neg h55] at hh
            replace h55 := Bool.eq_false_iff.mpr h55
            refine zb fun K kk hK => ?_
            simp only [go_sem, h55, of_decide_eq_false h55, hl0a, hl0b, hl0d, hl0w]
            (repeat refine sd ?_)
            refine hK _ _ fun nx => ?_; clear hK K; try clear kk
            refine zh rfl ?_
            obtain ⟨atT, h62, hh⟩ := ze hh
            obtain ⟨h62a, h62c⟩ := zV h62
            have h62d := qE (f := za.pv) h62c
            have h62e := qH h62c
            try simp only [List.length_cons, List.length_nil, Nat.zero_add, Nat.reduceAdd] at h62a h62e
            try simp only [h62e] at h62a
            try simp only [List.map_cons, List.map_nil, List.nil_append, List.append_nil, List.cons_append, List.singleton_append, zn, pvE] at h62d
            refine zq fun K kk hK => ?_
            simp only [go_sem, h62a, h62d, h62e, hl0a, hl0b, hl0d, hl0w]
            (repeat refine sd ?_)
            refine hK _ _ fun nx => ?_; clear hK K; try clear kk
            refine nmx ?_
            refine zq fun K kk hK => ?_
            simp only [go_sem, hl0a, hl0b, hl0d, hl0w]
            refine hK _ _ fun nx => ?_; clear hK K; try clear kk
            refine nmx ?_
            have ih' := ih (pre ++ [Ko]) (ZJ + 1) _ (by rw [hsplit]; simp) (by simp [hidx]) hh nx
            refine zH ?_
            first | exact ih' _ | (simp only [pvE, lsE, zn, h62e] at ih' ⊢; exact ih' _) | (simp only [pvE, lsE, zn, h62e, h43, h45, h55] at ih' ⊢; exact ih' _)
    exact key l_1 [] _ _ rfl rfl f0 _ _
  · rintro s ⟨t, hless, acM, rfl, atm, apE, nx, g3, rfl⟩
    try dsimp only at hh
    refine nmy ?_
    first | (refine wu hless ?_; try refine ko ?_) | refine qG hless ?_ | refine qI hless ?_
    refine zb fun K kk hK => ?_
    simp only [go_sem]
    refine hK _ _ fun nx => ?_; clear hK K; try clear kk
    refine zi ?_; refine nmx ?_
    obtain hR := Option.some.inj hh
    subst hR
    exact Yf (by rfl) (by rfl) (by rfl) (by simp only [List.length_map, List.length_cons, List.length_nil, Nat.zero_add, Nat.reduceAdd]) (by first | rfl | (simp only [pvE, lsE, zn]; done) | (simp only [pvE, lsE, zn]; rfl))
  · intro i s h; exact h.elim
  · intro s h; exact h.elim
theorem V5 : ∀ kr : Nat, (∀ (l_1 : (List za)) (zL : Int) (vv : Int) (zz : Int) (jg : Int) (wV : (List za)) (vw : Str) (wW : Str) (l_9 : (List zo)) (R : ((List za) × Int × Int × Int × (List za) × Str × Str × (List zo))), qo kr l_1 zL vv zz jg wV vw wW l_9 = some R → BC Tryd.prog 79 [.box 1000 0 0, .list 5 (l_1.map za.pv), .int .i64 zL] [.var 136 [.int .u8 vv, .int .i64 zz, .int .i64 jg, .list 5 (wV.map za.pv), .str vw, .str wW, .row 1001 0 l_9.length], .row false 3 (l_9.map zo.pv)] (.list 5 (R.1.map za.pv)) [.var 136 [.int .u8 R.2.1, .int .i64 R.2.2.1, .int .i64 R.2.2.2.1, .list 5 (R.2.2.2.2.1.map za.pv), .str R.2.2.2.2.2.1, .str R.2.2.2.2.2.2.1, .row 1001 0 R.2.2.2.2.2.2.2.length], .moved 3 (R.2.2.2.2.2.2.2.map zo.pv)]) := by
  intro kr
  induction kr with
  | zero => exact (by intro l_1 zL vv zz jg wV vw wW l_9 R hh; rw [qo] at hh; cases hh)
  | succ kr ih =>
    have ih_step_painter_kids_x := ih
    clear ih
    intro l_1 zL vv zz jg wV vw wW l_9 R hh
    rw [qo] at hh
    refine KT rfl rfl rfl ?_
    refine zb fun K kk hK => ?_
    simp only [go_sem]
    refine hK _ _ fun nx => ?_; clear hK K; try clear kk
    refine zb fun K kk hK => ?_
    simp only [go_sem]
    refine hK _ _ fun nx => ?_; clear hK K; try clear kk
    refine zk ?_
    refine zb fun K kk hK => ?_
    simp only [go_sem]
    refine hK _ _ fun nx => ?_; clear hK K; try clear kk
    obtain ⟨e0, f0, hh⟩ := ze hh
    obtain ⟨hlen0, f0⟩ := zY f0
    refine qz (wZ (fun s => ∃ adt, ∃ apH, ∃ ap9, ∃ apn, ∃ apx, ∃ apP, ∃ aoQ, ∃ aog, (adt, apH, ap9, apn, apx, apP, aoQ, aog) = e0 ∧ ∃ (arM : Int) (atV : Int) (atG : Bool) (nx : Nat) (g7 : Nat) (g1001 : Nat), s = ⟨[(0, .box 1000 0 0), (2, .int .i64 arM), (7, .row 7 g7 adt.length), (11, .list 5 (l_1.map za.pv)), (12, .int .i64 (l_1.length : Int)), (13, .int .i64 atV), (14, .bool atG)], [(7, g7, .row false 5 (adt.map za.pv)), (1000, 0, .var 136 [.int .u8 apH, .int .i64 ap9, .int .i64 apn, .list 5 (apx.map za.pv), .str apP, .str aoQ, .row 1001 g1001 aog.length]), (1001, g1001, .row false 3 (aog.map zo.pv))], nx⟩))
      (fun i s => False)
      (fun s => False) ?_ ?_ ?_ ?_
    · refine zC ?_
      refine qp fun I hI => ?_
      have key : ∀ (suf pre : List za) (aeL : Int) (Y7 : Int) (Vw : (List za)) (ai0 : Int) (aiR : Int) (aik : Int) (ajg : (List za)) (aim : Str) (aiV : Str) (XP : (List zo)), l_1 = pre ++ suf → aeL = (pre.length : Int) → zX (qo kr) suf aeL Y7 Vw ai0 aiR aik ajg aim aiV XP = some e0 → ∀ (nx : Nat) (g7 : Nat) (g1001 : Nat), I ⟨[(0, .box 1000 0 0), (2, .int .i64 Y7), (7, .row 7 g7 Vw.length), (11, .list 5 (l_1.map za.pv)), (12, .int .i64 (l_1.length : Int)), (13, .int .i64 aeL)], [(7, g7, .row false 5 (Vw.map za.pv)), (1000, 0, .var 136 [.int .u8 ai0, .int .i64 aiR, .int .i64 aik, .list 5 (ajg.map za.pv), .str aim, .str aiV, .row 1001 g1001 XP.length]), (1001, g1001, .row false 3 (XP.map zo.pv))], nx⟩ := by
        intro suf
        induction suf with
        | nil =>
          intro pre aeL Y7 Vw ai0 aiR aik ajg aim aiV XP hsplit hidx hh nx g7 g1001
          rw [zX] at hh
          refine hI _ ?_
          have h17 := walk_nil hsplit hidx
          refine zb fun K kk hK => ?_
          simp only [go_sem]
          refine hK _ _ fun nx => ?_; clear hK K; try clear kk
          refine zk ?_
          refine zh (by first | exact congrArg PV.bool h17 | rfl) ?_
          refine qa ?_; refine nmx ?_
          refine kF ?_
          refine zH ?_
          refine ⟨_, _, _, _, _, _, _, _, (Option.some.inj hh), ?_⟩
          first | exact ⟨_, _, _, _, _, _, rfl⟩ | (simp only [pvE, lsE, zn]; exact ⟨_, _, _, _, _, _, rfl⟩) | (simp only [pvE, lsE, zn, h17]; exact ⟨_, _, _, _, _, _, rfl⟩)
        | cons aif suf ih =>
          intro pre aeL Y7 Vw ai0 aiR aik ajg aim aiV XP hsplit hidx hh nx g7 g1001
          rw [zX] at hh
          refine hI _ ?_
          obtain ⟨hl0a, hl0b, hl0d, hl0w, h17⟩ := qF (f := za.pv) hsplit hidx hlen0
          refine zb fun K kk hK => ?_
          simp only [go_sem]
          refine hK _ _ fun nx => ?_; clear hK K; try clear kk
          refine zk ?_
          refine zm (by first | exact congrArg PV.bool h17 | rfl) ?_
          refine zx ?_; refine nmx ?_
          refine zk ?_
          refine zC ?_
          refine zb fun K kk hK => ?_
          simp only [go_sem, hl0a, hl0b, hl0d, hl0w]
          refine hK _ _ fun nx => ?_; clear hK K; try clear kk
          obtain ⟨ai8, h18, hh⟩ := ze hh
          refine zb fun K kk hK => ?_
          simp only [go_sem, hl0a, hl0b, hl0d, hl0w]
          refine zf (ZW _ _ h18) (by (try simp only [go_sem, hl0a, hl0b, hl0d, hl0w]) <;> exact wkl) (by rfl) (by rfl) ?_
          simp only [go_sem, hl0a, hl0b, hl0d, hl0w]
          refine hK _ _ fun nx => ?_; clear hK K; try clear kk
          refine zk ?_
          refine zb fun K kk hK => ?_
          simp only [go_sem, hl0a, hl0b, hl0d, hl0w]
          refine hK _ _ fun nx => ?_; clear hK K; try clear kk
          by_cases h19 : (aif.Kind == ([116, 101, 120, 116] : Str)) = true
          · rw [if_pos h19] at hh
            refine zm (by first | exact congrArg PV.bool h19 | rfl) ?_
            obtain ⟨⟨atN, am5, amZ, arK, akb, amn, akT, alo⟩, h20, hh⟩ := ze hh
            dsimp only at hh
            obtain ⟨as3, h21, hh⟩ := ze hh
            obtain ⟨h21a, h21c⟩ := zV h21
            have h21d := qE (f := za.pv) h21c
            have h21e := qH h21c
            try simp only [List.length_cons, List.length_nil, Nat.zero_add, Nat.reduceAdd] at h21a h21e
            try simp only [h21e] at h21a
            try simp only [List.map_cons, List.map_nil, List.nil_append, List.append_nil, List.cons_append, List.singleton_append, zn, pvE] at h21d
            refine zq fun K kk hK => ?_
            simp only [go_sem, h21a, h21d, h21e, hl0a, hl0b, hl0d, hl0w]
            (repeat refine sd ?_)
            refine jb [1000, 1001] (by decide) (Jk _ _ _ _ _ _ _ _ _ _ h20) (by (try simp only [go_sem, h21a, h21d, h21e, hl0a, hl0b, hl0d, hl0w, h17, h19]) <;> exact wkb) (by rfl) ?_
            simp only [go_sem, h21a, h21d, h21e, hl0a, hl0b, hl0d, hl0w]
            (repeat refine sd ?_)
            refine hK _ _ fun nx => ?_; clear hK K; try clear kk
            refine nmx ?_
            refine zq fun K kk hK => ?_
            simp only [go_sem, hl0a, hl0b, hl0d, hl0w]
            refine hK _ _ fun nx => ?_; clear hK K; try clear kk
            refine nmx ?_
            refine zq fun K kk hK => ?_
            simp only [go_sem, hl0a, hl0b, hl0d, hl0w]
            refine hK _ _ fun nx => ?_; clear hK K; try clear kk
            refine nmx ?_
            have ih' := ih (pre ++ [aif]) (aeL + 1) _ _ _ _ _ _ _ _ _ (by rw [hsplit]; simp) (by simp [hidx]) hh nx
            refine zH ?_
            first | exact ih' _ _ | (simp only [pvE, lsE, zn, h21e] at ih' ⊢; exact ih' _ _) | (simp only [pvE, lsE, zn, h21e, h17, h19] at ih' ⊢; exact ih' _ _)
          · rw [if_neg h19] at hh
            replace h19 := Bool.eq_false_iff.mpr h19
            refine zh (by first | exact congrArg PV.bool h19 | rfl) ?_
            obtain ⟨⟨as5, amQ, amm, arL, akP, amP, akI, atP⟩, h22, hh⟩ := ze hh
            dsimp only at hh
            refine zb fun K kk hK => ?_
            simp only [go_sem, hl0a, hl0b, hl0d, hl0w]
            refine jb [1000, 1001] (by decide) (ih_step_painter_kids_x _ _ _ _ _ _ _ _ _ _ h22) (by (try simp only [go_sem, hl0a, hl0b, hl0d, hl0w, h17, h19]) <;> exact wkb) (by rfl) ?_
            simp only [go_sem, hl0a, hl0b, hl0d, hl0w]
            refine hK _ _ fun nx => ?_; clear hK K; try clear kk
            obtain ⟨alV, h23, hh⟩ := ze hh
            obtain ⟨h23a, h23c⟩ := zV h23
            have h23d := qE (f := za.pv) h23c
            have h23e := qH h23c
            try simp only [List.length_cons, List.length_nil, Nat.zero_add, Nat.reduceAdd] at h23a h23e
            try simp only [h23e] at h23a
            try simp only [List.map_cons, List.map_nil, List.nil_append, List.append_nil, List.cons_append, List.singleton_append, zn, pvE] at h23d
            refine zq fun K kk hK => ?_
            simp only [go_sem, h23a, h23d, h23e, hl0a, hl0b, hl0d, hl0w]
            (repeat refine sd ?_)
            refine hK _ _ fun nx => ?_; clear hK K; try clear kk
            refine nmx ?_
            refine zq fun K kk hK => ?_
            simp only [go_sem, hl0a, hl0b, hl0d, hl0w]
            refine hK _ _ fun nx => ?_; clear hK K; try clear kk
            refine nmx ?_
            refine zq fun K kk hK => ?_
            simp only [go_sem, hl0a, hl0b, hl0d, hl0w]
            refine hK _ _ fun nx => ?_; clear hK K; try clear kk
            refine nmx ?_
            have ih' := ih (pre ++ [aif]) (aeL + 1) _ _ _ _ _ _ _ _ _ (by rw [hsplit]; simp) (by simp [hidx]) hh nx
            refine zH ?_
            first | exact ih' _ _ | (simp only [pvE, lsE, zn, h23e] at ih' ⊢; exact ih' _ _) | (simp only [pvE, lsE, zn, h23e, h17, h19] at ih' ⊢; exact ih' _ _)
      exact key l_1 [] _ _ _ _ _ _ _ _ _ _ rfl rfl f0 _ _ _
    · rintro s ⟨t, hless, adt, apH, ap9, apn, apx, apP, aoQ, aog, rfl, arM, atV, atG, nx, g7, g1001, rfl⟩
      try dsimp only at hh
      refine nmy ?_
      first | (refine wu hless ?_; try refine ko ?_) | refine qG hless ?_ | refine qI hless ?_
      obtain ⟨amU, h24, hh⟩ := ze hh
      refine zb fun K kk hK => ?_
      simp only [go_sem]
      refine zf (Jh _ _ h24).list (by (try simp only [go_sem]) <;> exact wkl) (by rfl) (by rfl) ?_
      simp only [go_sem]
      refine hK _ _ fun nx => ?_; clear hK K; try clear kk
      refine zi ?_; refine nmx ?_
      obtain hR := Option.some.inj hh
      subst hR
      refine kH ?_ (by rfl) ?_
      · simp only [go_sem, wo, jo, wX, kS, yC, List.map_cons, List.map_append, List.head?_cons]
        all_goals exact wkw
      · (try simp only [go_sem]); (try simp only [List.length_append, List.map_append]); all_goals exact wkb
    · intro i s h; exact h.elim
    · intro s h; exact h.elim
theorem JC (l_1 : (List za)) (zL : Int) (vv : Int) (zz : Int) (jg : Int) (wV : (List za)) (vw : Str) (wW : Str) (l_9 : (List zo)) (R : ((List za) × Int × Int × Int × (List za) × Str × Str × (List zo))) (hh : vO l_1 zL vv zz jg wV vw wW l_9 = some R) : BC Tryd.prog 79 [.box 1000 0 0, .list 5 (l_1.map za.pv), .int .i64 zL] [.var 136 [.int .u8 vv, .int .i64 zz, .int .i64 jg, .list 5 (wV.map za.pv), .str vw, .str wW, .row 1001 0 l_9.length], .row false 3 (l_9.map zo.pv)] (.list 5 (R.1.map za.pv)) [.var 136 [.int .u8 R.2.1, .int .i64 R.2.2.1, .int .i64 R.2.2.2.1, .list 5 (R.2.2.2.2.1.map za.pv), .str R.2.2.2.2.2.1, .str R.2.2.2.2.2.2.1, .row 1001 0 R.2.2.2.2.2.2.2.length], .moved 3 (R.2.2.2.2.2.2.2.map zo.pv)] := by
 rw [vO] at hh
 obtain ⟨kr, hh⟩ := xQ hh
 exact (V5 kr) _ _ _ _ _ _ _ _ _ _ hh
theorem agL (n_1 : za) (s_2 : zD) (R : (za × (List zo) × Int)) (hh : Zh n_1 s_2 = some R) : PC Tryd.prog 47 [.agg [.str n_1.Kind, .str n_1.Text, .list 1 (n_1.Marks.map PV.str), .list 2 (n_1.zu.map zg.pv), .list 5 (n_1.Kids.map za.pv)], .agg [.int .u8 s_2.Kind, .int .i64 s_2.From, .int .i64 s_2.To, .list 5 (s_2.wM.map za.pv), .str s_2.Name, .str s_2.Value]] (.tup [.agg [.str R.1.Kind, .str R.1.Text, .list 1 (R.1.Marks.map PV.str), .list 2 (R.1.zu.map zg.pv), .list 5 (R.1.Kids.map za.pv)], .list 3 (R.2.1.map zo.pv), .int .i64 R.2.2]) := by
  rw [Zh] at hh
  refine acI rfl ?_
  refine zb fun K kk hK => ?_
  simp only [go_sem]
  refine hK _ _ fun nx => ?_; clear hK K; try clear kk
  refine zk ?_
  obtain ⟨Qj, h1, hh⟩ := ze hh
  refine zb fun K kk hK => ?_
  simp only [go_sem]
  refine zf (xx _ _ h1) (by (try simp only [go_sem]) <;> exact wkl) (by rfl) (by rfl) ?_
  simp only [go_sem]
  refine hK _ _ fun nx => ?_; clear hK K; try clear kk
  by_cases h2 : (decide (s_2.To > Qj)) = true
  · rw [if_pos h2] at hh
    refine zm (by first | exact congrArg PV.bool h2 | rfl) ?_
    refine zb fun K kk hK => ?_
    simp only [go_sem]
    refine hK _ _ fun nx => ?_; clear hK K; try clear kk
    refine zi ?_; refine nmx ?_
    obtain hR := Option.some.inj hh
    subst hR
    exact zy
  · rw [if_neg h2] at hh
    replace h2 := Bool.eq_false_iff.mpr h2
    refine zh (by first | exact congrArg PV.bool h2 | rfl) ?_
    refine zx ?_; refine nmx ?_
    refine zb fun K kk hK => ?_
    simp only [go_sem]
    refine hK _ _ fun nx => ?_; clear hK K; try clear kk
    obtain ⟨⟨r_4, asl, ar0, auh, arb, asw, apG, aoS⟩, h3, hh⟩ := ze hh
    dsimp only at hh
    refine zb fun K kk hK => ?_
    simp only [go_sem]
    refine jb [17, 425] (by decide) (JC _ _ _ _ _ _ _ _ _ _ h3) (by (try simp only [go_sem, h2]) <;> exact wkb) (by rfl) ?_
    simp only [go_sem]
    refine hK _ _ fun nx => ?_; clear hK K; try clear kk
    refine zb fun K kk hK => ?_
    simp only [go_sem]
    refine hK _ _ fun nx => ?_; clear hK K; try clear kk
    refine zi ?_; refine nmx ?_
    obtain hR := Option.some.inj hh
    subst hR
    exact zy
end Go.Proofs.YtclohbgnaopjfaaDoor
