/- Texts of the proof of stepTokensCard -/
import Derived.Test.YtclohbgnaopjfaaGreatDoorAgC
import Derived.Test.YtclohbgnaopjfaaGreatDoorAgF
import Derived.Test.YtclohbgnaopjfaaGreatDoorAgK0
import Derived.Test.YtclohbgnaopjfaaGreatDoorAgK1
import Derived.Test.YtclohbgnaopjfaaGreatDoorAgL
import Derived.Test.YtclohbgnaopjfaaGreatDoorAgSl
namespace Go.Proofs.YtclohbgnaopjfaaGreatDoor
set_option linter.unusedSimpArgs false
set_option linter.unusedVariables false
open Go
set_option maxRecDepth 100000
theorem J8 (l_1 : (List za)) (R : (List za)) (hh : Q0 l_1 = some R) : PC Tryz.prog 70 [.list 5 (l_1.map za.pv)] (.own 5 (R.map za.pv)) := by
 rw [Q0] at hh
 refine afA rfl ?_
 refine zb fun K kk hK => ?_
 simp only [go_sem]
 refine hK _ _ fun nx => ?_; clear hK K; try clear kk
 refine zb fun K kk hK => ?_
 simp only [go_sem]
 refine hK _ _ fun nx => ?_; clear hK K; try clear kk
 refine zm ?_
 refine zb fun K kk hK => ?_
 simp only [go_sem]
 refine hK _ _ fun nx => ?_; clear hK K; try clear kk
 obtain ⟨e0, f0, hh⟩ := ze hh
 obtain ⟨hlen0, f0⟩ := zR f0
 refine qz (w9 (fun s => ∃ aeu, aeu = e0 ∧ ∃ (arJ : Int) (ami : Bool) (nx : Nat) (g3 : Nat), s = ⟨[(3, .row 3 g3 aeu.length), (7, .list 5 (l_1.map za.pv)), (8, .int .i64 (l_1.length : Int)), (9, .int .i64 arJ), (10, .bool ami)], [(3, g3, .row false 5 (aeu.map za.pv))], nx⟩))
  (fun i s => False)
  (fun s => False) ?_ ?_ ?_ ?_
 ·refine zC ?_
  refine qi fun I hI => ?_
  have key : ∀ (suf pre : List za) (QD : Int) (vR : (List za)), l_1 = pre ++ suf → QD = (pre.length : Int) → wV suf QD vR = some e0 → ∀ (nx : Nat) (g3 : Nat), I ⟨[(3, .row 3 g3 vR.length), (7, .list 5 (l_1.map za.pv)), (8, .int .i64 (l_1.length : Int)), (9, .int .i64 QD)], [(3, g3, .row false 5 (vR.map za.pv))], nx⟩ := by
   intro suf
   induction suf with
   | nil =>
    intro pre QD vR hsplit hidx hh nx g3
    rw [wV] at hh
    refine hI _ ?_
    have h43 := walk_nil hsplit hidx
    refine zb fun K kk hK => ?_
    simp only [go_sem]
    refine hK _ _ fun nx => ?_; clear hK K; try clear kk
    refine zm ?_
    refine zh (by first | exact congrArg PV.bool h43 | rfl) ?_
    refine zV ?_; refine nmx ?_
    refine wU ?_
    refine zH ?_
    refine ⟨_, (Option.some.inj hh), ?_⟩
    first | exact ⟨_, _, _, _, rfl⟩ | (simp only [pvE, lsE, zo]; exact ⟨_, _, _, _, rfl⟩) | (simp only [pvE, lsE, zo, h43]; exact ⟨_, _, _, _, rfl⟩)
   | cons K5 suf ih =>
    intro pre QD vR hsplit hidx hh nx g3
    rw [wV] at hh
    refine hI _ ?_
    obtain ⟨hl0a, hl0b, hl0d, hl0w, h43⟩ := qV (f := za.pv) hsplit hidx hlen0
    refine zb fun K kk hK => ?_
    simp only [go_sem]
    refine hK _ _ fun nx => ?_; clear hK K; try clear kk
    refine zm ?_
    refine zk (by first | exact congrArg PV.bool h43 | rfl) ?_
    refine zy ?_; refine nmx ?_
    refine zm ?_
    refine zC ?_
    refine zb fun K kk hK => ?_
    simp only [go_sem, hl0a, hl0b, hl0d, hl0w]
    refine hK _ _ fun nx => ?_; clear hK K; try clear kk
    refine zb fun K kk hK => ?_
    simp only [go_sem, hl0a, hl0b, hl0d, hl0w]
    refine hK _ _ fun nx => ?_; clear hK K; try clear kk
    refine zC ?_
    obtain ⟨adX, h44, hh⟩ := ze hh
    by_cases h45 : (adX) = true
    ·rw [if_pos h45] at hh
     refine zb fun K kk hK => ?_
     simp only [go_sem, h45, hl0a, hl0b, hl0d, hl0w]
     (repeat refine sd ?_)
     refine zg (kG _ _ h44) (by (try simp only [go_sem, h45, hl0a, hl0b, hl0d, hl0w]) <;> exact wkl) (by rfl) (by rfl) ?_
     simp only [go_sem, h45, hl0a, hl0b, hl0d, hl0w]
     (repeat refine sd ?_)
     refine hK _ _ fun nx => ?_; clear hK K; try clear kk
     by_cases h46 : (K5.Text == ([] : Str)) = true
     ·rw [if_pos h46] at hh
      refine zk (by first | exact congrArg PV.bool h46 | rfl) ?_
      refine zy ?_; refine nmx ?_
      refine zt fun K kk hK => ?_
      simp only [go_sem, hl0a, hl0b, hl0d, hl0w]
      refine hK _ _ fun nx => ?_; clear hK K; try clear kk
      refine nmx ?_
      have ih' := ih (pre ++ [K5]) (QD + 1) _ (by rw [hsplit]; simp) (by simp [hidx]) hh nx
      refine zH ?_
      first | exact ih' _ | (simp only [pvE, lsE, zo] at ih' ⊢; exact ih' _) | (simp only [pvE, lsE, zo, h43, h45, h46] at ih' ⊢; exact ih' _)
     ·rw [if_neg h46] at hh
      replace h46 := Bool.eq_false_iff.mpr h46
      refine zh (by first | exact congrArg PV.bool h46 | rfl) ?_
      by_cases h47 : (decide ((w64 ((vR.length : Int) - (1 : Int))) ≥ (0 : Int))) = true
      ·rw [if_pos h47] at hh
       obtain ⟨atz, h48, hh⟩ := ze hh
       obtain ⟨h48a, h48b, h48c⟩ := rd_some h48
       have h48d := kR (f := za.pv) h48c
       have h48f := wL (f := za.pv) h48c
       try simp only [Int.toNat_natCast, Int.reduceToNat] at h48d h48f
       obtain ⟨ah2, h49, hh⟩ := ze hh
       refine zb fun K kk hK => ?_
       simp only [go_sem, h47, of_decide_eq_true h47, h48a, h48b, h48d, h48f.1, h48f.2, hl0a, hl0b, hl0d, hl0w]
       (repeat refine sd ?_)
       refine zg (V5 _ _ _ h49) (by (try simp only [go_sem, h47, of_decide_eq_true h47, h48a, h48b, h48d, h48f.1, h48f.2, hl0a, hl0b, hl0d, hl0w]) <;> exact wkl) (by rfl) (by rfl) ?_
       simp only [go_sem, h47, of_decide_eq_true h47, h48a, h48b, h48d, h48f.1, h48f.2, hl0a, hl0b, hl0d, hl0w]
       (repeat refine sd ?_)
       refine hK _ _ fun nx => ?_; clear hK K; try clear kk
       by_cases h50 : (ah2) = true
       ·rw [if_pos h50] at hh
        refine zk (by first | exact congrArg PV.bool h50 | rfl) ?_
        obtain ⟨h51, hh⟩ := zR hh
        refine zb fun K kk hK => ?_
        simp only [go_sem, h48a, h48b, h48d, h48f.1, h48f.2, h51, hl0a, hl0b, hl0d, hl0w]
        (repeat refine sd ?_)
        refine hK _ _ fun nx => ?_; clear hK K; try clear kk
        obtain ⟨asz, h52, hh⟩ := ze hh
        obtain ⟨h52a, h52c⟩ := aad h52
        have h52d := ad2 (f := za.pv) h52c
        try simp only [Int.toNat_natCast, Int.reduceToNat, List.map_cons, List.map_nil, List.cons_append, List.nil_append, List.singleton_append, pvE] at h52d
        have h52e := adM h52c
        have h48b_h52 := h48b; rw [h52e] at h48b_h52
        have h48f1_h52 := h48f.1; rw [h52e] at h48f1_h52
        have h48a_h52 := h48a; try rw [h52e] at h48a_h52
        have h48d_h52 := h48d; try rw [h52e] at h48d_h52
        try rw [h52e] at h52d
        have h52bw := h52a.2; rw [h52e] at h52bw
        refine zt fun K kk hK => ?_
        simp only [go_sem, h48a, h48b, h48d, h48f.1, h48f.2, h52a.1, h52a.2, h52d, h52e, h48b_h52, h48f1_h52, h48a_h52, h48d_h52, h52bw, hl0a, hl0b, hl0d, hl0w]
        (repeat refine sd ?_)
        try simp only [go_sem, h48a, h48b, h48d, h48f.1, h48f.2, h52a.1, h52a.2, h52d, h52e, h48b_h52, h48f1_h52, h48a_h52, h48d_h52, h52bw, hl0a, hl0b, hl0d, hl0w]
        refine hK _ _ fun nx => ?_; clear hK K; try clear kk
        refine nmx ?_
        refine zt fun K kk hK => ?_
        simp only [go_sem, hl0a, hl0b, hl0d, hl0w]
        refine hK _ _ fun nx => ?_; clear hK K; try clear kk
        refine nmx ?_
        have ih' := ih (pre ++ [K5]) (QD + 1) _ (by rw [hsplit]; simp) (by simp [hidx]) hh nx
        refine zH ?_
        first | exact ih' _ | (simp only [pvE, lsE, zo, h52e] at ih' ⊢; exact ih' _) | (simp only [pvE, lsE, zo, h52e, h43, h45, h46, h47, h50] at ih' ⊢; exact ih' _)
       ·rw [if_neg h50] at hh
        replace h50 := Bool.eq_false_iff.mpr h50
        refine zh (by first | exact congrArg PV.bool h50 | rfl) ?_
        obtain ⟨arO, h53, hh⟩ := ze hh
        obtain ⟨h53a, h53c⟩ := zX h53
        have h53d := qF (f := za.pv) h53c
        have h53e := qE h53c
        try simp only [List.length_cons, List.length_nil, Nat.zero_add, Nat.reduceAdd] at h53a h53e
        try simp only [h53e] at h53a
        try simp only [List.map_cons, List.map_nil, List.nil_append, List.append_nil, List.cons_append, List.singleton_append, zo, pvE] at h53d
        refine zt fun K kk hK => ?_
        simp only [go_sem, h53a, h53d, h53e, hl0a, hl0b, hl0d, hl0w]
        (repeat refine sd ?_)
        refine hK _ _ fun nx => ?_; clear hK K; try clear kk
        refine nmx ?_
        refine zt fun K kk hK => ?_
        simp only [go_sem, hl0a, hl0b, hl0d, hl0w]
        refine hK _ _ fun nx => ?_; clear hK K; try clear kk
        refine nmx ?_
        have ih' := ih (pre ++ [K5]) (QD + 1) _ (by rw [hsplit]; simp) (by simp [hidx]) hh nx
        refine zH ?_
        first | exact ih' _ | (simp only [pvE, lsE, zo, h53e] at ih' ⊢; exact ih' _) | (simp only [pvE, lsE, zo, h53e, h43, h45, h46, h47, h50] at ih' ⊢; exact ih' _)
      ·rw [if_neg h47] at hh
       replace h47 := Bool.eq_false_iff.mpr h47
       refine zb fun K kk hK => ?_
       simp only [go_sem, h47, of_decide_eq_false h47, hl0a, hl0b, hl0d, hl0w]
       (repeat refine sd ?_)
       refine hK _ _ fun nx => ?_; clear hK K; try clear kk
       refine zh rfl ?_
       obtain ⟨asR, h54, hh⟩ := ze hh
       obtain ⟨h54a, h54c⟩ := zX h54
       have h54d := qF (f := za.pv) h54c
       have h54e := qE h54c
       try simp only [List.length_cons, List.length_nil, Nat.zero_add, Nat.reduceAdd] at h54a h54e
       try simp only [h54e] at h54a
       try simp only [List.map_cons, List.map_nil, List.nil_append, List.append_nil, List.cons_append, List.singleton_append, zo, pvE] at h54d
       refine zt fun K kk hK => ?_
       simp only [go_sem, h54a, h54d, h54e, hl0a, hl0b, hl0d, hl0w]
       (repeat refine sd ?_)
       refine hK _ _ fun nx => ?_; clear hK K; try clear kk
       refine nmx ?_
       refine zt fun K kk hK => ?_
       simp only [go_sem, hl0a, hl0b, hl0d, hl0w]
       refine hK _ _ fun nx => ?_; clear hK K; try clear kk
       refine nmx ?_
       have ih' := ih (pre ++ [K5]) (QD + 1) _ (by rw [hsplit]; simp) (by simp [hidx]) hh nx
       refine zH ?_
       first | exact ih' _ | (simp only [pvE, lsE, zo, h54e] at ih' ⊢; exact ih' _) | (simp only [pvE, lsE, zo, h54e, h43, h45, h46, h47] at ih' ⊢; exact ih' _)
    ·rw [if_neg h45] at hh
     replace h45 := Bool.eq_false_iff.mpr h45
     refine zb fun K kk hK => ?_
     simp only [go_sem, h45, hl0a, hl0b, hl0d, hl0w]
     (repeat refine sd ?_)
     refine zg (kG _ _ h44) (by (try simp only [go_sem, h45, hl0a, hl0b, hl0d, hl0w]) <;> exact wkl) (by rfl) (by rfl) ?_
     simp only [go_sem, h45, hl0a, hl0b, hl0d, hl0w]
     (repeat refine sd ?_)
     refine hK _ _ fun nx => ?_; clear hK K; try clear kk
     refine zh rfl ?_
     by_cases h55 : (decide ((w64 ((vR.length : Int) - (1 : Int))) ≥ (0 : Int))) = true
     ·rw [if_pos h55] at hh
      obtain ⟨aan, h56, hh⟩ := ze hh
      obtain ⟨h56a, h56b, h56c⟩ := rd_some h56
      have h56d := kR (f := za.pv) h56c
      have h56f := wL (f := za.pv) h56c
      try simp only [Int.toNat_natCast, Int.reduceToNat] at h56d h56f
      obtain ⟨agT, h57, hh⟩ := ze hh
      refine zb fun K kk hK => ?_
      simp only [go_sem, h55, of_decide_eq_true h55, h56a, h56b, h56d, h56f.1, h56f.2, hl0a, hl0b, hl0d, hl0w]
      (repeat refine sd ?_)
      refine zg (V5 _ _ _ h57) (by (try simp only [go_sem, h55, of_decide_eq_true h55, h56a, h56b, h56d, h56f.1, h56f.2, hl0a, hl0b, hl0d, hl0w]) <;> exact wkl) (by rfl) (by rfl) ?_
      simp only [go_sem, h55, of_decide_eq_true h55, h56a, h56b, h56d, h56f.1, h56f.2, hl0a, hl0b, hl0d, hl0w]
      (repeat refine sd ?_)
      refine hK _ _ fun nx => ?_; clear hK K; try clear kk
      by_cases h58 : (agT) = true
      ·rw [if_pos h58] at hh
       refine zk (by first | exact congrArg PV.bool h58 | rfl) ?_
       obtain ⟨h59, hh⟩ := zR hh
       refine zb fun K kk hK => ?_
       simp only [go_sem, h56a, h56b, h56d, h56f.1, h56f.2, h59, hl0a, hl0b, hl0d, hl0w]
       (repeat refine sd ?_)
       refine hK _ _ fun nx => ?_; clear hK K; try clear kk
       obtain ⟨awJ, h60, hh⟩ := ze hh
       obtain ⟨h60a, h60c⟩ := aad h60
       have h60d := ad2 (f := za.pv) h60c
       try simp only [Int.toNat_natCast, Int.reduceToNat, List.map_cons, List.map_nil, List.cons_append, List.nil_append, List.singleton_append, pvE] at h60d
       have h60e := adM h60c
       have h56b_h60 := h56b; rw [h60e] at h56b_h60
       have h56f1_h60 := h56f.1; rw [h60e] at h56f1_h60
       have h56a_h60 := h56a; try rw [h60e] at h56a_h60
       have h56d_h60 := h56d; try rw [h60e] at h56d_h60
       try rw [h60e] at h60d
       have h60bw := h60a.2; rw [h60e] at h60bw
       refine zt fun K kk hK => ?_
       simp only [go_sem, h56a, h56b, h56d, h56f.1, h56f.2, h60a.1, h60a.2, h60d, h60e, h56b_h60, h56f1_h60, h56a_h60, h56d_h60, h60bw, hl0a, hl0b, hl0d, hl0w]
       (repeat refine sd ?_)
       try simp only [go_sem, h56a, h56b, h56d, h56f.1, h56f.2, h60a.1, h60a.2, h60d, h60e, h56b_h60, h56f1_h60, h56a_h60, h56d_h60, h60bw, hl0a, hl0b, hl0d, hl0w]
       refine hK _ _ fun nx => ?_; clear hK K; try clear kk
       refine nmx ?_
       refine zt fun K kk hK => ?_
       simp only [go_sem, hl0a, hl0b, hl0d, hl0w]
       refine hK _ _ fun nx => ?_; clear hK K; try clear kk
       refine nmx ?_
       have ih' := ih (pre ++ [K5]) (QD + 1) _ (by rw [hsplit]; simp) (by simp [hidx]) hh nx
       refine zH ?_
       first | exact ih' _ | (simp only [pvE, lsE, zo, h60e] at ih' ⊢; exact ih' _) | (simp only [pvE, lsE, zo, h60e, h43, h45, h55, h58] at ih' ⊢; exact ih' _)
      ·rw [if_neg h58] at hh
       replace h58 := Bool.eq_false_iff.mpr h58
       refine zh (by first | exact congrArg PV.bool h58 | rfl) ?_
       obtain ⟨ash, h61, hh⟩ := ze hh
       obtain ⟨h61a, h61c⟩ := zX h61
       have h61d := qF (f := za.pv) h61c
       have h61e := qE h61c
       try simp only [List.length_cons, List.length_nil, Nat.zero_add, Nat.reduceAdd] at h61a h61e
       try simp only [h61e] at h61a
       try simp only [List.map_cons, List.map_nil, List.nil_append, List.append_nil, List.cons_append, List.singleton_append, zo, pvE] at h61d
       refine zt fun K kk hK => ?_
       simp only [go_sem, h61a, h61d, h61e, hl0a, hl0b, hl0d, hl0w]
       (repeat refine sd ?_)
       refine hK _ _ fun nx => ?_; clear hK K; try clear kk
       refine nmx ?_
       refine zt fun K kk hK => ?_
       simp only [go_sem, hl0a, hl0b, hl0d, hl0w]
       refine hK _ _ fun nx => ?_; clear hK K; try clear kk
       refine nmx ?_
       have ih' := ih (pre ++ [K5]) (QD + 1) _ (by rw [hsplit]; simp) (by simp [hidx]) hh nx
       refine zH ?_
       first | exact ih' _ | (simp only [pvE, lsE, zo, h61e] at ih' ⊢; exact ih' _) | (simp only [pvE, lsE, zo, h61e, h43, h45, h55, h58] at ih' ⊢; exact ih' _)
     ·rw [if_neg h55] at hh
      replace h55 := Bool.eq_false_iff.mpr h55
      refine zb fun K kk hK => ?_
      simp only [go_sem, h55, of_decide_eq_false h55, hl0a, hl0b, hl0d, hl0w]
      (repeat refine sd ?_)
      refine hK _ _ fun nx => ?_; clear hK K; try clear kk
      refine zh rfl ?_
      obtain ⟨aww, h62, hh⟩ := ze hh
      obtain ⟨h62a, h62c⟩ := zX h62
      have h62d := qF (f := za.pv) h62c
      have h62e := qE h62c
      try simp only [List.length_cons, List.length_nil, Nat.zero_add, Nat.reduceAdd] at h62a h62e
      try simp only [h62e] at h62a
      try simp only [List.map_cons, List.map_nil, List.nil_append, List.append_nil, List.cons_append, List.singleton_append, zo, pvE] at h62d
      refine zt fun K kk hK => ?_
      simp only [go_sem, h62a, h62d, h62e, hl0a, hl0b, hl0d, hl0w]
      (repeat refine sd ?_)
      refine hK _ _ fun nx => ?_; clear hK K; try clear kk
      refine nmx ?_
      refine zt fun K kk hK => ?_
      simp only [go_sem, hl0a, hl0b, hl0d, hl0w]
      refine hK _ _ fun nx => ?_; clear hK K; try clear kk
      refine nmx ?_
      have ih' := ih (pre ++ [K5]) (QD + 1) _ (by rw [hsplit]; simp) (by simp [hidx]) hh nx
      refine zH ?_
      first | exact ih' _ | (simp only [pvE, lsE, zo, h62e] at ih' ⊢; exact ih' _) | (simp only [pvE, lsE, zo, h62e, h43, h45, h55] at ih' ⊢; exact ih' _)
  exact key l_1 [] _ _ rfl rfl f0 _ _
 ·rintro s ⟨t, hless, aeu, rfl, arJ, ami, nx, g3, rfl⟩
  try dsimp only at hh
  refine nmy ?_
  first | (refine qW hless ?_; try refine wY ?_) | refine qC hless ?_ | refine qD hless ?_
  refine zb fun K kk hK => ?_
  simp only [go_sem]
  refine hK _ _ fun nx => ?_; clear hK K; try clear kk
  refine zn ?_; refine nmx ?_
  obtain hR := Option.some.inj hh
  subst hR
  exact Xc (by rfl) (by rfl) (by rfl) (by simp only [List.length_map, List.length_cons, List.length_nil, Nat.zero_add, Nat.reduceAdd]) (by first | rfl | (simp only [pvE, lsE, zo]; done) | (simp only [pvE, lsE, zo]; rfl))
 ·intro i s h; exact h.elim
 ·intro s h; exact h.elim
theorem jV (l : (List za)) (R : (List za)) (hh : qZ l = some R) : PC Tryz.prog 114 [.list 5 (l.map za.pv)] (.own 5 (R.map za.pv)) := by
 rw [qZ] at hh
 obtain ⟨ha, hb⟩ := zX hh
 rw [List.nil_append] at hb
 subst hb
 try simp only [List.length_nil, Nat.zero_add] at ha
 refine KL rfl ?_
 refine zb fun K kk hK => ?_
 simp only [go_sem]
 refine hK _ _ fun nx => ?_; clear hK K; try clear kk
 refine zb fun K kk hK => ?_
 simp only [go_sem]
 refine ⟨fun hnil => hK _ _ fun nx => ?_, hK _ _ fun nx => ?_⟩ <;> (clear hK K; try clear kk)
 ·have hl : l = [] := by simpa using hnil
  subst hl
  first | refine zk rfl ?_ | (refine zm ?_; refine zk rfl ?_)
  refine zb fun K kk hK => ?_
  simp only [go_sem]
  refine hK _ _ fun nx => ?_; clear hK K; try clear kk
  refine zn ?_; refine nmx ?_
  exact YS rfl
 ·first | refine zh rfl ?_ | (refine zm ?_; refine zh rfl ?_)
  refine zy ?_; refine nmx ?_
  refine zb fun K kk hK => ?_
  simp only [go_sem, ha]
  refine hK _ _ fun nx => ?_; clear hK K; try clear kk
  refine zn ?_; refine nmx ?_
  exact Xc (by rfl) (by rfl) (by rfl) (by simp) (by rfl)
theorem YK (l_1 : (List za)) (zP : Int) (R : ((List za) × (List za) × Int)) (hh : xm l_1 zP = some R) : PC Tryz.prog 71 [.list 5 (l_1.map za.pv), .int .i64 zP] (.tup [.list 5 (R.1.map za.pv), .list 5 (R.2.1.map za.pv), .int .i64 R.2.2]) := by
 rw [xm] at hh
 refine adl rfl ?_
 refine zb fun K kk hK => ?_
 simp only [go_sem]
 refine hK _ _ fun nx => ?_; clear hK K; try clear kk
 refine zm ?_
 by_cases h1 : (decide (zP < (0 : Int))) = true
 ·rw [if_pos h1] at hh
  refine zb fun K kk hK => ?_
  simp only [go_sem, h1, of_decide_eq_true h1]
  (repeat refine sd ?_)
  refine hK _ _ fun nx => ?_; clear hK K; try clear kk
  refine zk rfl ?_
  refine zb fun K kk hK => ?_
  simp only [go_sem]
  refine hK _ _ fun nx => ?_; clear hK K; try clear kk
  refine zn ?_; refine nmx ?_
  obtain hR := Option.some.inj hh
  subst hR
  exact zz
 ·rw [if_neg h1] at hh
  replace h1 := Bool.eq_false_iff.mpr h1
  obtain ⟨Qn, h2, hh⟩ := ze hh
  refine zb fun K kk hK => ?_
  simp only [go_sem, h1, of_decide_eq_false h1]
  (repeat refine sd ?_)
  refine zg (xM _ _ h2) (by (try simp only [go_sem, h1, of_decide_eq_false h1]) <;> exact wkl) (by rfl) (by rfl) ?_
  simp only [go_sem, h1, of_decide_eq_false h1]
  (repeat refine sd ?_)
  refine hK _ _ fun nx => ?_; clear hK K; try clear kk
  by_cases h3 : (decide (zP > Qn)) = true
  ·rw [if_pos h3] at hh
   refine zk (by first | exact congrArg PV.bool h3 | rfl) ?_
   refine zb fun K kk hK => ?_
   simp only [go_sem]
   refine hK _ _ fun nx => ?_; clear hK K; try clear kk
   refine zn ?_; refine nmx ?_
   obtain hR := Option.some.inj hh
   subst hR
   exact zz
  ·rw [if_neg h3] at hh
   replace h3 := Bool.eq_false_iff.mpr h3
   refine zh (by first | exact congrArg PV.bool h3 | rfl) ?_
   refine zy ?_; refine nmx ?_
   refine zb fun K kk hK => ?_
   simp only [go_sem]
   refine hK _ _ fun nx => ?_; clear hK K; try clear kk
   refine zm ?_
   obtain ⟨e0, f0, hh⟩ := ze hh
   obtain ⟨hlen0, f0⟩ := zR f0
   refine Qg (fun s => ∃ ae4, ∃ am3, (ae4, am3) = e0 ∧ ∃ (amm : Bool) (nx : Nat), s = ⟨[(0, .list 5 (l_1.map za.pv)), (1, .int .i64 ae4), (7, .int .i64 am3), (32, .bool amm)], [], nx⟩)
    (fun i s => False)
    (fun s => False) ?_ ?_ ?_ ?_
   ·refine zC ?_
    refine qi fun I hI => ?_
    have key : ∀ (suf pre : List za) (i_8 : Int) (agc : Int), l_1 = pre ++ suf → i_8 = (pre.length : Int) → vJ suf i_8 agc = some e0 → ∀ (nx : Nat), I ⟨[(0, .list 5 (l_1.map za.pv)), (1, .int .i64 agc), (7, .int .i64 i_8)], [], nx⟩ := by
     intro suf
     induction suf with
     | nil =>
      intro pre i_8 agc hsplit hidx hh nx
      rw [vJ] at hh
      refine hI _ ?_
      have h14 := walk_nil hsplit hidx
      refine zm ?_
      refine zb fun K kk hK => ?_
      simp only [go_sem, h14, of_decide_eq_false h14]
      (repeat refine sd ?_)
      refine hK _ _ fun nx => ?_; clear hK K; try clear kk
      refine zh rfl ?_
      refine zV ?_; refine nmx ?_
      refine wU ?_
      refine zH ?_
      refine ⟨_, _, (Option.some.inj hh), ?_⟩
      first | exact ⟨_, _, rfl⟩ | (simp only [pvE, lsE, zo]; exact ⟨_, _, rfl⟩) | (simp only [pvE, lsE, zo, h1, h14, h3]; exact ⟨_, _, rfl⟩)
     | cons aaj suf ih =>
      intro pre i_8 agc hsplit hidx hh nx
      rw [vJ] at hh
      refine hI _ ?_
      obtain ⟨hl0a, hl0b, hl0d, hl0w, h14⟩ := qV (f := za.pv) hsplit hidx hlen0
      refine zm ?_
      obtain ⟨aj7, h15, hh⟩ := ze hh
      refine zb fun K kk hK => ?_
      simp only [go_sem, h14, of_decide_eq_true h14, hl0a, hl0b, hl0d, hl0w]
      (repeat refine sd ?_)
      refine zg (ZT _ _ h15) (by (try simp only [go_sem, h14, of_decide_eq_true h14, hl0a, hl0b, hl0d, hl0w]) <;> exact wkl) (by rfl) (by rfl) ?_
      simp only [go_sem, h14, of_decide_eq_true h14, hl0a, hl0b, hl0d, hl0w]
      (repeat refine sd ?_)
      refine hK _ _ fun nx => ?_; clear hK K; try clear kk
      by_cases h16 : (decide (agc ≥ aj7)) = true
      ·rw [if_pos h16] at hh
       refine zk (by first | exact congrArg PV.bool h16 | rfl) ?_
       refine zy ?_; refine nmx ?_
       refine zm ?_
       refine zC ?_
       obtain ⟨apf, h17, hh⟩ := ze hh
       refine zt fun K kk hK => ?_
       simp only [go_sem, hl0a, hl0b, hl0d, hl0w]
       refine zg (ZT _ _ h17) (by (try simp only [go_sem, hl0a, hl0b, hl0d, hl0w]) <;> exact wkl) (by rfl) (by rfl) ?_
       simp only [go_sem, hl0a, hl0b, hl0d, hl0w]
       refine hK _ _ fun nx => ?_; clear hK K; try clear kk
       refine nmx ?_
       refine zt fun K kk hK => ?_
       simp only [go_sem, hl0a, hl0b, hl0d, hl0w]
       refine hK _ _ fun nx => ?_; clear hK K; try clear kk
       refine nmx ?_
       have ih' := ih (pre ++ [aaj]) (i_8 + 1) _ (by rw [hsplit]; simp) (by simp [hidx]) hh nx
       refine zH ?_
       first | exact ih' | (simp only [pvE, lsE, zo] at ih' ⊢; exact ih') | (simp only [pvE, lsE, zo, h1, h14, h16, h3] at ih' ⊢; exact ih')
      ·rw [if_neg h16] at hh
       replace h16 := Bool.eq_false_iff.mpr h16
       refine zh (by first | exact congrArg PV.bool h16 | rfl) ?_
       refine zV ?_; refine nmx ?_
       refine wU ?_
       refine zH ?_
       refine ⟨_, _, (Option.some.inj hh), ?_⟩
       first | exact ⟨_, _, rfl⟩ | (simp only [pvE, lsE, zo]; exact ⟨_, _, rfl⟩) | (simp only [pvE, lsE, zo, h1, h14, h16, h3]; exact ⟨_, _, rfl⟩)
    exact key l_1 [] _ _ rfl rfl f0 _
   ·rintro s ⟨ae4, am3, rfl, amm, nx, rfl⟩
    try dsimp only at hh
    obtain ⟨awi, h18, hh⟩ := ze hh
    obtain ⟨h18a, h18c⟩ := Qm h18
    have h18g := X7 h18a
    have h18d := aai (f := za.pv) h18c
    try simp only [Int.toNat_natCast, Int.reduceToNat, List.map_cons, List.map_nil, pvE] at h18d
    obtain ⟨akK, h19, hh⟩ := ze hh
    obtain ⟨ama, h20, hh⟩ := ze hh
    obtain ⟨h20a, h20c⟩ := Qm h20
    have h20g := X7 h20a
    have h20d := akD (f := za.pv) h20c
    try simp only [Int.toNat_natCast, Int.reduceToNat, List.map_cons, List.map_nil, pvE] at h20d
    obtain ⟨afN, h21, hh⟩ := ze hh
    refine zb fun K kk hK => ?_
    simp only [go_sem, h18a.1, h18a.2.1, h18a.2.2, h18d, h18g, h20a.1, h20a.2.1, h20a.2.2, h20d, h20g]
    (repeat refine sd ?_)
    refine abE [] (by decide) (by decide) (jV _ _ h19) (by (try simp only [go_sem, h18a.1, h18a.2.1, h18a.2.2, h18d, h18g, h20a.1, h20a.2.1, h20a.2.2, h20d, h20g, h1, h3]) <;> exact wkb) (by rfl) (by rfl) ?_
    simp only [go_sem, h18a.1, h18a.2.1, h18a.2.2, h18d, h18g, h20a.1, h20a.2.1, h20a.2.2, h20d, h20g]
    (repeat refine sd ?_)
    refine abE [] (by decide) (by decide) (jV _ _ h21) (by (try simp only [go_sem, h18a.1, h18a.2.1, h18a.2.2, h18d, h18g, h20a.1, h20a.2.1, h20a.2.2, h20d, h20g, h1, h3]) <;> exact wkb) (by rfl) (by rfl) ?_
    simp only [go_sem, h18a.1, h18a.2.1, h18a.2.2, h18d, h18g, h20a.1, h20a.2.1, h20a.2.2, h20d, h20g]
    (repeat refine sd ?_)
    refine hK _ _ fun nx => ?_; clear hK K; try clear kk
    refine zm ?_
    refine zC ?_
    refine zb fun K kk hK => ?_
    simp only [go_sem]
    refine hK _ _ fun nx => ?_; clear hK K; try clear kk
    by_cases h22 : (ae4 == (0 : Int)) = true
    ·rw [if_pos h22] at hh
     refine zk (by first | exact congrArg PV.bool h22 | rfl) ?_
     refine zb fun K kk hK => ?_
     simp only [go_sem]
     refine hK _ _ fun nx => ?_; clear hK K; try clear kk
     refine zn ?_; refine nmx ?_
     obtain hR := Option.some.inj hh
     subst hR
     exact zz
    ·rw [if_neg h22] at hh
     replace h22 := Bool.eq_false_iff.mpr h22
     refine zh (by first | exact congrArg PV.bool h22 | rfl) ?_
     obtain ⟨aim, h23, hh⟩ := ze hh
     obtain ⟨h23a, h23b, h23c⟩ := rd_some h23
     have h23d := kR (f := za.pv) h23c
     have h23f := wL (f := za.pv) h23c
     try simp only [Int.toNat_natCast, Int.reduceToNat] at h23d h23f
     refine zb fun K kk hK => ?_
     simp only [go_sem, h23a, h23b, h23d, h23f.1, h23f.2]
     (repeat refine sd ?_)
     refine hK _ _ fun nx => ?_; clear hK K; try clear kk
     by_cases h24 : (!(aim.Kind == ([116, 101, 120, 116] : Str))) = true
     ·rw [if_pos h24] at hh
      refine zk (by first | exact congrArg PV.bool h24 | rfl) ?_
      refine zb fun K kk hK => ?_
      simp only [go_sem]
      refine hK _ _ fun nx => ?_; clear hK K; try clear kk
      refine zn ?_; refine nmx ?_
      obtain hR := Option.some.inj hh
      subst hR
      exact zz
     ·rw [if_neg h24] at hh
      replace h24 := Bool.eq_false_iff.mpr h24
      refine zh (by first | exact congrArg PV.bool h24 | rfl) ?_
      refine zy ?_; refine nmx ?_
      refine zb fun K kk hK => ?_
      simp only [go_sem, h23a, h23b, h23d, h23f.1, h23f.2]
      (repeat refine sd ?_)
      refine hK _ _ fun nx => ?_; clear hK K; try clear kk
      refine zb fun K kk hK => ?_
      simp only [go_sem, h23a, h23b, h23d, h23f.1, h23f.2]
      (repeat refine sd ?_)
      refine hK _ _ fun nx => ?_; clear hK K; try clear kk
      obtain ⟨awM, h25, hh⟩ := ze hh
      obtain ⟨h25a, h25c⟩ := Qm h25
      have h25g := X7 h25a
      have h25d := aai (f := (PV.int .i32)) h25c
      try simp only [Int.toNat_natCast, Int.reduceToNat, List.map_cons, List.map_nil, pvE] at h25d
      obtain ⟨awI, h26, hh⟩ := ze hh
      obtain ⟨h26a, h26c⟩ := Qm h26
      have h26g := X7 h26a
      have h26d := akD (f := (PV.int .i32)) h26c
      try simp only [Int.toNat_natCast, Int.reduceToNat, List.map_cons, List.map_nil, pvE] at h26d
      obtain ⟨awH, h27, hh⟩ := ze hh
      obtain ⟨h27a, h27b, h27c⟩ := rd_some h27
      have h27d := kR (f := za.pv) h27c
      have h27f := wL (f := za.pv) h27c
      try simp only [Int.toNat_natCast, Int.reduceToNat] at h27d h27f
      obtain ⟨avS, h28, hh⟩ := ze hh
      obtain ⟨h28a, h28c⟩ := aad h28
      have h28d := ad2 (f := za.pv) h28c
      try simp only [Int.toNat_natCast, Int.reduceToNat, List.map_cons, List.map_nil, List.cons_append, List.nil_append, List.singleton_append, pvE] at h28d
      have h28e := adM h28c
      have h27b_h28 := h27b; rw [h28e] at h27b_h28
      have h27f1_h28 := h27f.1; rw [h28e] at h27f1_h28
      have h27a_h28 := h27a; try rw [h28e] at h27a_h28
      have h27d_h28 := h27d; try rw [h28e] at h27d_h28
      try rw [h28e] at h28d
      have h28bw := h28a.2; rw [h28e] at h28bw
      refine zb fun K kk hK => ?_
      simp only [go_sem, h25a.1, h25a.2.1, h25a.2.2, h25d, h25g, h26a.1, h26a.2.1, h26a.2.2, h26d, h26g, h27a, h27b, h27d, h27f.1, h27f.2, h28a.1, h28a.2, h28d, h28e, h27b_h28, h27f1_h28, h27a_h28, h27d_h28, h28bw]
      (repeat refine sd ?_)
      try simp only [go_sem, h25a.1, h25a.2.1, h25a.2.2, h25d, h25g, h26a.1, h26a.2.1, h26a.2.2, h26d, h26g, h27a, h27b, h27d, h27f.1, h27f.2, h28a.1, h28a.2, h28d, h28e, h27b_h28, h27f1_h28, h27a_h28, h27d_h28, h28bw]
      refine hK _ _ fun nx => ?_; clear hK K; try clear kk
      obtain ⟨awv, h29, hh⟩ := ze hh
      obtain ⟨h29a, h29c⟩ := zX h29
      have h29d := qF (f := za.pv) h29c
      have h29e := qE h29c
      try simp only [List.length_cons, List.length_nil, Nat.zero_add, Nat.reduceAdd] at h29a h29e
      try simp only [h29e] at h29a
      try simp only [List.map_cons, List.map_nil, List.nil_append, List.append_nil, List.cons_append, List.singleton_append, zo, pvE] at h29d
      refine zb fun K kk hK => ?_
      simp only [go_sem, h29a, h29d, h29e]
      (repeat refine sd ?_)
      refine hK _ _ fun nx => ?_; clear hK K; try clear kk
      refine zn ?_; refine nmx ?_
      obtain hR := Option.some.inj hh
      subst hR
      exact zz
   ·intro i s h; exact h.elim
   ·intro s h; exact h.elim
theorem Vx (n : Int) (R : (List za)) (hh : vZ n = some R) : PC Tryz.prog 115 [.kU, .int .i64 n] (.own 5 (R.map za.pv)) := by
 rw [vZ] at hh
 obtain ⟨⟨h1, h2⟩, hR⟩ := zR hh
 cases hR
 exact ary Tryz.auf ⟨by kernel_rfl, by kernel_rfl⟩ ⟨_, Tryz.func115, by kernel_rfl, by kernel_rfl⟩ avI rfl n h1 (by simpa using h2)
theorem Vv (kL : (List (List za))) (R : (List za)) (hh : kX kL = some R) : PC Tryz.prog 72 [.list 1 (kL.map (pvL 5 za.pv))] (.own 5 (R.map za.pv)) := by
 rw [kX] at hh
 refine WO rfl ?_
 refine zb fun K kk hK => ?_
 simp only [go_sem]
 refine hK _ _ fun nx => ?_; clear hK K; try clear kk
 refine zb fun K kk hK => ?_
 simp only [go_sem]
 refine hK _ _ fun nx => ?_; clear hK K; try clear kk
 refine zm ?_
 refine zb fun K kk hK => ?_
 simp only [go_sem]
 refine hK _ _ fun nx => ?_; clear hK K; try clear kk
 obtain ⟨e0, f0, hh⟩ := ze hh
 obtain ⟨hlen0, f0⟩ := zR f0
 refine qz (w9 (fun s => ∃ aha, aha = e0 ∧ ∃ (v_8 : Int) (v_9 : Bool) (nx : Nat), s = ⟨[(0, .list 1 (kL.map (pvL 5 za.pv))), (3, .int .i64 aha), (9, .list 1 (kL.map (pvL 5 za.pv))), (10, .int .i64 (kL.length : Int)), (11, .int .i64 v_8), (12, .bool v_9)], [], nx⟩))
  (fun i s => False)
  (fun s => False) ?_ ?_ ?_ ?_
 ·refine zC ?_
  refine qi fun I hI => ?_
  have key : ∀ (suf pre : List (List za)) (v_4 : Int) (V9 : Int), kL = pre ++ suf → v_4 = (pre.length : Int) → qp suf v_4 V9 = some e0 → ∀ (nx : Nat), I ⟨[(0, .list 1 (kL.map (pvL 5 za.pv))), (3, .int .i64 V9), (9, .list 1 (kL.map (pvL 5 za.pv))), (10, .int .i64 (kL.length : Int)), (11, .int .i64 v_4)], [], nx⟩ := by
   intro suf
   induction suf with
   | nil =>
    intro pre v_4 V9 hsplit hidx hh nx
    rw [qp] at hh
    refine hI _ ?_
    have h7 := walk_nil hsplit hidx
    refine zb fun K kk hK => ?_
    simp only [go_sem]
    refine hK _ _ fun nx => ?_; clear hK K; try clear kk
    refine zm ?_
    refine zh (by first | exact congrArg PV.bool h7 | rfl) ?_
    refine zV ?_; refine nmx ?_
    refine wU ?_
    refine zH ?_
    refine ⟨_, (Option.some.inj hh), ?_⟩
    first | exact ⟨_, _, _, rfl⟩ | (simp only [pvE, lsE, zo]; exact ⟨_, _, _, rfl⟩) | (simp only [pvE, lsE, zo, h7]; exact ⟨_, _, _, rfl⟩)
   | cons y_6 suf ih =>
    intro pre v_4 V9 hsplit hidx hh nx
    rw [qp] at hh
    refine hI _ ?_
    obtain ⟨hl0a, hl0b, hl0d, hl0w, h7⟩ := qV (f := (pvL 5 za.pv)) hsplit hidx hlen0
    refine zb fun K kk hK => ?_
    simp only [go_sem]
    refine hK _ _ fun nx => ?_; clear hK K; try clear kk
    refine zm ?_
    refine zk (by first | exact congrArg PV.bool h7 | rfl) ?_
    refine zy ?_; refine nmx ?_
    refine zm ?_
    refine zC ?_
    refine zb fun K kk hK => ?_
    simp only [go_sem, hl0a, hl0b, hl0d, hl0w]
    refine hK _ _ fun nx => ?_; clear hK K; try clear kk
    refine zb fun K kk hK => ?_
    simp only [go_sem, hl0a, hl0b, hl0d, hl0w]
    refine hK _ _ fun nx => ?_; clear hK K; try clear kk
    refine zb fun K kk hK => ?_
    simp only [go_sem, hl0a, hl0b, hl0d, hl0w]
    refine hK _ _ fun nx => ?_; clear hK K; try clear kk
    by_cases h8 : (decide ((w64 (V9 + (y_6.length : Int))) < (0 : Int))) = true
    ·rw [if_pos h8] at hh
     refine zk (by first | exact congrArg PV.bool h8 | rfl) ?_
     cases hh
    ·rw [if_neg h8] at hh
     replace h8 := Bool.eq_false_iff.mpr h8
     refine zh (by first | exact congrArg PV.bool h8 | rfl) ?_
     refine zy ?_; refine nmx ?_
     refine zt fun K kk hK => ?_
     simp only [go_sem, hl0a, hl0b, hl0d, hl0w]
     refine hK _ _ fun nx => ?_; clear hK K; try clear kk
     refine nmx ?_
     have ih' := ih (pre ++ [y_6]) (v_4 + 1) _ (by rw [hsplit]; simp) (by simp [hidx]) hh nx
     refine zH ?_
     first | exact ih' | (simp only [pvE, lsE, zo] at ih' ⊢; exact ih') | (simp only [pvE, lsE, zo, h7, h8] at ih' ⊢; exact ih')
  exact key kL [] _ _ rfl rfl f0 _
 ·rintro s ⟨t, hless, aha, rfl, v_8, v_9, nx, rfl⟩
  try dsimp only at hh
  refine nmy ?_
  first | (refine qW hless ?_; try refine wY ?_) | refine qC hless ?_ | refine qD hless ?_
  obtain ⟨aop, h9, hh⟩ := ze hh
  refine zb fun K kk hK => ?_
  simp only [go_sem]
  refine zg (Vx _ _ h9) (by (try simp only [go_sem]) <;> exact wkl) (by rfl) (by rfl) ?_
  simp only [go_sem]
  refine hK _ _ fun nx => ?_; clear hK K; try clear kk
  refine zm ?_
  refine zb fun K kk hK => ?_
  simp only [go_sem]
  refine hK _ _ fun nx => ?_; clear hK K; try clear kk
  obtain ⟨e1, f1, hh⟩ := ze hh
  obtain ⟨hlen1, f1⟩ := zR f1
  refine qz (w9 (fun s => ∃ Zq, Zq = e1 ∧ ∃ (arA : Int) (aqI : Bool) (nx : Nat) (g6 : Nat), s = ⟨[(6, .row 6 g6 Zq.length), (25, .list 1 (kL.map (pvL 5 za.pv))), (26, .int .i64 (kL.length : Int)), (27, .int .i64 arA), (28, .bool aqI)], [(6, g6, .row false 5 (Zq.map za.pv))], nx⟩))
   (fun i s => False)
   (fun s => False) ?_ ?_ ?_ ?_
  ·refine zC ?_
   refine qi fun I hI => ?_
   have key : ∀ (suf pre : List (List za)) (XM : Int) (jP : (List za)), kL = pre ++ suf → XM = (pre.length : Int) → qo suf XM jP = some e1 → ∀ (nx : Nat) (g6 : Nat), I ⟨[(6, .row 6 g6 jP.length), (25, .list 1 (kL.map (pvL 5 za.pv))), (26, .int .i64 (kL.length : Int)), (27, .int .i64 XM)], [(6, g6, .row false 5 (jP.map za.pv))], nx⟩ := by
    intro suf
    induction suf with
    | nil =>
     intro pre XM jP hsplit hidx hh nx g6
     rw [qo] at hh
     refine hI _ ?_
     have h16 := walk_nil hsplit hidx
     refine zb fun K kk hK => ?_
     simp only [go_sem]
     refine hK _ _ fun nx => ?_; clear hK K; try clear kk
     refine zm ?_
     refine zh (by first | exact congrArg PV.bool h16 | rfl) ?_
     refine zV ?_; refine nmx ?_
     refine wU ?_
     refine zH ?_
     refine ⟨_, (Option.some.inj hh), ?_⟩
     first | exact ⟨_, _, _, _, rfl⟩ | (simp only [pvE, lsE, zo]; exact ⟨_, _, _, _, rfl⟩) | (simp only [pvE, lsE, zo, h16]; exact ⟨_, _, _, _, rfl⟩)
    | cons au7 suf ih =>
     intro pre XM jP hsplit hidx hh nx g6
     rw [qo] at hh
     refine hI _ ?_
     obtain ⟨hl1a, hl1b, hl1d, hl1w, h16⟩ := qV (f := (pvL 5 za.pv)) hsplit hidx hlen1
     refine zb fun K kk hK => ?_
     simp only [go_sem]
     refine hK _ _ fun nx => ?_; clear hK K; try clear kk
     refine zm ?_
     refine zk (by first | exact congrArg PV.bool h16 | rfl) ?_
     refine zy ?_; refine nmx ?_
     refine zm ?_
     refine zC ?_
     refine zb fun K kk hK => ?_
     simp only [go_sem, hl1a, hl1b, hl1d, hl1w]
     refine hK _ _ fun nx => ?_; clear hK K; try clear kk
     obtain ⟨ar3, h17, hh⟩ := ze hh
     obtain ⟨h17a, h17c⟩ := zX h17
     have h17d := qF (f := za.pv) h17c
     have h17e := qE h17c
     try simp only [List.length_cons, List.length_nil, Nat.zero_add, Nat.reduceAdd] at h17a h17e
     try simp only [h17e] at h17a
     try simp only [List.map_cons, List.map_nil, List.nil_append, List.append_nil, List.cons_append, List.singleton_append, zo, pvE] at h17d
     refine zt fun K kk hK => ?_
     simp only [go_sem, h17a, h17d, h17e, hl1a, hl1b, hl1d, hl1w]
     (repeat refine sd ?_)
     refine hK _ _ fun nx => ?_; clear hK K; try clear kk
     refine nmx ?_
     refine zt fun K kk hK => ?_
     simp only [go_sem, hl1a, hl1b, hl1d, hl1w]
     refine hK _ _ fun nx => ?_; clear hK K; try clear kk
     refine nmx ?_
     have ih' := ih (pre ++ [au7]) (XM + 1) _ (by rw [hsplit]; simp) (by simp [hidx]) hh nx
     refine zH ?_
     first | exact ih' _ | (simp only [pvE, lsE, zo, h17e] at ih' ⊢; exact ih' _) | (simp only [pvE, lsE, zo, h17e, h16] at ih' ⊢; exact ih' _)
   exact key kL [] _ _ rfl rfl f1 _ _
  ·rintro s ⟨t, hless, Zq, rfl, arA, aqI, nx, g6, rfl⟩
   try dsimp only at hh
   refine nmy ?_
   first | (refine qW hless ?_; try refine wY ?_) | refine qC hless ?_ | refine qD hless ?_
   refine zb fun K kk hK => ?_
   simp only [go_sem]
   refine hK _ _ fun nx => ?_; clear hK K; try clear kk
   refine zn ?_; refine nmx ?_
   obtain hR := Option.some.inj hh
   subst hR
   exact Xc (by rfl) (by rfl) (by rfl) (by simp only [List.length_map, List.length_cons, List.length_nil, Nat.zero_add, Nat.reduceAdd]) (by first | rfl | (simp only [pvE, lsE, zo]; done) | (simp only [pvE, lsE, zo]; rfl))
  ·intro i s h; exact h.elim
  ·intro s h; exact h.elim
 ·intro i s h; exact h.elim
 ·intro s h; exact h.elim
end Go.Proofs.YtclohbgnaopjfaaGreatDoor
