/- Texts of the proof of stepAttrsCard -/
import Derived.Test.YtclohbgnaopjfaaDoorAgC
import Derived.Test.YtclohbgnaopjfaaDoorAgF
import Derived.Test.YtclohbgnaopjfaaDoorAgK6
namespace Go.Proofs.YtclohbgnaopjfaaDoor
set_option linter.unusedSimpArgs false
set_option linter.unusedVariables false
open Go
set_option maxRecDepth 100000
theorem YO (l_1 : (List za)) (R : (List za)) (hh : j5 l_1 = some R) : PC Tryd.prog 65 [.list 5 (l_1.map za.pv)] (.own 5 (R.map za.pv)) := by
  rw [j5] at hh
  refine J5 rfl ?_
  refine zb fun K kk hK => ?_
  simp only [go_sem]
  refine hK _ _ fun nx => ?_; clear hK K; try clear kk
  refine zb fun K kk hK => ?_
  simp only [go_sem]
  refine hK _ _ fun nx => ?_; clear hK K; try clear kk
  refine zm ?_
  refine zb fun K kk hK => ?_
  simp only [go_sem]
  refine hK _ _ fun nx => ?_; clear hK K; try clear kk
  obtain ⟨e0, f0, hh⟩ := ze hh
  obtain ⟨hlen0, f0⟩ := zZ f0
  refine qy (wS (fun s => ∃ adz, adz = e0 ∧ ∃ (auj : Int) (avf : Bool) (nx : Nat) (g3 : Nat), s = ⟨[(0, .list 5 (l_1.map za.pv)), (3, .row 3 g3 adz.length), (4, .int .i64 auj), (10, .bool avf)], [(3, g3, .row false 5 (adz.map za.pv))], nx⟩))
    (fun i s => False)
    (fun s => False) ?_ ?_ ?_ ?_
  · refine zD ?_
    refine qi fun I hI => ?_
    have key : ∀ (suf pre : List za) (VK : Int) (vU : (List za)), l_1 = pre ++ suf → VK = (pre.length : Int) → zW suf VK vU = some e0 → ∀ (nx : Nat) (g3 : Nat), I ⟨[(0, .list 5 (l_1.map za.pv)), (3, .row 3 g3 vU.length), (4, .int .i64 VK)], [(3, g3, .row false 5 (vU.map za.pv))], nx⟩ := by
      intro suf
      induction suf with
      | nil =>
        intro pre VK vU hsplit hidx hh nx g3
        rw [zW] at hh
        refine hI _ ?_
        have h37 := walk_nil hsplit hidx
        refine zm ?_
        refine zb fun K kk hK => ?_
        simp only [go_sem]
        refine hK _ _ fun nx => ?_; clear hK K; try clear kk
        refine zh (by first | exact congrArg PV.bool h37 | rfl) ?_
        refine qd ?_; refine nmx ?_
        refine kL ?_
        refine zH ?_
        refine ⟨_, (Option.some.inj hh), ?_⟩
        first | exact ⟨_, _, _, _, rfl⟩ | (simp only [pvE, lsE, zo]; exact ⟨_, _, _, _, rfl⟩) | (simp only [pvE, lsE, zo, h37]; exact ⟨_, _, _, _, rfl⟩)
      | cons Zq suf ih =>
        intro pre VK vU hsplit hidx hh nx g3
        rw [zW] at hh
        refine hI _ ?_
        obtain ⟨hl0a, hl0b, hl0d, hl0w, h37⟩ := qD (f := za.pv) hsplit hidx hlen0
        refine zm ?_
        refine zb fun K kk hK => ?_
        simp only [go_sem]
        refine hK _ _ fun nx => ?_; clear hK K; try clear kk
        refine zk (by first | exact congrArg PV.bool h37 | rfl) ?_
        refine zx ?_; refine nmx ?_
        refine zm ?_
        refine zD ?_
        refine zb fun K kk hK => ?_
        simp only [go_sem, hl0a, hl0b, hl0d, hl0w]
        refine hK _ _ fun nx => ?_; clear hK K; try clear kk
        refine zb fun K kk hK => ?_
        simp only [go_sem, hl0a, hl0b, hl0d, hl0w]
        refine hK _ _ fun nx => ?_; clear hK K; try clear kk
        refine zm ?_
        obtain ⟨e3, f3, hh⟩ := ze hh
        refine Jz (fun s => .inr () = e3 ∧ ∃ (at7 : Bool) (nx : Nat) (g3 : Nat) (g5 : Nat), s = ⟨[(0, .list 5 (l_1.map za.pv)), (3, .row 3 g3 vU.length), (4, .int .i64 VK), (5, .box 5 g5 0), (6, .int .i64 (w64 ((vU.length : Int) - (1 : Int)))), (27, .bool at7)], [(3, g3, .row false 5 (vU.map za.pv)), (5, g5, .var 28 [.str Zq.Kind, .str Zq.Text, .list 1 (Zq.Marks.map PV.str), .list 2 (Zq.zt.map zf.pv), .list 5 (Zq.Kids.map za.pv)])], nx⟩)
          (fun i s => (i = 1 ∧ .inl () = e3 ∧ ∃ (nx : Nat) (g3 : Nat) (g5 : Nat), s = ⟨[(0, .list 5 (l_1.map za.pv)), (3, .row 3 g3 vU.length), (4, .int .i64 VK), (5, .box 5 g5 0), (6, .int .i64 (w64 ((vU.length : Int) - (1 : Int)))), (27, .bool (Zq.Text == ([] : Str)))], [(3, g3, .row false 5 (vU.map za.pv)), (5, g5, .var 28 [.str Zq.Kind, .str Zq.Text, .list 1 (Zq.Marks.map PV.str), .list 2 (Zq.zt.map zf.pv), .list 5 (Zq.Kids.map za.pv)])], nx⟩))
          (fun s => False) ?_ ?_ ?_ ?_
        · have hh := f3
          by_cases h38 : (Zq.Kind == ([116, 101, 120, 116] : Str)) = true
          · rw [if_pos h38] at hh
            refine zb fun K kk hK => ?_
            simp only [go_sem, h38, hl0a, hl0b, hl0d, hl0w]
            (repeat refine sd ?_)
            refine hK _ _ fun nx => ?_; clear hK K; try clear kk
            by_cases h39 : (Zq.Text == ([] : Str)) = true
            · rw [if_pos h39] at hh
              refine zk (by first | exact congrArg PV.bool h39 | rfl) ?_
              refine qd ?_; refine nmx ?_
              refine aqJ ⟨rfl, (Option.some.inj hh), ?_⟩
              first | exact ⟨_, _, _, rfl⟩ | (simp only [pvE, lsE, zo]; exact ⟨_, _, _, rfl⟩) | (simp only [pvE, lsE, zo, h37, h38, h39]; exact ⟨_, _, _, rfl⟩)
            · rw [if_neg h39] at hh
              replace h39 := Bool.eq_false_iff.mpr h39
              refine zh (by first | exact congrArg PV.bool h39 | rfl) ?_
              refine zx ?_; refine nmx ?_
              refine kL ?_
              refine zH ?_
              refine ⟨(Option.some.inj hh), ?_⟩
              first | exact ⟨_, _, _, _, rfl⟩ | (simp only [pvE, lsE, zo]; exact ⟨_, _, _, _, rfl⟩) | (simp only [pvE, lsE, zo, h37, h38, h39]; exact ⟨_, _, _, _, rfl⟩)
          · rw [if_neg h38] at hh
            replace h38 := Bool.eq_false_iff.mpr h38
            refine zb fun K kk hK => ?_
            simp only [go_sem, h38, hl0a, hl0b, hl0d, hl0w]
            (repeat refine sd ?_)
            refine hK _ _ fun nx => ?_; clear hK K; try clear kk
            refine zh rfl ?_
            refine zx ?_; refine nmx ?_
            refine kL ?_
            refine zH ?_
            refine ⟨(Option.some.inj hh), ?_⟩
            first | exact ⟨_, _, _, _, rfl⟩ | (simp only [pvE, lsE, zo]; exact ⟨_, _, _, _, rfl⟩) | (simp only [pvE, lsE, zo, h37, h38]; exact ⟨_, _, _, _, rfl⟩)
        · rintro s ⟨rfl, at7, nx, g3, g5, rfl⟩
          try dsimp only at hh
          refine zm ?_
          by_cases h40 : (Zq.Kind == ([116, 101, 120, 116] : Str)) = true
          · rw [if_pos h40] at hh
            by_cases h41 : (decide ((w64 ((vU.length : Int) - (1 : Int))) ≥ (0 : Int))) = true
            · rw [if_pos h41] at hh
              obtain ⟨aov, h42, hh⟩ := ze hh
              obtain ⟨h42a, h42b, h42c⟩ := rd_some h42
              have h42d := kZ (f := za.pv) h42c
              have h42f := wO (f := za.pv) h42c
              try simp only [Int.toNat_natCast, Int.reduceToNat] at h42d h42f
              by_cases h43 : (aov.Kind == ([116, 101, 120, 116] : Str)) = true
              · rw [if_pos h43] at hh
                obtain ⟨adv, h44, hh⟩ := ze hh
                refine zb fun K kk hK => ?_
                simp only [go_sem, h40, h41, of_decide_eq_true h41, h42a, h42b, h42d, h42f.1, h42f.2, h43, hl0a, hl0b, hl0d, hl0w]
                (repeat refine sd ?_)
                refine zg (VP _ _ _ h44) (by (try simp only [go_sem, h40, h41, of_decide_eq_true h41, h42a, h42b, h42d, h42f.1, h42f.2, h43, hl0a, hl0b, hl0d, hl0w]) <;> exact wkl) (by rfl) (by rfl) ?_
                simp only [go_sem, h40, h41, of_decide_eq_true h41, h42a, h42b, h42d, h42f.1, h42f.2, h43, hl0a, hl0b, hl0d, hl0w]
                (repeat refine sd ?_)
                refine hK _ _ fun nx => ?_; clear hK K; try clear kk
                by_cases h45 : (adv) = true
                · rw [if_pos h45] at hh
                  refine zk (by first | exact congrArg PV.bool h45 | rfl) ?_
                  obtain ⟨h46, hh⟩ := zZ hh
                  refine zb fun K kk hK => ?_
                  simp only [go_sem, h42a, h42b, h42d, h42f.1, h42f.2, h46, hl0a, hl0b, hl0d, hl0w]
                  (repeat refine sd ?_)
                  refine hK _ _ fun nx => ?_; clear hK K; try clear kk
                  obtain ⟨auN, h47, hh⟩ := ze hh
                  obtain ⟨h47a, h47c⟩ := Q7 h47
                  have h47g := aam h47a
                  have h47d := YJ (f := za.pv) h47c
                  try simp only [Int.toNat_natCast, Int.reduceToNat, List.map_cons, List.map_nil, pvE] at h47d
                  obtain ⟨auF, h48, hh⟩ := ze hh
                  obtain ⟨h48a, h48c⟩ := zX h48
                  have h48d := qH (f := za.pv) h48c
                  have h48e := qG h48c
                  try simp only [List.length_cons, List.length_nil, Nat.zero_add, Nat.reduceAdd] at h48a h48e
                  try simp only [h48e] at h48a
                  try simp only [List.map_cons, List.map_nil, List.nil_append, List.append_nil, List.cons_append, List.singleton_append, zo, pvE] at h48d
                  obtain ⟨arb, h49, hh⟩ := ze hh
                  obtain ⟨h49a, h49c⟩ := zX h49
                  have h49d := qH (f := za.pv) h49c
                  have h49e := qG h49c
                  try simp only [List.length_cons, List.length_nil, Nat.zero_add, Nat.reduceAdd] at h49a h49e
                  try simp only [h49e] at h49a
                  try simp only [List.map_cons, List.map_nil, List.nil_append, List.append_nil, List.cons_append, List.singleton_append, zo, pvE] at h49d
                  refine zb fun K kk hK => ?_
                  simp only [go_sem, h47a.1, h47a.2.1, h47a.2.2, h47d, h47g, h48a, h48d, h48e, h49a, h49d, h49e, hl0a, hl0b, hl0d, hl0w]
                  (repeat refine sd ?_)
                  refine hK _ _ fun nx => ?_; clear hK K; try clear kk
                  refine qd ?_; refine nmx ?_
                  refine zq fun K kk hK => ?_
                  simp only [go_sem, hl0a, hl0b, hl0d, hl0w]
                  refine hK _ _ fun nx => ?_; clear hK K; try clear kk
                  refine nmx ?_
                  have ih' := ih (pre ++ [Zq]) (VK + 1) _ (by rw [hsplit]; simp) (by simp [hidx]) hh nx
                  refine zH ?_
                  first | exact ih' _ | (simp only [pvE, lsE, zo, h48e, h48d, h49e] at ih' ⊢; exact ih' _) | (simp only [pvE, lsE, zo, h48e, h48d, h49e, h37, h40, h41, h43, h45] at ih' ⊢; exact ih' _)
                · rw [if_neg h45] at hh
                  replace h45 := Bool.eq_false_iff.mpr h45
                  refine zh (by first | exact congrArg PV.bool h45 | rfl) ?_
                  refine zx ?_; refine nmx ?_
                  obtain ⟨aqQ, h50, hh⟩ := ze hh
                  obtain ⟨h50a, h50c⟩ := zX h50
                  have h50d := qH (f := za.pv) h50c
                  have h50e := qG h50c
                  try simp only [List.length_cons, List.length_nil, Nat.zero_add, Nat.reduceAdd] at h50a h50e
                  try simp only [h50e] at h50a
                  try simp only [List.map_cons, List.map_nil, List.nil_append, List.append_nil, List.cons_append, List.singleton_append, zo, pvE] at h50d
                  refine zq fun K kk hK => ?_
                  simp only [go_sem, h50a, h50d, h50e, hl0a, hl0b, hl0d, hl0w]
                  (repeat refine sd ?_)
                  refine hK _ _ fun nx => ?_; clear hK K; try clear kk
                  refine nmx ?_
                  refine zq fun K kk hK => ?_
                  simp only [go_sem, hl0a, hl0b, hl0d, hl0w]
                  refine hK _ _ fun nx => ?_; clear hK K; try clear kk
                  refine nmx ?_
                  have ih' := ih (pre ++ [Zq]) (VK + 1) _ (by rw [hsplit]; simp) (by simp [hidx]) hh nx
                  refine zH ?_
                  first | exact ih' _ | (simp only [pvE, lsE, zo, h50e] at ih' ⊢; exact ih' _) | (simp only [pvE, lsE, zo, h50e, h37, h40, h41, h43, h45] at ih' ⊢; exact ih' _)
              · rw [if_neg h43] at hh
                replace h43 := Bool.eq_false_iff.mpr h43
                refine zb fun K kk hK => ?_
                simp only [go_sem, h40, h41, of_decide_eq_true h41, h42a, h42b, h42d, h42f.1, h42f.2, h43, hl0a, hl0b, hl0d, hl0w]
                (repeat refine sd ?_)
                refine hK _ _ fun nx => ?_; clear hK K; try clear kk
                refine zh rfl ?_
                refine zx ?_; refine nmx ?_
                obtain ⟨aqT, h51, hh⟩ := ze hh
                obtain ⟨h51a, h51c⟩ := zX h51
                have h51d := qH (f := za.pv) h51c
                have h51e := qG h51c
                try simp only [List.length_cons, List.length_nil, Nat.zero_add, Nat.reduceAdd] at h51a h51e
                try simp only [h51e] at h51a
                try simp only [List.map_cons, List.map_nil, List.nil_append, List.append_nil, List.cons_append, List.singleton_append, zo, pvE] at h51d
                refine zq fun K kk hK => ?_
                simp only [go_sem, h51a, h51d, h51e, hl0a, hl0b, hl0d, hl0w]
                (repeat refine sd ?_)
                refine hK _ _ fun nx => ?_; clear hK K; try clear kk
                refine nmx ?_
                refine zq fun K kk hK => ?_
                simp only [go_sem, hl0a, hl0b, hl0d, hl0w]
                refine hK _ _ fun nx => ?_; clear hK K; try clear kk
                refine nmx ?_
                have ih' := ih (pre ++ [Zq]) (VK + 1) _ (by rw [hsplit]; simp) (by simp [hidx]) hh nx
                refine zH ?_
                first | exact ih' _ | (simp only [pvE, lsE, zo, h51e] at ih' ⊢; exact ih' _) | (simp only [pvE, lsE, zo, h51e, h37, h40, h41, h43] at ih' ⊢; exact ih' _)
            · rw [if_neg h41] at hh
              replace h41 := Bool.eq_false_iff.mpr h41
              refine zb fun K kk hK => ?_
              simp only [go_sem, h40, h41, of_decide_eq_false h41, hl0a, hl0b, hl0d, hl0w]
              (repeat refine sd ?_)
              refine hK _ _ fun nx => ?_; clear hK K; try clear kk
              refine zh rfl ?_
              refine zx ?_; refine nmx ?_
              obtain ⟨aqa, h52, hh⟩ := ze hh
              obtain ⟨h52a, h52c⟩ := zX h52
              have h52d := qH (f := za.pv) h52c
              have h52e := qG h52c
              try simp only [List.length_cons, List.length_nil, Nat.zero_add, Nat.reduceAdd] at h52a h52e
              try simp only [h52e] at h52a
              try simp only [List.map_cons, List.map_nil, List.nil_append, List.append_nil, List.cons_append, List.singleton_append, zo, pvE] at h52d
              refine zq fun K kk hK => ?_
              simp only [go_sem, h52a, h52d, h52e, hl0a, hl0b, hl0d, hl0w]
              (repeat refine sd ?_)
              refine hK _ _ fun nx => ?_; clear hK K; try clear kk
              refine nmx ?_
              refine zq fun K kk hK => ?_
              simp only [go_sem, hl0a, hl0b, hl0d, hl0w]
              refine hK _ _ fun nx => ?_; clear hK K; try clear kk
              refine nmx ?_
              have ih' := ih (pre ++ [Zq]) (VK + 1) _ (by rw [hsplit]; simp) (by simp [hidx]) hh nx
              refine zH ?_
              first | exact ih' _ | (simp only [pvE, lsE, zo, h52e] at ih' ⊢; exact ih' _) | (simp only [pvE, lsE, zo, h52e, h37, h40, h41] at ih' ⊢; exact ih' _)
          · rw [if_neg h40] at hh
            replace h40 := Bool.eq_false_iff.mpr h40
            refine zb fun K kk hK => ?_
            simp only [go_sem, h40, hl0a, hl0b, hl0d, hl0w]
            (repeat refine sd ?_)
            refine hK _ _ fun nx => ?_; clear hK K; try clear kk
            refine zh rfl ?_
            refine zx ?_; refine nmx ?_
            obtain ⟨auY, h53, hh⟩ := ze hh
            obtain ⟨h53a, h53c⟩ := zX h53
            have h53d := qH (f := za.pv) h53c
            have h53e := qG h53c
            try simp only [List.length_cons, List.length_nil, Nat.zero_add, Nat.reduceAdd] at h53a h53e
            try simp only [h53e] at h53a
            try simp only [List.map_cons, List.map_nil, List.nil_append, List.append_nil, List.cons_append, List.singleton_append, zo, pvE] at h53d
            refine zq fun K kk hK => ?_
            simp only [go_sem, h53a, h53d, h53e, hl0a, hl0b, hl0d, hl0w]
            (repeat refine sd ?_)
            refine hK _ _ fun nx => ?_; clear hK K; try clear kk
            refine nmx ?_
            refine zq fun K kk hK => ?_
            simp only [go_sem, hl0a, hl0b, hl0d, hl0w]
            refine hK _ _ fun nx => ?_; clear hK K; try clear kk
            refine nmx ?_
            have ih' := ih (pre ++ [Zq]) (VK + 1) _ (by rw [hsplit]; simp) (by simp [hidx]) hh nx
            refine zH ?_
            first | exact ih' _ | (simp only [pvE, lsE, zo, h53e] at ih' ⊢; exact ih' _) | (simp only [pvE, lsE, zo, h53e, h37, h40] at ih' ⊢; exact ih' _)
        · intro i s h
          obtain ⟨rfl, rfl, nx, g3, g5, rfl⟩ := h
          try dsimp only at hh
          refine nmx ?_
          refine zq fun K kk hK => ?_
          simp only [go_sem, hl0a, hl0b, hl0d, hl0w]
          refine hK _ _ fun nx => ?_; clear hK K; try clear kk
          refine nmx ?_
          have ih' := ih (pre ++ [Zq]) (VK + 1) _ (by rw [hsplit]; simp) (by simp [hidx]) hh nx
          refine zH ?_
          first | exact ih' _ | (simp only [pvE, lsE, zo] at ih' ⊢; exact ih' _) | (simp only [pvE, lsE, zo, h37] at ih' ⊢; exact ih' _)
        · intro s h; exact h.elim
    exact key l_1 [] _ _ rfl rfl f0 _ _
  · rintro s ⟨t, hless, adz, rfl, auj, avf, nx, g3, rfl⟩
    try dsimp only at hh
    refine nmy ?_
    first | (refine wh hless ?_; try refine kg ?_) | refine qF hless ?_ | refine qE hless ?_
    refine zb fun K kk hK => ?_
    simp only [go_sem]
    refine hK _ _ fun nx => ?_; clear hK K; try clear kk
    refine zi ?_; refine nmx ?_
    obtain hR := Option.some.inj hh
    subst hR
    exact Yy (by rfl) (by rfl) (by rfl) (by simp only [List.length_map, List.length_cons, List.length_nil, Nat.zero_add, Nat.reduceAdd]) (by first | rfl | (simp only [pvE, lsE, zo]; done) | (simp only [pvE, lsE, zo]; rfl))
  · intro i s h; exact h.elim
  · intro s h; exact h.elim
theorem XX (x_1 : zu) (ae3 : (List za)) (R : za) (hh : vN x_1 ae3 = some R) : PC Tryd.prog 56 [.agg [.int .i64 x_1.Text, .int .i64 x_1.Marks, .int .i64 x_1.zt, .int .i64 x_1.In], .list 5 (ae3.map za.pv)] (.agg [.str R.Kind, .str R.Text, .list 1 (R.Marks.map PV.str), .list 2 (R.zt.map zf.pv), .list 5 (R.Kids.map za.pv)]) := by
  rw [vN] at hh
  refine Jt rfl ?_
  refine zb fun K kk hK => ?_
  simp only [go_sem]
  refine hK _ _ fun nx => ?_; clear hK K; try clear kk
  refine zb fun K kk hK => ?_
  simp only [go_sem]
  refine hK _ _ fun nx => ?_; clear hK K; try clear kk
  refine zb fun K kk hK => ?_
  simp only [go_sem]
  refine hK _ _ fun nx => ?_; clear hK K; try clear kk
  obtain ⟨apT, h1, hh⟩ := ze hh
  obtain ⟨x_4, h2, hh⟩ := ze hh
  obtain ⟨h2a, h2b, h2c⟩ := rd_some h2
  have h2d := kZ (f := PV.str) h2c
  have h2f := wO (f := PV.str) h2c
  try simp only [Int.toNat_natCast, Int.reduceToNat] at h2d h2f
  simp only [List.length_cons, List.length_nil, List.map_cons, List.map_nil, Nat.zero_add, Nat.reduceAdd, reduceCtorEq, not_false_eq_true, and_true, pvE] at h2b h2d h2f
  obtain ⟨aro, h3, hh⟩ := ze hh
  obtain ⟨x_6, h4, hh⟩ := ze hh
  obtain ⟨h4a, h4b, h4c⟩ := rd_some h4
  have h4d := kZ (f := PV.str) h4c
  have h4f := wO (f := PV.str) h4c
  try simp only [Int.toNat_natCast, Int.reduceToNat] at h4d h4f
  simp only [List.length_cons, List.length_nil, List.map_cons, List.map_nil, Nat.zero_add, Nat.reduceAdd, reduceCtorEq, not_false_eq_true, and_true, pvE] at h4b h4d h4f
  refine zb fun K kk hK => ?_
  simp only [go_sem, h2a, h2b, h2d, h4a, h4b, h4d, h2f, h4f]
  (repeat refine sd ?_)
  refine zg (qZ _ _ _ h1) (by (try simp only [go_sem, h2a, h2b, h2d, h4a, h4b, h4d, h2f, h4f]) <;> exact wkl) (by rfl) (by rfl) ?_
  simp only [go_sem, h2a, h2b, h2d, h4a, h4b, h4d, h2f, h4f]
  (repeat refine sd ?_)
  refine zg (qZ _ _ _ h3) (by (try simp only [go_sem, h2a, h2b, h2d, h4a, h4b, h4d, h2f, h4f]) <;> exact wkl) (by rfl) (by rfl) ?_
  simp only [go_sem, h2a, h2b, h2d, h4a, h4b, h4d, h2f, h4f]
  (repeat refine sd ?_)
  refine hK _ _ fun nx => ?_; clear hK K; try clear kk
  obtain ⟨afP, h5, hh⟩ := ze hh
  refine zb fun K kk hK => ?_
  simp only [go_sem]
  refine zg (YO _ _ h5).list (by (try simp only [go_sem]) <;> exact wkl) (by rfl) (by rfl) ?_
  simp only [go_sem]
  refine hK _ _ fun nx => ?_; clear hK K; try clear kk
  refine zi ?_; refine nmx ?_
  obtain hR := Option.some.inj hh
  subst hR
  exact zy
end Go.Proofs.YtclohbgnaopjfaaDoor
