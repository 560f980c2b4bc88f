/- Texts of the proof of stepThroughCard -/
import Derived.Test.YtclohbgnaopjfaaDoorAgC
import Derived.Test.YtclohbgnaopjfaaDoorAgF
import Derived.Test.YtclohbgnaopjfaaDoorAgK6
namespace Go.Proofs.YtclohbgnaopjfaaDoor
set_option linter.unusedSimpArgs false
set_option linter.unusedVariables false
open Go
set_option maxRecDepth 100000
theorem Y4 (l_1 : (List zx)) (R : za) (hh : xz l_1 = some R) : PC Tryd.prog 25 [.list 4 (l_1.map zx.pv)] (.agg [.str R.Kind, .str R.Text, .list 1 (R.Marks.map PV.str), .list 2 (R.zu.map zh.pv), .list 5 (R.Kids.map za.pv)]) := by
  rw [xz] at hh
  refine JJ rfl ?_
  refine zb fun K kk hK => ?_
  simp only [go_sem]
  refine hK _ _ fun nx => ?_; clear hK K; try clear kk
  refine zb fun K kk hK => ?_
  simp only [go_sem]
  refine hK _ _ fun nx => ?_; clear hK K; try clear kk
  refine zb fun K kk hK => ?_
  simp only [go_sem]
  refine hK _ _ fun nx => ?_; clear hK K; try clear kk
  refine zb fun K kk hK => ?_
  simp only [go_sem]
  refine hK _ _ fun nx => ?_; clear hK K; try clear kk
  refine zm ?_
  refine zb fun K kk hK => ?_
  simp only [go_sem]
  refine hK _ _ fun nx => ?_; clear hK K; try clear kk
  obtain ⟨e0, f0, hh⟩ := ze hh
  obtain ⟨hlen0, f0⟩ := qa f0
  refine qx (wS (fun s => ∃ aoP, aoP = e0 ∧ ∃ (au8 : Int) (au0 : Bool) (ahA : (List za)) (nx : Nat) (g2 : Nat) (g3 : Nat) (g4 : Nat) (g5 : Nat) (g332 : Nat), s = ⟨[(0, .list 4 (l_1.map zx.pv)), (2, .box 2 g2 0), (3, .row 3 g3 [([97] : Str), ([98, 99] : Str), ([195, 169] : Str), ([120, 32, 121] : Str), ([230, 151, 165, 230, 156, 172] : Str)].length), (4, .box 4 g4 0), (5, .row 5 g5 ahA.length), (6, .int .i64 au8), (22, .bool au0)], [(2, g2, .var 28 [.str ([] : Str), .str ([] : Str), .list 1 ([].map PV.str), .list 2 ([].map zh.pv), .list 5 ([].map za.pv)]), (3, g3, .row false 1 ([([97] : Str), ([98, 99] : Str), ([195, 169] : Str), ([120, 32, 121] : Str), ([230, 151, 165, 230, 156, 172] : Str)].map PV.str)), (4, g4, .var 28 [.str ([100, 111, 99] : Str), .str ([] : Str), .list 1 ([].map PV.str), .list 2 ([].map zh.pv), .row 332 g332 aoP.length]), (5, g5, .row false 5 (ahA.map za.pv)), (332, g332, .row false 5 (aoP.map za.pv))], nx⟩))
    (fun i s => False)
    (fun s => False) ?_ ?_ ?_ ?_
  · refine zC ?_
    refine qo fun I hI => ?_
    have key : ∀ (suf pre : List zx) (Q5 : Int) (xI : (List za)) (y5 : (List za)), l_1 = pre ++ suf → Q5 = (pre.length : Int) → zD suf Q5 xI y5 = some e0 → ∀ (nx : Nat) (g2 : Nat) (g3 : Nat) (g4 : Nat) (g5 : Nat) (g332 : Nat), I ⟨[(0, .list 4 (l_1.map zx.pv)), (2, .box 2 g2 0), (3, .row 3 g3 [([97] : Str), ([98, 99] : Str), ([195, 169] : Str), ([120, 32, 121] : Str), ([230, 151, 165, 230, 156, 172] : Str)].length), (4, .box 4 g4 0), (5, .row 5 g5 xI.length), (6, .int .i64 Q5)], [(2, g2, .var 28 [.str ([] : Str), .str ([] : Str), .list 1 ([].map PV.str), .list 2 ([].map zh.pv), .list 5 ([].map za.pv)]), (3, g3, .row false 1 ([([97] : Str), ([98, 99] : Str), ([195, 169] : Str), ([120, 32, 121] : Str), ([230, 151, 165, 230, 156, 172] : Str)].map PV.str)), (4, g4, .var 28 [.str ([100, 111, 99] : Str), .str ([] : Str), .list 1 ([].map PV.str), .list 2 ([].map zh.pv), .row 332 g332 y5.length]), (5, g5, .row false 5 (xI.map za.pv)), (332, g332, .row false 5 (y5.map za.pv))], nx⟩ := by
      intro suf
      induction suf with
      | nil =>
        intro pre Q5 xI y5 hsplit hidx hh nx g2 g3 g4 g5 g332
        rw [zD] at hh
        refine hI _ ?_
        have h77 := walk_nil hsplit hidx
        refine zm ?_
        refine zb fun K kk hK => ?_
        simp only [go_sem, h77, of_decide_eq_false h77]
        (repeat refine sd ?_)
        refine hK _ _ fun nx => ?_; clear hK K; try clear kk
        refine zi rfl ?_
        refine zZ ?_; refine nmx ?_
        refine kg ?_
        refine zJ ?_
        refine ⟨_, (Option.some.inj hh), ?_⟩
        first | exact ⟨_, _, _, _, _, _, _, _, _, rfl⟩ | (simp only [pvE, lsE, zo]; exact ⟨_, _, _, _, _, _, _, _, _, rfl⟩) | (simp only [pvE, lsE, zo, h77]; exact ⟨_, _, _, _, _, _, _, _, _, rfl⟩)
      | cons adO suf ih =>
        intro pre Q5 xI y5 hsplit hidx hh nx g2 g3 g4 g5 g332
        rw [zD] at hh
        refine hI _ ?_
        obtain ⟨hl0a, hl0b, hl0d, hl0w, h77⟩ := qD (f := zx.pv) hsplit hidx hlen0
        refine zm ?_
        refine zb fun K kk hK => ?_
        simp only [go_sem, h77, of_decide_eq_true h77, hl0a, hl0b, hl0d, hl0w]
        (repeat refine sd ?_)
        refine hK _ _ fun nx => ?_; clear hK K; try clear kk
        by_cases h78 : (decide (Q5 < (40 : Int))) = true
        · rw [if_pos h78] at hh
          refine zn (by first | exact congrArg PV.bool h78 | rfl) ?_
          refine zt ?_; refine nmx ?_
          refine zm ?_
          refine zC ?_
          obtain ⟨aof, h79, hh⟩ := ze hh
          obtain ⟨asq, h80, hh⟩ := ze hh
          obtain ⟨h80a, h80b, h80c⟩ := rd_some h80
          have h80d := vD (f := PV.str) h80c
          have h80f := wY (f := PV.str) h80c
          try simp only [Int.toNat_natCast, Int.reduceToNat] at h80d h80f
          simp only [List.length_cons, List.length_nil, List.map_cons, List.map_nil, Nat.zero_add, Nat.reduceAdd, reduceCtorEq, not_false_eq_true, and_true, pvE] at h80b h80d h80f
          refine zb fun K kk hK => ?_
          simp only [go_sem, h80a, h80b, h80d, h80f, hl0a, hl0b, hl0d, hl0w]
          (repeat refine sd ?_)
          refine zf (wB _ _ _ h79) (by (try simp only [go_sem, h80a, h80b, h80d, h80f, hl0a, hl0b, hl0d, hl0w]) <;> exact wkl) (by rfl) (by rfl) ?_
          simp only [go_sem, h80a, h80b, h80d, h80f, hl0a, hl0b, hl0d, hl0w]
          (repeat refine sd ?_)
          refine hK _ _ fun nx => ?_; clear hK K; try clear kk
          refine zm ?_
          obtain ⟨e7, f7, hh⟩ := ze hh
          refine Vd (fun s => ∃ anp, anp = e7 ∧ ∃ (nx : Nat) (g2 : Nat) (g3 : Nat) (g4 : Nat) (g5 : Nat) (g7 : Nat) (g332 : Nat) (g351 : Nat), s = ⟨[(0, .list 4 (l_1.map zx.pv)), (2, .box 2 g2 0), (3, .row 3 g3 [([97] : Str), ([98, 99] : Str), ([195, 169] : Str), ([120, 32, 121] : Str), ([230, 151, 165, 230, 156, 172] : Str)].length), (4, .box 4 g4 0), (5, .row 5 g5 xI.length), (6, .int .i64 Q5), (7, .box 7 g7 0)], [(2, g2, .var 28 [.str ([] : Str), .str ([] : Str), .list 1 ([].map PV.str), .list 2 ([].map zh.pv), .list 5 ([].map za.pv)]), (3, g3, .row false 1 ([([97] : Str), ([98, 99] : Str), ([195, 169] : Str), ([120, 32, 121] : Str), ([230, 151, 165, 230, 156, 172] : Str)].map PV.str)), (4, g4, .var 28 [.str ([100, 111, 99] : Str), .str ([] : Str), .list 1 ([].map PV.str), .list 2 ([].map zh.pv), .row 332 g332 y5.length]), (5, g5, .row false 5 (xI.map za.pv)), (7, g7, .var 28 [.str ([116, 101, 120, 116] : Str), .str asq, .row 351 g351 anp.length, .list 2 ([].map zh.pv), .list 5 ([].map za.pv)]), (332, g332, .row false 5 (y5.map za.pv)), (351, g351, .row false 1 (anp.map PV.str))], nx⟩)
            (fun i s => False)
            (fun s => False) ?_ ?_ ?_ ?_
          · have hh := f7
            obtain ⟨acf, h81, hh⟩ := ze hh
            refine zb fun K kk hK => ?_
            simp only [go_sem, hl0a, hl0b, hl0d, hl0w]
            refine zf (wB _ _ _ h81) (by (try simp only [go_sem, hl0a, hl0b, hl0d, hl0w]) <;> exact wkl) (by rfl) (by rfl) ?_
            simp only [go_sem, hl0a, hl0b, hl0d, hl0w]
            refine hK _ _ fun nx => ?_; clear hK K; try clear kk
            by_cases h82 : ((aiG acf (1 : Int)) == (1 : Int)) = true
            · rw [if_pos h82] at hh
              refine zn (by first | exact congrArg PV.bool h82 | rfl) ?_
              obtain ⟨amC, h83, hh⟩ := ze hh
              obtain ⟨h83a, h83c⟩ := z8 h83
              have h83d := qO (f := PV.str) h83c
              have h83e := (qQ h83c).symm
              try simp only [List.length_cons, List.length_nil, Nat.zero_add, Nat.reduceAdd] at h83a h83e
              try simp only [List.map_cons, List.map_nil, List.nil_append, List.append_nil, List.cons_append, List.singleton_append, zo, pvE] at h83d
              have h83g := ak9 (f := PV.str) h83e
              have h83h := ap6 h83e h83a
              refine zq fun K kk hK => ?_
              simp only [go_sem, h83a, h83d, eq_true h83e, eq_true (Nat.le_of_eq h83e.symm), h83g, hl0a, hl0b, hl0d, hl0w]
              (repeat refine sd ?_)
              refine hK _ _ fun nx => ?_; clear hK K; try clear kk
              refine nmx ?_
              refine kg ?_
              refine zJ ?_
              refine ⟨_, (Option.some.inj hh), ?_⟩
              first | exact ⟨_, _, _, _, _, _, _, _, rfl⟩ | (simp only [pvE, lsE, zo, h83e]; exact ⟨_, _, _, _, _, _, _, _, rfl⟩) | (simp only [pvE, lsE, zo, h83e, h77, h78, h82]; exact ⟨_, _, _, _, _, _, _, _, rfl⟩)
            · rw [if_neg h82] at hh
              replace h82 := Bool.eq_false_iff.mpr h82
              refine zi (by first | exact congrArg PV.bool h82 | rfl) ?_
              refine zt ?_; refine nmx ?_
              refine kg ?_
              refine akj (acu _ [0, 2, 3, 4, 5, 6, 7] [2, 3, 4, 5, 7, 332, 351]) ?_
              refine ⟨_, (Option.some.inj hh), ?_⟩
              first | exact ⟨_, _, _, _, _, _, _, _, rfl⟩ | (simp only [pvE, lsE, zo]; exact ⟨_, _, _, _, _, _, _, _, rfl⟩) | (simp only [pvE, lsE, zo, h77, h78, h82]; exact ⟨_, _, _, _, _, _, _, _, rfl⟩)
          · rintro s ⟨anp, rfl, nx, g2, g3, g4, g5, g7, g332, g351, rfl⟩
            try dsimp only at hh
            refine zm ?_
            obtain ⟨e8, f8, hh⟩ := ze hh
            refine Vd (fun s => ∃ ao5, ao5 = e8 ∧ ∃ (nx : Nat) (g2 : Nat) (g3 : Nat) (g4 : Nat) (g5 : Nat) (g7 : Nat) (g332 : Nat) (g351 : Nat), s = ⟨[(0, .list 4 (l_1.map zx.pv)), (2, .box 2 g2 0), (3, .row 3 g3 [([97] : Str), ([98, 99] : Str), ([195, 169] : Str), ([120, 32, 121] : Str), ([230, 151, 165, 230, 156, 172] : Str)].length), (4, .box 4 g4 0), (5, .row 5 g5 xI.length), (6, .int .i64 Q5), (7, .box 7 g7 0)], [(2, g2, .var 28 [.str ([] : Str), .str ([] : Str), .list 1 ([].map PV.str), .list 2 ([].map zh.pv), .list 5 ([].map za.pv)]), (3, g3, .row false 1 ([([97] : Str), ([98, 99] : Str), ([195, 169] : Str), ([120, 32, 121] : Str), ([230, 151, 165, 230, 156, 172] : Str)].map PV.str)), (4, g4, .var 28 [.str ([100, 111, 99] : Str), .str ([] : Str), .list 1 ([].map PV.str), .list 2 ([].map zh.pv), .row 332 g332 y5.length]), (5, g5, .row false 5 (xI.map za.pv)), (7, g7, .var 28 [.str ([116, 101, 120, 116] : Str), .str asq, .row 351 g351 ao5.length, .list 2 ([].map zh.pv), .list 5 ([].map za.pv)]), (332, g332, .row false 5 (y5.map za.pv)), (351, g351, .row false 1 (ao5.map PV.str))], nx⟩)
              (fun i s => False)
              (fun s => False) ?_ ?_ ?_ ?_
            · have hh := f8
              obtain ⟨acg, h84, hh⟩ := ze hh
              refine zb fun K kk hK => ?_
              simp only [go_sem, hl0a, hl0b, hl0d, hl0w]
              refine zf (wB _ _ _ h84) (by (try simp only [go_sem, hl0a, hl0b, hl0d, hl0w]) <;> exact wkl) (by rfl) (by rfl) ?_
              simp only [go_sem, hl0a, hl0b, hl0d, hl0w]
              refine hK _ _ fun nx => ?_; clear hK K; try clear kk
              by_cases h85 : ((aiG acg (2 : Int)) == (2 : Int)) = true
              · rw [if_pos h85] at hh
                refine zn (by first | exact congrArg PV.bool h85 | rfl) ?_
                obtain ⟨asQ, h86, hh⟩ := ze hh
                obtain ⟨h86a, h86c⟩ := z8 h86
                have h86d := qO (f := PV.str) h86c
                have h86e := qQ h86c
                try simp only [List.length_cons, List.length_nil, Nat.zero_add, Nat.reduceAdd] at h86a h86e
                try simp only [h86e] at h86a
                try simp only [List.map_cons, List.map_nil, List.nil_append, List.append_nil, List.cons_append, List.singleton_append, zo, pvE] at h86d
                refine zq fun K kk hK => ?_
                simp only [go_sem, h86a, h86d, h86e, hl0a, hl0b, hl0d, hl0w]
                (repeat refine sd ?_)
                refine hK _ _ fun nx => ?_; clear hK K; try clear kk
                refine nmx ?_
                refine kg ?_
                refine zJ ?_
                refine ⟨_, (Option.some.inj hh), ?_⟩
                first | exact ⟨_, _, _, _, _, _, _, _, rfl⟩ | (simp only [pvE, lsE, zo, h86e]; exact ⟨_, _, _, _, _, _, _, _, rfl⟩) | (simp only [pvE, lsE, zo, h86e, h77, h78, h85]; exact ⟨_, _, _, _, _, _, _, _, rfl⟩)
              · rw [if_neg h85] at hh
                replace h85 := Bool.eq_false_iff.mpr h85
                refine zi (by first | exact congrArg PV.bool h85 | rfl) ?_
                refine zt ?_; refine nmx ?_
                refine kg ?_
                refine akj (acu _ [0, 2, 3, 4, 5, 6, 7] [2, 3, 4, 5, 7, 332, 351]) ?_
                refine ⟨_, (Option.some.inj hh), ?_⟩
                first | exact ⟨_, _, _, _, _, _, _, _, rfl⟩ | (simp only [pvE, lsE, zo]; exact ⟨_, _, _, _, _, _, _, _, rfl⟩) | (simp only [pvE, lsE, zo, h77, h78, h85]; exact ⟨_, _, _, _, _, _, _, _, rfl⟩)
            · rintro s ⟨ao5, rfl, nx, g2, g3, g4, g5, g7, g332, g351, rfl⟩
              try dsimp only at hh
              obtain ⟨aug, h87, hh⟩ := ze hh
              obtain ⟨h87a, h87c⟩ := z8 h87
              have h87d := qO (f := za.pv) h87c
              have h87e := qQ h87c
              try simp only [List.length_cons, List.length_nil, Nat.zero_add, Nat.reduceAdd] at h87a h87e
              try simp only [h87e] at h87a
              try simp only [List.map_cons, List.map_nil, List.nil_append, List.append_nil, List.cons_append, List.singleton_append, zo, pvE] at h87d
              refine zb fun K kk hK => ?_
              simp only [go_sem, h87a, h87d, h87e, hl0a, hl0b, hl0d, hl0w]
              (repeat refine sd ?_)
              refine hK _ _ fun nx => ?_; clear hK K; try clear kk
              obtain ⟨JY, h88, hh⟩ := ze hh
              refine zb fun K kk hK => ?_
              simp only [go_sem, hl0a, hl0b, hl0d, hl0w]
              refine zf (wB _ _ _ h88) (by (try simp only [go_sem, hl0a, hl0b, hl0d, hl0w]) <;> exact wkl) (by rfl) (by rfl) ?_
              simp only [go_sem, hl0a, hl0b, hl0d, hl0w]
              refine hK _ _ fun nx => ?_; clear hK K; try clear kk
              refine zm ?_
              refine zb fun K kk hK => ?_
              simp only [go_sem, hl0a, hl0b, hl0d, hl0w]
              refine hK _ _ fun nx => ?_; clear hK K; try clear kk
              by_cases h89 : (JY == (0 : Int)) = true
              · rw [if_pos h89] at hh
                refine zn (by first | exact congrArg PV.bool h89 | rfl) ?_
                refine zZ ?_; refine nmx ?_
                refine zq fun K kk hK => ?_
                simp only [go_sem, hl0a, hl0b, hl0d, hl0w]
                refine hK _ _ fun nx => ?_; clear hK K; try clear kk
                refine nmx ?_
                have ih' := ih (pre ++ [adO]) (Q5 + 1) _ _ (by rw [hsplit]; simp) (by simp [hidx]) hh nx
                refine zJ ?_
                first | exact ih' _ _ _ _ _ | (simp only [pvE, lsE, zo, h87e] at ih' ⊢; exact ih' _ _ _ _ _) | (simp only [pvE, lsE, zo, h87e, h77, h78, h89] at ih' ⊢; exact ih' _ _ _ _ _)
              · rw [if_neg h89] at hh
                replace h89 := Bool.eq_false_iff.mpr h89
                refine zi (by first | exact congrArg PV.bool h89 | rfl) ?_
                refine zt ?_; refine nmx ?_
                obtain ⟨xm, h90, hh⟩ := ze hh
                refine zb fun K kk hK => ?_
                simp only [go_sem, hl0a, hl0b, hl0d, hl0w]
                refine zf (Yg _ _ _ h90) (by (try simp only [go_sem, hl0a, hl0b, hl0d, hl0w]) <;> exact wkl) (by rfl) (by rfl) ?_
                simp only [go_sem, hl0a, hl0b, hl0d, hl0w]
                refine hK _ _ fun nx => ?_; clear hK K; try clear kk
                refine zb fun K kk hK => ?_
                simp only [go_sem, hl0a, hl0b, hl0d, hl0w]
                refine hK _ _ fun nx => ?_; clear hK K; try clear kk
                refine zb fun K kk hK => ?_
                simp only [go_sem, hl0a, hl0b, hl0d, hl0w]
                refine hK _ _ fun nx => ?_; clear hK K; try clear kk
                refine zm ?_
                refine zb fun K kk hK => ?_
                simp only [go_sem, hl0a, hl0b, hl0d, hl0w]
                refine hK _ _ fun nx => ?_; clear hK K; try clear kk
                by_cases h91 : (decide (JY < (3 : Int))) = true
                · rw [if_pos h91] at hh
                  refine zn (by first | exact congrArg PV.bool h91 | rfl) ?_
                  obtain ⟨asH, h92, hh⟩ := ze hh
                  obtain ⟨h92a, h92c⟩ := z8 h92
                  have h92d := qO (f := za.pv) h92c
                  have h92e := qQ h92c
                  try simp only [List.length_cons, List.length_nil, Nat.zero_add, Nat.reduceAdd] at h92a h92e
                  try simp only [h92e] at h92a
                  try simp only [List.map_cons, List.map_nil, List.nil_append, List.append_nil, List.cons_append, List.singleton_append, zo, pvE] at h92d
                  refine zb fun K kk hK => ?_
                  simp only [go_sem, h92a, h92d, h92e, hl0a, hl0b, hl0d, hl0w]
                  (repeat refine sd ?_)
                  refine hK _ _ fun nx => ?_; clear hK K; try clear kk
                  refine zZ ?_; refine nmx ?_
                  refine zq fun K kk hK => ?_
                  simp only [go_sem, hl0a, hl0b, hl0d, hl0w]
                  refine hK _ _ fun nx => ?_; clear hK K; try clear kk
                  refine nmx ?_
                  have ih' := ih (pre ++ [adO]) (Q5 + 1) _ _ (by rw [hsplit]; simp) (by simp [hidx]) hh nx
                  refine zJ ?_
                  first | exact ih' _ _ _ _ _ | (simp only [pvE, lsE, zo, h87e, h92e] at ih' ⊢; exact ih' _ _ _ _ _) | (simp only [pvE, lsE, zo, h87e, h92e, h77, h78, h89, h91] at ih' ⊢; exact ih' _ _ _ _ _)
                · rw [if_neg h91] at hh
                  replace h91 := Bool.eq_false_iff.mpr h91
                  refine zi (by first | exact congrArg PV.bool h91 | rfl) ?_
                  refine zt ?_; refine nmx ?_
                  refine zb fun K kk hK => ?_
                  simp only [go_sem, hl0a, hl0b, hl0d, hl0w]
                  refine hK _ _ fun nx => ?_; clear hK K; try clear kk
                  refine zm ?_
                  obtain ⟨e9, f9, hh⟩ := ze hh
                  refine Vd (fun s => .inr () = e9 ∧ ∃ (auM : Bool) (nx : Nat) (g2 : Nat) (g3 : Nat) (g4 : Nat) (g5 : Nat) (g11 : Nat) (g332 : Nat) (g381 : Nat), s = ⟨[(0, .list 4 (l_1.map zx.pv)), (2, .box 2 g2 0), (3, .row 3 g3 [([97] : Str), ([98, 99] : Str), ([195, 169] : Str), ([120, 32, 121] : Str), ([230, 151, 165, 230, 156, 172] : Str)].length), (4, .box 4 g4 0), (5, .row 5 g5 ([] : List za).length), (6, .int .i64 Q5), (10, .int .i64 (w64 ((y5.length : Int) - (1 : Int)))), (11, .box 11 g11 0), (108, .bool auM)], [(2, g2, .var 28 [.str ([] : Str), .str ([] : Str), .list 1 ([].map PV.str), .list 2 ([].map zh.pv), .list 5 ([].map za.pv)]), (3, g3, .row false 1 ([([97] : Str), ([98, 99] : Str), ([195, 169] : Str), ([120, 32, 121] : Str), ([230, 151, 165, 230, 156, 172] : Str)].map PV.str)), (4, g4, .var 28 [.str ([100, 111, 99] : Str), .str ([] : Str), .list 1 ([].map PV.str), .list 2 ([].map zh.pv), .row 332 g332 y5.length]), (5, g5, .row false 5 (([] : List za).map za.pv)), (11, g11, .var 28 [.str ([105, 116, 101, 109] : Str), .str ([] : Str), .list 1 ([].map PV.str), .list 2 ([].map zh.pv), .row 381 g381 [xm].length]), (332, g332, .row false 5 (y5.map za.pv)), (381, g381, .row false 5 ([xm].map za.pv))], nx⟩)
                    (fun i s => (i = 1 ∧ ∃ alg, .inl alg = e9 ∧ ∃ (nx : Nat) (g2 : Nat) (g3 : Nat) (g4 : Nat) (g5 : Nat) (g332 : Nat), s = ⟨[(0, .list 4 (l_1.map zx.pv)), (2, .box 2 g2 0), (3, .row 3 g3 [([97] : Str), ([98, 99] : Str), ([195, 169] : Str), ([120, 32, 121] : Str), ([230, 151, 165, 230, 156, 172] : Str)].length), (4, .box 4 g4 0), (5, .row 5 g5 ([] : List za).length), (6, .int .i64 Q5)], [(2, g2, .var 28 [.str ([] : Str), .str ([] : Str), .list 1 ([].map PV.str), .list 2 ([].map zh.pv), .list 5 ([].map za.pv)]), (3, g3, .row false 1 ([([97] : Str), ([98, 99] : Str), ([195, 169] : Str), ([120, 32, 121] : Str), ([230, 151, 165, 230, 156, 172] : Str)].map PV.str)), (4, g4, .var 28 [.str ([100, 111, 99] : Str), .str ([] : Str), .list 1 ([].map PV.str), .list 2 ([].map zh.pv), .row 332 g332 alg.length]), (5, g5, .row false 5 (([] : List za).map za.pv)), (332, g332, .row false 5 (alg.map za.pv))], nx⟩))
                    (fun s => False) ?_ ?_ ?_ ?_
                  · have hh := f9
                    by_cases h93 : (decide ((w64 ((y5.length : Int) - (1 : Int))) ≥ (0 : Int))) = true
                    · rw [if_pos h93] at hh
                      obtain ⟨ajG, h94, hh⟩ := ze hh
                      obtain ⟨h94a, h94b, h94c⟩ := rd_some h94
                      have h94d := vD (f := za.pv) h94c
                      have h94f := wY (f := za.pv) h94c
                      try simp only [Int.toNat_natCast, Int.reduceToNat] at h94d h94f
                      by_cases h95 : (ajG.Kind == ([108, 105, 115, 116] : Str)) = true
                      · rw [if_pos h95] at hh
                        refine zb fun K kk hK => ?_
                        simp only [go_sem, h93, of_decide_eq_true h93, h94a, h94b, h94d, h94f.1, h94f.2, h95, hl0a, hl0b, hl0d, hl0w]
                        (repeat refine sd ?_)
                        refine hK _ _ fun nx => ?_; clear hK K; try clear kk
                        by_cases h96 : (JY == (3 : Int)) = true
                        · rw [if_pos h96] at hh
                          refine zn (by first | exact congrArg PV.bool h96 | rfl) ?_
                          refine zb fun K kk hK => ?_
                          simp only [go_sem, h94a, h94b, h94d, h94f.1, h94f.2, hl0a, hl0b, hl0d, hl0w]
                          (repeat refine sd ?_)
                          refine hK _ _ fun nx => ?_; clear hK K; try clear kk
                          obtain ⟨amJ, h97, hh⟩ := ze hh
                          obtain ⟨h97a, h97c⟩ := z8 h97
                          have h97d := qO (f := za.pv) h97c
                          have h97e := qQ h97c
                          try simp only [List.length_cons, List.length_nil, Nat.zero_add, Nat.reduceAdd] at h97a h97e
                          try simp only [h97e] at h97a
                          try simp only [List.map_cons, List.map_nil, List.nil_append, List.append_nil, List.cons_append, List.singleton_append, zo, pvE] at h97d
                          obtain ⟨ast, h98, hh⟩ := ze hh
                          obtain ⟨h98a, h98c⟩ := z8 h98
                          have h98d := qO (f := za.pv) h98c
                          have h98e := qQ h98c
                          try simp only [List.length_cons, List.length_nil, Nat.zero_add, Nat.reduceAdd] at h98a h98e
                          try simp only [h98e] at h98a
                          try simp only [List.map_cons, List.map_nil, List.nil_append, List.append_nil, List.cons_append, List.singleton_append, zo, pvE] at h98d
                          refine amZ (.nrm 11 [none, none, none, none, some 5]) ?_
                          refine zb fun K kk hK => ?_
                          simp only [go_sem, h97a, h97d, h97e, h98a, h98d, h98e, hl0a, hl0b, hl0d, hl0w]
                          (repeat refine sd ?_)
                          refine hK _ _ fun nx => ?_; clear hK K; try clear kk
                          obtain ⟨asz, h99, hh⟩ := ze hh
                          obtain ⟨h99a, h99c⟩ := Wm h99
                          have h99g := aaB h99a
                          have h99d := YW (f := za.pv) h99c
                          try simp only [Int.toNat_natCast, Int.reduceToNat, List.map_cons, List.map_nil, pvE] at h99d
                          obtain ⟨ase, h100, hh⟩ := ze hh
                          obtain ⟨h100a, h100c⟩ := z8 h100
                          have h100d := qO (f := za.pv) h100c
                          have h100e := qQ h100c
                          try simp only [List.length_cons, List.length_nil, Nat.zero_add, Nat.reduceAdd] at h100a h100e
                          try simp only [h100e] at h100a
                          try simp only [List.map_cons, List.map_nil, List.nil_append, List.append_nil, List.cons_append, List.singleton_append, zo, pvE] at h100d
                          obtain ⟨arY, h101, hh⟩ := ze hh
                          obtain ⟨h101a, h101c⟩ := z8 h101
                          have h101d := qO (f := za.pv) h101c
                          have h101e := qQ h101c
                          try simp only [List.length_cons, List.length_nil, Nat.zero_add, Nat.reduceAdd] at h101a h101e
                          try simp only [h101e] at h101a
                          try simp only [List.map_cons, List.map_nil, List.nil_append, List.append_nil, List.cons_append, List.singleton_append, zo, pvE] at h101d
                          refine zb fun K kk hK => ?_
                          simp only [go_sem, h99a.1, h99a.2.1, h99a.2.2, h99d, h99g, h100a, h100d, h100e, h101a, h101d, h101e, hl0a, hl0b, hl0d, hl0w]
                          (repeat refine sd ?_)
                          refine hK _ _ fun nx => ?_; clear hK K; try clear kk
                          refine zZ ?_; refine nmx ?_
                          refine arP ⟨rfl, _, (Option.some.inj hh), ?_⟩
                          first | exact ⟨_, _, _, _, _, _, rfl⟩ | (simp only [pvE, lsE, zo, h87e, h97e, h97d, h98e, h100e, h100d, h101e]; exact ⟨_, _, _, _, _, _, rfl⟩) | (simp only [pvE, lsE, zo, h87e, h97e, h97d, h98e, h100e, h100d, h101e, h77, h78, h89, h91, h93, h95, h96]; exact ⟨_, _, _, _, _, _, rfl⟩)
                        · rw [if_neg h96] at hh
                          replace h96 := Bool.eq_false_iff.mpr h96
                          refine zi (by first | exact congrArg PV.bool h96 | rfl) ?_
                          refine zt ?_; refine nmx ?_
                          refine kg ?_
                          refine zJ ?_
                          refine ⟨(Option.some.inj hh), ?_⟩
                          first | exact ⟨_, _, _, _, _, _, _, _, _, rfl⟩ | (simp only [pvE, lsE, zo, h87e]; exact ⟨_, _, _, _, _, _, _, _, _, rfl⟩) | (simp only [pvE, lsE, zo, h87e, h77, h78, h89, h91, h93, h95, h96]; exact ⟨_, _, _, _, _, _, _, _, _, rfl⟩)
                      · rw [if_neg h95] at hh
                        replace h95 := Bool.eq_false_iff.mpr h95
                        refine zb fun K kk hK => ?_
                        simp only [go_sem, h93, of_decide_eq_true h93, h94a, h94b, h94d, h94f.1, h94f.2, h95, hl0a, hl0b, hl0d, hl0w]
                        (repeat refine sd ?_)
                        refine hK _ _ fun nx => ?_; clear hK K; try clear kk
                        refine zi rfl ?_
                        refine zt ?_; refine nmx ?_
                        refine kg ?_
                        refine zJ ?_
                        refine ⟨(Option.some.inj hh), ?_⟩
                        first | exact ⟨_, _, _, _, _, _, _, _, _, rfl⟩ | (simp only [pvE, lsE, zo, h87e]; exact ⟨_, _, _, _, _, _, _, _, _, rfl⟩) | (simp only [pvE, lsE, zo, h87e, h77, h78, h89, h91, h93, h95]; exact ⟨_, _, _, _, _, _, _, _, _, rfl⟩)
                    · rw [if_neg h93] at hh
                      replace h93 := Bool.eq_false_iff.mpr h93
                      refine zb fun K kk hK => ?_
                      simp only [go_sem, h93, of_decide_eq_false h93, hl0a, hl0b, hl0d, hl0w]
                      (repeat refine sd ?_)
                      refine hK _ _ fun nx => ?_; clear hK K; try clear kk
                      refine zi rfl ?_
                      refine zt ?_; refine nmx ?_
                      refine kg ?_
                      refine zJ ?_
                      refine ⟨(Option.some.inj hh), ?_⟩
                      first | exact ⟨_, _, _, _, _, _, _, _, _, rfl⟩ | (simp only [pvE, lsE, zo, h87e]; exact ⟨_, _, _, _, _, _, _, _, _, rfl⟩) | (simp only [pvE, lsE, zo, h87e, h77, h78, h89, h91, h93]; exact ⟨_, _, _, _, _, _, _, _, _, rfl⟩)
                  · rintro s ⟨rfl, auM, nx, g2, g3, g4, g5, g11, g332, g381, rfl⟩
                    try dsimp only at hh
                    refine zm ?_
                    by_cases h102 : (decide ((w64 ((y5.length : Int) - (1 : Int))) ≥ (0 : Int))) = true
                    · rw [if_pos h102] at hh
                      obtain ⟨aj4, h103, hh⟩ := ze hh
                      obtain ⟨h103a, h103b, h103c⟩ := rd_some h103
                      have h103d := vD (f := za.pv) h103c
                      have h103f := wY (f := za.pv) h103c
                      try simp only [Int.toNat_natCast, Int.reduceToNat] at h103d h103f
                      by_cases h104 : (aj4.Kind == ([108, 105, 115, 116] : Str)) = true
                      · rw [if_pos h104] at hh
                        obtain ⟨Yq, h105, hh⟩ := ze hh
                        refine zb fun K kk hK => ?_
                        simp only [go_sem, h102, of_decide_eq_true h102, h103a, h103b, h103d, h103f.1, h103f.2, h104, hl0a, hl0b, hl0d, hl0w]
                        (repeat refine sd ?_)
                        refine zf (XO _ _ h105) (by (try simp only [go_sem, h102, of_decide_eq_true h102, h103a, h103b, h103d, h103f.1, h103f.2, h104, hl0a, hl0b, hl0d, hl0w]) <;> exact wkl) (by rfl) (by rfl) ?_
                        simp only [go_sem, h102, of_decide_eq_true h102, h103a, h103b, h103d, h103f.1, h103f.2, h104, hl0a, hl0b, hl0d, hl0w]
                        (repeat refine sd ?_)
                        refine hK _ _ fun nx => ?_; clear hK K; try clear kk
                        by_cases h106 : (decide (Yq < (30 : Int))) = true
                        · rw [if_pos h106] at hh
                          refine zn (by first | exact congrArg PV.bool h106 | rfl) ?_
                          obtain ⟨arV, h107, hh⟩ := ze hh
                          obtain ⟨h107a, h107c⟩ := z8 h107
                          have h107d := qO (f := za.pv) h107c
                          have h107e := (qQ h107c).symm
                          try simp only [List.length_cons, List.length_nil, Nat.zero_add, Nat.reduceAdd] at h107a h107e
                          try simp only [List.map_cons, List.map_nil, List.nil_append, List.append_nil, List.cons_append, List.singleton_append, zo, pvE] at h107d
                          have h107g := ak9 (f := za.pv) h107e
                          have h107h := ap6 h107e h107a
                          refine zb fun K kk hK => ?_
                          simp only [go_sem, h103a, h103b, h103d, h103f.1, h103f.2, h107a, h107d, eq_true h107e, eq_true (Nat.le_of_eq h107e.symm), h107g, hl0a, hl0b, hl0d, hl0w]
                          (repeat refine sd ?_)
                          refine hK _ _ fun nx => ?_; clear hK K; try clear kk
                          obtain ⟨arU, h108, hh⟩ := ze hh
                          obtain ⟨h108a, h108c⟩ := Wm h108
                          have h108g := aaB h108a
                          have h108d := YW (f := za.pv) h108c
                          try simp only [Int.toNat_natCast, Int.reduceToNat, List.map_cons, List.map_nil, pvE] at h108d
                          obtain ⟨ass, h109, hh⟩ := ze hh
                          obtain ⟨h109a, h109c⟩ := z8 h109
                          have h109d := qO (f := za.pv) h109c
                          have h109e := qQ h109c
                          try simp only [List.length_cons, List.length_nil, Nat.zero_add, Nat.reduceAdd] at h109a h109e
                          try simp only [h109e] at h109a
                          try simp only [List.map_cons, List.map_nil, List.nil_append, List.append_nil, List.cons_append, List.singleton_append, zo, pvE] at h109d
                          refine zq fun K kk hK => ?_
                          simp only [go_sem, h108a.1, h108a.2.1, h108a.2.2, h108d, h108g, h109a, h109d, h109e, eq_true h107e, eq_true (Nat.le_of_eq h107e.symm), h107g, hl0a, hl0b, hl0d, hl0w]
                          (repeat refine sd ?_)
                          refine hK _ _ fun nx => ?_; clear hK K; try clear kk
                          refine nmx ?_
                          obtain ⟨asR, h110, hh⟩ := ze hh
                          obtain ⟨h110a, h110c⟩ := z8 h110
                          have h110d := qO (f := za.pv) h110c
                          have h110e := qQ h110c
                          try simp only [List.length_cons, List.length_nil, Nat.zero_add, Nat.reduceAdd] at h110a h110e
                          try simp only [h110e] at h110a
                          try simp only [List.map_cons, List.map_nil, List.nil_append, List.append_nil, List.cons_append, List.singleton_append, zo, pvE] at h110d
                          refine zq fun K kk hK => ?_
                          simp only [go_sem, h110a, h110d, h110e, eq_true h107e, eq_true (Nat.le_of_eq h107e.symm), h107g, hl0a, hl0b, hl0d, hl0w]
                          (repeat refine sd ?_)
                          refine hK _ _ fun nx => ?_; clear hK K; try clear kk
                          refine nmx ?_
                          refine zq fun K kk hK => ?_
                          simp only [go_sem, eq_true h107e, eq_true (Nat.le_of_eq h107e.symm), h107g, hl0a, hl0b, hl0d, hl0w]
                          refine hK _ _ fun nx => ?_; clear hK K; try clear kk
                          refine nmx ?_
                          have ih' := ih (pre ++ [adO]) (Q5 + 1) _ _ (by rw [hsplit]; simp) (by simp [hidx]) hh nx
                          refine zJ ?_
                          first | exact ih' _ _ _ _ _ | (simp only [pvE, lsE, zo, h87e, h107e, h109e, h109d, h110e] at ih' ⊢; exact ih' _ _ _ _ _) | (simp only [pvE, lsE, zo, h87e, h107e, h109e, h109d, h110e, h102, h104, h106, h77, h78, h89, h91] at ih' ⊢; exact ih' _ _ _ _ _)
                        · rw [if_neg h106] at hh
                          replace h106 := Bool.eq_false_iff.mpr h106
                          refine zi (by first | exact congrArg PV.bool h106 | rfl) ?_
                          refine zt ?_; refine nmx ?_
                          obtain ⟨asa, h111, hh⟩ := ze hh
                          obtain ⟨h111a, h111c⟩ := z8 h111
                          have h111d := qO (f := za.pv) h111c
                          have h111e := qQ h111c
                          try simp only [List.length_cons, List.length_nil, Nat.zero_add, Nat.reduceAdd] at h111a h111e
                          try simp only [h111e] at h111a
                          try simp only [List.map_cons, List.map_nil, List.nil_append, List.append_nil, List.cons_append, List.singleton_append, zo, pvE] at h111d
                          refine zq fun K kk hK => ?_
                          simp only [go_sem, h111a, h111d, h111e, hl0a, hl0b, hl0d, hl0w]
                          (repeat refine sd ?_)
                          refine hK _ _ fun nx => ?_; clear hK K; try clear kk
                          refine nmx ?_
                          refine zq fun K kk hK => ?_
                          simp only [go_sem, hl0a, hl0b, hl0d, hl0w]
                          refine hK _ _ fun nx => ?_; clear hK K; try clear kk
                          refine nmx ?_
                          have ih' := ih (pre ++ [adO]) (Q5 + 1) _ _ (by rw [hsplit]; simp) (by simp [hidx]) hh nx
                          refine zJ ?_
                          first | exact ih' _ _ _ _ _ | (simp only [pvE, lsE, zo, h87e, h111e] at ih' ⊢; exact ih' _ _ _ _ _) | (simp only [pvE, lsE, zo, h87e, h111e, h102, h104, h106, h77, h78, h89, h91] at ih' ⊢; exact ih' _ _ _ _ _)
                      · rw [if_neg h104] at hh
                        replace h104 := Bool.eq_false_iff.mpr h104
                        refine zb fun K kk hK => ?_
                        simp only [go_sem, h102, of_decide_eq_true h102, h103a, h103b, h103d, h103f.1, h103f.2, h104, hl0a, hl0b, hl0d, hl0w]
                        (repeat refine sd ?_)
                        refine hK _ _ fun nx => ?_; clear hK K; try clear kk
                        refine zi rfl ?_
                        refine zt ?_; refine nmx ?_
                        obtain ⟨asB, h112, hh⟩ := ze hh
                        obtain ⟨h112a, h112c⟩ := z8 h112
                        have h112d := qO (f := za.pv) h112c
                        have h112e := qQ h112c
                        try simp only [List.length_cons, List.length_nil, Nat.zero_add, Nat.reduceAdd] at h112a h112e
                        try simp only [h112e] at h112a
                        try simp only [List.map_cons, List.map_nil, List.nil_append, List.append_nil, List.cons_append, List.singleton_append, zo, pvE] at h112d
                        refine zq fun K kk hK => ?_
                        simp only [go_sem, h112a, h112d, h112e, hl0a, hl0b, hl0d, hl0w]
                        (repeat refine sd ?_)
                        refine hK _ _ fun nx => ?_; clear hK K; try clear kk
                        refine nmx ?_
                        refine zq fun K kk hK => ?_
                        simp only [go_sem, hl0a, hl0b, hl0d, hl0w]
                        refine hK _ _ fun nx => ?_; clear hK K; try clear kk
                        refine nmx ?_
                        have ih' := ih (pre ++ [adO]) (Q5 + 1) _ _ (by rw [hsplit]; simp) (by simp [hidx]) hh nx
                        refine zJ ?_
                        first | exact ih' _ _ _ _ _ | (simp only [pvE, lsE, zo, h87e, h112e] at ih' ⊢; exact ih' _ _ _ _ _) | (simp only [pvE, lsE, zo, h87e, h112e, h102, h104, h77, h78, h89, h91] at ih' ⊢; exact ih' _ _ _ _ _)
                    · rw [if_neg h102] at hh
                      replace h102 := Bool.eq_false_iff.mpr h102
                      refine zb fun K kk hK => ?_
                      simp only [go_sem, h102, of_decide_eq_false h102, hl0a, hl0b, hl0d, hl0w]
                      (repeat refine sd ?_)
                      refine hK _ _ fun nx => ?_; clear hK K; try clear kk
                      refine zi rfl ?_
                      refine zt ?_; refine nmx ?_
                      obtain ⟨asW, h113, hh⟩ := ze hh
                      obtain ⟨h113a, h113c⟩ := z8 h113
                      have h113d := qO (f := za.pv) h113c
                      have h113e := qQ h113c
                      try simp only [List.length_cons, List.length_nil, Nat.zero_add, Nat.reduceAdd] at h113a h113e
                      try simp only [h113e] at h113a
                      try simp only [List.map_cons, List.map_nil, List.nil_append, List.append_nil, List.cons_append, List.singleton_append, zo, pvE] at h113d
                      refine zq fun K kk hK => ?_
                      simp only [go_sem, h113a, h113d, h113e, hl0a, hl0b, hl0d, hl0w]
                      (repeat refine sd ?_)
                      refine hK _ _ fun nx => ?_; clear hK K; try clear kk
                      refine nmx ?_
                      refine zq fun K kk hK => ?_
                      simp only [go_sem, hl0a, hl0b, hl0d, hl0w]
                      refine hK _ _ fun nx => ?_; clear hK K; try clear kk
                      refine nmx ?_
                      have ih' := ih (pre ++ [adO]) (Q5 + 1) _ _ (by rw [hsplit]; simp) (by simp [hidx]) hh nx
                      refine zJ ?_
                      first | exact ih' _ _ _ _ _ | (simp only [pvE, lsE, zo, h87e, h113e] at ih' ⊢; exact ih' _ _ _ _ _) | (simp only [pvE, lsE, zo, h87e, h113e, h102, h77, h78, h89, h91] at ih' ⊢; exact ih' _ _ _ _ _)
                  · intro i s h
                    obtain ⟨rfl, alg, rfl, nx, g2, g3, g4, g5, g332, rfl⟩ := h
                    try dsimp only at hh
                    refine nmx ?_
                    refine zq fun K kk hK => ?_
                    simp only [go_sem, hl0a, hl0b, hl0d, hl0w]
                    refine hK _ _ fun nx => ?_; clear hK K; try clear kk
                    refine nmx ?_
                    have ih' := ih (pre ++ [adO]) (Q5 + 1) _ _ (by rw [hsplit]; simp) (by simp [hidx]) hh nx
                    refine zJ ?_
                    first | exact ih' _ _ _ _ _ | (simp only [pvE, lsE, zo, h87e] at ih' ⊢; exact ih' _ _ _ _ _) | (simp only [pvE, lsE, zo, h87e, h77, h78, h89, h91] at ih' ⊢; exact ih' _ _ _ _ _)
                  · intro s h; exact h.elim
            · intro i s h; exact h.elim
            · intro s h; exact h.elim
          · intro i s h; exact h.elim
          · intro s h; exact h.elim
        · rw [if_neg h78] at hh
          replace h78 := Bool.eq_false_iff.mpr h78
          refine zi (by first | exact congrArg PV.bool h78 | rfl) ?_
          refine zZ ?_; refine nmx ?_
          refine kg ?_
          refine zJ ?_
          refine ⟨_, (Option.some.inj hh), ?_⟩
          first | exact ⟨_, _, _, _, _, _, _, _, _, rfl⟩ | (simp only [pvE, lsE, zo]; exact ⟨_, _, _, _, _, _, _, _, _, rfl⟩) | (simp only [pvE, lsE, zo, h77, h78]; exact ⟨_, _, _, _, _, _, _, _, _, rfl⟩)
    exact key l_1 [] _ _ _ rfl rfl f0 _ _ _ _ _ _
  · rintro s ⟨t, hless, aoP, rfl, au8, au0, ahA, nx, g2, g3, g4, g5, g332, rfl⟩
    try dsimp only at hh
    refine nmy ?_
    first | (refine qR hless ?_; try refine wT ?_) | refine qC hless ?_ | refine qE hless ?_
    refine zb fun K kk hK => ?_
    simp only [go_sem]
    refine hK _ _ fun nx => ?_; clear hK K; try clear kk
    refine zk ?_; refine nmx ?_
    obtain hR := Option.some.inj hh
    subst hR
    exact zy
  · intro i s h; exact h.elim
  · intro s h; exact h.elim
theorem aab (r_1 : zg) (zH : zz) (R : Bool) (hh : Q4 r_1 zH = some R) : BC Tryd.prog 59 [.agg [.int .i64 r_1.Pos, .int .i64 r_1.Old, .int .i64 r_1.New], .box 1000 0 0] [.var 39 [.int .u8 zH.Kind, .int .i64 zH.From, .int .i64 zH.To, .list 5 (zH.qK.map za.pv), .str zH.Name, .str zH.Value]] (.bool R) [.var 39 [.int .u8 zH.Kind, .int .i64 zH.From, .int .i64 zH.To, .list 5 (zH.qK.map za.pv), .str zH.Name, .str zH.Value]] := by
  rw [Q4] at hh
  refine Xc rfl rfl rfl ?_
  refine zb fun K kk hK => ?_
  simp only [go_sem]
  refine hK _ _ fun nx => ?_; clear hK K; try clear kk
  by_cases h1 : (decide (r_1.Old > (0 : Int))) = true
  · rw [if_pos h1] at hh
    refine zb fun K kk hK => ?_
    simp only [go_sem, h1, of_decide_eq_true h1]
    (repeat refine sd ?_)
    refine hK _ _ fun nx => ?_; clear hK K; try clear kk
    refine zk ?_; refine nmx ?_
    obtain hR := Option.some.inj hh
    subst hR
    refine ku ?_ (by rfl) ?_
    · simp only [go_sem, qV, jf, wP, kM, yl, List.map_cons, List.map_append, List.head?_cons, h1]
      all_goals exact wkw
    · (try simp only [go_sem, h1]); (try simp only [List.length_append, List.map_append]); all_goals exact wkb
  · rw [if_neg h1] at hh
    replace h1 := Bool.eq_false_iff.mpr h1
    refine zb fun K kk hK => ?_
    simp only [go_sem, h1, of_decide_eq_false h1]
    (repeat refine sd ?_)
    refine hK _ _ fun nx => ?_; clear hK K; try clear kk
    refine zk ?_; refine nmx ?_
    obtain hR := Option.some.inj hh
    subst hR
    refine ku ?_ (by rfl) ?_
    · simp only [go_sem, qV, jf, wP, kM, yl, List.map_cons, List.map_append, List.head?_cons, h1]
      all_goals exact wkw
    · (try simp only [go_sem, h1]); (try simp only [List.length_append, List.map_append]); all_goals exact wkb
end Go.Proofs.YtclohbgnaopjfaaDoor
