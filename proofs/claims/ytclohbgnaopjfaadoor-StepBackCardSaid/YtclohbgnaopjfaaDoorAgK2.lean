/- Texts of the proof of stepBackCard -/
import Derived.Test.YtclohbgnaopjfaaDoorAgC
import Derived.Test.YtclohbgnaopjfaaDoorAgF
import Derived.Test.YtclohbgnaopjfaaDoorAgK0
import Derived.Test.YtclohbgnaopjfaaDoorAgK1
import Derived.Test.YtclohbgnaopjfaaDoorAgL
namespace Go.Proofs.YtclohbgnaopjfaaDoor
set_option linter.unusedSimpArgs false
set_option linter.unusedVariables false
open Go
set_option maxRecDepth 100000
theorem Wn (n_1 : za) (VN : Int) (R : (wB × Int)) (hh : ku n_1 VN = some R) : PC Tryd.prog 97 [.agg [.str n_1.Kind, .str n_1.Text, .list 1 (n_1.Marks.map PV.str), .list 2 (n_1.zo.map zg.pv), .list 5 (n_1.Kids.map za.pv)], .int .i64 VN] (.tup [.agg [.list 1 (R.1.Path.map (PV.int .i64)), .int .i64 R.1.Index, .int .i64 R.1.Offset], .int .i64 R.2]) := by
 rw [ku] at hh
 refine aaK rfl ?_
 refine zb fun K kk hK => ?_
 simp only [go_sem]
 refine hK _ _ fun nx => ?_; clear hK K; try clear kk
 refine ap1 ?_
 refine zm ?_
 by_cases h1 : (n_1.Kind == ([116, 101, 120, 116] : Str)) = true
 ·rw [if_pos h1] at hh
  refine zb fun K kk hK => ?_
  simp only [go_sem, h1]
  (repeat refine sd ?_)
  refine hK _ _ fun nx => ?_; clear hK K; try clear kk
  refine zn rfl ?_
  refine zb fun K kk hK => ?_
  simp only [go_sem]
  refine hK _ _ fun nx => ?_; clear hK K; try clear kk
  refine zi ?_; refine nmx ?_
  obtain hR := Option.some.inj hh
  subst hR
  exact zy
 ·rw [if_neg h1] at hh
  replace h1 := Bool.eq_false_iff.mpr h1
  by_cases h2 : (decide (VN < (0 : Int))) = true
  ·rw [if_pos h2] at hh
   refine zb fun K kk hK => ?_
   simp only [go_sem, h1, h2, of_decide_eq_true h2]
   (repeat refine sd ?_)
   refine hK _ _ fun nx => ?_; clear hK K; try clear kk
   refine zn rfl ?_
   refine zb fun K kk hK => ?_
   simp only [go_sem]
   refine hK _ _ fun nx => ?_; clear hK K; try clear kk
   refine zi ?_; refine nmx ?_
   obtain hR := Option.some.inj hh
   subst hR
   exact zy
  ·rw [if_neg h2] at hh
   replace h2 := Bool.eq_false_iff.mpr h2
   obtain ⟨Qx, h3, hh⟩ := zf hh
   refine zb fun K kk hK => ?_
   simp only [go_sem, h1, h2, of_decide_eq_false h2]
   (repeat refine sd ?_)
   refine ze (xw _ _ h3) (by (try simp only [go_sem, h1, h2, of_decide_eq_false h2]) <;> exact wkl) (by rfl) (by rfl) ?_
   simp only [go_sem, h1, h2, of_decide_eq_false h2]
   (repeat refine sd ?_)
   refine hK _ _ fun nx => ?_; clear hK K; try clear kk
   by_cases h4 : (decide (VN > Qx)) = true
   ·rw [if_pos h4] at hh
    refine zn (by first | exact congrArg PV.bool h4 | rfl) ?_
    refine zb fun K kk hK => ?_
    simp only [go_sem]
    refine hK _ _ fun nx => ?_; clear hK K; try clear kk
    refine zi ?_; refine nmx ?_
    obtain hR := Option.some.inj hh
    subst hR
    exact zy
   ·rw [if_neg h4] at hh
    replace h4 := Bool.eq_false_iff.mpr h4
    refine zh (by first | exact congrArg PV.bool h4 | rfl) ?_
    refine zx ?_; refine nmx ?_
    refine zb fun K kk hK => ?_
    simp only [go_sem]
    refine hK _ _ fun nx => ?_; clear hK K; try clear kk
    refine zm ?_
    refine ap3 ?_; refine nmx ?_
    obtain ⟨e0, f0, hh⟩ := zf hh
    refine qz (kv (fun s => False))
     (fun i s => False)
     (fun s => ∃ YQ, YQ = e0 ∧ zS Tryd.prog [.cell 4 149, .tmp 5] (.tup [.agg [.list 1 (YQ.1.Path.map (PV.int .i64)), .int .i64 YQ.1.Index, .int .i64 YQ.1.Offset], .int .i64 YQ.2]) [] .ret s) ?_ ?_ ?_ ?_
    ·refine zC ?_
     refine qh fun I hI => ?_
     obtain ⟨k, f0⟩ := xZ f0
     have key : ∀ (k : Nat) (aeq : Int) (QW : za) (X8 : (List Int)), kC k aeq QW X8 = some e0 → ∀ (nx : Nat) (g2 : Nat) (g4 : Nat) (g6 : Nat) (g342 : Nat), I ⟨[(1, .int .i64 aeq), (2, .box 2 g2 0), (4, .box 4 g4 0), (6, .box 6 g6 0)], [(2, g2, .var 28 [.str QW.Kind, .str QW.Text, .list 1 (QW.Marks.map PV.str), .list 2 (QW.zo.map zg.pv), .list 5 (QW.Kids.map za.pv)]), (4, g4, .var 149 [.list 1 ([].map (PV.int .i64)), .int .i64 (0 : Int), .int .i64 (0 : Int)]), (6, g6, .var 149 [.row 342 g342 X8.length, .int .i64 (0 : Int), .int .i64 (0 : Int)]), (342, g342, .row false 1 (X8.map (PV.int .i64)))], nx⟩ := by
      intro k
      induction k with
      | zero => intro aeq QW X8 hh; rw [kC] at hh; cases hh
      | succ k ih =>
       intro aeq QW X8 hh nx g2 g4 g6 g342
       rw [kC] at hh
       refine hI _ ?_
       refine zC ?_
       refine zm ?_
       refine zb fun K kk hK => ?_
       simp only [go_sem]
       refine hK _ _ fun nx => ?_; clear hK K; try clear kk
       obtain ⟨e2, f2, hh⟩ := zf hh
       obtain ⟨hlen2, f2⟩ := z8 f2
       refine qz (kv (fun s => .inr (.inr ()) = e2 ∧ ∃ (atx : Int) (ato : Int) (aw9 : Bool) (nx : Nat) (g2 : Nat) (g4 : Nat) (g6 : Nat) (g342 : Nat), s = ⟨[(1, .int .i64 atx), (2, .box 2 g2 0), (4, .box 4 g4 0), (6, .box 6 g6 0), (26, .list 5 (QW.Kids.map za.pv)), (27, .int .i64 (QW.Kids.length : Int)), (28, .int .i64 ato), (29, .bool aw9)], [(2, g2, .var 28 [.str QW.Kind, .str QW.Text, .list 1 (QW.Marks.map PV.str), .list 2 (QW.zo.map zg.pv), .list 5 (QW.Kids.map za.pv)]), (4, g4, .var 149 [.list 1 ([].map (PV.int .i64)), .int .i64 (0 : Int), .int .i64 (0 : Int)]), (6, g6, .var 149 [.row 342 g342 X8.length, .int .i64 (0 : Int), .int .i64 (0 : Int)]), (342, g342, .row false 1 (X8.map (PV.int .i64)))], nx⟩))
        (fun i s => (i = 1 ∧ ∃ agJ, ∃ alf, ∃ Yj, .inr (.inl (agJ, alf, Yj)) = e2 ∧ ∃ (nx : Nat) (g2 : Nat) (g4 : Nat) (g6 : Nat) (g342 : Nat), s = ⟨[(1, .int .i64 agJ), (2, .box 2 g2 0), (4, .box 4 g4 0), (6, .box 6 g6 0)], [(2, g2, .var 28 [.str alf.Kind, .str alf.Text, .list 1 (alf.Marks.map PV.str), .list 2 (alf.zo.map zg.pv), .list 5 (alf.Kids.map za.pv)]), (4, g4, .var 149 [.list 1 ([].map (PV.int .i64)), .int .i64 (0 : Int), .int .i64 (0 : Int)]), (6, g6, .var 149 [.row 342 g342 Yj.length, .int .i64 (0 : Int), .int .i64 (0 : Int)]), (342, g342, .row false 1 (Yj.map (PV.int .i64)))], nx⟩))
        (fun s => ∃ Yw, .inl Yw = e2 ∧ zS Tryd.prog [.cell 4 149, .tmp 5] (.tup [.agg [.list 1 (Yw.1.Path.map (PV.int .i64)), .int .i64 Yw.1.Index, .int .i64 Yw.1.Offset], .int .i64 Yw.2]) [] .ret s) ?_ ?_ ?_ ?_
       ·refine zC ?_
        refine qh fun I hI => ?_
        have key : ∀ (suf pre : List za) (af2 : Int) (WG : Int), QW.Kids = pre ++ suf → af2 = (pre.length : Int) → qb X8 suf af2 WG = some e2 → ∀ (nx : Nat) (g2 : Nat) (g4 : Nat) (g6 : Nat) (g342 : Nat), I ⟨[(1, .int .i64 WG), (2, .box 2 g2 0), (4, .box 4 g4 0), (6, .box 6 g6 0), (26, .list 5 (QW.Kids.map za.pv)), (27, .int .i64 (QW.Kids.length : Int)), (28, .int .i64 af2)], [(2, g2, .var 28 [.str QW.Kind, .str QW.Text, .list 1 (QW.Marks.map PV.str), .list 2 (QW.zo.map zg.pv), .list 5 (QW.Kids.map za.pv)]), (4, g4, .var 149 [.list 1 ([].map (PV.int .i64)), .int .i64 (0 : Int), .int .i64 (0 : Int)]), (6, g6, .var 149 [.row 342 g342 X8.length, .int .i64 (0 : Int), .int .i64 (0 : Int)]), (342, g342, .row false 1 (X8.map (PV.int .i64)))], nx⟩ := by
         intro suf
         induction suf with
         | nil =>
          intro pre af2 WG hsplit hidx hh nx g2 g4 g6 g342
          rw [qb] at hh
          refine hI _ ?_
          have h39 := walk_nil hsplit hidx
          refine zb fun K kk hK => ?_
          simp only [go_sem]
          refine hK _ _ fun nx => ?_; clear hK K; try clear kk
          refine zm ?_
          refine zh (by first | exact congrArg PV.bool h39 | rfl) ?_
          refine zZ ?_; refine nmx ?_
          refine kN ?_
          refine zJ ?_
          refine ⟨(Option.some.inj hh), ?_⟩
          first | exact ⟨_, _, _, _, _, _, _, _, rfl⟩ | (simp only [pvE, lsE, zq]; exact ⟨_, _, _, _, _, _, _, _, rfl⟩) | (simp only [pvE, lsE, zq, h1, h2, h39, h4]; exact ⟨_, _, _, _, _, _, _, _, rfl⟩)
         | cons aqb suf ih =>
          intro pre af2 WG hsplit hidx hh nx g2 g4 g6 g342
          rw [qb] at hh
          refine hI _ ?_
          obtain ⟨hl2a, hl2b, hl2d, hl2w, h39⟩ := qI (f := za.pv) hsplit hidx hlen2
          refine zb fun K kk hK => ?_
          simp only [go_sem]
          refine hK _ _ fun nx => ?_; clear hK K; try clear kk
          refine zm ?_
          refine zn (by first | exact congrArg PV.bool h39 | rfl) ?_
          refine zx ?_; refine nmx ?_
          refine zm ?_
          refine zC ?_
          refine zb fun K kk hK => ?_
          simp only [go_sem, hl2a, hl2b, hl2d, hl2w]
          refine hK _ _ fun nx => ?_; clear hK K; try clear kk
          obtain ⟨agq, h40, hh⟩ := zf hh
          refine zb fun K kk hK => ?_
          simp only [go_sem, hl2a, hl2b, hl2d, hl2w]
          refine ze (ky _ _ h40) (by (try simp only [go_sem, hl2a, hl2b, hl2d, hl2w]) <;> exact wkl) (by rfl) (by rfl) ?_
          simp only [go_sem, hl2a, hl2b, hl2d, hl2w]
          refine hK _ _ fun nx => ?_; clear hK K; try clear kk
          refine zC ?_
          refine zb fun K kk hK => ?_
          simp only [go_sem, hl2a, hl2b, hl2d, hl2w]
          refine hK _ _ fun nx => ?_; clear hK K; try clear kk
          by_cases h41 : (decide (WG ≥ agq)) = true
          ·rw [if_pos h41] at hh
           refine zn (by first | exact congrArg PV.bool h41 | rfl) ?_
           refine zu fun K kk hK => ?_
           simp only [go_sem, hl2a, hl2b, hl2d, hl2w]
           refine hK _ _ fun nx => ?_; clear hK K; try clear kk
           refine nmx ?_
           refine zu fun K kk hK => ?_
           simp only [go_sem, hl2a, hl2b, hl2d, hl2w]
           refine hK _ _ fun nx => ?_; clear hK K; try clear kk
           refine nmx ?_
           have ih' := ih (pre ++ [aqb]) (af2 + 1) _ (by rw [hsplit]; simp) (by simp [hidx]) hh nx
           refine zJ ?_
           first | exact ih' _ _ _ _ | (simp only [pvE, lsE, zq] at ih' ⊢; exact ih' _ _ _ _) | (simp only [pvE, lsE, zq, h1, h2, h39, h4, h41] at ih' ⊢; exact ih' _ _ _ _)
          ·rw [if_neg h41] at hh
           replace h41 := Bool.eq_false_iff.mpr h41
           refine zh (by first | exact congrArg PV.bool h41 | rfl) ?_
           refine zb fun K kk hK => ?_
           simp only [go_sem, hl2a, hl2b, hl2d, hl2w]
           refine hK _ _ fun nx => ?_; clear hK K; try clear kk
           by_cases h42 : (aqb.Kind == ([116, 101, 120, 116] : Str)) = true
           ·rw [if_pos h42] at hh
            refine zn (by first | exact congrArg PV.bool h42 | rfl) ?_
            refine zb fun K kk hK => ?_
            simp only [go_sem, hl2a, hl2b, hl2d, hl2w]
            refine hK _ _ fun nx => ?_; clear hK K; try clear kk
            refine zb fun K kk hK => ?_
            simp only [go_sem, hl2a, hl2b, hl2d, hl2w]
            refine hK _ _ fun nx => ?_; clear hK K; try clear kk
            refine zi ?_; refine nmx ?_
            refine QD ⟨_, (Option.some.inj hh), ?_⟩
            exact zy
           ·rw [if_neg h42] at hh
            replace h42 := Bool.eq_false_iff.mpr h42
            refine zh (by first | exact congrArg PV.bool h42 | rfl) ?_
            refine zb fun K kk hK => ?_
            simp only [go_sem, hl2a, hl2b, hl2d, hl2w]
            refine hK _ _ fun nx => ?_; clear hK K; try clear kk
            by_cases h43 : (WG == (0 : Int)) = true
            ·rw [if_pos h43] at hh
             refine zn (by first | exact congrArg PV.bool h43 | rfl) ?_
             refine zb fun K kk hK => ?_
             simp only [go_sem, hl2a, hl2b, hl2d, hl2w]
             refine hK _ _ fun nx => ?_; clear hK K; try clear kk
             refine zb fun K kk hK => ?_
             simp only [go_sem, hl2a, hl2b, hl2d, hl2w]
             refine hK _ _ fun nx => ?_; clear hK K; try clear kk
             refine zi ?_; refine nmx ?_
             refine QD ⟨_, (Option.some.inj hh), ?_⟩
             exact zy
            ·rw [if_neg h43] at hh
             replace h43 := Bool.eq_false_iff.mpr h43
             refine zh (by first | exact congrArg PV.bool h43 | rfl) ?_
             obtain ⟨arK, h44, hh⟩ := zf hh
             obtain ⟨h44a, h44c⟩ := zX h44
             have h44d := qP (f := (PV.int .i64)) h44c
             have h44e := qQ h44c
             try simp only [List.length_cons, List.length_nil, Nat.zero_add, Nat.reduceAdd] at h44a h44e
             try simp only [h44e] at h44a
             try simp only [List.map_cons, List.map_nil, List.nil_append, List.append_nil, List.cons_append, List.singleton_append, zq, pvE] at h44d
             refine zb fun K kk hK => ?_
             simp only [go_sem, h44a, h44d, h44e, hl2a, hl2b, hl2d, hl2w]
             (repeat refine sd ?_)
             refine hK _ _ fun nx => ?_; clear hK K; try clear kk
             refine zb fun K kk hK => ?_
             simp only [go_sem, hl2a, hl2b, hl2d, hl2w]
             refine hK _ _ fun nx => ?_; clear hK K; try clear kk
             refine zZ ?_; refine nmx ?_
             refine atf ⟨rfl, _, _, _, (Option.some.inj hh), ?_⟩
             first | exact ⟨_, _, _, _, _, rfl⟩ | (simp only [pvE, lsE, zq, h44e]; exact ⟨_, _, _, _, _, rfl⟩) | (simp only [pvE, lsE, zq, h44e, h1, h2, h39, h4, h41, h42, h43]; exact ⟨_, _, _, _, _, rfl⟩)
        exact key QW.Kids [] _ _ rfl rfl f2 _ _ _ _ _
       ·rintro s ⟨t, hless, rfl, atx, ato, aw9, nx, g2, g4, g6, g342, rfl⟩
        try dsimp only at hh
        refine nmy ?_
        first | (refine wm hless ?_; try refine kz ?_) | refine qH hless ?_ | refine qG hless ?_
        refine zb fun K kk hK => ?_
        simp only [go_sem]
        refine hK _ _ fun nx => ?_; clear hK K; try clear kk
        refine zb fun K kk hK => ?_
        simp only [go_sem]
        refine hK _ _ fun nx => ?_; clear hK K; try clear kk
        refine zi ?_; refine nmx ?_
        refine QD ⟨_, (Option.some.inj hh), ?_⟩
        exact zy
       ·intro i s h
        obtain ⟨rfl, agJ, alf, Yj, rfl, nx, g2, g4, g6, g342, rfl⟩ := h
        try dsimp only at hh
        refine nmx ?_
        have ih' := ih _ _ _ hh nx
        refine zJ ?_
        first | exact ih' _ _ _ _ | (simp only [pvE, lsE, zq] at ih' ⊢; exact ih' _ _ _ _) | (simp only [pvE, lsE, zq, h1, h2, h4] at ih' ⊢; exact ih' _ _ _ _)
       ·rintro s ⟨Yw, rfl, hb⟩
        try dsimp only at hh
        refine nmx ?_
        exact QD ⟨_, (Option.some.inj hh), hb⟩
     exact key _ _ _ _ f0 _ _ _ _ _
    ·rintro s ⟨_, _, h⟩; exact h.elim
    ·intro i s h; exact h.elim
    ·rintro s ⟨YQ, rfl, hb⟩
     try dsimp only at hh
     obtain hR := Option.some.inj hh
     subst hR
     refine nmx ?_
     exact hb
theorem aht (n_1 : za) (VN : Int) (R : ((List Int) × Bool)) (hh : xL n_1 VN = some R) : PC Tryd.prog 74 [.agg [.str n_1.Kind, .str n_1.Text, .list 1 (n_1.Marks.map PV.str), .list 2 (n_1.zo.map zg.pv), .list 5 (n_1.Kids.map za.pv)], .int .i64 VN] (.tup [.list 1 (R.1.map (PV.int .i64)), .bool R.2]) := by
 rw [xL] at hh
 refine ac5 rfl ?_
 refine zb fun K kk hK => ?_
 simp only [go_sem]
 refine hK _ _ fun nx => ?_; clear hK K; try clear kk
 refine zm ?_
 refine zb fun K kk hK => ?_
 simp only [go_sem]
 refine hK _ _ fun nx => ?_; clear hK K; try clear kk
 by_cases h1 : (VN == (-1 : Int)) = true
 ·rw [if_pos h1] at hh
  refine zn (by first | exact congrArg PV.bool h1 | rfl) ?_
  refine zb fun K kk hK => ?_
  simp only [go_sem]
  refine hK _ _ fun nx => ?_; clear hK K; try clear kk
  refine zi ?_; refine nmx ?_
  obtain hR := Option.some.inj hh
  subst hR
  exact zy
 ·rw [if_neg h1] at hh
  replace h1 := Bool.eq_false_iff.mpr h1
  refine zh (by first | exact congrArg PV.bool h1 | rfl) ?_
  refine zx ?_; refine nmx ?_
  obtain ⟨⟨r_3, r_4⟩, h2, hh⟩ := zf hh
  dsimp only at hh
  refine zb fun K kk hK => ?_
  simp only [go_sem]
  refine ze (Wn _ _ _ h2) (by (try simp only [go_sem]) <;> exact wkl) (by rfl) (by rfl) ?_
  simp only [go_sem]
  refine hK _ _ fun nx => ?_; clear hK K; try clear kk
  refine zm ?_
  by_cases h3 : (r_4 != (0 : Int)) = true
  ·rw [if_pos h3] at hh
   refine zb fun K kk hK => ?_
   simp only [go_sem, h3]
   (repeat refine sd ?_)
   refine hK _ _ fun nx => ?_; clear hK K; try clear kk
   refine zn rfl ?_
   refine zb fun K kk hK => ?_
   simp only [go_sem]
   refine hK _ _ fun nx => ?_; clear hK K; try clear kk
   refine zi ?_; refine nmx ?_
   obtain hR := Option.some.inj hh
   subst hR
   exact zy
  ·rw [if_neg h3] at hh
   replace h3 := Bool.eq_false_iff.mpr h3
   refine zb fun K kk hK => ?_
   simp only [go_sem, h3]
   (repeat refine sd ?_)
   refine hK _ _ fun nx => ?_; clear hK K; try clear kk
   by_cases h4 : (decide (r_3.Offset > (0 : Int))) = true
   ·rw [if_pos h4] at hh
    refine zn (by first | exact congrArg PV.bool h4 | rfl) ?_
    refine zb fun K kk hK => ?_
    simp only [go_sem]
    refine hK _ _ fun nx => ?_; clear hK K; try clear kk
    refine zi ?_; refine nmx ?_
    obtain hR := Option.some.inj hh
    subst hR
    exact zy
   ·rw [if_neg h4] at hh
    replace h4 := Bool.eq_false_iff.mpr h4
    refine zh (by first | exact congrArg PV.bool h4 | rfl) ?_
    refine zx ?_; refine nmx ?_
    obtain ⟨au9, h5, hh⟩ := zf hh
    obtain ⟨l_6, h6, hh⟩ := zf hh
    obtain ⟨h6a, h6c⟩ := zX h6
    have h6d := qP (f := (PV.int .i64)) h6c
    have h6e := qQ h6c
    try simp only [List.length_cons, List.length_nil, Nat.zero_add, Nat.reduceAdd] at h6a h6e
    try simp only [h6e] at h6a
    try simp only [List.map_cons, List.map_nil, List.nil_append, List.append_nil, List.cons_append, List.singleton_append, zq, pvE] at h6d
    refine zb fun K kk hK => ?_
    simp only [go_sem, h6a, h6d, h6e]
    (repeat refine sd ?_)
    refine ace [] (by decide) (by decide) (aaJ _ _ h5) (by (try simp only [go_sem, h6a, h6d, h6e, h1, h3, h4]) <;> exact wkb) (by rfl) (by rfl) ?_
    simp only [go_sem, h6a, h6d, h6e]
    (repeat refine sd ?_)
    refine hK _ _ fun nx => ?_; clear hK K; try clear kk
    obtain ⟨⟨r_7, r_8⟩, h7, hh⟩ := zf hh
    dsimp only at hh
    refine zb fun K kk hK => ?_
    simp only [go_sem]
    refine ze (yH _ _ _ h7) (by (try simp only [go_sem]) <;> exact wkl) (by rfl) (by rfl) ?_
    simp only [go_sem]
    refine hK _ _ fun nx => ?_; clear hK K; try clear kk
    refine zb fun K kk hK => ?_
    simp only [go_sem]
    refine hK _ _ fun nx => ?_; clear hK K; try clear kk
    refine zi ?_; refine nmx ?_
    obtain hR := Option.some.inj hh
    subst hR
    exact zy
theorem af8 (a_1 : zg) (qW : zz) (R : Bool) (hh : KY a_1 qW = some R) : BC Tryd.prog 77 [.agg [.str a_1.Name, .str a_1.Value], .box 1000 0 0] [.var 39 [.int .u8 qW.Kind, .int .i64 qW.From, .int .i64 qW.To, .list 5 (qW.wC.map za.pv), .str qW.Name, .str qW.Value]] (.bool R) [.var 39 [.int .u8 qW.Kind, .int .i64 qW.From, .int .i64 qW.To, .list 5 (qW.wC.map za.pv), .str qW.Name, .str qW.Value]] := by
 rw [KY] at hh
 refine ab6 rfl rfl rfl ?_
 refine zb fun K kk hK => ?_
 simp only [go_sem]
 refine hK _ _ fun nx => ?_; clear hK K; try clear kk
 refine zb fun K kk hK => ?_
 simp only [go_sem]
 refine hK _ _ fun nx => ?_; clear hK K; try clear kk
 refine zi ?_; refine nmx ?_
 obtain hR := Option.some.inj hh
 subst hR
 refine vo ?_ (by rfl) ?_
 ·simp only [go_sem, wJ, jU, kH, vH, Zd, List.map_cons, List.map_append, List.head?_cons]
  all_goals exact wkw
 ·(try simp only [go_sem]); (try simp only [List.length_append, List.map_append]); all_goals exact wkb
theorem Wy (s_1 : (List zg)) (qW : zz) (R : (Int × zz)) (hh : qx s_1 qW = some R) : BC Tryd.prog 76 [.list 2 (s_1.map zg.pv), .fn 77 [.box 1000 0 0]] [.var 39 [.int .u8 qW.Kind, .int .i64 qW.From, .int .i64 qW.To, .list 5 (qW.wC.map za.pv), .str qW.Name, .str qW.Value]] (.int .i64 R.1) [.var 39 [.int .u8 R.2.Kind, .int .i64 R.2.From, .int .i64 R.2.To, .list 5 (R.2.wC.map za.pv), .str R.2.Name, .str R.2.Value]] := by
 rw [qx] at hh
 refine Qh rfl rfl rfl ?_
 refine zb fun K kk hK => ?_
 simp only [go_sem]
 refine hK _ _ fun nx => ?_; clear hK K; try clear kk
 refine zm ?_
 refine zb fun K kk hK => ?_
 simp only [go_sem]
 refine hK _ _ fun nx => ?_; clear hK K; try clear kk
 obtain ⟨e0, f0, hh⟩ := zf hh
 obtain ⟨hlen0, f0⟩ := z8 f0
 refine qz (kv (fun s => .inr () = e0 ∧ ∃ (WC : Int) (Kq : Bool) (nx : Nat), s = ⟨[(0, .list 2 (s_1.map zg.pv)), (1, .fn 77 [.box 1000 0 0]), (7, .int .i64 (s_1.length : Int)), (8, .int .i64 WC), (9, .bool Kq)], [(1000, 0, .var 39 [.int .u8 qW.Kind, .int .i64 qW.From, .int .i64 qW.To, .list 5 (qW.wC.map za.pv), .str qW.Name, .str qW.Value])], nx⟩))
  (fun i s => False)
  (fun s => ∃ wZ, .inl wZ = e0 ∧ zS Tryd.prog [.tmp 4] (.int .i64 wZ.1) [.var 39 [.int .u8 wZ.2.Kind, .int .i64 wZ.2.From, .int .i64 wZ.2.To, .list 5 (wZ.2.wC.map za.pv), .str wZ.2.Name, .str wZ.2.Value]] .ret s) ?_ ?_ ?_ ?_
 ·refine zC ?_
  refine qh fun I hI => ?_
  have key : ∀ (suf pre : List zg) (v_5 : Int), s_1 = pre ++ suf → v_5 = (pre.length : Int) → zU qW suf v_5 = some e0 → ∀ (nx : Nat), I ⟨[(0, .list 2 (s_1.map zg.pv)), (1, .fn 77 [.box 1000 0 0]), (7, .int .i64 (s_1.length : Int)), (8, .int .i64 v_5)], [(1000, 0, .var 39 [.int .u8 qW.Kind, .int .i64 qW.From, .int .i64 qW.To, .list 5 (qW.wC.map za.pv), .str qW.Name, .str qW.Value])], nx⟩ := by
   intro suf
   induction suf with
   | nil =>
    intro pre v_5 hsplit hidx hh nx
    rw [zU] at hh
    refine hI _ ?_
    have h9 := walk_nil hsplit hidx
    refine zb fun K kk hK => ?_
    simp only [go_sem]
    refine hK _ _ fun nx => ?_; clear hK K; try clear kk
    refine zm ?_
    refine zh (by first | exact congrArg PV.bool h9 | rfl) ?_
    refine zZ ?_; refine nmx ?_
    refine kN ?_
    refine zJ ?_
    refine ⟨(Option.some.inj hh), ?_⟩
    first | exact ⟨_, _, _, rfl⟩ | (simp only [pvE, lsE, zq]; exact ⟨_, _, _, rfl⟩) | (simp only [pvE, lsE, zq, h9]; exact ⟨_, _, _, rfl⟩)
   | cons y_8 suf ih =>
    intro pre v_5 hsplit hidx hh nx
    rw [zU] at hh
    refine hI _ ?_
    obtain ⟨hl0a, hl0b, hl0d, hl0w, h9⟩ := qI (f := zg.pv) hsplit hidx hlen0
    refine zb fun K kk hK => ?_
    simp only [go_sem]
    refine hK _ _ fun nx => ?_; clear hK K; try clear kk
    refine zm ?_
    refine zn (by first | exact congrArg PV.bool h9 | rfl) ?_
    refine zx ?_; refine nmx ?_
    refine zm ?_
    refine zC ?_
    refine zb fun K kk hK => ?_
    simp only [go_sem, hl0a, hl0b, hl0d, hl0w]
    refine hK _ _ fun nx => ?_; clear hK K; try clear kk
    obtain ⟨avI, h10, hh⟩ := zf hh
    refine zb fun K kk hK => ?_
    simp only [go_sem, hl0a, hl0b, hl0d, hl0w]
    refine jK [1000] (by decide) (af8 _ _ _ h10) (by (try simp only [go_sem, hl0a, hl0b, hl0d, hl0w, h9]) <;> exact wkb) (by rfl) ?_
    simp only [go_sem, hl0a, hl0b, hl0d, hl0w]
    refine hK _ _ fun nx => ?_; clear hK K; try clear kk
    by_cases h11 : (avI) = true
    ·rw [if_pos h11] at hh
     refine zn (by first | exact congrArg PV.bool h11 | rfl) ?_
     refine zb fun K kk hK => ?_
     simp only [go_sem, hl0a, hl0b, hl0d, hl0w]
     refine hK _ _ fun nx => ?_; clear hK K; try clear kk
     refine zi ?_; refine nmx ?_
     refine QD ⟨_, (Option.some.inj hh), ?_⟩
     refine vo ?_ (by rfl) ?_
     ·simp only [go_sem, wJ, jU, kH, vH, Zd, List.map_cons, List.map_append, List.head?_cons, h11, h9]
      all_goals exact wkw
     ·(try simp only [go_sem, h11, h9]); (try simp only [List.length_append, List.map_append]); all_goals exact wkb
    ·rw [if_neg h11] at hh
     replace h11 := Bool.eq_false_iff.mpr h11
     refine zh (by first | exact congrArg PV.bool h11 | rfl) ?_
     refine zx ?_; refine nmx ?_
     refine zu fun K kk hK => ?_
     simp only [go_sem, hl0a, hl0b, hl0d, hl0w]
     refine hK _ _ fun nx => ?_; clear hK K; try clear kk
     refine nmx ?_
     have ih' := ih (pre ++ [y_8]) (v_5 + 1) (by rw [hsplit]; simp) (by simp [hidx]) hh nx
     refine zJ ?_
     first | exact ih' | (simp only [pvE, lsE, zq] at ih' ⊢; exact ih') | (simp only [pvE, lsE, zq, h11, h9] at ih' ⊢; exact ih')
  exact key s_1 [] _ rfl rfl f0 _
 ·rintro s ⟨t, hless, rfl, WC, Kq, nx, rfl⟩
  try dsimp only at hh
  refine nmy ?_
  first | (refine wm hless ?_; try refine kz ?_) | refine qH hless ?_ | refine qG hless ?_
  refine zb fun K kk hK => ?_
  simp only [go_sem]
  refine hK _ _ fun nx => ?_; clear hK K; try clear kk
  refine zi ?_; refine nmx ?_
  obtain hR := Option.some.inj hh
  subst hR
  refine vo ?_ (by rfl) ?_
  ·simp only [go_sem, wJ, jU, kH, vH, Zd, List.map_cons, List.map_append, List.head?_cons]
   all_goals exact wkw
  ·(try simp only [go_sem]); (try simp only [List.length_append, List.map_append]); all_goals exact wkb
 ·intro i s h; exact h.elim
 ·rintro s ⟨wZ, rfl, hb⟩
  try dsimp only at hh
  obtain hR := Option.some.inj hh
  subst hR
  refine nmx ?_
  exact hb
theorem xu (l : (List za)) (R : (List za)) (hh : qY l = some R) : PC Tryd.prog 71 [.list 5 (l.map za.pv)] (.own 5 (R.map za.pv)) := by
 rw [qY] at hh
 obtain ⟨ha, hb⟩ := zX hh
 rw [List.nil_append] at hb
 subst hb
 try simp only [List.length_nil, Nat.zero_add] at ha
 refine K4 rfl ?_
 refine zb fun K kk hK => ?_
 simp only [go_sem]
 refine hK _ _ fun nx => ?_; clear hK K; try clear kk
 refine zb fun K kk hK => ?_
 simp only [go_sem]
 refine ⟨fun hnil => hK _ _ fun nx => ?_, hK _ _ fun nx => ?_⟩ <;> (clear hK K; try clear kk)
 ·have hl : l = [] := by simpa using hnil
  subst hl
  first | refine zn rfl ?_ | (refine zm ?_; refine zn rfl ?_)
  refine zb fun K kk hK => ?_
  simp only [go_sem]
  refine hK _ _ fun nx => ?_; clear hK K; try clear kk
  refine zi ?_; refine nmx ?_
  exact aag rfl
 ·first | refine zh rfl ?_ | (refine zm ?_; refine zh rfl ?_)
  refine zx ?_; refine nmx ?_
  refine zb fun K kk hK => ?_
  simp only [go_sem, ha]
  refine hK _ _ fun nx => ?_; clear hK K; try clear kk
  refine zi ?_; refine nmx ?_
  exact aaF (by rfl) (by rfl) (by rfl) (by simp) (by rfl)
theorem ahW : ∀ kr : Nat, (∀ (n_1 : za) (wz : (List Int)) (m_3 : za) (R : (za × Int)), xc kr n_1 wz m_3 = some R → PC Tryd.prog 78 [.agg [.str n_1.Kind, .str n_1.Text, .list 1 (n_1.Marks.map PV.str), .list 2 (n_1.zo.map zg.pv), .list 5 (n_1.Kids.map za.pv)], .list 1 (wz.map (PV.int .i64)), .agg [.str m_3.Kind, .str m_3.Text, .list 1 (m_3.Marks.map PV.str), .list 2 (m_3.zo.map zg.pv), .list 5 (m_3.Kids.map za.pv)]] (.tup [.agg [.str R.1.Kind, .str R.1.Text, .list 1 (R.1.Marks.map PV.str), .list 2 (R.1.zo.map zg.pv), .list 5 (R.1.Kids.map za.pv)], .int .i64 R.2])) := by
 intro kr
 induction kr with
 | zero => exact (by intro n_1 wz m_3 R hh; rw [xc] at hh; cases hh)
 | succ kr ih =>
  have ih_place_With := ih
  clear ih
  intro n_1 wz m_3 R hh
  rw [xc] at hh
  refine ae6 rfl ?_
  refine zb fun K kk hK => ?_
  simp only [go_sem]
  refine hK _ _ fun nx => ?_; clear hK K; try clear kk
  refine zm ?_
  obtain ⟨⟨r_4, r_5⟩, h1, hh⟩ := zf hh
  dsimp only at hh
  refine zb fun K kk hK => ?_
  simp only [go_sem]
  refine ze (yH _ _ _ h1) (by (try simp only [go_sem]) <;> exact wkl) (by rfl) (by rfl) ?_
  simp only [go_sem]
  refine hK _ _ fun nx => ?_; clear hK K; try clear kk
  refine zb fun K kk hK => ?_
  simp only [go_sem]
  refine hK _ _ fun nx => ?_; clear hK K; try clear kk
  by_cases h2 : (r_5 != (0 : Int)) = true
  ·rw [if_pos h2] at hh
   refine zn (by first | exact congrArg PV.bool h2 | rfl) ?_
   refine zb fun K kk hK => ?_
   simp only [go_sem]
   refine hK _ _ fun nx => ?_; clear hK K; try clear kk
   refine zi ?_; refine nmx ?_
   obtain hR := Option.some.inj hh
   subst hR
   exact zy
  ·rw [if_neg h2] at hh
   replace h2 := Bool.eq_false_iff.mpr h2
   refine zh (by first | exact congrArg PV.bool h2 | rfl) ?_
   refine zx ?_; refine nmx ?_
   refine zm ?_
   refine zb fun K kk hK => ?_
   simp only [go_sem]
   refine hK _ _ fun nx => ?_; clear hK K; try clear kk
   by_cases h3 : ((wz.length : Int) == (0 : Int)) = true
   ·rw [if_pos h3] at hh
    refine zn (by first | exact congrArg PV.bool h3 | rfl) ?_
    refine zb fun K kk hK => ?_
    simp only [go_sem]
    refine hK _ _ fun nx => ?_; clear hK K; try clear kk
    refine zi ?_; refine nmx ?_
    obtain hR := Option.some.inj hh
    subst hR
    exact zy
   ·rw [if_neg h3] at hh
    replace h3 := Bool.eq_false_iff.mpr h3
    refine zh (by first | exact congrArg PV.bool h3 | rfl) ?_
    refine zx ?_; refine nmx ?_
    obtain ⟨anD, h4, hh⟩ := zf hh
    refine zb fun K kk hK => ?_
    simp only [go_sem]
    refine ze (xu _ _ h4) (by (try simp only [go_sem]) <;> exact wkl) (by rfl) (by rfl) ?_
    simp only [go_sem]
    refine hK _ _ fun nx => ?_; clear hK K; try clear kk
    obtain ⟨x_7, h5, hh⟩ := zf hh
    obtain ⟨h5a, h5b, h5c⟩ := rd_some h5
    have h5d := vz (f := (PV.int .i64)) h5c
    have h5f := wX (f := (PV.int .i64)) h5c
    try simp only [Int.toNat_natCast, Int.reduceToNat] at h5d h5f
    obtain ⟨x_8, h6, hh⟩ := zf hh
    obtain ⟨h6a, h6b, h6c⟩ := rd_some h6
    have h6d := vz (f := za.pv) h6c
    have h6f := wX (f := za.pv) h6c
    try simp only [Int.toNat_natCast, Int.reduceToNat] at h6d h6f
    obtain ⟨s_9, h7, hh⟩ := zf hh
    obtain ⟨h7a, h7c⟩ := WS h7
    have h7g := aa9 h7a
    have h7d := ak5 (f := (PV.int .i64)) h7c
    try simp only [Int.toNat_natCast, Int.reduceToNat, List.map_cons, List.map_nil, pvE] at h7d
    obtain ⟨⟨QU, Js⟩, h8, hh⟩ := zf hh
    dsimp only at hh
    obtain ⟨ang, h9, hh⟩ := zf hh
    obtain ⟨h9a, h9c⟩ := aas h9
    have h9d := aeJ (f := za.pv) h9c
    try simp only [Int.toNat_natCast, Int.reduceToNat, List.map_cons, List.map_nil, List.cons_append, List.nil_append, List.singleton_append, pvE] at h9d
    have h9e := aeZ h9c
    have h6b_h9 := h6b; rw [h9e] at h6b_h9
    have h6f1_h9 := h6f.1; rw [h9e] at h6f1_h9
    have h6a_h9 := h6a; try rw [h9e] at h6a_h9
    have h6d_h9 := h6d; try rw [h9e] at h6d_h9
    try rw [h9e] at h9d
    have h9bw := h9a.2; rw [h9e] at h9bw
    refine zb fun K kk hK => ?_
    simp only [go_sem, h5a, h5b, h5d, h5f.1, h5f.2, h6a, h6b, h6d, h6f.1, h6f.2, h7a.1, h7a.2.1, h7a.2.2, h7d, h7g, h9a.1, h9a.2, h9d, h9e, h6b_h9, h6f1_h9, h6a_h9, h6d_h9, h9bw]
    (repeat refine sd ?_)
    refine ze (ih_place_With _ _ _ _ h8) (by (try simp only [go_sem, h5a, h5b, h5d, h5f.1, h5f.2, h6a, h6b, h6d, h6f.1, h6f.2, h7a.1, h7a.2.1, h7a.2.2, h7d, h7g, h9a.1, h9a.2, h9d, h9e, h6b_h9, h6f1_h9, h6a_h9, h6d_h9, h9bw]) <;> exact wkl) (by rfl) (by rfl) ?_
    simp only [go_sem, h5a, h5b, h5d, h5f.1, h5f.2, h6a, h6b, h6d, h6f.1, h6f.2, h7a.1, h7a.2.1, h7a.2.2, h7d, h7g, h9a.1, h9a.2, h9d, h9e, h6b_h9, h6f1_h9, h6a_h9, h6d_h9, h9bw]
    (repeat refine sd ?_)
    try simp only [go_sem, h5a, h5b, h5d, h5f.1, h5f.2, h6a, h6b, h6d, h6f.1, h6f.2, h7a.1, h7a.2.1, h7a.2.2, h7d, h7g, h9a.1, h9a.2, h9d, h9e, h6b_h9, h6f1_h9, h6a_h9, h6d_h9, h9bw]
    refine hK _ _ fun nx => ?_; clear hK K; try clear kk
    refine zb fun K kk hK => ?_
    simp only [go_sem]
    refine hK _ _ fun nx => ?_; clear hK K; try clear kk
    refine zi ?_; refine nmx ?_
    obtain hR := Option.some.inj hh
    subst hR
    exact zy
theorem abO (n_1 : za) (wz : (List Int)) (m_3 : za) (R : (za × Int)) (hh : Ww n_1 wz m_3 = some R) : PC Tryd.prog 78 [.agg [.str n_1.Kind, .str n_1.Text, .list 1 (n_1.Marks.map PV.str), .list 2 (n_1.zo.map zg.pv), .list 5 (n_1.Kids.map za.pv)], .list 1 (wz.map (PV.int .i64)), .agg [.str m_3.Kind, .str m_3.Text, .list 1 (m_3.Marks.map PV.str), .list 2 (m_3.zo.map zg.pv), .list 5 (m_3.Kids.map za.pv)]] (.tup [.agg [.str R.1.Kind, .str R.1.Text, .list 1 (R.1.Marks.map PV.str), .list 2 (R.1.zo.map zg.pv), .list 5 (R.1.Kids.map za.pv)], .int .i64 R.2]) := by
 rw [Ww] at hh
 obtain ⟨kr, hh⟩ := xZ hh
 exact (ahW kr) _ _ _ _ hh
theorem afs (n_1 : za) (s_2 : zz) (R : (za × Str × Int)) (hh : jG n_1 s_2 = some R) : PC Tryd.prog 46 [.agg [.str n_1.Kind, .str n_1.Text, .list 1 (n_1.Marks.map PV.str), .list 2 (n_1.zo.map zg.pv), .list 5 (n_1.Kids.map za.pv)], .agg [.int .u8 s_2.Kind, .int .i64 s_2.From, .int .i64 s_2.To, .list 5 (s_2.wC.map za.pv), .str s_2.Name, .str s_2.Value]] (.tup [.agg [.str R.1.Kind, .str R.1.Text, .list 1 (R.1.Marks.map PV.str), .list 2 (R.1.zo.map zg.pv), .list 5 (R.1.Kids.map za.pv)], .str R.2.1, .int .i64 R.2.2]) := by
 rw [jG] at hh
 refine ahj rfl ?_
 refine zb fun K kk hK => ?_
 simp only [go_sem]
 refine hK _ _ fun nx => ?_; clear hK K; try clear kk
 obtain ⟨⟨r_3, r_4⟩, h1, hh⟩ := zf hh
 dsimp only at hh
 refine zb fun K kk hK => ?_
 simp only [go_sem]
 refine ze (aht _ _ _ h1) (by (try simp only [go_sem]) <;> exact wkl) (by rfl) (by rfl) ?_
 simp only [go_sem]
 refine hK _ _ fun nx => ?_; clear hK K; try clear kk
 refine zm ?_
 refine zb fun K kk hK => ?_
 simp only [go_sem]
 refine hK _ _ fun nx => ?_; clear hK K; try clear kk
 by_cases h2 : (!r_4) = true
 ·rw [if_pos h2] at hh
  refine zn (by first | exact congrArg PV.bool h2 | rfl) ?_
  refine zb fun K kk hK => ?_
  simp only [go_sem]
  refine hK _ _ fun nx => ?_; clear hK K; try clear kk
  refine zi ?_; refine nmx ?_
  obtain hR := Option.some.inj hh
  subst hR
  exact zy
 ·rw [if_neg h2] at hh
  replace h2 := Bool.eq_false_iff.mpr h2
  refine zh (by first | exact congrArg PV.bool h2 | rfl) ?_
  refine zx ?_; refine nmx ?_
  obtain ⟨⟨r_5, r_6⟩, h3, hh⟩ := zf hh
  dsimp only at hh
  refine zb fun K kk hK => ?_
  simp only [go_sem]
  refine ze (yH _ _ _ h3) (by (try simp only [go_sem]) <;> exact wkl) (by rfl) (by rfl) ?_
  simp only [go_sem]
  refine hK _ _ fun nx => ?_; clear hK K; try clear kk
  obtain ⟨⟨r_7, atv⟩, h4, hh⟩ := zf hh
  dsimp only at hh
  refine zb fun K kk hK => ?_
  simp only [go_sem]
  refine jK [3] (by decide) (Wy _ _ _ h4) (by (try simp only [go_sem, h2]) <;> exact wkb) (by rfl) ?_
  simp only [go_sem]
  refine hK _ _ fun nx => ?_; clear hK K; try clear kk
  refine zm ?_
  refine zb fun K kk hK => ?_
  simp only [go_sem]
  refine hK _ _ fun nx => ?_; clear hK K; try clear kk
  by_cases h5 : (decide (r_7 < (0 : Int))) = true
  ·rw [if_pos h5] at hh
   refine zn (by first | exact congrArg PV.bool h5 | rfl) ?_
   refine zb fun K kk hK => ?_
   simp only [go_sem]
   refine hK _ _ fun nx => ?_; clear hK K; try clear kk
   refine zi ?_; refine nmx ?_
   obtain hR := Option.some.inj hh
   subst hR
   exact zy
  ·rw [if_neg h5] at hh
   replace h5 := Bool.eq_false_iff.mpr h5
   refine zh (by first | exact congrArg PV.bool h5 | rfl) ?_
   refine zx ?_; refine nmx ?_
   obtain ⟨x_9, h6, hh⟩ := zf hh
   obtain ⟨h6a, h6b, h6c⟩ := rd_some h6
   have h6d := vz (f := zg.pv) h6c
   have h6f := wX (f := zg.pv) h6c
   try simp only [Int.toNat_natCast, Int.reduceToNat] at h6d h6f
   refine zb fun K kk hK => ?_
   simp only [go_sem, h6a, h6b, h6d, h6f.1, h6f.2]
   (repeat refine sd ?_)
   refine hK _ _ fun nx => ?_; clear hK K; try clear kk
   obtain ⟨akx, h7, hh⟩ := zf hh
   refine zb fun K kk hK => ?_
   simp only [go_sem]
   refine ze (JB _ _ h7) (by (try simp only [go_sem]) <;> exact wkl) (by rfl) (by rfl) ?_
   simp only [go_sem]
   refine hK _ _ fun nx => ?_; clear hK K; try clear kk
   obtain ⟨agX, h8, hh⟩ := zf hh
   obtain ⟨h8a, h8b, h8c⟩ := rd_some h8
   have h8d := vz (f := zg.pv) h8c
   have h8f := wX (f := zg.pv) h8c
   try simp only [Int.toNat_natCast, Int.reduceToNat] at h8d h8f
   obtain ⟨ang, h9, hh⟩ := zf hh
   obtain ⟨h9a, h9c⟩ := aas h9
   have h9d := aeJ (f := zg.pv) h9c
   try simp only [Int.toNat_natCast, Int.reduceToNat, List.map_cons, List.map_nil, List.cons_append, List.nil_append, List.singleton_append, pvE] at h9d
   have h9e := aeZ h9c
   have h8b_h9 := h8b; rw [h9e] at h8b_h9
   have h8f1_h9 := h8f.1; rw [h9e] at h8f1_h9
   have h8a_h9 := h8a; try rw [h9e] at h8a_h9
   have h8d_h9 := h8d; try rw [h9e] at h8d_h9
   try rw [h9e] at h9d
   have h9bw := h9a.2; rw [h9e] at h9bw
   refine zb fun K kk hK => ?_
   simp only [go_sem, h8a, h8b, h8d, h8f.1, h8f.2, h9a.1, h9a.2, h9d, h9e, h8b_h9, h8f1_h9, h8a_h9, h8d_h9, h9bw]
   (repeat refine sd ?_)
   try simp only [go_sem, h8a, h8b, h8d, h8f.1, h8f.2, h9a.1, h9a.2, h9d, h9e, h8b_h9, h8f1_h9, h8a_h9, h8d_h9, h9bw]
   refine hK _ _ fun nx => ?_; clear hK K; try clear kk
   obtain ⟨⟨JL, aeI⟩, h10, hh⟩ := zf hh
   dsimp only at hh
   refine zb fun K kk hK => ?_
   simp only [go_sem]
   refine ze (abO _ _ _ _ h10) (by (try simp only [go_sem]) <;> exact wkl) (by rfl) (by rfl) ?_
   simp only [go_sem]
   refine hK _ _ fun nx => ?_; clear hK K; try clear kk
   refine zb fun K kk hK => ?_
   simp only [go_sem]
   refine hK _ _ fun nx => ?_; clear hK K; try clear kk
   refine zi ?_; refine nmx ?_
   obtain hR := Option.some.inj hh
   subst hR
   exact zy
theorem acr (s : zz) (marks : (List Str)) (R : ((List Str) × Bool)) (hh : QP s marks = some R) : PC Tryd.prog 112 [.agg [.int .u8 s.Kind, .int .i64 s.From, .int .i64 s.To, .list 5 (s.wC.map za.pv), .str s.Name, .str s.Value], .list 1 (marks.map PV.str)] (.tup [.list 1 (R.1.map PV.str), .bool R.2]) := by
 rw [QP] at hh
 exact atp s marks R hh
theorem XG (Jn : Int) (aqU : Int) (vY : Int) (zA : Int) (jQ : Int) (kM : (List za)) (ja : Str) (kL : Str) (l_9 : (List zk)) (R : (Int × Int × Int × (List za) × Str × Str × (List zk))) (hh : jm Jn aqU vY zA jQ kM ja kL l_9 = some R) : BC Tryd.prog 113 [.box 1000 0 0, .int .i64 Jn, .int .i64 aqU] [.var 136 [.int .u8 vY, .int .i64 zA, .int .i64 jQ, .list 5 (kM.map za.pv), .str ja, .str kL, .row 1001 0 l_9.length], .row false 3 (l_9.map zk.pv)] (.tup []) [.var 136 [.int .u8 R.1, .int .i64 R.2.1, .int .i64 R.2.2.1, .list 5 (R.2.2.2.1.map za.pv), .str R.2.2.2.2.1, .str R.2.2.2.2.2.1, .row 1001 0 R.2.2.2.2.2.2.length], .moved 3 (R.2.2.2.2.2.2.map zk.pv)] := by
 rw [jm] at hh
 refine VZ rfl rfl rfl ?_
 refine zb fun K kk hK => ?_
 simp only [go_sem]
 refine hK _ _ fun nx => ?_; clear hK K; try clear kk
 refine zm ?_
 by_cases h1 : (decide ((w64 ((l_9.length : Int) - (1 : Int))) ≥ (0 : Int))) = true
 ·rw [if_pos h1] at hh
  obtain ⟨aiR, h2, hh⟩ := zf hh
  obtain ⟨h2a, h2b, h2c⟩ := rd_some h2
  have h2d := vz (f := zk.pv) h2c
  have h2f := wX (f := zk.pv) h2c
  try simp only [Int.toNat_natCast, Int.reduceToNat] at h2d h2f
  refine zb fun K kk hK => ?_
  simp only [go_sem, h1, of_decide_eq_true h1, h2a, h2b, h2d, h2f.1, h2f.2]
  (repeat refine sd ?_)
  refine hK _ _ fun nx => ?_; clear hK K; try clear kk
  by_cases h3 : ((w64 (aiR.Pos + aiR.Old)) == Jn) = true
  ·rw [if_pos h3] at hh
   refine zn (by first | exact congrArg PV.bool h3 | rfl) ?_
   obtain ⟨asf, h4, hh⟩ := zf hh
   obtain ⟨h4a, h4c⟩ := aas h4
   have h4d := aeJ (f := zk.pv) h4c
   try simp only [Int.toNat_natCast, Int.reduceToNat, List.map_cons, List.map_nil, List.cons_append, List.nil_append, List.singleton_append, pvE] at h4d
   have h4e := aeZ h4c
   have h2b_h4 := h2b; rw [h4e] at h2b_h4
   have h2f1_h4 := h2f.1; rw [h4e] at h2f1_h4
   have h2a_h4 := h2a; try rw [h4e] at h2a_h4
   have h2d_h4 := h2d; try rw [h4e] at h2d_h4
   try rw [h4e] at h4d
   have h4bw := h4a.2; rw [h4e] at h4bw
   refine zb fun K kk hK => ?_
   simp only [go_sem, h2a, h2b, h2d, h2f.1, h2f.2, h4a.1, h4a.2, h4d, h4e, h2b_h4, h2f1_h4, h2a_h4, h2d_h4, h4bw]
   (repeat refine sd ?_)
   try simp only [go_sem, h2a, h2b, h2d, h2f.1, h2f.2, h4a.1, h4a.2, h4d, h4e, h2b_h4, h2f1_h4, h2a_h4, h2d_h4, h4bw]
   refine hK _ _ fun nx => ?_; clear hK K; try clear kk
   refine zi ?_; refine nmx ?_
   obtain hR := Option.some.inj hh
   subst hR
   refine vo ?_ (by rfl) ?_
   ·simp only [go_sem, wJ, jU, kH, vH, Zd, List.map_cons, List.map_append, List.head?_cons, h1, h3]
    all_goals exact wkw
   ·(try simp only [go_sem, h1, h3]); (try simp only [List.length_append, List.map_append, h4e]); all_goals exact wkb
  ·rw [if_neg h3] at hh
   replace h3 := Bool.eq_false_iff.mpr h3
   refine zh (by first | exact congrArg PV.bool h3 | rfl) ?_
   refine zx ?_; refine nmx ?_
   obtain ⟨ang, h5, hh⟩ := zf hh
   obtain ⟨h5a, h5c⟩ := zX h5
   have h5d := qP (f := zk.pv) h5c
   have h5e := qQ h5c
   try simp only [List.length_cons, List.length_nil, Nat.zero_add, Nat.reduceAdd] at h5a h5e
   try simp only [h5e] at h5a
   try simp only [List.map_cons, List.map_nil, List.nil_append, List.append_nil, List.cons_append, List.singleton_append, zq, pvE] at h5d
   refine zu fun K kk hK => ?_
   simp only [go_sem, h5a, h5d, h5e]
   (repeat refine sd ?_)
   refine hK _ _ fun nx => ?_; clear hK K; try clear kk
   refine nmx ?_
   obtain hR := Option.some.inj hh
   subst hR
   refine YT ?_
   refine vo ?_ (by rfl) ?_
   ·simp only [go_sem, wJ, jU, kH, vH, Zd, List.map_cons, List.map_append, List.head?_cons, h1, h3]
    all_goals exact wkw
   ·(try simp only [go_sem, h1, h3]); (try simp only [List.length_append, List.map_append, h5e]); all_goals exact wkb
 ·rw [if_neg h1] at hh
  replace h1 := Bool.eq_false_iff.mpr h1
  refine zb fun K kk hK => ?_
  simp only [go_sem, h1, of_decide_eq_false h1]
  (repeat refine sd ?_)
  refine hK _ _ fun nx => ?_; clear hK K; try clear kk
  refine zh rfl ?_
  refine zx ?_; refine nmx ?_
  obtain ⟨asN, h6, hh⟩ := zf hh
  obtain ⟨h6a, h6c⟩ := zX h6
  have h6d := qP (f := zk.pv) h6c
  have h6e := qQ h6c
  try simp only [List.length_cons, List.length_nil, Nat.zero_add, Nat.reduceAdd] at h6a h6e
  try simp only [h6e] at h6a
  try simp only [List.map_cons, List.map_nil, List.nil_append, List.append_nil, List.cons_append, List.singleton_append, zq, pvE] at h6d
  refine zu fun K kk hK => ?_
  simp only [go_sem, h6a, h6d, h6e]
  (repeat refine sd ?_)
  refine hK _ _ fun nx => ?_; clear hK K; try clear kk
  refine nmx ?_
  obtain hR := Option.some.inj hh
  subst hR
  refine YT ?_
  refine vo ?_ (by rfl) ?_
  ·simp only [go_sem, wJ, jU, kH, vH, Zd, List.map_cons, List.map_append, List.head?_cons, h1]
   all_goals exact wkw
  ·(try simp only [go_sem, h1]); (try simp only [List.length_append, List.map_append, h6e]); all_goals exact wkb
theorem xx (a_1 : Int) (b_2 : Int) (agD : (List Str)) (WE : za) (v_5 : (List Int)) (R : za) (hh : wS a_1 b_2 agD WE v_5 = some R) : BC Tryd.prog 114 [.int .i64 a_1, .int .i64 b_2, .list 1 (agD.map PV.str), .box 1000 0 0, .box 1001 0 0] [.var 28 [.str WE.Kind, .str WE.Text, .list 1 (WE.Marks.map PV.str), .list 2 (WE.zo.map zg.pv), .list 5 (WE.Kids.map za.pv)], .var 65 [.list 1 (v_5.map (PV.int .i32))]] (.agg [.str R.Kind, .str R.Text, .list 1 (R.Marks.map PV.str), .list 2 (R.zo.map zg.pv), .list 5 (R.Kids.map za.pv)]) [.var 28 [.str WE.Kind, .str WE.Text, .list 1 (WE.Marks.map PV.str), .list 2 (WE.zo.map zg.pv), .list 5 (WE.Kids.map za.pv)], .var 65 [.list 1 (v_5.map (PV.int .i32))]] := by
 rw [wS] at hh
 refine K5 rfl rfl rfl ?_
 refine zb fun K kk hK => ?_
 simp only [go_sem]
 refine hK _ _ fun nx => ?_; clear hK K; try clear kk
 obtain ⟨s_6, h1, hh⟩ := zf hh
 obtain ⟨h1a, h1c⟩ := WS h1
 have h1g := aa9 h1a
 have h1d := ave (f := (PV.int .i32)) h1c
 try simp only [Int.toNat_natCast, Int.reduceToNat, List.map_cons, List.map_nil, pvE] at h1d
 refine zb fun K kk hK => ?_
 simp only [go_sem, h1a.1, h1a.2.1, h1a.2.2, h1d, h1g]
 (repeat refine sd ?_)
 refine hK _ _ fun nx => ?_; clear hK K; try clear kk
 refine zi ?_; refine nmx ?_
 obtain hR := Option.some.inj hh
 subst hR
 refine vo ?_ (by rfl) ?_
 ·simp only [go_sem, wJ, jU, kH, vH, Zd, List.map_cons, List.map_append, List.head?_cons]
  all_goals exact wkw
 ·(try simp only [go_sem]); (try simp only [List.length_append, List.map_append]); all_goals exact wkb
end Go.Proofs.YtclohbgnaopjfaaDoor
