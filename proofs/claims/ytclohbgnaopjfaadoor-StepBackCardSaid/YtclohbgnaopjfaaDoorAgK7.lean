/- Texts of the proof of stepBackCard -/
import Derived.Test.YtclohbgnaopjfaaDoorAgC
import Derived.Test.YtclohbgnaopjfaaDoorAgF
import Derived.Test.YtclohbgnaopjfaaDoorAgK6
namespace Go.Proofs.YtclohbgnaopjfaaDoor
set_option linter.unusedSimpArgs false
set_option linter.unusedVariables false
open Go
set_option maxRecDepth 100000
theorem aaM (l_1 : (List za)) (R : (List za)) (hh : xH l_1 = some R) : PC Tryd.prog 65 [.list 5 (l_1.map za.pv)] (.own 5 (R.map za.pv)) := by
 rw [xH] at hh
 refine Xn rfl ?_
 refine zb fun K kk hK => ?_
 simp only [go_sem]
 refine hK _ _ fun nx => ?_; clear hK K; try clear kk
 refine zb fun K kk hK => ?_
 simp only [go_sem]
 refine hK _ _ fun nx => ?_; clear hK K; try clear kk
 refine zm ?_
 refine zb fun K kk hK => ?_
 simp only [go_sem]
 refine hK _ _ fun nx => ?_; clear hK K; try clear kk
 obtain ⟨e0, f0, hh⟩ := zf hh
 obtain ⟨hlen0, f0⟩ := z8 f0
 refine qz (kv (fun s => ∃ aev, aev = e0 ∧ ∃ (awQ : Int) (axg : Bool) (nx : Nat) (g3 : Nat), s = ⟨[(0, .list 5 (l_1.map za.pv)), (3, .row 3 g3 aev.length), (4, .int .i64 awQ), (10, .bool axg)], [(3, g3, .row false 5 (aev.map za.pv))], nx⟩))
  (fun i s => False)
  (fun s => False) ?_ ?_ ?_ ?_
 ·refine zC ?_
  refine qh fun I hI => ?_
  have key : ∀ (suf pre : List za) (JK : Int) (jl : (List za)), l_1 = pre ++ suf → JK = (pre.length : Int) → zW suf JK jl = some e0 → ∀ (nx : Nat) (g3 : Nat), I ⟨[(0, .list 5 (l_1.map za.pv)), (3, .row 3 g3 jl.length), (4, .int .i64 JK)], [(3, g3, .row false 5 (jl.map za.pv))], nx⟩ := by
   intro suf
   induction suf with
   | nil =>
    intro pre JK jl hsplit hidx hh nx g3
    rw [zW] at hh
    refine hI _ ?_
    have h37 := walk_nil hsplit hidx
    refine zm ?_
    refine zb fun K kk hK => ?_
    simp only [go_sem]
    refine hK _ _ fun nx => ?_; clear hK K; try clear kk
    refine zh (by first | exact congrArg PV.bool h37 | rfl) ?_
    refine zZ ?_; refine nmx ?_
    refine kN ?_
    refine zJ ?_
    refine ⟨_, (Option.some.inj hh), ?_⟩
    first | exact ⟨_, _, _, _, rfl⟩ | (simp only [pvE, lsE, zq]; exact ⟨_, _, _, _, rfl⟩) | (simp only [pvE, lsE, zq, h37]; exact ⟨_, _, _, _, rfl⟩)
   | cons Zt suf ih =>
    intro pre JK jl hsplit hidx hh nx g3
    rw [zW] at hh
    refine hI _ ?_
    obtain ⟨hl0a, hl0b, hl0d, hl0w, h37⟩ := qI (f := za.pv) hsplit hidx hlen0
    refine zm ?_
    refine zb fun K kk hK => ?_
    simp only [go_sem]
    refine hK _ _ fun nx => ?_; clear hK K; try clear kk
    refine zn (by first | exact congrArg PV.bool h37 | rfl) ?_
    refine zx ?_; refine nmx ?_
    refine zm ?_
    refine zC ?_
    refine zb fun K kk hK => ?_
    simp only [go_sem, hl0a, hl0b, hl0d, hl0w]
    refine hK _ _ fun nx => ?_; clear hK K; try clear kk
    refine zb fun K kk hK => ?_
    simp only [go_sem, hl0a, hl0b, hl0d, hl0w]
    refine hK _ _ fun nx => ?_; clear hK K; try clear kk
    refine zm ?_
    obtain ⟨e3, f3, hh⟩ := zf hh
    refine VI (fun s => .inr () = e3 ∧ ∃ (axa : Bool) (nx : Nat) (g3 : Nat) (g5 : Nat), s = ⟨[(0, .list 5 (l_1.map za.pv)), (3, .row 3 g3 jl.length), (4, .int .i64 JK), (5, .box 5 g5 0), (6, .int .i64 (w64 ((jl.length : Int) - (1 : Int)))), (27, .bool axa)], [(3, g3, .row false 5 (jl.map za.pv)), (5, g5, .var 28 [.str Zt.Kind, .str Zt.Text, .list 1 (Zt.Marks.map PV.str), .list 2 (Zt.zo.map zg.pv), .list 5 (Zt.Kids.map za.pv)])], nx⟩)
     (fun i s => (i = 1 ∧ .inl () = e3 ∧ ∃ (nx : Nat) (g3 : Nat) (g5 : Nat), s = ⟨[(0, .list 5 (l_1.map za.pv)), (3, .row 3 g3 jl.length), (4, .int .i64 JK), (5, .box 5 g5 0), (6, .int .i64 (w64 ((jl.length : Int) - (1 : Int)))), (27, .bool (Zt.Text == ([] : Str)))], [(3, g3, .row false 5 (jl.map za.pv)), (5, g5, .var 28 [.str Zt.Kind, .str Zt.Text, .list 1 (Zt.Marks.map PV.str), .list 2 (Zt.zo.map zg.pv), .list 5 (Zt.Kids.map za.pv)])], nx⟩))
     (fun s => False) ?_ ?_ ?_ ?_
    ·have hh := f3
     by_cases h38 : (Zt.Kind == ([116, 101, 120, 116] : Str)) = true
     ·rw [if_pos h38] at hh
      refine zb fun K kk hK => ?_
      simp only [go_sem, h38, hl0a, hl0b, hl0d, hl0w]
      (repeat refine sd ?_)
      refine hK _ _ fun nx => ?_; clear hK K; try clear kk
      by_cases h39 : (Zt.Text == ([] : Str)) = true
      ·rw [if_pos h39] at hh
       refine zn (by first | exact congrArg PV.bool h39 | rfl) ?_
       refine zZ ?_; refine nmx ?_
       refine atf ⟨rfl, (Option.some.inj hh), ?_⟩
       first | exact ⟨_, _, _, rfl⟩ | (simp only [pvE, lsE, zq]; exact ⟨_, _, _, rfl⟩) | (simp only [pvE, lsE, zq, h37, h38, h39]; exact ⟨_, _, _, rfl⟩)
      ·rw [if_neg h39] at hh
       replace h39 := Bool.eq_false_iff.mpr h39
       refine zh (by first | exact congrArg PV.bool h39 | rfl) ?_
       refine zx ?_; refine nmx ?_
       refine kN ?_
       refine zJ ?_
       refine ⟨(Option.some.inj hh), ?_⟩
       first | exact ⟨_, _, _, _, rfl⟩ | (simp only [pvE, lsE, zq]; exact ⟨_, _, _, _, rfl⟩) | (simp only [pvE, lsE, zq, h37, h38, h39]; exact ⟨_, _, _, _, rfl⟩)
     ·rw [if_neg h38] at hh
      replace h38 := Bool.eq_false_iff.mpr h38
      refine zb fun K kk hK => ?_
      simp only [go_sem, h38, hl0a, hl0b, hl0d, hl0w]
      (repeat refine sd ?_)
      refine hK _ _ fun nx => ?_; clear hK K; try clear kk
      refine zh rfl ?_
      refine zx ?_; refine nmx ?_
      refine kN ?_
      refine zJ ?_
      refine ⟨(Option.some.inj hh), ?_⟩
      first | exact ⟨_, _, _, _, rfl⟩ | (simp only [pvE, lsE, zq]; exact ⟨_, _, _, _, rfl⟩) | (simp only [pvE, lsE, zq, h37, h38]; exact ⟨_, _, _, _, rfl⟩)
    ·rintro s ⟨rfl, axa, nx, g3, g5, rfl⟩
     try dsimp only at hh
     refine zm ?_
     by_cases h40 : (Zt.Kind == ([116, 101, 120, 116] : Str)) = true
     ·rw [if_pos h40] at hh
      by_cases h41 : (decide ((w64 ((jl.length : Int) - (1 : Int))) ≥ (0 : Int))) = true
      ·rw [if_pos h41] at hh
       obtain ⟨aqd, h42, hh⟩ := zf hh
       obtain ⟨h42a, h42b, h42c⟩ := rd_some h42
       have h42d := vz (f := za.pv) h42c
       have h42f := wX (f := za.pv) h42c
       try simp only [Int.toNat_natCast, Int.reduceToNat] at h42d h42f
       by_cases h43 : (aqd.Kind == ([116, 101, 120, 116] : Str)) = true
       ·rw [if_pos h43] at hh
        obtain ⟨aeS, h44, hh⟩ := zf hh
        refine zb fun K kk hK => ?_
        simp only [go_sem, h40, h41, of_decide_eq_true h41, h42a, h42b, h42d, h42f.1, h42f.2, h43, hl0a, hl0b, hl0d, hl0w]
        (repeat refine sd ?_)
        refine ze (JG _ _ _ h44) (by (try simp only [go_sem, h40, h41, of_decide_eq_true h41, h42a, h42b, h42d, h42f.1, h42f.2, h43, hl0a, hl0b, hl0d, hl0w]) <;> exact wkl) (by rfl) (by rfl) ?_
        simp only [go_sem, h40, h41, of_decide_eq_true h41, h42a, h42b, h42d, h42f.1, h42f.2, h43, hl0a, hl0b, hl0d, hl0w]
        (repeat refine sd ?_)
        refine hK _ _ fun nx => ?_; clear hK K; try clear kk
        by_cases h45 : (aeS) = true
        ·rw [if_pos h45] at hh
         refine zn (by first | exact congrArg PV.bool h45 | rfl) ?_
         obtain ⟨h46, hh⟩ := z8 hh
         refine zb fun K kk hK => ?_
         simp only [go_sem, h42a, h42b, h42d, h42f.1, h42f.2, h46, hl0a, hl0b, hl0d, hl0w]
         (repeat refine sd ?_)
         refine hK _ _ fun nx => ?_; clear hK K; try clear kk
         obtain ⟨av6, h47, hh⟩ := zf hh
         obtain ⟨h47a, h47c⟩ := WS h47
         have h47g := aa9 h47a
         have h47d := aaw (f := za.pv) h47c
         try simp only [Int.toNat_natCast, Int.reduceToNat, List.map_cons, List.map_nil, pvE] at h47d
         obtain ⟨aw4, h48, hh⟩ := zf hh
         obtain ⟨h48a, h48c⟩ := zX h48
         have h48d := qP (f := za.pv) h48c
         have h48e := qQ h48c
         try simp only [List.length_cons, List.length_nil, Nat.zero_add, Nat.reduceAdd] at h48a h48e
         try simp only [h48e] at h48a
         try simp only [List.map_cons, List.map_nil, List.nil_append, List.append_nil, List.cons_append, List.singleton_append, zq, pvE] at h48d
         obtain ⟨ati, h49, hh⟩ := zf hh
         obtain ⟨h49a, h49c⟩ := zX h49
         have h49d := qP (f := za.pv) h49c
         have h49e := qQ h49c
         try simp only [List.length_cons, List.length_nil, Nat.zero_add, Nat.reduceAdd] at h49a h49e
         try simp only [h49e] at h49a
         try simp only [List.map_cons, List.map_nil, List.nil_append, List.append_nil, List.cons_append, List.singleton_append, zq, pvE] at h49d
         refine zb fun K kk hK => ?_
         simp only [go_sem, h47a.1, h47a.2.1, h47a.2.2, h47d, h47g, h48a, h48d, h48e, h49a, h49d, h49e, hl0a, hl0b, hl0d, hl0w]
         (repeat refine sd ?_)
         refine hK _ _ fun nx => ?_; clear hK K; try clear kk
         refine zZ ?_; refine nmx ?_
         refine zu fun K kk hK => ?_
         simp only [go_sem, hl0a, hl0b, hl0d, hl0w]
         refine hK _ _ fun nx => ?_; clear hK K; try clear kk
         refine nmx ?_
         have ih' := ih (pre ++ [Zt]) (JK + 1) _ (by rw [hsplit]; simp) (by simp [hidx]) hh nx
         refine zJ ?_
         first | exact ih' _ | (simp only [pvE, lsE, zq, h48e, h48d, h49e] at ih' ⊢; exact ih' _) | (simp only [pvE, lsE, zq, h48e, h48d, h49e, h37, h40, h41, h43, h45] at ih' ⊢; exact ih' _)
        ·rw [if_neg h45] at hh
         replace h45 := Bool.eq_false_iff.mpr h45
         refine zh (by first | exact congrArg PV.bool h45 | rfl) ?_
         refine zx ?_; refine nmx ?_
         obtain ⟨asv, h50, hh⟩ := zf hh
         obtain ⟨h50a, h50c⟩ := zX h50
         have h50d := qP (f := za.pv) h50c
         have h50e := qQ h50c
         try simp only [List.length_cons, List.length_nil, Nat.zero_add, Nat.reduceAdd] at h50a h50e
         try simp only [h50e] at h50a
         try simp only [List.map_cons, List.map_nil, List.nil_append, List.append_nil, List.cons_append, List.singleton_append, zq, pvE] at h50d
         refine zu fun K kk hK => ?_
         simp only [go_sem, h50a, h50d, h50e, hl0a, hl0b, hl0d, hl0w]
         (repeat refine sd ?_)
         refine hK _ _ fun nx => ?_; clear hK K; try clear kk
         refine nmx ?_
         refine zu fun K kk hK => ?_
         simp only [go_sem, hl0a, hl0b, hl0d, hl0w]
         refine hK _ _ fun nx => ?_; clear hK K; try clear kk
         refine nmx ?_
         have ih' := ih (pre ++ [Zt]) (JK + 1) _ (by rw [hsplit]; simp) (by simp [hidx]) hh nx
         refine zJ ?_
         first | exact ih' _ | (simp only [pvE, lsE, zq, h50e] at ih' ⊢; exact ih' _) | (simp only [pvE, lsE, zq, h50e, h37, h40, h41, h43, h45] at ih' ⊢; exact ih' _)
       ·rw [if_neg h43] at hh
        replace h43 := Bool.eq_false_iff.mpr h43
        refine zb fun K kk hK => ?_
        simp only [go_sem, h40, h41, of_decide_eq_true h41, h42a, h42b, h42d, h42f.1, h42f.2, h43, hl0a, hl0b, hl0d, hl0w]
        (repeat refine sd ?_)
        refine hK _ _ fun nx => ?_; clear hK K; try clear kk
        refine zh rfl ?_
        refine zx ?_; refine nmx ?_
        obtain ⟨ata, h51, hh⟩ := zf hh
        obtain ⟨h51a, h51c⟩ := zX h51
        have h51d := qP (f := za.pv) h51c
        have h51e := qQ h51c
        try simp only [List.length_cons, List.length_nil, Nat.zero_add, Nat.reduceAdd] at h51a h51e
        try simp only [h51e] at h51a
        try simp only [List.map_cons, List.map_nil, List.nil_append, List.append_nil, List.cons_append, List.singleton_append, zq, pvE] at h51d
        refine zu fun K kk hK => ?_
        simp only [go_sem, h51a, h51d, h51e, hl0a, hl0b, hl0d, hl0w]
        (repeat refine sd ?_)
        refine hK _ _ fun nx => ?_; clear hK K; try clear kk
        refine nmx ?_
        refine zu fun K kk hK => ?_
        simp only [go_sem, hl0a, hl0b, hl0d, hl0w]
        refine hK _ _ fun nx => ?_; clear hK K; try clear kk
        refine nmx ?_
        have ih' := ih (pre ++ [Zt]) (JK + 1) _ (by rw [hsplit]; simp) (by simp [hidx]) hh nx
        refine zJ ?_
        first | exact ih' _ | (simp only [pvE, lsE, zq, h51e] at ih' ⊢; exact ih' _) | (simp only [pvE, lsE, zq, h51e, h37, h40, h41, h43] at ih' ⊢; exact ih' _)
      ·rw [if_neg h41] at hh
       replace h41 := Bool.eq_false_iff.mpr h41
       refine zb fun K kk hK => ?_
       simp only [go_sem, h40, h41, of_decide_eq_false h41, hl0a, hl0b, hl0d, hl0w]
       (repeat refine sd ?_)
       refine hK _ _ fun nx => ?_; clear hK K; try clear kk
       refine zh rfl ?_
       refine zx ?_; refine nmx ?_
       obtain ⟨arK, h52, hh⟩ := zf hh
       obtain ⟨h52a, h52c⟩ := zX h52
       have h52d := qP (f := za.pv) h52c
       have h52e := qQ h52c
       try simp only [List.length_cons, List.length_nil, Nat.zero_add, Nat.reduceAdd] at h52a h52e
       try simp only [h52e] at h52a
       try simp only [List.map_cons, List.map_nil, List.nil_append, List.append_nil, List.cons_append, List.singleton_append, zq, pvE] at h52d
       refine zu fun K kk hK => ?_
       simp only [go_sem, h52a, h52d, h52e, hl0a, hl0b, hl0d, hl0w]
       (repeat refine sd ?_)
       refine hK _ _ fun nx => ?_; clear hK K; try clear kk
       refine nmx ?_
       refine zu fun K kk hK => ?_
       simp only [go_sem, hl0a, hl0b, hl0d, hl0w]
       refine hK _ _ fun nx => ?_; clear hK K; try clear kk
       refine nmx ?_
       have ih' := ih (pre ++ [Zt]) (JK + 1) _ (by rw [hsplit]; simp) (by simp [hidx]) hh nx
       refine zJ ?_
       first | exact ih' _ | (simp only [pvE, lsE, zq, h52e] at ih' ⊢; exact ih' _) | (simp only [pvE, lsE, zq, h52e, h37, h40, h41] at ih' ⊢; exact ih' _)
     ·rw [if_neg h40] at hh
      replace h40 := Bool.eq_false_iff.mpr h40
      refine zb fun K kk hK => ?_
      simp only [go_sem, h40, hl0a, hl0b, hl0d, hl0w]
      (repeat refine sd ?_)
      refine hK _ _ fun nx => ?_; clear hK K; try clear kk
      refine zh rfl ?_
      refine zx ?_; refine nmx ?_
      obtain ⟨awg, h53, hh⟩ := zf hh
      obtain ⟨h53a, h53c⟩ := zX h53
      have h53d := qP (f := za.pv) h53c
      have h53e := qQ h53c
      try simp only [List.length_cons, List.length_nil, Nat.zero_add, Nat.reduceAdd] at h53a h53e
      try simp only [h53e] at h53a
      try simp only [List.map_cons, List.map_nil, List.nil_append, List.append_nil, List.cons_append, List.singleton_append, zq, pvE] at h53d
      refine zu fun K kk hK => ?_
      simp only [go_sem, h53a, h53d, h53e, hl0a, hl0b, hl0d, hl0w]
      (repeat refine sd ?_)
      refine hK _ _ fun nx => ?_; clear hK K; try clear kk
      refine nmx ?_
      refine zu fun K kk hK => ?_
      simp only [go_sem, hl0a, hl0b, hl0d, hl0w]
      refine hK _ _ fun nx => ?_; clear hK K; try clear kk
      refine nmx ?_
      have ih' := ih (pre ++ [Zt]) (JK + 1) _ (by rw [hsplit]; simp) (by simp [hidx]) hh nx
      refine zJ ?_
      first | exact ih' _ | (simp only [pvE, lsE, zq, h53e] at ih' ⊢; exact ih' _) | (simp only [pvE, lsE, zq, h53e, h37, h40] at ih' ⊢; exact ih' _)
    ·intro i s h
     obtain ⟨rfl, rfl, nx, g3, g5, rfl⟩ := h
     try dsimp only at hh
     refine nmx ?_
     refine zu fun K kk hK => ?_
     simp only [go_sem, hl0a, hl0b, hl0d, hl0w]
     refine hK _ _ fun nx => ?_; clear hK K; try clear kk
     refine nmx ?_
     have ih' := ih (pre ++ [Zt]) (JK + 1) _ (by rw [hsplit]; simp) (by simp [hidx]) hh nx
     refine zJ ?_
     first | exact ih' _ | (simp only [pvE, lsE, zq] at ih' ⊢; exact ih' _) | (simp only [pvE, lsE, zq, h37] at ih' ⊢; exact ih' _)
    ·intro s h; exact h.elim
  exact key l_1 [] _ _ rfl rfl f0 _ _
 ·rintro s ⟨t, hless, aev, rfl, awQ, axg, nx, g3, rfl⟩
  try dsimp only at hh
  refine nmy ?_
  first | (refine wm hless ?_; try refine kz ?_) | refine qH hless ?_ | refine qG hless ?_
  refine zb fun K kk hK => ?_
  simp only [go_sem]
  refine hK _ _ fun nx => ?_; clear hK K; try clear kk
  refine zi ?_; refine nmx ?_
  obtain hR := Option.some.inj hh
  subst hR
  exact aaF (by rfl) (by rfl) (by rfl) (by simp only [List.length_map, List.length_cons, List.length_nil, Nat.zero_add, Nat.reduceAdd]) (by first | rfl | (simp only [pvE, lsE, zq]; done) | (simp only [pvE, lsE, zq]; rfl))
 ·intro i s h; exact h.elim
 ·intro s h; exact h.elim
theorem Yv (x_1 : zt) (agy : (List za)) (R : za) (hh : jd x_1 agy = some R) : PC Tryd.prog 56 [.agg [.int .i64 x_1.Text, .int .i64 x_1.Marks, .int .i64 x_1.zo, .int .i64 x_1.In], .list 5 (agy.map za.pv)] (.agg [.str R.Kind, .str R.Text, .list 1 (R.Marks.map PV.str), .list 2 (R.zo.map zg.pv), .list 5 (R.Kids.map za.pv)]) := by
 rw [jd] at hh
 refine JZ rfl ?_
 refine zb fun K kk hK => ?_
 simp only [go_sem]
 refine hK _ _ fun nx => ?_; clear hK K; try clear kk
 refine zb fun K kk hK => ?_
 simp only [go_sem]
 refine hK _ _ fun nx => ?_; clear hK K; try clear kk
 refine zb fun K kk hK => ?_
 simp only [go_sem]
 refine hK _ _ fun nx => ?_; clear hK K; try clear kk
 obtain ⟨as1, h1, hh⟩ := zf hh
 obtain ⟨x_4, h2, hh⟩ := zf hh
 obtain ⟨h2a, h2b, h2c⟩ := rd_some h2
 have h2d := vz (f := PV.str) h2c
 have h2f := wX (f := PV.str) h2c
 try simp only [Int.toNat_natCast, Int.reduceToNat] at h2d h2f
 simp only [List.length_cons, List.length_nil, List.map_cons, List.map_nil, Nat.zero_add, Nat.reduceAdd, reduceCtorEq, not_false_eq_true, and_true, pvE] at h2b h2d h2f
 obtain ⟨ar9, h3, hh⟩ := zf hh
 obtain ⟨x_6, h4, hh⟩ := zf hh
 obtain ⟨h4a, h4b, h4c⟩ := rd_some h4
 have h4d := vz (f := PV.str) h4c
 have h4f := wX (f := PV.str) h4c
 try simp only [Int.toNat_natCast, Int.reduceToNat] at h4d h4f
 simp only [List.length_cons, List.length_nil, List.map_cons, List.map_nil, Nat.zero_add, Nat.reduceAdd, reduceCtorEq, not_false_eq_true, and_true, pvE] at h4b h4d h4f
 refine zb fun K kk hK => ?_
 simp only [go_sem, h2a, h2b, h2d, h4a, h4b, h4d, h2f, h4f]
 (repeat refine sd ?_)
 refine ze (qg _ _ _ h1) (by (try simp only [go_sem, h2a, h2b, h2d, h4a, h4b, h4d, h2f, h4f]) <;> exact wkl) (by rfl) (by rfl) ?_
 simp only [go_sem, h2a, h2b, h2d, h4a, h4b, h4d, h2f, h4f]
 (repeat refine sd ?_)
 refine ze (qg _ _ _ h3) (by (try simp only [go_sem, h2a, h2b, h2d, h4a, h4b, h4d, h2f, h4f]) <;> exact wkl) (by rfl) (by rfl) ?_
 simp only [go_sem, h2a, h2b, h2d, h4a, h4b, h4d, h2f, h4f]
 (repeat refine sd ?_)
 refine hK _ _ fun nx => ?_; clear hK K; try clear kk
 obtain ⟨agP, h5, hh⟩ := zf hh
 refine zb fun K kk hK => ?_
 simp only [go_sem]
 refine ze (aaM _ _ h5).list (by (try simp only [go_sem]) <;> exact wkl) (by rfl) (by rfl) ?_
 simp only [go_sem]
 refine hK _ _ fun nx => ?_; clear hK K; try clear kk
 refine zi ?_; refine nmx ?_
 obtain hR := Option.some.inj hh
 subst hR
 exact zy
end Go.Proofs.YtclohbgnaopjfaaDoor
