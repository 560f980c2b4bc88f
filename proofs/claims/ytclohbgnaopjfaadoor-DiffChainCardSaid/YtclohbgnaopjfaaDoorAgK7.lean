/- Texts of the proof of diffChainCard -/
import Derived.Test.YtclohbgnaopjfaaDoorAgC
import Derived.Test.YtclohbgnaopjfaaDoorAgF
import Derived.Test.YtclohbgnaopjfaaDoorAgK0
import Derived.Test.YtclohbgnaopjfaaDoorAgK6
namespace Go.Proofs.YtclohbgnaopjfaaDoor
set_option linter.unusedSimpArgs false
set_option linter.unusedVariables false
open Go
set_option maxRecDepth 100000
theorem XT (JK : Int) (arH : Int) (vT : Int) (zD : Int) (xc : Int) (kQ : (List za)) (vZ : Str) (kR : Str) (l_9 : (List zt)) (R : (Int × Int × Int × (List za) × Str × Str × (List zt))) (hh : jC JK arH vT zD xc kQ vZ kR l_9 = some R) : BC Tryd.prog 113 [.box 1000 0 0, .int .i64 JK, .int .i64 arH] [.var 136 [.int .u8 vT, .int .i64 zD, .int .i64 xc, .list 5 (kQ.map za.pv), .str vZ, .str kR, .row 1001 0 l_9.length], .row false 3 (l_9.map zt.pv)] (.tup []) [.var 136 [.int .u8 R.1, .int .i64 R.2.1, .int .i64 R.2.2.1, .list 5 (R.2.2.2.1.map za.pv), .str R.2.2.2.2.1, .str R.2.2.2.2.2.1, .row 1001 0 R.2.2.2.2.2.2.length], .moved 3 (R.2.2.2.2.2.2.map zt.pv)] := by
 rw [jC] at hh
 refine Jj rfl rfl rfl ?_
 refine zb fun K kk hK => ?_
 simp only [go_sem]
 refine hK _ _ fun nx => ?_; clear hK K; try clear kk
 refine zm ?_
 by_cases h1 : (decide ((w64 ((l_9.length : Int) - (1 : Int))) ≥ (0 : Int))) = true
 ·rw [if_pos h1] at hh
  obtain ⟨aeQ, h2, hh⟩ := zf hh
  obtain ⟨h2a, h2b, h2c⟩ := rd_some h2
  have h2d := kE (f := zt.pv) h2c
  have h2f := wo (f := zt.pv) h2c
  try simp only [Int.toNat_natCast, Int.reduceToNat] at h2d h2f
  refine zb fun K kk hK => ?_
  simp only [go_sem, h1, of_decide_eq_true h1, h2a, h2b, h2d, h2f.1, h2f.2]
  (repeat refine sd ?_)
  refine hK _ _ fun nx => ?_; clear hK K; try clear kk
  by_cases h3 : ((w64 (aeQ.Pos + aeQ.Old)) == JK) = true
  ·rw [if_pos h3] at hh
   refine zn (by first | exact congrArg PV.bool h3 | rfl) ?_
   obtain ⟨ato, h4, hh⟩ := zf hh
   obtain ⟨h4a, h4c⟩ := XY h4
   have h4d := acR (f := zt.pv) h4c
   try simp only [Int.toNat_natCast, Int.reduceToNat, List.map_cons, List.map_nil, List.cons_append, List.nil_append, List.singleton_append, pvE] at h4d
   have h4e := acN h4c
   have h2b_h4 := h2b; rw [h4e] at h2b_h4
   have h2f1_h4 := h2f.1; rw [h4e] at h2f1_h4
   have h2a_h4 := h2a; try rw [h4e] at h2a_h4
   have h2d_h4 := h2d; try rw [h4e] at h2d_h4
   try rw [h4e] at h4d
   have h4bw := h4a.2; rw [h4e] at h4bw
   refine zb fun K kk hK => ?_
   simp only [go_sem, h2a, h2b, h2d, h2f.1, h2f.2, h4a.1, h4a.2, h4d, h4e, h2b_h4, h2f1_h4, h2a_h4, h2d_h4, h4bw]
   (repeat refine sd ?_)
   try simp only [go_sem, h2a, h2b, h2d, h2f.1, h2f.2, h4a.1, h4a.2, h4d, h4e, h2b_h4, h2f1_h4, h2a_h4, h2d_h4, h4bw]
   refine hK _ _ fun nx => ?_; clear hK K; try clear kk
   refine zk ?_; refine nmx ?_
   obtain hR := Option.some.inj hh
   subst hR
   refine ji ?_ (by rfl) ?_
   ·simp only [go_sem, wR, xE, vg, je, Qb, List.map_cons, List.map_append, List.head?_cons, h1, h3]
    all_goals exact wkw
   ·(try simp only [go_sem, h1, h3]); (try simp only [List.length_append, List.map_append, h4e]); all_goals exact wkb
  ·rw [if_neg h3] at hh
   replace h3 := Bool.eq_false_iff.mpr h3
   refine zi (by first | exact congrArg PV.bool h3 | rfl) ?_
   refine zy ?_; refine nmx ?_
   obtain ⟨ahU, h5, hh⟩ := zf hh
   obtain ⟨h5a, h5c⟩ := zV h5
   have h5d := qI (f := zt.pv) h5c
   have h5e := qK h5c
   try simp only [List.length_cons, List.length_nil, Nat.zero_add, Nat.reduceAdd] at h5a h5e
   try simp only [h5e] at h5a
   try simp only [List.map_cons, List.map_nil, List.nil_append, List.append_nil, List.cons_append, List.singleton_append, zq, pvE] at h5d
   refine zu fun K kk hK => ?_
   simp only [go_sem, h5a, h5d, h5e]
   (repeat refine sd ?_)
   refine hK _ _ fun nx => ?_; clear hK K; try clear kk
   refine nmx ?_
   obtain hR := Option.some.inj hh
   subst hR
   refine YT ?_
   refine ji ?_ (by rfl) ?_
   ·simp only [go_sem, wR, xE, vg, je, Qb, List.map_cons, List.map_append, List.head?_cons, h1, h3]
    all_goals exact wkw
   ·(try simp only [go_sem, h1, h3]); (try simp only [List.length_append, List.map_append, h5e]); all_goals exact wkb
 ·rw [if_neg h1] at hh
  replace h1 := Bool.eq_false_iff.mpr h1
  refine zb fun K kk hK => ?_
  simp only [go_sem, h1, of_decide_eq_false h1]
  (repeat refine sd ?_)
  refine hK _ _ fun nx => ?_; clear hK K; try clear kk
  refine zi rfl ?_
  refine zy ?_; refine nmx ?_
  obtain ⟨an1, h6, hh⟩ := zf hh
  obtain ⟨h6a, h6c⟩ := zV h6
  have h6d := qI (f := zt.pv) h6c
  have h6e := qK h6c
  try simp only [List.length_cons, List.length_nil, Nat.zero_add, Nat.reduceAdd] at h6a h6e
  try simp only [h6e] at h6a
  try simp only [List.map_cons, List.map_nil, List.nil_append, List.append_nil, List.cons_append, List.singleton_append, zq, pvE] at h6d
  refine zu fun K kk hK => ?_
  simp only [go_sem, h6a, h6d, h6e]
  (repeat refine sd ?_)
  refine hK _ _ fun nx => ?_; clear hK K; try clear kk
  refine nmx ?_
  obtain hR := Option.some.inj hh
  subst hR
  refine YT ?_
  refine ji ?_ (by rfl) ?_
  ·simp only [go_sem, wR, xE, vg, je, Qb, List.map_cons, List.map_append, List.head?_cons, h1]
   all_goals exact wkw
  ·(try simp only [go_sem, h1]); (try simp only [List.length_append, List.map_append, h6e]); all_goals exact wkb
theorem xJ (a_1 : Int) (b_2 : Int) (agZ : (List Str)) (jF : za) (v_5 : (List Int)) (R : za) (hh : w9 a_1 b_2 agZ jF v_5 = some R) : BC Tryd.prog 114 [.int .i64 a_1, .int .i64 b_2, .list 1 (agZ.map PV.str), .box 1000 0 0, .box 1001 0 0] [.var 28 [.str jF.Kind, .str jF.Text, .list 1 (jF.Marks.map PV.str), .list 2 (jF.zh.map ze.pv), .list 5 (jF.Kids.map za.pv)], .var 65 [.list 1 (v_5.map (PV.int .i32))]] (.agg [.str R.Kind, .str R.Text, .list 1 (R.Marks.map PV.str), .list 2 (R.zh.map ze.pv), .list 5 (R.Kids.map za.pv)]) [.var 28 [.str jF.Kind, .str jF.Text, .list 1 (jF.Marks.map PV.str), .list 2 (jF.zh.map ze.pv), .list 5 (jF.Kids.map za.pv)], .var 65 [.list 1 (v_5.map (PV.int .i32))]] := by
 rw [w9] at hh
 refine Vj rfl rfl rfl ?_
 refine zb fun K kk hK => ?_
 simp only [go_sem]
 refine hK _ _ fun nx => ?_; clear hK K; try clear kk
 obtain ⟨s_6, h1, hh⟩ := zf hh
 obtain ⟨h1a, h1c⟩ := yP h1
 have h1g := Jn h1a
 have h1d := ap6 (f := (PV.int .i32)) h1c
 try simp only [Int.toNat_natCast, Int.reduceToNat, List.map_cons, List.map_nil, pvE] at h1d
 refine zb fun K kk hK => ?_
 simp only [go_sem, h1a.1, h1a.2.1, h1a.2.2, h1d, h1g]
 (repeat refine sd ?_)
 refine hK _ _ fun nx => ?_; clear hK K; try clear kk
 refine zk ?_; refine nmx ?_
 obtain hR := Option.some.inj hh
 subst hR
 refine ji ?_ (by rfl) ?_
 ·simp only [go_sem, wR, xE, vg, je, Qb, List.map_cons, List.map_append, List.head?_cons]
  all_goals exact wkw
 ·(try simp only [go_sem]); (try simp only [List.length_append, List.map_append]); all_goals exact wkb
theorem XV (n_1 : za) (zQ : Int) (vT : Int) (zD : Int) (xc : Int) (kQ : (List za)) (vZ : Str) (kR : Str) (l_9 : (List zt)) (R : ((List za) × Int × Int × Int × (List za) × Str × Str × (List zt))) (hh : jB n_1 zQ vT zD xc kQ vZ kR l_9 = some R) : BC Tryd.prog 101 [.box 1000 0 0, .agg [.str n_1.Kind, .str n_1.Text, .list 1 (n_1.Marks.map PV.str), .list 2 (n_1.zh.map ze.pv), .list 5 (n_1.Kids.map za.pv)], .int .i64 zQ] [.var 136 [.int .u8 vT, .int .i64 zD, .int .i64 xc, .list 5 (kQ.map za.pv), .str vZ, .str kR, .row 1001 0 l_9.length], .row false 3 (l_9.map zt.pv)] (.list 5 (R.1.map za.pv)) [.var 136 [.int .u8 R.2.1, .int .i64 R.2.2.1, .int .i64 R.2.2.2.1, .list 5 (R.2.2.2.2.1.map za.pv), .str R.2.2.2.2.2.1, .str R.2.2.2.2.2.2.1, .row 1001 0 R.2.2.2.2.2.2.2.length], .moved 3 (R.2.2.2.2.2.2.2.map zt.pv)] := by
 rw [jB] at hh
 refine Ji rfl rfl rfl ?_
 refine zb fun K kk hK => ?_
 simp only [go_sem]
 refine hK _ _ fun nx => ?_; clear hK K; try clear kk
 refine zb fun K kk hK => ?_
 simp only [go_sem]
 refine hK _ _ fun nx => ?_; clear hK K; try clear kk
 refine zb fun K kk hK => ?_
 simp only [go_sem]
 refine hK _ _ fun nx => ?_; clear hK K; try clear kk
 refine zb fun K kk hK => ?_
 simp only [go_sem]
 refine hK _ _ fun nx => ?_; clear hK K; try clear kk
 obtain ⟨⟨VZ, YH⟩, h1, hh⟩ := zf hh
 dsimp only at hh
 refine zb fun K kk hK => ?_
 simp only [go_sem]
 refine zg (aeb _ _ _ h1) (by (try simp only [go_sem]) <;> exact wkl) (by rfl) (by rfl) ?_
 simp only [go_sem]
 refine hK _ _ fun nx => ?_; clear hK K; try clear kk
 refine zm ?_
 by_cases h2 : (!YH) = true
 ·rw [if_pos h2] at hh
  refine zb fun K kk hK => ?_
  simp only [go_sem, h2]
  (repeat refine sd ?_)
  refine hK _ _ fun nx => ?_; clear hK K; try clear kk
  refine zn rfl ?_
  refine zb fun K kk hK => ?_
  simp only [go_sem]
  refine hK _ _ fun nx => ?_; clear hK K; try clear kk
  refine zk ?_; refine nmx ?_
  obtain hR := Option.some.inj hh
  subst hR
  refine ji ?_ (by rfl) ?_
  ·simp only [go_sem, wR, xE, vg, je, Qb, List.map_cons, List.map_append, List.head?_cons, h2]
   all_goals exact wkw
  ·(try simp only [go_sem, h2]); (try simp only [List.length_append, List.map_append]); all_goals exact wkb
 ·rw [if_neg h2] at hh
  replace h2 := Bool.eq_false_iff.mpr h2
  refine zb fun K kk hK => ?_
  simp only [go_sem, h2]
  (repeat refine sd ?_)
  refine hK _ _ fun nx => ?_; clear hK K; try clear kk
  by_cases h3 : ((if ((runes n_1.Text).length : Int) < (if (0 : Int) > (w64 (zD - zQ)) then (0 : Int) else w64 (zD - zQ)) then ((runes n_1.Text).length : Int) else (if (0 : Int) > (w64 (zD - zQ)) then (0 : Int) else w64 (zD - zQ))) == (if ((runes n_1.Text).length : Int) < (if (if ((runes n_1.Text).length : Int) < (if (0 : Int) > (w64 (zD - zQ)) then (0 : Int) else w64 (zD - zQ)) then ((runes n_1.Text).length : Int) else (if (0 : Int) > (w64 (zD - zQ)) then (0 : Int) else w64 (zD - zQ))) > (w64 (xc - zQ)) then (if ((runes n_1.Text).length : Int) < (if (0 : Int) > (w64 (zD - zQ)) then (0 : Int) else w64 (zD - zQ)) then ((runes n_1.Text).length : Int) else (if (0 : Int) > (w64 (zD - zQ)) then (0 : Int) else w64 (zD - zQ))) else w64 (xc - zQ)) then ((runes n_1.Text).length : Int) else (if (if ((runes n_1.Text).length : Int) < (if (0 : Int) > (w64 (zD - zQ)) then (0 : Int) else w64 (zD - zQ)) then ((runes n_1.Text).length : Int) else (if (0 : Int) > (w64 (zD - zQ)) then (0 : Int) else w64 (zD - zQ))) > (w64 (xc - zQ)) then (if ((runes n_1.Text).length : Int) < (if (0 : Int) > (w64 (zD - zQ)) then (0 : Int) else w64 (zD - zQ)) then ((runes n_1.Text).length : Int) else (if (0 : Int) > (w64 (zD - zQ)) then (0 : Int) else w64 (zD - zQ))) else w64 (xc - zQ)))) = true
  ·rw [if_pos h3] at hh
   refine zn (by first | exact congrArg PV.bool h3 | rfl) ?_
   refine zb fun K kk hK => ?_
   simp only [go_sem]
   refine hK _ _ fun nx => ?_; clear hK K; try clear kk
   refine zk ?_; refine nmx ?_
   obtain hR := Option.some.inj hh
   subst hR
   refine ji ?_ (by rfl) ?_
   ·simp only [go_sem, wR, xE, vg, je, Qb, List.map_cons, List.map_append, List.head?_cons, h2, h3]
    all_goals exact wkw
   ·(try simp only [go_sem, h2, h3]); (try simp only [List.length_append, List.map_append]); all_goals exact wkb
  ·rw [if_neg h3] at hh
   replace h3 := Bool.eq_false_iff.mpr h3
   refine zi (by first | exact congrArg PV.bool h3 | rfl) ?_
   refine zy ?_; refine nmx ?_
   obtain ⟨⟨aqE, ara, awN, am1, arb, aoA, auw⟩, h4, hh⟩ := zf hh
   dsimp only at hh
   refine zb fun K kk hK => ?_
   simp only [go_sem]
   refine Qc [1000, 1001] (by decide) (XT _ _ _ _ _ _ _ _ _ _ h4) (by (try simp only [go_sem, h2, h3]) <;> exact wkb) (by rfl) ?_
   simp only [go_sem]
   refine hK _ _ fun nx => ?_; clear hK K; try clear kk
   refine zb fun K kk hK => ?_
   simp only [go_sem]
   refine hK _ _ fun nx => ?_; clear hK K; try clear kk
   obtain ⟨awV, h5, hh⟩ := zf hh
   obtain ⟨awK, h6, hh⟩ := zf hh
   obtain ⟨awR, h7, hh⟩ := zf hh
   refine zb fun K kk hK => ?_
   simp only [go_sem]
   refine acQ [4, 7] (by decide) (by decide) (xJ _ _ _ _ _ _ h5) (by (try simp only [go_sem, h2, h3]) <;> exact wkb) (by rfl) (by rfl) ?_
   simp only [go_sem]
   refine acQ [4, 7] (by decide) (by decide) (xJ _ _ _ _ _ _ h6) (by (try simp only [go_sem, h2, h3]) <;> exact wkb) (by rfl) (by rfl) ?_
   simp only [go_sem]
   refine acQ [4, 7] (by decide) (by decide) (xJ _ _ _ _ _ _ h7) (by (try simp only [go_sem, h2, h3]) <;> exact wkb) (by rfl) (by rfl) ?_
   simp only [go_sem]
   refine hK _ _ fun nx => ?_; clear hK K; try clear kk
   refine zk ?_; refine nmx ?_
   obtain hR := Option.some.inj hh
   subst hR
   refine ji ?_ (by rfl) ?_
   ·simp only [go_sem, wR, xE, vg, je, Qb, List.map_cons, List.map_append, List.head?_cons, h2, h3]
    all_goals exact wkw
   ·(try simp only [go_sem, h2, h3]); (try simp only [List.length_append, List.map_append]); all_goals exact wkb
theorem Yl (l_1 : (List za)) (R : (List za)) (hh : WZ l_1 = some R) : PC Tryd.prog 82 [.list 5 (l_1.map za.pv)] (.own 5 (R.map za.pv)) := by
 rw [WZ] at hh
 refine agP rfl ?_
 refine zb fun K kk hK => ?_
 simp only [go_sem]
 refine hK _ _ fun nx => ?_; clear hK K; try clear kk
 refine zb fun K kk hK => ?_
 simp only [go_sem]
 refine hK _ _ fun nx => ?_; clear hK K; try clear kk
 refine zm ?_
 refine zb fun K kk hK => ?_
 simp only [go_sem]
 refine hK _ _ fun nx => ?_; clear hK K; try clear kk
 obtain ⟨e0, f0, hh⟩ := zf hh
 obtain ⟨hlen0, f0⟩ := qf f0
 refine qp (kC (fun s => ∃ afF, afF = e0 ∧ ∃ (ay4 : Int) (ava : Bool) (nx : Nat) (g3 : Nat), s = ⟨[(3, .row 3 g3 afF.length), (7, .list 5 (l_1.map za.pv)), (8, .int .i64 (l_1.length : Int)), (9, .int .i64 ay4), (10, .bool ava)], [(3, g3, .row false 5 (afF.map za.pv))], nx⟩))
  (fun i s => False)
  (fun s => False) ?_ ?_ ?_ ?_
 ·refine zA ?_
  refine qd fun I hI => ?_
  have key : ∀ (suf pre : List za) (Zy : Int) (jr : (List za)), l_1 = pre ++ suf → Zy = (pre.length : Int) → ky suf Zy jr = some e0 → ∀ (nx : Nat) (g3 : Nat), I ⟨[(3, .row 3 g3 jr.length), (7, .list 5 (l_1.map za.pv)), (8, .int .i64 (l_1.length : Int)), (9, .int .i64 Zy)], [(3, g3, .row false 5 (jr.map za.pv))], nx⟩ := by
   intro suf
   induction suf with
   | nil =>
    intro pre Zy jr hsplit hidx hh nx g3
    rw [ky] at hh
    refine hI _ ?_
    have h43 := walk_nil hsplit hidx
    refine zb fun K kk hK => ?_
    simp only [go_sem]
    refine hK _ _ fun nx => ?_; clear hK K; try clear kk
    refine zm ?_
    refine zi (by first | exact congrArg PV.bool h43 | rfl) ?_
    refine zU ?_; refine nmx ?_
    refine wX ?_
    refine zG ?_
    refine ⟨_, (Option.some.inj hh), ?_⟩
    first | exact ⟨_, _, _, _, rfl⟩ | (simp only [pvE, lsE, zq]; exact ⟨_, _, _, _, rfl⟩) | (simp only [pvE, lsE, zq, h43]; exact ⟨_, _, _, _, rfl⟩)
   | cons VI suf ih =>
    intro pre Zy jr hsplit hidx hh nx g3
    rw [ky] at hh
    refine hI _ ?_
    obtain ⟨hl0a, hl0b, hl0d, hl0w, h43⟩ := qM (f := za.pv) hsplit hidx hlen0
    refine zb fun K kk hK => ?_
    simp only [go_sem]
    refine hK _ _ fun nx => ?_; clear hK K; try clear kk
    refine zm ?_
    refine zn (by first | exact congrArg PV.bool h43 | rfl) ?_
    refine zy ?_; refine nmx ?_
    refine zm ?_
    refine zA ?_
    refine zb fun K kk hK => ?_
    simp only [go_sem, hl0a, hl0b, hl0d, hl0w]
    refine hK _ _ fun nx => ?_; clear hK K; try clear kk
    refine zb fun K kk hK => ?_
    simp only [go_sem, hl0a, hl0b, hl0d, hl0w]
    refine hK _ _ fun nx => ?_; clear hK K; try clear kk
    refine zA ?_
    obtain ⟨afJ, h44, hh⟩ := zf hh
    by_cases h45 : (afJ) = true
    ·rw [if_pos h45] at hh
     refine zb fun K kk hK => ?_
     simp only [go_sem, h45, hl0a, hl0b, hl0d, hl0w]
     (repeat refine sd ?_)
     refine zg (kV _ _ h44) (by (try simp only [go_sem, h45, hl0a, hl0b, hl0d, hl0w]) <;> exact wkl) (by rfl) (by rfl) ?_
     simp only [go_sem, h45, hl0a, hl0b, hl0d, hl0w]
     (repeat refine sd ?_)
     refine hK _ _ fun nx => ?_; clear hK K; try clear kk
     by_cases h46 : (VI.Text == ([] : Str)) = true
     ·rw [if_pos h46] at hh
      refine zn (by first | exact congrArg PV.bool h46 | rfl) ?_
      refine zy ?_; refine nmx ?_
      refine zu fun K kk hK => ?_
      simp only [go_sem, hl0a, hl0b, hl0d, hl0w]
      refine hK _ _ fun nx => ?_; clear hK K; try clear kk
      refine nmx ?_
      have ih' := ih (pre ++ [VI]) (Zy + 1) _ (by rw [hsplit]; simp) (by simp [hidx]) hh nx
      refine zG ?_
      first | exact ih' _ | (simp only [pvE, lsE, zq] at ih' ⊢; exact ih' _) | (simp only [pvE, lsE, zq, h43, h45, h46] at ih' ⊢; exact ih' _)
     ·rw [if_neg h46] at hh
      replace h46 := Bool.eq_false_iff.mpr h46
      refine zi (by first | exact congrArg PV.bool h46 | rfl) ?_
      by_cases h47 : (decide ((w64 ((jr.length : Int) - (1 : Int))) ≥ (0 : Int))) = true
      ·rw [if_pos h47] at hh
       obtain ⟨awv, h48, hh⟩ := zf hh
       obtain ⟨h48a, h48b, h48c⟩ := rd_some h48
       have h48d := kE (f := za.pv) h48c
       have h48f := wo (f := za.pv) h48c
       try simp only [Int.toNat_natCast, Int.reduceToNat] at h48d h48f
       obtain ⟨aiB, h49, hh⟩ := zf hh
       refine zb fun K kk hK => ?_
       simp only [go_sem, h47, of_decide_eq_true h47, h48a, h48b, h48d, h48f.1, h48f.2, hl0a, hl0b, hl0d, hl0w]
       (repeat refine sd ?_)
       refine zg (JM _ _ _ h49) (by (try simp only [go_sem, h47, of_decide_eq_true h47, h48a, h48b, h48d, h48f.1, h48f.2, hl0a, hl0b, hl0d, hl0w]) <;> exact wkl) (by rfl) (by rfl) ?_
       simp only [go_sem, h47, of_decide_eq_true h47, h48a, h48b, h48d, h48f.1, h48f.2, hl0a, hl0b, hl0d, hl0w]
       (repeat refine sd ?_)
       refine hK _ _ fun nx => ?_; clear hK K; try clear kk
       by_cases h50 : (aiB) = true
       ·rw [if_pos h50] at hh
        refine zn (by first | exact congrArg PV.bool h50 | rfl) ?_
        obtain ⟨h51, hh⟩ := qf hh
        refine zb fun K kk hK => ?_
        simp only [go_sem, h48a, h48b, h48d, h48f.1, h48f.2, h51, hl0a, hl0b, hl0d, hl0w]
        (repeat refine sd ?_)
        refine hK _ _ fun nx => ?_; clear hK K; try clear kk
        obtain ⟨avr, h52, hh⟩ := zf hh
        obtain ⟨h52a, h52c⟩ := XY h52
        have h52d := acR (f := za.pv) h52c
        try simp only [Int.toNat_natCast, Int.reduceToNat, List.map_cons, List.map_nil, List.cons_append, List.nil_append, List.singleton_append, pvE] at h52d
        have h52e := acN h52c
        have h48b_h52 := h48b; rw [h52e] at h48b_h52
        have h48f1_h52 := h48f.1; rw [h52e] at h48f1_h52
        have h48a_h52 := h48a; try rw [h52e] at h48a_h52
        have h48d_h52 := h48d; try rw [h52e] at h48d_h52
        try rw [h52e] at h52d
        have h52bw := h52a.2; rw [h52e] at h52bw
        refine zu fun K kk hK => ?_
        simp only [go_sem, h48a, h48b, h48d, h48f.1, h48f.2, h52a.1, h52a.2, h52d, h52e, h48b_h52, h48f1_h52, h48a_h52, h48d_h52, h52bw, hl0a, hl0b, hl0d, hl0w]
        (repeat refine sd ?_)
        try simp only [go_sem, h48a, h48b, h48d, h48f.1, h48f.2, h52a.1, h52a.2, h52d, h52e, h48b_h52, h48f1_h52, h48a_h52, h48d_h52, h52bw, hl0a, hl0b, hl0d, hl0w]
        refine hK _ _ fun nx => ?_; clear hK K; try clear kk
        refine nmx ?_
        refine zu fun K kk hK => ?_
        simp only [go_sem, hl0a, hl0b, hl0d, hl0w]
        refine hK _ _ fun nx => ?_; clear hK K; try clear kk
        refine nmx ?_
        have ih' := ih (pre ++ [VI]) (Zy + 1) _ (by rw [hsplit]; simp) (by simp [hidx]) hh nx
        refine zG ?_
        first | exact ih' _ | (simp only [pvE, lsE, zq, h52e] at ih' ⊢; exact ih' _) | (simp only [pvE, lsE, zq, h52e, h43, h45, h46, h47, h50] at ih' ⊢; exact ih' _)
       ·rw [if_neg h50] at hh
        replace h50 := Bool.eq_false_iff.mpr h50
        refine zi (by first | exact congrArg PV.bool h50 | rfl) ?_
        obtain ⟨atB, h53, hh⟩ := zf hh
        obtain ⟨h53a, h53c⟩ := zV h53
        have h53d := qI (f := za.pv) h53c
        have h53e := qK h53c
        try simp only [List.length_cons, List.length_nil, Nat.zero_add, Nat.reduceAdd] at h53a h53e
        try simp only [h53e] at h53a
        try simp only [List.map_cons, List.map_nil, List.nil_append, List.append_nil, List.cons_append, List.singleton_append, zq, pvE] at h53d
        refine zu fun K kk hK => ?_
        simp only [go_sem, h53a, h53d, h53e, hl0a, hl0b, hl0d, hl0w]
        (repeat refine sd ?_)
        refine hK _ _ fun nx => ?_; clear hK K; try clear kk
        refine nmx ?_
        refine zu fun K kk hK => ?_
        simp only [go_sem, hl0a, hl0b, hl0d, hl0w]
        refine hK _ _ fun nx => ?_; clear hK K; try clear kk
        refine nmx ?_
        have ih' := ih (pre ++ [VI]) (Zy + 1) _ (by rw [hsplit]; simp) (by simp [hidx]) hh nx
        refine zG ?_
        first | exact ih' _ | (simp only [pvE, lsE, zq, h53e] at ih' ⊢; exact ih' _) | (simp only [pvE, lsE, zq, h53e, h43, h45, h46, h47, h50] at ih' ⊢; exact ih' _)
      ·rw [if_neg h47] at hh
       replace h47 := Bool.eq_false_iff.mpr h47
       refine zb fun K kk hK => ?_
       simp only [go_sem, h47, of_decide_eq_false h47, hl0a, hl0b, hl0d, hl0w]
       (repeat refine sd ?_)
       refine hK _ _ fun nx => ?_; clear hK K; try clear kk
       refine zi rfl ?_
       obtain ⟨auk, h54, hh⟩ := zf hh
       obtain ⟨h54a, h54c⟩ := zV h54
       have h54d := qI (f := za.pv) h54c
       have h54e := qK h54c
       try simp only [List.length_cons, List.length_nil, Nat.zero_add, Nat.reduceAdd] at h54a h54e
       try simp only [h54e] at h54a
       try simp only [List.map_cons, List.map_nil, List.nil_append, List.append_nil, List.cons_append, List.singleton_append, zq, pvE] at h54d
       refine zu fun K kk hK => ?_
       simp only [go_sem, h54a, h54d, h54e, hl0a, hl0b, hl0d, hl0w]
       (repeat refine sd ?_)
       refine hK _ _ fun nx => ?_; clear hK K; try clear kk
       refine nmx ?_
       refine zu fun K kk hK => ?_
       simp only [go_sem, hl0a, hl0b, hl0d, hl0w]
       refine hK _ _ fun nx => ?_; clear hK K; try clear kk
       refine nmx ?_
       have ih' := ih (pre ++ [VI]) (Zy + 1) _ (by rw [hsplit]; simp) (by simp [hidx]) hh nx
       refine zG ?_
       first | exact ih' _ | (simp only [pvE, lsE, zq, h54e] at ih' ⊢; exact ih' _) | (simp only [pvE, lsE, zq, h54e, h43, h45, h46, h47] at ih' ⊢; exact ih' _)
    ·rw [if_neg h45] at hh
     replace h45 := Bool.eq_false_iff.mpr h45
     refine zb fun K kk hK => ?_
     simp only [go_sem, h45, hl0a, hl0b, hl0d, hl0w]
     (repeat refine sd ?_)
     refine zg (kV _ _ h44) (by (try simp only [go_sem, h45, hl0a, hl0b, hl0d, hl0w]) <;> exact wkl) (by rfl) (by rfl) ?_
     simp only [go_sem, h45, hl0a, hl0b, hl0d, hl0w]
     (repeat refine sd ?_)
     refine hK _ _ fun nx => ?_; clear hK K; try clear kk
     refine zi rfl ?_
     by_cases h55 : (decide ((w64 ((jr.length : Int) - (1 : Int))) ≥ (0 : Int))) = true
     ·rw [if_pos h55] at hh
      obtain ⟨av5, h56, hh⟩ := zf hh
      obtain ⟨h56a, h56b, h56c⟩ := rd_some h56
      have h56d := kE (f := za.pv) h56c
      have h56f := wo (f := za.pv) h56c
      try simp only [Int.toNat_natCast, Int.reduceToNat] at h56d h56f
      obtain ⟨aiC, h57, hh⟩ := zf hh
      refine zb fun K kk hK => ?_
      simp only [go_sem, h55, of_decide_eq_true h55, h56a, h56b, h56d, h56f.1, h56f.2, hl0a, hl0b, hl0d, hl0w]
      (repeat refine sd ?_)
      refine zg (JM _ _ _ h57) (by (try simp only [go_sem, h55, of_decide_eq_true h55, h56a, h56b, h56d, h56f.1, h56f.2, hl0a, hl0b, hl0d, hl0w]) <;> exact wkl) (by rfl) (by rfl) ?_
      simp only [go_sem, h55, of_decide_eq_true h55, h56a, h56b, h56d, h56f.1, h56f.2, hl0a, hl0b, hl0d, hl0w]
      (repeat refine sd ?_)
      refine hK _ _ fun nx => ?_; clear hK K; try clear kk
      by_cases h58 : (aiC) = true
      ·rw [if_pos h58] at hh
       refine zn (by first | exact congrArg PV.bool h58 | rfl) ?_
       obtain ⟨h59, hh⟩ := qf hh
       refine zb fun K kk hK => ?_
       simp only [go_sem, h56a, h56b, h56d, h56f.1, h56f.2, h59, hl0a, hl0b, hl0d, hl0w]
       (repeat refine sd ?_)
       refine hK _ _ fun nx => ?_; clear hK K; try clear kk
       obtain ⟨ayG, h60, hh⟩ := zf hh
       obtain ⟨h60a, h60c⟩ := XY h60
       have h60d := acR (f := za.pv) h60c
       try simp only [Int.toNat_natCast, Int.reduceToNat, List.map_cons, List.map_nil, List.cons_append, List.nil_append, List.singleton_append, pvE] at h60d
       have h60e := acN h60c
       have h56b_h60 := h56b; rw [h60e] at h56b_h60
       have h56f1_h60 := h56f.1; rw [h60e] at h56f1_h60
       have h56a_h60 := h56a; try rw [h60e] at h56a_h60
       have h56d_h60 := h56d; try rw [h60e] at h56d_h60
       try rw [h60e] at h60d
       have h60bw := h60a.2; rw [h60e] at h60bw
       refine zu fun K kk hK => ?_
       simp only [go_sem, h56a, h56b, h56d, h56f.1, h56f.2, h60a.1, h60a.2, h60d, h60e, h56b_h60, h56f1_h60, h56a_h60, h56d_h60, h60bw, hl0a, hl0b, hl0d, hl0w]
       (repeat refine sd ?_)
       try simp only [go_sem, h56a, h56b, h56d, h56f.1, h56f.2, h60a.1, h60a.2, h60d, h60e, h56b_h60, h56f1_h60, h56a_h60, h56d_h60, h60bw, hl0a, hl0b, hl0d, hl0w]
       refine hK _ _ fun nx => ?_; clear hK K; try clear kk
       refine nmx ?_
       refine zu fun K kk hK => ?_
       simp only [go_sem, hl0a, hl0b, hl0d, hl0w]
       refine hK _ _ fun nx => ?_; clear hK K; try clear kk
       refine nmx ?_
       have ih' := ih (pre ++ [VI]) (Zy + 1) _ (by rw [hsplit]; simp) (by simp [hidx]) hh nx
       refine zG ?_
       first | exact ih' _ | (simp only [pvE, lsE, zq, h60e] at ih' ⊢; exact ih' _) | (simp only [pvE, lsE, zq, h60e, h43, h45, h55, h58] at ih' ⊢; exact ih' _)
      ·rw [if_neg h58] at hh
       replace h58 := Bool.eq_false_iff.mpr h58
       refine zi (by first | exact congrArg PV.bool h58 | rfl) ?_
       obtain ⟨ayB, h61, hh⟩ := zf hh
       obtain ⟨h61a, h61c⟩ := zV h61
       have h61d := qI (f := za.pv) h61c
       have h61e := qK h61c
       try simp only [List.length_cons, List.length_nil, Nat.zero_add, Nat.reduceAdd] at h61a h61e
       try simp only [h61e] at h61a
       try simp only [List.map_cons, List.map_nil, List.nil_append, List.append_nil, List.cons_append, List.singleton_append, zq, pvE] at h61d
       refine zu fun K kk hK => ?_
       simp only [go_sem, h61a, h61d, h61e, hl0a, hl0b, hl0d, hl0w]
       (repeat refine sd ?_)
       refine hK _ _ fun nx => ?_; clear hK K; try clear kk
       refine nmx ?_
       refine zu fun K kk hK => ?_
       simp only [go_sem, hl0a, hl0b, hl0d, hl0w]
       refine hK _ _ fun nx => ?_; clear hK K; try clear kk
       refine nmx ?_
       have ih' := ih (pre ++ [VI]) (Zy + 1) _ (by rw [hsplit]; simp) (by simp [hidx]) hh nx
       refine zG ?_
       first | exact ih' _ | (simp only [pvE, lsE, zq, h61e] at ih' ⊢; exact ih' _) | (simp only [pvE, lsE, zq, h61e, h43, h45, h55, h58] at ih' ⊢; exact ih' _)
     ·rw [if_neg h55] at hh
      replace h55 := Bool.eq_false_iff.mpr h55
      refine zb fun K kk hK => ?_
      simp only [go_sem, h55, of_decide_eq_false h55, hl0a, hl0b, hl0d, hl0w]
      (repeat refine sd ?_)
      refine hK _ _ fun nx => ?_; clear hK K; try clear kk
      refine zi rfl ?_
      obtain ⟨ayC, h62, hh⟩ := zf hh
      obtain ⟨h62a, h62c⟩ := zV h62
      have h62d := qI (f := za.pv) h62c
      have h62e := qK h62c
      try simp only [List.length_cons, List.length_nil, Nat.zero_add, Nat.reduceAdd] at h62a h62e
      try simp only [h62e] at h62a
      try simp only [List.map_cons, List.map_nil, List.nil_append, List.append_nil, List.cons_append, List.singleton_append, zq, pvE] at h62d
      refine zu fun K kk hK => ?_
      simp only [go_sem, h62a, h62d, h62e, hl0a, hl0b, hl0d, hl0w]
      (repeat refine sd ?_)
      refine hK _ _ fun nx => ?_; clear hK K; try clear kk
      refine nmx ?_
      refine zu fun K kk hK => ?_
      simp only [go_sem, hl0a, hl0b, hl0d, hl0w]
      refine hK _ _ fun nx => ?_; clear hK K; try clear kk
      refine nmx ?_
      have ih' := ih (pre ++ [VI]) (Zy + 1) _ (by rw [hsplit]; simp) (by simp [hidx]) hh nx
      refine zG ?_
      first | exact ih' _ | (simp only [pvE, lsE, zq, h62e] at ih' ⊢; exact ih' _) | (simp only [pvE, lsE, zq, h62e, h43, h45, h55] at ih' ⊢; exact ih' _)
  exact key l_1 [] _ _ rfl rfl f0 _ _
 ·rintro s ⟨t, hless, afF, rfl, ay4, ava, nx, g3, rfl⟩
  try dsimp only at hh
  refine nmy ?_
  first | (refine wh hless ?_; try refine ku ?_) | refine qD hless ?_ | refine qE hless ?_
  refine zb fun K kk hK => ?_
  simp only [go_sem]
  refine hK _ _ fun nx => ?_; clear hK K; try clear kk
  refine zk ?_; refine nmx ?_
  obtain hR := Option.some.inj hh
  subst hR
  exact X6 (by rfl) (by rfl) (by rfl) (by simp only [List.length_map, List.length_cons, List.length_nil, Nat.zero_add, Nat.reduceAdd]) (by first | rfl | (simp only [pvE, lsE, zq]; done) | (simp only [pvE, lsE, zq]; rfl))
 ·intro i s h; exact h.elim
 ·intro s h; exact h.elim
theorem XA : ∀ kr : Nat, (∀ (l_1 : (List za)) (zQ : Int) (vT : Int) (zD : Int) (xc : Int) (kQ : (List za)) (vZ : Str) (kR : Str) (l_9 : (List zt)) (R : ((List za) × Int × Int × Int × (List za) × Str × Str × (List zt))), qW kr l_1 zQ vT zD xc kQ vZ kR l_9 = some R → BC Tryd.prog 79 [.box 1000 0 0, .list 5 (l_1.map za.pv), .int .i64 zQ] [.var 136 [.int .u8 vT, .int .i64 zD, .int .i64 xc, .list 5 (kQ.map za.pv), .str vZ, .str kR, .row 1001 0 l_9.length], .row false 3 (l_9.map zt.pv)] (.list 5 (R.1.map za.pv)) [.var 136 [.int .u8 R.2.1, .int .i64 R.2.2.1, .int .i64 R.2.2.2.1, .list 5 (R.2.2.2.2.1.map za.pv), .str R.2.2.2.2.2.1, .str R.2.2.2.2.2.2.1, .row 1001 0 R.2.2.2.2.2.2.2.length], .moved 3 (R.2.2.2.2.2.2.2.map zt.pv)]) := by
 intro kr
 induction kr with
 | zero => exact (by intro l_1 zQ vT zD xc kQ vZ kR l_9 R hh; rw [qW] at hh; cases hh)
 | succ kr ih =>
  have ih_step_painter_kids_x := ih
  clear ih
  intro l_1 zQ vT zD xc kQ vZ kR l_9 R hh
  rw [qW] at hh
  refine Jd rfl rfl rfl ?_
  refine zb fun K kk hK => ?_
  simp only [go_sem]
  refine hK _ _ fun nx => ?_; clear hK K; try clear kk
  refine zb fun K kk hK => ?_
  simp only [go_sem]
  refine hK _ _ fun nx => ?_; clear hK K; try clear kk
  refine zm ?_
  refine zb fun K kk hK => ?_
  simp only [go_sem]
  refine hK _ _ fun nx => ?_; clear hK K; try clear kk
  obtain ⟨e0, f0, hh⟩ := zf hh
  obtain ⟨hlen0, f0⟩ := qf f0
  refine qp (kC (fun s => ∃ aeZ, ∃ auc, ∃ auf, ∃ atO, ∃ atg, ∃ aul, ∃ auv, ∃ arD, (aeZ, auc, auf, atO, atg, aul, auv, arD) = e0 ∧ ∃ (awO : Int) (ayy : Int) (aug : Bool) (nx : Nat) (g7 : Nat) (g1001 : Nat), s = ⟨[(0, .box 1000 0 0), (2, .int .i64 awO), (7, .row 7 g7 aeZ.length), (11, .list 5 (l_1.map za.pv)), (12, .int .i64 (l_1.length : Int)), (13, .int .i64 ayy), (14, .bool aug)], [(7, g7, .row false 5 (aeZ.map za.pv)), (1000, 0, .var 136 [.int .u8 auc, .int .i64 auf, .int .i64 atO, .list 5 (atg.map za.pv), .str aul, .str auv, .row 1001 g1001 arD.length]), (1001, g1001, .row false 3 (arD.map zt.pv))], nx⟩))
   (fun i s => False)
   (fun s => False) ?_ ?_ ?_ ?_
  ·refine zA ?_
   refine qd fun I hI => ?_
   have key : ∀ (suf pre : List za) (ahB : Int) (abO : Int) (J7 : (List za)) (amN : Int) (amA : Int) (amc : Int) (aml : (List za)) (alo : Str) (amL : Str) (aar : (List zt)), l_1 = pre ++ suf → ahB = (pre.length : Int) → qj (qW kr) suf ahB abO J7 amN amA amc aml alo amL aar = some e0 → ∀ (nx : Nat) (g7 : Nat) (g1001 : Nat), I ⟨[(0, .box 1000 0 0), (2, .int .i64 abO), (7, .row 7 g7 J7.length), (11, .list 5 (l_1.map za.pv)), (12, .int .i64 (l_1.length : Int)), (13, .int .i64 ahB)], [(7, g7, .row false 5 (J7.map za.pv)), (1000, 0, .var 136 [.int .u8 amN, .int .i64 amA, .int .i64 amc, .list 5 (aml.map za.pv), .str alo, .str amL, .row 1001 g1001 aar.length]), (1001, g1001, .row false 3 (aar.map zt.pv))], nx⟩ := by
    intro suf
    induction suf with
    | nil =>
     intro pre ahB abO J7 amN amA amc aml alo amL aar hsplit hidx hh nx g7 g1001
     rw [qj] at hh
     refine hI _ ?_
     have h17 := walk_nil hsplit hidx
     refine zb fun K kk hK => ?_
     simp only [go_sem]
     refine hK _ _ fun nx => ?_; clear hK K; try clear kk
     refine zm ?_
     refine zi (by first | exact congrArg PV.bool h17 | rfl) ?_
     refine zU ?_; refine nmx ?_
     refine wX ?_
     refine zG ?_
     refine ⟨_, _, _, _, _, _, _, _, (Option.some.inj hh), ?_⟩
     first | exact ⟨_, _, _, _, _, _, rfl⟩ | (simp only [pvE, lsE, zq]; exact ⟨_, _, _, _, _, _, rfl⟩) | (simp only [pvE, lsE, zq, h17]; exact ⟨_, _, _, _, _, _, rfl⟩)
    | cons amm suf ih =>
     intro pre ahB abO J7 amN amA amc aml alo amL aar hsplit hidx hh nx g7 g1001
     rw [qj] at hh
     refine hI _ ?_
     obtain ⟨hl0a, hl0b, hl0d, hl0w, h17⟩ := qM (f := za.pv) hsplit hidx hlen0
     refine zb fun K kk hK => ?_
     simp only [go_sem]
     refine hK _ _ fun nx => ?_; clear hK K; try clear kk
     refine zm ?_
     refine zn (by first | exact congrArg PV.bool h17 | rfl) ?_
     refine zy ?_; refine nmx ?_
     refine zm ?_
     refine zA ?_
     refine zb fun K kk hK => ?_
     simp only [go_sem, hl0a, hl0b, hl0d, hl0w]
     refine hK _ _ fun nx => ?_; clear hK K; try clear kk
     obtain ⟨amJ, h18, hh⟩ := zf hh
     refine zb fun K kk hK => ?_
     simp only [go_sem, hl0a, hl0b, hl0d, hl0w]
     refine zg (Q7 _ _ h18) (by (try simp only [go_sem, hl0a, hl0b, hl0d, hl0w]) <;> exact wkl) (by rfl) (by rfl) ?_
     simp only [go_sem, hl0a, hl0b, hl0d, hl0w]
     refine hK _ _ fun nx => ?_; clear hK K; try clear kk
     refine zm ?_
     refine zb fun K kk hK => ?_
     simp only [go_sem, hl0a, hl0b, hl0d, hl0w]
     refine hK _ _ fun nx => ?_; clear hK K; try clear kk
     by_cases h19 : (amm.Kind == ([116, 101, 120, 116] : Str)) = true
     ·rw [if_pos h19] at hh
      refine zn (by first | exact congrArg PV.bool h19 | rfl) ?_
      obtain ⟨⟨ayW, aqQ, aqU, awJ, an7, aqX, an8, aoS⟩, h20, hh⟩ := zf hh
      dsimp only at hh
      obtain ⟨ayE, h21, hh⟩ := zf hh
      obtain ⟨h21a, h21c⟩ := zV h21
      have h21d := qI (f := za.pv) h21c
      have h21e := qK h21c
      try simp only [List.length_cons, List.length_nil, Nat.zero_add, Nat.reduceAdd] at h21a h21e
      try simp only [h21e] at h21a
      try simp only [List.map_cons, List.map_nil, List.nil_append, List.append_nil, List.cons_append, List.singleton_append, zq, pvE] at h21d
      refine zu fun K kk hK => ?_
      simp only [go_sem, h21a, h21d, h21e, hl0a, hl0b, hl0d, hl0w]
      (repeat refine sd ?_)
      refine Qc [1000, 1001] (by decide) (XV _ _ _ _ _ _ _ _ _ _ h20) (by (try simp only [go_sem, h21a, h21d, h21e, hl0a, hl0b, hl0d, hl0w, h17, h19]) <;> exact wkb) (by rfl) ?_
      simp only [go_sem, h21a, h21d, h21e, hl0a, hl0b, hl0d, hl0w]
      (repeat refine sd ?_)
      refine hK _ _ fun nx => ?_; clear hK K; try clear kk
      refine nmx ?_
      refine zu fun K kk hK => ?_
      simp only [go_sem, hl0a, hl0b, hl0d, hl0w]
      refine hK _ _ fun nx => ?_; clear hK K; try clear kk
      refine nmx ?_
      refine zu fun K kk hK => ?_
      simp only [go_sem, hl0a, hl0b, hl0d, hl0w]
      refine hK _ _ fun nx => ?_; clear hK K; try clear kk
      refine nmx ?_
      have ih' := ih (pre ++ [amm]) (ahB + 1) _ _ _ _ _ _ _ _ _ (by rw [hsplit]; simp) (by simp [hidx]) hh nx
      refine zG ?_
      first | exact ih' _ _ | (simp only [pvE, lsE, zq, h21e] at ih' ⊢; exact ih' _ _) | (simp only [pvE, lsE, zq, h21e, h17, h19] at ih' ⊢; exact ih' _ _)
     ·rw [if_neg h19] at hh
      replace h19 := Bool.eq_false_iff.mpr h19
      refine zi (by first | exact congrArg PV.bool h19 | rfl) ?_
      obtain ⟨⟨ayA, ap7, aqM, awY, anh, aq6, anU, ayD⟩, h22, hh⟩ := zf hh
      dsimp only at hh
      refine zb fun K kk hK => ?_
      simp only [go_sem, hl0a, hl0b, hl0d, hl0w]
      refine Qc [1000, 1001] (by decide) (ih_step_painter_kids_x _ _ _ _ _ _ _ _ _ _ h22) (by (try simp only [go_sem, hl0a, hl0b, hl0d, hl0w, h17, h19]) <;> exact wkb) (by rfl) ?_
      simp only [go_sem, hl0a, hl0b, hl0d, hl0w]
      refine hK _ _ fun nx => ?_; clear hK K; try clear kk
      obtain ⟨ao2, h23, hh⟩ := zf hh
      obtain ⟨h23a, h23c⟩ := zV h23
      have h23d := qI (f := za.pv) h23c
      have h23e := qK h23c
      try simp only [List.length_cons, List.length_nil, Nat.zero_add, Nat.reduceAdd] at h23a h23e
      try simp only [h23e] at h23a
      try simp only [List.map_cons, List.map_nil, List.nil_append, List.append_nil, List.cons_append, List.singleton_append, zq, pvE] at h23d
      refine zu fun K kk hK => ?_
      simp only [go_sem, h23a, h23d, h23e, hl0a, hl0b, hl0d, hl0w]
      (repeat refine sd ?_)
      refine hK _ _ fun nx => ?_; clear hK K; try clear kk
      refine nmx ?_
      refine zu fun K kk hK => ?_
      simp only [go_sem, hl0a, hl0b, hl0d, hl0w]
      refine hK _ _ fun nx => ?_; clear hK K; try clear kk
      refine nmx ?_
      refine zu fun K kk hK => ?_
      simp only [go_sem, hl0a, hl0b, hl0d, hl0w]
      refine hK _ _ fun nx => ?_; clear hK K; try clear kk
      refine nmx ?_
      have ih' := ih (pre ++ [amm]) (ahB + 1) _ _ _ _ _ _ _ _ _ (by rw [hsplit]; simp) (by simp [hidx]) hh nx
      refine zG ?_
      first | exact ih' _ _ | (simp only [pvE, lsE, zq, h23e] at ih' ⊢; exact ih' _ _) | (simp only [pvE, lsE, zq, h23e, h17, h19] at ih' ⊢; exact ih' _ _)
   exact key l_1 [] _ _ _ _ _ _ _ _ _ _ rfl rfl f0 _ _ _
  ·rintro s ⟨t, hless, aeZ, auc, auf, atO, atg, aul, auv, arD, rfl, awO, ayy, aug, nx, g7, g1001, rfl⟩
   try dsimp only at hh
   refine nmy ?_
   first | (refine wh hless ?_; try refine ku ?_) | refine qD hless ?_ | refine qE hless ?_
   obtain ⟨aqc, h24, hh⟩ := zf hh
   refine zb fun K kk hK => ?_
   simp only [go_sem]
   refine zg (Yl _ _ h24).list (by (try simp only [go_sem]) <;> exact wkl) (by rfl) (by rfl) ?_
   simp only [go_sem]
   refine hK _ _ fun nx => ?_; clear hK K; try clear kk
   refine zk ?_; refine nmx ?_
   obtain hR := Option.some.inj hh
   subst hR
   refine ji ?_ (by rfl) ?_
   ·simp only [go_sem, wR, xE, vg, je, Qb, List.map_cons, List.map_append, List.head?_cons]
    all_goals exact wkw
   ·(try simp only [go_sem]); (try simp only [List.length_append, List.map_append]); all_goals exact wkb
  ·intro i s h; exact h.elim
  ·intro s h; exact h.elim
theorem XP (l_1 : (List za)) (zQ : Int) (vT : Int) (zD : Int) (xc : Int) (kQ : (List za)) (vZ : Str) (kR : Str) (l_9 : (List zt)) (R : ((List za) × Int × Int × Int × (List za) × Str × Str × (List zt))) (hh : jy l_1 zQ vT zD xc kQ vZ kR l_9 = some R) : BC Tryd.prog 79 [.box 1000 0 0, .list 5 (l_1.map za.pv), .int .i64 zQ] [.var 136 [.int .u8 vT, .int .i64 zD, .int .i64 xc, .list 5 (kQ.map za.pv), .str vZ, .str kR, .row 1001 0 l_9.length], .row false 3 (l_9.map zt.pv)] (.list 5 (R.1.map za.pv)) [.var 136 [.int .u8 R.2.1, .int .i64 R.2.2.1, .int .i64 R.2.2.2.1, .list 5 (R.2.2.2.2.1.map za.pv), .str R.2.2.2.2.2.1, .str R.2.2.2.2.2.2.1, .row 1001 0 R.2.2.2.2.2.2.2.length], .moved 3 (R.2.2.2.2.2.2.2.map zt.pv)] := by
 rw [jy] at hh
 obtain ⟨kr, hh⟩ := jU hh
 exact (XA kr) _ _ _ _ _ _ _ _ _ _ hh
theorem abD (n_1 : za) (s_2 : zo) (R : (za × (List zt) × Int)) (hh : Zb n_1 s_2 = some R) : PC Tryd.prog 47 [.agg [.str n_1.Kind, .str n_1.Text, .list 1 (n_1.Marks.map PV.str), .list 2 (n_1.zh.map ze.pv), .list 5 (n_1.Kids.map za.pv)], .agg [.int .u8 s_2.Kind, .int .i64 s_2.From, .int .i64 s_2.To, .list 5 (s_2.kF.map za.pv), .str s_2.Name, .str s_2.Value]] (.tup [.agg [.str R.1.Kind, .str R.1.Text, .list 1 (R.1.Marks.map PV.str), .list 2 (R.1.zh.map ze.pv), .list 5 (R.1.Kids.map za.pv)], .list 3 (R.2.1.map zt.pv), .int .i64 R.2.2]) := by
 rw [Zb] at hh
 refine afs rfl ?_
 refine zb fun K kk hK => ?_
 simp only [go_sem]
 refine hK _ _ fun nx => ?_; clear hK K; try clear kk
 refine zm ?_
 obtain ⟨Wq, h1, hh⟩ := zf hh
 refine zb fun K kk hK => ?_
 simp only [go_sem]
 refine zg (jK _ _ h1) (by (try simp only [go_sem]) <;> exact wkl) (by rfl) (by rfl) ?_
 simp only [go_sem]
 refine hK _ _ fun nx => ?_; clear hK K; try clear kk
 by_cases h2 : (decide (s_2.To > Wq)) = true
 ·rw [if_pos h2] at hh
  refine zn (by first | exact congrArg PV.bool h2 | rfl) ?_
  refine zb fun K kk hK => ?_
  simp only [go_sem]
  refine hK _ _ fun nx => ?_; clear hK K; try clear kk
  refine zk ?_; refine nmx ?_
  obtain hR := Option.some.inj hh
  subst hR
  exact zz
 ·rw [if_neg h2] at hh
  replace h2 := Bool.eq_false_iff.mpr h2
  refine zi (by first | exact congrArg PV.bool h2 | rfl) ?_
  refine zy ?_; refine nmx ?_
  refine zb fun K kk hK => ?_
  simp only [go_sem]
  refine hK _ _ fun nx => ?_; clear hK K; try clear kk
  obtain ⟨⟨r_4, aw7, axb, azg, awE, aw0, atz, ato⟩, h3, hh⟩ := zf hh
  dsimp only at hh
  refine zb fun K kk hK => ?_
  simp only [go_sem]
  refine Qc [17, 425] (by decide) (XP _ _ _ _ _ _ _ _ _ _ h3) (by (try simp only [go_sem, h2]) <;> exact wkb) (by rfl) ?_
  simp only [go_sem]
  refine hK _ _ fun nx => ?_; clear hK K; try clear kk
  refine zb fun K kk hK => ?_
  simp only [go_sem]
  refine hK _ _ fun nx => ?_; clear hK K; try clear kk
  refine zk ?_; refine nmx ?_
  obtain hR := Option.some.inj hh
  subst hR
  exact zz
end Go.Proofs.YtclohbgnaopjfaaDoor
