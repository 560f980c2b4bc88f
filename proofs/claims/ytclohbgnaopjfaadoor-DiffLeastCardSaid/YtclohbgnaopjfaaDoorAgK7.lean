/- Texts of the proof of diffLeastCard -/
import Derived.Test.YtclohbgnaopjfaaDoorAgC
import Derived.Test.YtclohbgnaopjfaaDoorAgF
import Derived.Test.YtclohbgnaopjfaaDoorAgK0
import Derived.Test.YtclohbgnaopjfaaDoorAgK6
namespace Go.Proofs.YtclohbgnaopjfaaDoor
set_option linter.unusedSimpArgs false
set_option linter.unusedVariables false
open Go
set_option maxRecDepth 100000
theorem J5 (Jf : Int) (aqh : Int) (vU : Int) (zz : Int) (jJ : Int) (kv : (List za)) (vO : Str) (ky : Str) (l_9 : (List zD)) (R : (Int × Int × Int × (List za) × Str × Str × (List zD))) (hh : Zd Jf aqh vU zz jJ kv vO ky l_9 = some R) : BC Tryd.prog 113 [.box 1000 0 0, .int .i64 Jf, .int .i64 aqh] [.var 136 [.int .u8 vU, .int .i64 zz, .int .i64 jJ, .list 5 (kv.map za.pv), .str vO, .str ky, .row 1001 0 l_9.length], .row false 3 (l_9.map zD.pv)] (.tup []) [.var 136 [.int .u8 R.1, .int .i64 R.2.1, .int .i64 R.2.2.1, .list 5 (R.2.2.2.1.map za.pv), .str R.2.2.2.2.1, .str R.2.2.2.2.2.1, .row 1001 0 R.2.2.2.2.2.2.length], .moved 3 (R.2.2.2.2.2.2.map zD.pv)] := by
 rw [Zd] at hh
 refine VJ rfl rfl rfl ?_
 refine zb fun K kk hK => ?_
 simp only [go_sem]
 refine hK _ _ fun nx => ?_; clear hK K; try clear kk
 refine zn ?_
 by_cases h1 : (decide ((w64 ((l_9.length : Int) - (1 : Int))) ≥ (0 : Int))) = true
 ·rw [if_pos h1] at hh
  obtain ⟨adZ, h2, hh⟩ := zf hh
  obtain ⟨h2a, h2b, h2c⟩ := rd_some h2
  have h2d := wN (f := zD.pv) h2c
  have h2f := qG (f := zD.pv) h2c
  try simp only [Int.toNat_natCast, Int.reduceToNat] at h2d h2f
  refine zb fun K kk hK => ?_
  simp only [go_sem, h1, of_decide_eq_true h1, h2a, h2b, h2d, h2f.1, h2f.2]
  (repeat refine sd ?_)
  refine hK _ _ fun nx => ?_; clear hK K; try clear kk
  by_cases h3 : ((w64 (adZ.Pos + adZ.Old)) == Jf) = true
  ·rw [if_pos h3] at hh
   refine zm (by first | exact congrArg PV.bool h3 | rfl) ?_
   obtain ⟨art, h4, hh⟩ := zf hh
   obtain ⟨h4a, h4c⟩ := XC h4
   have h4d := abY (f := zD.pv) h4c
   try simp only [Int.toNat_natCast, Int.reduceToNat, List.map_cons, List.map_nil, List.cons_append, List.nil_append, List.singleton_append, pvE] at h4d
   have h4e := abQ h4c
   have h2b_h4 := h2b; rw [h4e] at h2b_h4
   have h2f1_h4 := h2f.1; rw [h4e] at h2f1_h4
   have h2a_h4 := h2a; try rw [h4e] at h2a_h4
   have h2d_h4 := h2d; try rw [h4e] at h2d_h4
   try rw [h4e] at h4d
   have h4bw := h4a.2; rw [h4e] at h4bw
   refine zb fun K kk hK => ?_
   simp only [go_sem, h2a, h2b, h2d, h2f.1, h2f.2, h4a.1, h4a.2, h4d, h4e, h2b_h4, h2f1_h4, h2a_h4, h2d_h4, h4bw]
   (repeat refine sd ?_)
   try simp only [go_sem, h2a, h2b, h2d, h2f.1, h2f.2, h4a.1, h4a.2, h4d, h4e, h2b_h4, h2f1_h4, h2a_h4, h2d_h4, h4bw]
   refine hK _ _ fun nx => ?_; clear hK K; try clear kk
   refine zk ?_; refine nmx ?_
   obtain hR := Option.some.inj hh
   subst hR
   refine vZ ?_ (by rfl) ?_
   ·simp only [go_sem, wI, jU, kP, vY, ZQ, List.map_cons, List.map_append, List.head?_cons, h1, h3]
    all_goals exact wkw
   ·(try simp only [go_sem, h1, h3]); (try simp only [List.length_append, List.map_append, h4e]); all_goals exact wkb
  ·rw [if_neg h3] at hh
   replace h3 := Bool.eq_false_iff.mpr h3
   refine zi (by first | exact congrArg PV.bool h3 | rfl) ?_
   refine zt ?_; refine nmx ?_
   obtain ⟨agt, h5, hh⟩ := zf hh
   obtain ⟨h5a, h5c⟩ := zW h5
   have h5d := qM (f := zD.pv) h5c
   have h5e := qL h5c
   try simp only [List.length_cons, List.length_nil, Nat.zero_add, Nat.reduceAdd] at h5a h5e
   try simp only [h5e] at h5a
   try simp only [List.map_cons, List.map_nil, List.nil_append, List.append_nil, List.cons_append, List.singleton_append, zo, pvE] at h5d
   refine zq fun K kk hK => ?_
   simp only [go_sem, h5a, h5d, h5e]
   (repeat refine sd ?_)
   refine hK _ _ fun nx => ?_; clear hK K; try clear kk
   refine nmx ?_
   obtain hR := Option.some.inj hh
   subst hR
   refine YG ?_
   refine vZ ?_ (by rfl) ?_
   ·simp only [go_sem, wI, jU, kP, vY, ZQ, List.map_cons, List.map_append, List.head?_cons, h1, h3]
    all_goals exact wkw
   ·(try simp only [go_sem, h1, h3]); (try simp only [List.length_append, List.map_append, h5e]); all_goals exact wkb
 ·rw [if_neg h1] at hh
  replace h1 := Bool.eq_false_iff.mpr h1
  refine zb fun K kk hK => ?_
  simp only [go_sem, h1, of_decide_eq_false h1]
  (repeat refine sd ?_)
  refine hK _ _ fun nx => ?_; clear hK K; try clear kk
  refine zi rfl ?_
  refine zt ?_; refine nmx ?_
  obtain ⟨aqN, h6, hh⟩ := zf hh
  obtain ⟨h6a, h6c⟩ := zW h6
  have h6d := qM (f := zD.pv) h6c
  have h6e := qL h6c
  try simp only [List.length_cons, List.length_nil, Nat.zero_add, Nat.reduceAdd] at h6a h6e
  try simp only [h6e] at h6a
  try simp only [List.map_cons, List.map_nil, List.nil_append, List.append_nil, List.cons_append, List.singleton_append, zo, pvE] at h6d
  refine zq fun K kk hK => ?_
  simp only [go_sem, h6a, h6d, h6e]
  (repeat refine sd ?_)
  refine hK _ _ fun nx => ?_; clear hK K; try clear kk
  refine nmx ?_
  obtain hR := Option.some.inj hh
  subst hR
  refine YG ?_
  refine vZ ?_ (by rfl) ?_
  ·simp only [go_sem, wI, jU, kP, vY, ZQ, List.map_cons, List.map_append, List.head?_cons, h1]
   all_goals exact wkw
  ·(try simp only [go_sem, h1]); (try simp only [List.length_append, List.map_append, h6e]); all_goals exact wkb
theorem xk (a_1 : Int) (b_2 : Int) (afN : (List Str)) (jl : za) (v_5 : (List Int)) (R : za) (hh : vv a_1 b_2 afN jl v_5 = some R) : BC Tryd.prog 114 [.int .i64 a_1, .int .i64 b_2, .list 1 (afN.map PV.str), .box 1000 0 0, .box 1001 0 0] [.var 28 [.str jl.Kind, .str jl.Text, .list 1 (jl.Marks.map PV.str), .list 2 (jl.zh.map ze.pv), .list 5 (jl.Kids.map za.pv)], .var 65 [.list 1 (v_5.map (PV.int .i32))]] (.agg [.str R.Kind, .str R.Text, .list 1 (R.Marks.map PV.str), .list 2 (R.zh.map ze.pv), .list 5 (R.Kids.map za.pv)]) [.var 28 [.str jl.Kind, .str jl.Text, .list 1 (jl.Marks.map PV.str), .list 2 (jl.zh.map ze.pv), .list 5 (jl.Kids.map za.pv)], .var 65 [.list 1 (v_5.map (PV.int .i32))]] := by
 rw [vv] at hh
 refine KS rfl rfl rfl ?_
 refine zb fun K kk hK => ?_
 simp only [go_sem]
 refine hK _ _ fun nx => ?_; clear hK K; try clear kk
 obtain ⟨s_6, h1, hh⟩ := zf hh
 obtain ⟨h1a, h1c⟩ := yn h1
 have h1g := VW h1a
 have h1d := anm (f := (PV.int .i32)) h1c
 try simp only [Int.toNat_natCast, Int.reduceToNat, List.map_cons, List.map_nil, pvE] at h1d
 refine zb fun K kk hK => ?_
 simp only [go_sem, h1a.1, h1a.2.1, h1a.2.2, h1d, h1g]
 (repeat refine sd ?_)
 refine hK _ _ fun nx => ?_; clear hK K; try clear kk
 refine zk ?_; refine nmx ?_
 obtain hR := Option.some.inj hh
 subst hR
 refine vZ ?_ (by rfl) ?_
 ·simp only [go_sem, wI, jU, kP, vY, ZQ, List.map_cons, List.map_append, List.head?_cons]
  all_goals exact wkw
 ·(try simp only [go_sem]); (try simp only [List.length_append, List.map_append]); all_goals exact wkb
theorem Xb (n_1 : za) (zO : Int) (vU : Int) (zz : Int) (jJ : Int) (kv : (List za)) (vO : Str) (ky : Str) (l_9 : (List zD)) (R : ((List za) × Int × Int × Int × (List za) × Str × Str × (List zD))) (hh : Ze n_1 zO vU zz jJ kv vO ky l_9 = some R) : BC Tryd.prog 101 [.box 1000 0 0, .agg [.str n_1.Kind, .str n_1.Text, .list 1 (n_1.Marks.map PV.str), .list 2 (n_1.zh.map ze.pv), .list 5 (n_1.Kids.map za.pv)], .int .i64 zO] [.var 136 [.int .u8 vU, .int .i64 zz, .int .i64 jJ, .list 5 (kv.map za.pv), .str vO, .str ky, .row 1001 0 l_9.length], .row false 3 (l_9.map zD.pv)] (.list 5 (R.1.map za.pv)) [.var 136 [.int .u8 R.2.1, .int .i64 R.2.2.1, .int .i64 R.2.2.2.1, .list 5 (R.2.2.2.2.1.map za.pv), .str R.2.2.2.2.2.1, .str R.2.2.2.2.2.2.1, .row 1001 0 R.2.2.2.2.2.2.2.length], .moved 3 (R.2.2.2.2.2.2.2.map zD.pv)] := by
 rw [Ze] at hh
 refine VO rfl rfl rfl ?_
 refine zb fun K kk hK => ?_
 simp only [go_sem]
 refine hK _ _ fun nx => ?_; clear hK K; try clear kk
 refine zb fun K kk hK => ?_
 simp only [go_sem]
 refine hK _ _ fun nx => ?_; clear hK K; try clear kk
 refine zb fun K kk hK => ?_
 simp only [go_sem]
 refine hK _ _ fun nx => ?_; clear hK K; try clear kk
 refine zb fun K kk hK => ?_
 simp only [go_sem]
 refine hK _ _ fun nx => ?_; clear hK K; try clear kk
 obtain ⟨⟨KP, adz⟩, h1, hh⟩ := zf hh
 dsimp only at hh
 refine zb fun K kk hK => ?_
 simp only [go_sem]
 refine zg (ab3 _ _ _ h1) (by (try simp only [go_sem]) <;> exact wkl) (by rfl) (by rfl) ?_
 simp only [go_sem]
 refine hK _ _ fun nx => ?_; clear hK K; try clear kk
 refine zn ?_
 by_cases h2 : (!adz) = true
 ·rw [if_pos h2] at hh
  refine zb fun K kk hK => ?_
  simp only [go_sem, h2]
  (repeat refine sd ?_)
  refine hK _ _ fun nx => ?_; clear hK K; try clear kk
  refine zm rfl ?_
  refine zb fun K kk hK => ?_
  simp only [go_sem]
  refine hK _ _ fun nx => ?_; clear hK K; try clear kk
  refine zk ?_; refine nmx ?_
  obtain hR := Option.some.inj hh
  subst hR
  refine vZ ?_ (by rfl) ?_
  ·simp only [go_sem, wI, jU, kP, vY, ZQ, List.map_cons, List.map_append, List.head?_cons, h2]
   all_goals exact wkw
  ·(try simp only [go_sem, h2]); (try simp only [List.length_append, List.map_append]); all_goals exact wkb
 ·rw [if_neg h2] at hh
  replace h2 := Bool.eq_false_iff.mpr h2
  refine zb fun K kk hK => ?_
  simp only [go_sem, h2]
  (repeat refine sd ?_)
  refine hK _ _ fun nx => ?_; clear hK K; try clear kk
  by_cases h3 : ((if ((runes n_1.Text).length : Int) < (if (0 : Int) > (w64 (zz - zO)) then (0 : Int) else w64 (zz - zO)) then ((runes n_1.Text).length : Int) else (if (0 : Int) > (w64 (zz - zO)) then (0 : Int) else w64 (zz - zO))) == (if ((runes n_1.Text).length : Int) < (if (if ((runes n_1.Text).length : Int) < (if (0 : Int) > (w64 (zz - zO)) then (0 : Int) else w64 (zz - zO)) then ((runes n_1.Text).length : Int) else (if (0 : Int) > (w64 (zz - zO)) then (0 : Int) else w64 (zz - zO))) > (w64 (jJ - zO)) then (if ((runes n_1.Text).length : Int) < (if (0 : Int) > (w64 (zz - zO)) then (0 : Int) else w64 (zz - zO)) then ((runes n_1.Text).length : Int) else (if (0 : Int) > (w64 (zz - zO)) then (0 : Int) else w64 (zz - zO))) else w64 (jJ - zO)) then ((runes n_1.Text).length : Int) else (if (if ((runes n_1.Text).length : Int) < (if (0 : Int) > (w64 (zz - zO)) then (0 : Int) else w64 (zz - zO)) then ((runes n_1.Text).length : Int) else (if (0 : Int) > (w64 (zz - zO)) then (0 : Int) else w64 (zz - zO))) > (w64 (jJ - zO)) then (if ((runes n_1.Text).length : Int) < (if (0 : Int) > (w64 (zz - zO)) then (0 : Int) else w64 (zz - zO)) then ((runes n_1.Text).length : Int) else (if (0 : Int) > (w64 (zz - zO)) then (0 : Int) else w64 (zz - zO))) else w64 (jJ - zO)))) = true
  ·rw [if_pos h3] at hh
   refine zm (by first | exact congrArg PV.bool h3 | rfl) ?_
   refine zb fun K kk hK => ?_
   simp only [go_sem]
   refine hK _ _ fun nx => ?_; clear hK K; try clear kk
   refine zk ?_; refine nmx ?_
   obtain hR := Option.some.inj hh
   subst hR
   refine vZ ?_ (by rfl) ?_
   ·simp only [go_sem, wI, jU, kP, vY, ZQ, List.map_cons, List.map_append, List.head?_cons, h2, h3]
    all_goals exact wkw
   ·(try simp only [go_sem, h2, h3]); (try simp only [List.length_append, List.map_append]); all_goals exact wkb
  ·rw [if_neg h3] at hh
   replace h3 := Bool.eq_false_iff.mpr h3
   refine zi (by first | exact congrArg PV.bool h3 | rfl) ?_
   refine zt ?_; refine nmx ?_
   obtain ⟨⟨aoA, apb, auF, amb, aoD, amk, asy⟩, h4, hh⟩ := zf hh
   dsimp only at hh
   refine zb fun K kk hK => ?_
   simp only [go_sem]
   refine ZP [1000, 1001] (by decide) (J5 _ _ _ _ _ _ _ _ _ _ h4) (by (try simp only [go_sem, h2, h3]) <;> exact wkb) (by rfl) ?_
   simp only [go_sem]
   refine hK _ _ fun nx => ?_; clear hK K; try clear kk
   refine zb fun K kk hK => ?_
   simp only [go_sem]
   refine hK _ _ fun nx => ?_; clear hK K; try clear kk
   obtain ⟨auD, h5, hh⟩ := zf hh
   obtain ⟨auA, h6, hh⟩ := zf hh
   obtain ⟨aup, h7, hh⟩ := zf hh
   refine zb fun K kk hK => ?_
   simp only [go_sem]
   refine abR [4, 7] (by decide) (by decide) (xk _ _ _ _ _ _ h5) (by (try simp only [go_sem, h2, h3]) <;> exact wkb) (by rfl) (by rfl) ?_
   simp only [go_sem]
   refine abR [4, 7] (by decide) (by decide) (xk _ _ _ _ _ _ h6) (by (try simp only [go_sem, h2, h3]) <;> exact wkb) (by rfl) (by rfl) ?_
   simp only [go_sem]
   refine abR [4, 7] (by decide) (by decide) (xk _ _ _ _ _ _ h7) (by (try simp only [go_sem, h2, h3]) <;> exact wkb) (by rfl) (by rfl) ?_
   simp only [go_sem]
   refine hK _ _ fun nx => ?_; clear hK K; try clear kk
   refine zk ?_; refine nmx ?_
   obtain hR := Option.some.inj hh
   subst hR
   refine vZ ?_ (by rfl) ?_
   ·simp only [go_sem, wI, jU, kP, vY, ZQ, List.map_cons, List.map_append, List.head?_cons, h2, h3]
    all_goals exact wkw
   ·(try simp only [go_sem, h2, h3]); (try simp only [List.length_append, List.map_append]); all_goals exact wkb
theorem Xh (l_1 : (List za)) (R : (List za)) (hh : Wq l_1 = some R) : PC Tryd.prog 82 [.list 5 (l_1.map za.pv)] (.own 5 (R.map za.pv)) := by
 rw [Wq] at hh
 refine afB rfl ?_
 refine zb fun K kk hK => ?_
 simp only [go_sem]
 refine hK _ _ fun nx => ?_; clear hK K; try clear kk
 refine zb fun K kk hK => ?_
 simp only [go_sem]
 refine hK _ _ fun nx => ?_; clear hK K; try clear kk
 refine zn ?_
 refine zb fun K kk hK => ?_
 simp only [go_sem]
 refine hK _ _ fun nx => ?_; clear hK K; try clear kk
 obtain ⟨e0, f0, hh⟩ := zf hh
 obtain ⟨hlen0, f0⟩ := qf f0
 refine qH (w9 (fun s => ∃ aer, aer = e0 ∧ ∃ (awi : Int) (arX : Bool) (nx : Nat) (g3 : Nat), s = ⟨[(3, .row 3 g3 aer.length), (7, .list 5 (l_1.map za.pv)), (8, .int .i64 (l_1.length : Int)), (9, .int .i64 awi), (10, .bool arX)], [(3, g3, .row false 5 (aer.map za.pv))], nx⟩))
  (fun i s => False)
  (fun s => False) ?_ ?_ ?_ ?_
 ·refine zA ?_
  refine qb fun I hI => ?_
  have key : ∀ (suf pre : List za) (Zh : Int) (jc : (List za)), l_1 = pre ++ suf → Zh = (pre.length : Int) → wP suf Zh jc = some e0 → ∀ (nx : Nat) (g3 : Nat), I ⟨[(3, .row 3 g3 jc.length), (7, .list 5 (l_1.map za.pv)), (8, .int .i64 (l_1.length : Int)), (9, .int .i64 Zh)], [(3, g3, .row false 5 (jc.map za.pv))], nx⟩ := by
   intro suf
   induction suf with
   | nil =>
    intro pre Zh jc hsplit hidx hh nx g3
    rw [wP] at hh
    refine hI _ ?_
    have h43 := walk_nil hsplit hidx
    refine zb fun K kk hK => ?_
    simp only [go_sem]
    refine hK _ _ fun nx => ?_; clear hK K; try clear kk
    refine zn ?_
    refine zi (by first | exact congrArg PV.bool h43 | rfl) ?_
    refine zU ?_; refine nmx ?_
    refine wU ?_
    refine zG ?_
    refine ⟨_, (Option.some.inj hh), ?_⟩
    first | exact ⟨_, _, _, _, rfl⟩ | (simp only [pvE, lsE, zo]; exact ⟨_, _, _, _, rfl⟩) | (simp only [pvE, lsE, zo, h43]; exact ⟨_, _, _, _, rfl⟩)
   | cons Vy suf ih =>
    intro pre Zh jc hsplit hidx hh nx g3
    rw [wP] at hh
    refine hI _ ?_
    obtain ⟨hl0a, hl0b, hl0d, hl0w, h43⟩ := qX (f := za.pv) hsplit hidx hlen0
    refine zb fun K kk hK => ?_
    simp only [go_sem]
    refine hK _ _ fun nx => ?_; clear hK K; try clear kk
    refine zn ?_
    refine zm (by first | exact congrArg PV.bool h43 | rfl) ?_
    refine zt ?_; refine nmx ?_
    refine zn ?_
    refine zA ?_
    refine zb fun K kk hK => ?_
    simp only [go_sem, hl0a, hl0b, hl0d, hl0w]
    refine hK _ _ fun nx => ?_; clear hK K; try clear kk
    refine zb fun K kk hK => ?_
    simp only [go_sem, hl0a, hl0b, hl0d, hl0w]
    refine hK _ _ fun nx => ?_; clear hK K; try clear kk
    refine zA ?_
    obtain ⟨aeI, h44, hh⟩ := zf hh
    by_cases h45 : (aeI) = true
    ·rw [if_pos h45] at hh
     refine zb fun K kk hK => ?_
     simp only [go_sem, h45, hl0a, hl0b, hl0d, hl0w]
     (repeat refine sd ?_)
     refine zg (kH _ _ h44) (by (try simp only [go_sem, h45, hl0a, hl0b, hl0d, hl0w]) <;> exact wkl) (by rfl) (by rfl) ?_
     simp only [go_sem, h45, hl0a, hl0b, hl0d, hl0w]
     (repeat refine sd ?_)
     refine hK _ _ fun nx => ?_; clear hK K; try clear kk
     by_cases h46 : (Vy.Text == ([] : Str)) = true
     ·rw [if_pos h46] at hh
      refine zm (by first | exact congrArg PV.bool h46 | rfl) ?_
      refine zt ?_; refine nmx ?_
      refine zq fun K kk hK => ?_
      simp only [go_sem, hl0a, hl0b, hl0d, hl0w]
      refine hK _ _ fun nx => ?_; clear hK K; try clear kk
      refine nmx ?_
      have ih' := ih (pre ++ [Vy]) (Zh + 1) _ (by rw [hsplit]; simp) (by simp [hidx]) hh nx
      refine zG ?_
      first | exact ih' _ | (simp only [pvE, lsE, zo] at ih' ⊢; exact ih' _) | (simp only [pvE, lsE, zo, h43, h45, h46] at ih' ⊢; exact ih' _)
     ·rw [if_neg h46] at hh
      replace h46 := Bool.eq_false_iff.mpr h46
      refine zi (by first | exact congrArg PV.bool h46 | rfl) ?_
      by_cases h47 : (decide ((w64 ((jc.length : Int) - (1 : Int))) ≥ (0 : Int))) = true
      ·rw [if_pos h47] at hh
       obtain ⟨aug, h48, hh⟩ := zf hh
       obtain ⟨h48a, h48b, h48c⟩ := rd_some h48
       have h48d := wN (f := za.pv) h48c
       have h48f := qG (f := za.pv) h48c
       try simp only [Int.toNat_natCast, Int.reduceToNat] at h48d h48f
       obtain ⟨af6, h49, hh⟩ := zf hh
       refine zb fun K kk hK => ?_
       simp only [go_sem, h47, of_decide_eq_true h47, h48a, h48b, h48d, h48f.1, h48f.2, hl0a, hl0b, hl0d, hl0w]
       (repeat refine sd ?_)
       refine zg (Jr _ _ _ h49) (by (try simp only [go_sem, h47, of_decide_eq_true h47, h48a, h48b, h48d, h48f.1, h48f.2, hl0a, hl0b, hl0d, hl0w]) <;> exact wkl) (by rfl) (by rfl) ?_
       simp only [go_sem, h47, of_decide_eq_true h47, h48a, h48b, h48d, h48f.1, h48f.2, hl0a, hl0b, hl0d, hl0w]
       (repeat refine sd ?_)
       refine hK _ _ fun nx => ?_; clear hK K; try clear kk
       by_cases h50 : (af6) = true
       ·rw [if_pos h50] at hh
        refine zm (by first | exact congrArg PV.bool h50 | rfl) ?_
        obtain ⟨h51, hh⟩ := qf hh
        refine zb fun K kk hK => ?_
        simp only [go_sem, h48a, h48b, h48d, h48f.1, h48f.2, h51, hl0a, hl0b, hl0d, hl0w]
        (repeat refine sd ?_)
        refine hK _ _ fun nx => ?_; clear hK K; try clear kk
        obtain ⟨arM, h52, hh⟩ := zf hh
        obtain ⟨h52a, h52c⟩ := XC h52
        have h52d := abY (f := za.pv) h52c
        try simp only [Int.toNat_natCast, Int.reduceToNat, List.map_cons, List.map_nil, List.cons_append, List.nil_append, List.singleton_append, pvE] at h52d
        have h52e := abQ h52c
        have h48b_h52 := h48b; rw [h52e] at h48b_h52
        have h48f1_h52 := h48f.1; rw [h52e] at h48f1_h52
        have h48a_h52 := h48a; try rw [h52e] at h48a_h52
        have h48d_h52 := h48d; try rw [h52e] at h48d_h52
        try rw [h52e] at h52d
        have h52bw := h52a.2; rw [h52e] at h52bw
        refine zq fun K kk hK => ?_
        simp only [go_sem, h48a, h48b, h48d, h48f.1, h48f.2, h52a.1, h52a.2, h52d, h52e, h48b_h52, h48f1_h52, h48a_h52, h48d_h52, h52bw, hl0a, hl0b, hl0d, hl0w]
        (repeat refine sd ?_)
        try simp only [go_sem, h48a, h48b, h48d, h48f.1, h48f.2, h52a.1, h52a.2, h52d, h52e, h48b_h52, h48f1_h52, h48a_h52, h48d_h52, h52bw, hl0a, hl0b, hl0d, hl0w]
        refine hK _ _ fun nx => ?_; clear hK K; try clear kk
        refine nmx ?_
        refine zq fun K kk hK => ?_
        simp only [go_sem, hl0a, hl0b, hl0d, hl0w]
        refine hK _ _ fun nx => ?_; clear hK K; try clear kk
        refine nmx ?_
        have ih' := ih (pre ++ [Vy]) (Zh + 1) _ (by rw [hsplit]; simp) (by simp [hidx]) hh nx
        refine zG ?_
        first | exact ih' _ | (simp only [pvE, lsE, zo, h52e] at ih' ⊢; exact ih' _) | (simp only [pvE, lsE, zo, h52e, h43, h45, h46, h47, h50] at ih' ⊢; exact ih' _)
       ·rw [if_neg h50] at hh
        replace h50 := Bool.eq_false_iff.mpr h50
        refine zi (by first | exact congrArg PV.bool h50 | rfl) ?_
        obtain ⟨asY, h53, hh⟩ := zf hh
        obtain ⟨h53a, h53c⟩ := zW h53
        have h53d := qM (f := za.pv) h53c
        have h53e := qL h53c
        try simp only [List.length_cons, List.length_nil, Nat.zero_add, Nat.reduceAdd] at h53a h53e
        try simp only [h53e] at h53a
        try simp only [List.map_cons, List.map_nil, List.nil_append, List.append_nil, List.cons_append, List.singleton_append, zo, pvE] at h53d
        refine zq fun K kk hK => ?_
        simp only [go_sem, h53a, h53d, h53e, hl0a, hl0b, hl0d, hl0w]
        (repeat refine sd ?_)
        refine hK _ _ fun nx => ?_; clear hK K; try clear kk
        refine nmx ?_
        refine zq fun K kk hK => ?_
        simp only [go_sem, hl0a, hl0b, hl0d, hl0w]
        refine hK _ _ fun nx => ?_; clear hK K; try clear kk
        refine nmx ?_
        have ih' := ih (pre ++ [Vy]) (Zh + 1) _ (by rw [hsplit]; simp) (by simp [hidx]) hh nx
        refine zG ?_
        first | exact ih' _ | (simp only [pvE, lsE, zo, h53e] at ih' ⊢; exact ih' _) | (simp only [pvE, lsE, zo, h53e, h43, h45, h46, h47, h50] at ih' ⊢; exact ih' _)
      ·rw [if_neg h47] at hh
       replace h47 := Bool.eq_false_iff.mpr h47
       refine zb fun K kk hK => ?_
       simp only [go_sem, h47, of_decide_eq_false h47, hl0a, hl0b, hl0d, hl0w]
       (repeat refine sd ?_)
       refine hK _ _ fun nx => ?_; clear hK K; try clear kk
       refine zi rfl ?_
       obtain ⟨asa, h54, hh⟩ := zf hh
       obtain ⟨h54a, h54c⟩ := zW h54
       have h54d := qM (f := za.pv) h54c
       have h54e := qL h54c
       try simp only [List.length_cons, List.length_nil, Nat.zero_add, Nat.reduceAdd] at h54a h54e
       try simp only [h54e] at h54a
       try simp only [List.map_cons, List.map_nil, List.nil_append, List.append_nil, List.cons_append, List.singleton_append, zo, pvE] at h54d
       refine zq fun K kk hK => ?_
       simp only [go_sem, h54a, h54d, h54e, hl0a, hl0b, hl0d, hl0w]
       (repeat refine sd ?_)
       refine hK _ _ fun nx => ?_; clear hK K; try clear kk
       refine nmx ?_
       refine zq fun K kk hK => ?_
       simp only [go_sem, hl0a, hl0b, hl0d, hl0w]
       refine hK _ _ fun nx => ?_; clear hK K; try clear kk
       refine nmx ?_
       have ih' := ih (pre ++ [Vy]) (Zh + 1) _ (by rw [hsplit]; simp) (by simp [hidx]) hh nx
       refine zG ?_
       first | exact ih' _ | (simp only [pvE, lsE, zo, h54e] at ih' ⊢; exact ih' _) | (simp only [pvE, lsE, zo, h54e, h43, h45, h46, h47] at ih' ⊢; exact ih' _)
    ·rw [if_neg h45] at hh
     replace h45 := Bool.eq_false_iff.mpr h45
     refine zb fun K kk hK => ?_
     simp only [go_sem, h45, hl0a, hl0b, hl0d, hl0w]
     (repeat refine sd ?_)
     refine zg (kH _ _ h44) (by (try simp only [go_sem, h45, hl0a, hl0b, hl0d, hl0w]) <;> exact wkl) (by rfl) (by rfl) ?_
     simp only [go_sem, h45, hl0a, hl0b, hl0d, hl0w]
     (repeat refine sd ?_)
     refine hK _ _ fun nx => ?_; clear hK K; try clear kk
     refine zi rfl ?_
     by_cases h55 : (decide ((w64 ((jc.length : Int) - (1 : Int))) ≥ (0 : Int))) = true
     ·rw [if_pos h55] at hh
      obtain ⟨atK, h56, hh⟩ := zf hh
      obtain ⟨h56a, h56b, h56c⟩ := rd_some h56
      have h56d := wN (f := za.pv) h56c
      have h56f := qG (f := za.pv) h56c
      try simp only [Int.toNat_natCast, Int.reduceToNat] at h56d h56f
      obtain ⟨ahn, h57, hh⟩ := zf hh
      refine zb fun K kk hK => ?_
      simp only [go_sem, h55, of_decide_eq_true h55, h56a, h56b, h56d, h56f.1, h56f.2, hl0a, hl0b, hl0d, hl0w]
      (repeat refine sd ?_)
      refine zg (Jr _ _ _ h57) (by (try simp only [go_sem, h55, of_decide_eq_true h55, h56a, h56b, h56d, h56f.1, h56f.2, hl0a, hl0b, hl0d, hl0w]) <;> exact wkl) (by rfl) (by rfl) ?_
      simp only [go_sem, h55, of_decide_eq_true h55, h56a, h56b, h56d, h56f.1, h56f.2, hl0a, hl0b, hl0d, hl0w]
      (repeat refine sd ?_)
      refine hK _ _ fun nx => ?_; clear hK K; try clear kk
      by_cases h58 : (ahn) = true
      ·rw [if_pos h58] at hh
       refine zm (by first | exact congrArg PV.bool h58 | rfl) ?_
       obtain ⟨h59, hh⟩ := qf hh
       refine zb fun K kk hK => ?_
       simp only [go_sem, h56a, h56b, h56d, h56f.1, h56f.2, h59, hl0a, hl0b, hl0d, hl0w]
       (repeat refine sd ?_)
       refine hK _ _ fun nx => ?_; clear hK K; try clear kk
       obtain ⟨awN, h60, hh⟩ := zf hh
       obtain ⟨h60a, h60c⟩ := XC h60
       have h60d := abY (f := za.pv) h60c
       try simp only [Int.toNat_natCast, Int.reduceToNat, List.map_cons, List.map_nil, List.cons_append, List.nil_append, List.singleton_append, pvE] at h60d
       have h60e := abQ h60c
       have h56b_h60 := h56b; rw [h60e] at h56b_h60
       have h56f1_h60 := h56f.1; rw [h60e] at h56f1_h60
       have h56a_h60 := h56a; try rw [h60e] at h56a_h60
       have h56d_h60 := h56d; try rw [h60e] at h56d_h60
       try rw [h60e] at h60d
       have h60bw := h60a.2; rw [h60e] at h60bw
       refine zq fun K kk hK => ?_
       simp only [go_sem, h56a, h56b, h56d, h56f.1, h56f.2, h60a.1, h60a.2, h60d, h60e, h56b_h60, h56f1_h60, h56a_h60, h56d_h60, h60bw, hl0a, hl0b, hl0d, hl0w]
       (repeat refine sd ?_)
       try simp only [go_sem, h56a, h56b, h56d, h56f.1, h56f.2, h60a.1, h60a.2, h60d, h60e, h56b_h60, h56f1_h60, h56a_h60, h56d_h60, h60bw, hl0a, hl0b, hl0d, hl0w]
       refine hK _ _ fun nx => ?_; clear hK K; try clear kk
       refine nmx ?_
       refine zq fun K kk hK => ?_
       simp only [go_sem, hl0a, hl0b, hl0d, hl0w]
       refine hK _ _ fun nx => ?_; clear hK K; try clear kk
       refine nmx ?_
       have ih' := ih (pre ++ [Vy]) (Zh + 1) _ (by rw [hsplit]; simp) (by simp [hidx]) hh nx
       refine zG ?_
       first | exact ih' _ | (simp only [pvE, lsE, zo, h60e] at ih' ⊢; exact ih' _) | (simp only [pvE, lsE, zo, h60e, h43, h45, h55, h58] at ih' ⊢; exact ih' _)
      ·rw [if_neg h58] at hh
       replace h58 := Bool.eq_false_iff.mpr h58
       refine zi (by first | exact congrArg PV.bool h58 | rfl) ?_
       obtain ⟨avP, h61, hh⟩ := zf hh
       obtain ⟨h61a, h61c⟩ := zW h61
       have h61d := qM (f := za.pv) h61c
       have h61e := qL h61c
       try simp only [List.length_cons, List.length_nil, Nat.zero_add, Nat.reduceAdd] at h61a h61e
       try simp only [h61e] at h61a
       try simp only [List.map_cons, List.map_nil, List.nil_append, List.append_nil, List.cons_append, List.singleton_append, zo, pvE] at h61d
       refine zq fun K kk hK => ?_
       simp only [go_sem, h61a, h61d, h61e, hl0a, hl0b, hl0d, hl0w]
       (repeat refine sd ?_)
       refine hK _ _ fun nx => ?_; clear hK K; try clear kk
       refine nmx ?_
       refine zq fun K kk hK => ?_
       simp only [go_sem, hl0a, hl0b, hl0d, hl0w]
       refine hK _ _ fun nx => ?_; clear hK K; try clear kk
       refine nmx ?_
       have ih' := ih (pre ++ [Vy]) (Zh + 1) _ (by rw [hsplit]; simp) (by simp [hidx]) hh nx
       refine zG ?_
       first | exact ih' _ | (simp only [pvE, lsE, zo, h61e] at ih' ⊢; exact ih' _) | (simp only [pvE, lsE, zo, h61e, h43, h45, h55, h58] at ih' ⊢; exact ih' _)
     ·rw [if_neg h55] at hh
      replace h55 := Bool.eq_false_iff.mpr h55
      refine zb fun K kk hK => ?_
      simp only [go_sem, h55, of_decide_eq_false h55, hl0a, hl0b, hl0d, hl0w]
      (repeat refine sd ?_)
      refine hK _ _ fun nx => ?_; clear hK K; try clear kk
      refine zi rfl ?_
      obtain ⟨awx, h62, hh⟩ := zf hh
      obtain ⟨h62a, h62c⟩ := zW h62
      have h62d := qM (f := za.pv) h62c
      have h62e := qL h62c
      try simp only [List.length_cons, List.length_nil, Nat.zero_add, Nat.reduceAdd] at h62a h62e
      try simp only [h62e] at h62a
      try simp only [List.map_cons, List.map_nil, List.nil_append, List.append_nil, List.cons_append, List.singleton_append, zo, pvE] at h62d
      refine zq fun K kk hK => ?_
      simp only [go_sem, h62a, h62d, h62e, hl0a, hl0b, hl0d, hl0w]
      (repeat refine sd ?_)
      refine hK _ _ fun nx => ?_; clear hK K; try clear kk
      refine nmx ?_
      refine zq fun K kk hK => ?_
      simp only [go_sem, hl0a, hl0b, hl0d, hl0w]
      refine hK _ _ fun nx => ?_; clear hK K; try clear kk
      refine nmx ?_
      have ih' := ih (pre ++ [Vy]) (Zh + 1) _ (by rw [hsplit]; simp) (by simp [hidx]) hh nx
      refine zG ?_
      first | exact ih' _ | (simp only [pvE, lsE, zo, h62e] at ih' ⊢; exact ih' _) | (simp only [pvE, lsE, zo, h62e, h43, h45, h55] at ih' ⊢; exact ih' _)
  exact key l_1 [] _ _ rfl rfl f0 _ _
 ·rintro s ⟨t, hless, aer, rfl, awi, arX, nx, g3, rfl⟩
  try dsimp only at hh
  refine nmy ?_
  first | (refine wG hless ?_; try refine ku ?_) | refine qP hless ?_ | refine qQ hless ?_
  refine zb fun K kk hK => ?_
  simp only [go_sem]
  refine hK _ _ fun nx => ?_; clear hK K; try clear kk
  refine zk ?_; refine nmx ?_
  obtain hR := Option.some.inj hh
  subst hR
  exact XB (by rfl) (by rfl) (by rfl) (by simp only [List.length_map, List.length_cons, List.length_nil, Nat.zero_add, Nat.reduceAdd]) (by first | rfl | (simp only [pvE, lsE, zo]; done) | (simp only [pvE, lsE, zo]; rfl))
 ·intro i s h; exact h.elim
 ·intro s h; exact h.elim
theorem JZ : ∀ kr : Nat, (∀ (l_1 : (List za)) (zO : Int) (vU : Int) (zz : Int) (jJ : Int) (kv : (List za)) (vO : Str) (ky : Str) (l_9 : (List zD)) (R : ((List za) × Int × Int × Int × (List za) × Str × Str × (List zD))), kE kr l_1 zO vU zz jJ kv vO ky l_9 = some R → BC Tryd.prog 79 [.box 1000 0 0, .list 5 (l_1.map za.pv), .int .i64 zO] [.var 136 [.int .u8 vU, .int .i64 zz, .int .i64 jJ, .list 5 (kv.map za.pv), .str vO, .str ky, .row 1001 0 l_9.length], .row false 3 (l_9.map zD.pv)] (.list 5 (R.1.map za.pv)) [.var 136 [.int .u8 R.2.1, .int .i64 R.2.2.1, .int .i64 R.2.2.2.1, .list 5 (R.2.2.2.2.1.map za.pv), .str R.2.2.2.2.2.1, .str R.2.2.2.2.2.2.1, .row 1001 0 R.2.2.2.2.2.2.2.length], .moved 3 (R.2.2.2.2.2.2.2.map zD.pv)]) := by
 intro kr
 induction kr with
 | zero => exact (by intro l_1 zO vU zz jJ kv vO ky l_9 R hh; rw [kE] at hh; cases hh)
 | succ kr ih =>
  have ih_step_painter_kids_x := ih
  clear ih
  intro l_1 zO vU zz jJ kv vO ky l_9 R hh
  rw [kE] at hh
  refine VM rfl rfl rfl ?_
  refine zb fun K kk hK => ?_
  simp only [go_sem]
  refine hK _ _ fun nx => ?_; clear hK K; try clear kk
  refine zb fun K kk hK => ?_
  simp only [go_sem]
  refine hK _ _ fun nx => ?_; clear hK K; try clear kk
  refine zn ?_
  refine zb fun K kk hK => ?_
  simp only [go_sem]
  refine hK _ _ fun nx => ?_; clear hK K; try clear kk
  obtain ⟨e0, f0, hh⟩ := zf hh
  obtain ⟨hlen0, f0⟩ := qf f0
  refine qH (w9 (fun s => ∃ aei, ∃ arz, ∃ ar8, ∃ ark, ∃ asL, ∃ asZ, ∃ as2, ∃ aqA, (aei, arz, ar8, ark, asL, asZ, as2, aqA) = e0 ∧ ∃ (aun : Int) (awl : Int) (arQ : Bool) (nx : Nat) (g7 : Nat) (g1001 : Nat), s = ⟨[(0, .box 1000 0 0), (2, .int .i64 aun), (7, .row 7 g7 aei.length), (11, .list 5 (l_1.map za.pv)), (12, .int .i64 (l_1.length : Int)), (13, .int .i64 awl), (14, .bool arQ)], [(7, g7, .row false 5 (aei.map za.pv)), (1000, 0, .var 136 [.int .u8 arz, .int .i64 ar8, .int .i64 ark, .list 5 (asL.map za.pv), .str asZ, .str as2, .row 1001 g1001 aqA.length]), (1001, g1001, .row false 3 (aqA.map zD.pv))], nx⟩))
   (fun i s => False)
   (fun s => False) ?_ ?_ ?_ ?_
  ·refine zA ?_
   refine qb fun I hI => ?_
   have key : ∀ (suf pre : List za) (ahP : Int) (aaP : Int) (Jg : (List za)) (aj3 : Int) (aj7 : Int) (ajG : Int) (ajC : (List za)) (akF : Str) (akK : Str) (Yz : (List zD)), l_1 = pre ++ suf → ahP = (pre.length : Int) → wZ (kE kr) suf ahP aaP Jg aj3 aj7 ajG ajC akF akK Yz = some e0 → ∀ (nx : Nat) (g7 : Nat) (g1001 : Nat), I ⟨[(0, .box 1000 0 0), (2, .int .i64 aaP), (7, .row 7 g7 Jg.length), (11, .list 5 (l_1.map za.pv)), (12, .int .i64 (l_1.length : Int)), (13, .int .i64 ahP)], [(7, g7, .row false 5 (Jg.map za.pv)), (1000, 0, .var 136 [.int .u8 aj3, .int .i64 aj7, .int .i64 ajG, .list 5 (ajC.map za.pv), .str akF, .str akK, .row 1001 g1001 Yz.length]), (1001, g1001, .row false 3 (Yz.map zD.pv))], nx⟩ := by
    intro suf
    induction suf with
    | nil =>
     intro pre ahP aaP Jg aj3 aj7 ajG ajC akF akK Yz hsplit hidx hh nx g7 g1001
     rw [wZ] at hh
     refine hI _ ?_
     have h17 := walk_nil hsplit hidx
     refine zb fun K kk hK => ?_
     simp only [go_sem]
     refine hK _ _ fun nx => ?_; clear hK K; try clear kk
     refine zn ?_
     refine zi (by first | exact congrArg PV.bool h17 | rfl) ?_
     refine zU ?_; refine nmx ?_
     refine wU ?_
     refine zG ?_
     refine ⟨_, _, _, _, _, _, _, _, (Option.some.inj hh), ?_⟩
     first | exact ⟨_, _, _, _, _, _, rfl⟩ | (simp only [pvE, lsE, zo]; exact ⟨_, _, _, _, _, _, rfl⟩) | (simp only [pvE, lsE, zo, h17]; exact ⟨_, _, _, _, _, _, rfl⟩)
    | cons akU suf ih =>
     intro pre ahP aaP Jg aj3 aj7 ajG ajC akF akK Yz hsplit hidx hh nx g7 g1001
     rw [wZ] at hh
     refine hI _ ?_
     obtain ⟨hl0a, hl0b, hl0d, hl0w, h17⟩ := qX (f := za.pv) hsplit hidx hlen0
     refine zb fun K kk hK => ?_
     simp only [go_sem]
     refine hK _ _ fun nx => ?_; clear hK K; try clear kk
     refine zn ?_
     refine zm (by first | exact congrArg PV.bool h17 | rfl) ?_
     refine zt ?_; refine nmx ?_
     refine zn ?_
     refine zA ?_
     refine zb fun K kk hK => ?_
     simp only [go_sem, hl0a, hl0b, hl0d, hl0w]
     refine hK _ _ fun nx => ?_; clear hK K; try clear kk
     obtain ⟨akn, h18, hh⟩ := zf hh
     refine zb fun K kk hK => ?_
     simp only [go_sem, hl0a, hl0b, hl0d, hl0w]
     refine zg (QD _ _ h18) (by (try simp only [go_sem, hl0a, hl0b, hl0d, hl0w]) <;> exact wkl) (by rfl) (by rfl) ?_
     simp only [go_sem, hl0a, hl0b, hl0d, hl0w]
     refine hK _ _ fun nx => ?_; clear hK K; try clear kk
     refine zn ?_
     refine zb fun K kk hK => ?_
     simp only [go_sem, hl0a, hl0b, hl0d, hl0w]
     refine hK _ _ fun nx => ?_; clear hK K; try clear kk
     by_cases h19 : (akU.Kind == ([116, 101, 120, 116] : Str)) = true
     ·rw [if_pos h19] at hh
      refine zm (by first | exact congrArg PV.bool h19 | rfl) ?_
      obtain ⟨⟨avI, apd, ape, auE, ala, aoB, alq, am1⟩, h20, hh⟩ := zf hh
      dsimp only at hh
      obtain ⟨awK, h21, hh⟩ := zf hh
      obtain ⟨h21a, h21c⟩ := zW h21
      have h21d := qM (f := za.pv) h21c
      have h21e := qL h21c
      try simp only [List.length_cons, List.length_nil, Nat.zero_add, Nat.reduceAdd] at h21a h21e
      try simp only [h21e] at h21a
      try simp only [List.map_cons, List.map_nil, List.nil_append, List.append_nil, List.cons_append, List.singleton_append, zo, pvE] at h21d
      refine zq fun K kk hK => ?_
      simp only [go_sem, h21a, h21d, h21e, hl0a, hl0b, hl0d, hl0w]
      (repeat refine sd ?_)
      refine ZP [1000, 1001] (by decide) (Xb _ _ _ _ _ _ _ _ _ _ h20) (by (try simp only [go_sem, h21a, h21d, h21e, hl0a, hl0b, hl0d, hl0w, h17, h19]) <;> exact wkb) (by rfl) ?_
      simp only [go_sem, h21a, h21d, h21e, hl0a, hl0b, hl0d, hl0w]
      (repeat refine sd ?_)
      refine hK _ _ fun nx => ?_; clear hK K; try clear kk
      refine nmx ?_
      refine zq fun K kk hK => ?_
      simp only [go_sem, hl0a, hl0b, hl0d, hl0w]
      refine hK _ _ fun nx => ?_; clear hK K; try clear kk
      refine nmx ?_
      refine zq fun K kk hK => ?_
      simp only [go_sem, hl0a, hl0b, hl0d, hl0w]
      refine hK _ _ fun nx => ?_; clear hK K; try clear kk
      refine nmx ?_
      have ih' := ih (pre ++ [akU]) (ahP + 1) _ _ _ _ _ _ _ _ _ (by rw [hsplit]; simp) (by simp [hidx]) hh nx
      refine zG ?_
      first | exact ih' _ _ | (simp only [pvE, lsE, zo, h21e] at ih' ⊢; exact ih' _ _) | (simp only [pvE, lsE, zo, h21e, h17, h19] at ih' ⊢; exact ih' _ _)
     ·rw [if_neg h19] at hh
      replace h19 := Bool.eq_false_iff.mpr h19
      refine zi (by first | exact congrArg PV.bool h19 | rfl) ?_
      obtain ⟨⟨av7, ao8, aoR, aus, al1, aoZ, amw, avN⟩, h22, hh⟩ := zf hh
      dsimp only at hh
      refine zb fun K kk hK => ?_
      simp only [go_sem, hl0a, hl0b, hl0d, hl0w]
      refine ZP [1000, 1001] (by decide) (ih_step_painter_kids_x _ _ _ _ _ _ _ _ _ _ h22) (by (try simp only [go_sem, hl0a, hl0b, hl0d, hl0w, h17, h19]) <;> exact wkb) (by rfl) ?_
      simp only [go_sem, hl0a, hl0b, hl0d, hl0w]
      refine hK _ _ fun nx => ?_; clear hK K; try clear kk
      obtain ⟨am5, h23, hh⟩ := zf hh
      obtain ⟨h23a, h23c⟩ := zW h23
      have h23d := qM (f := za.pv) h23c
      have h23e := qL h23c
      try simp only [List.length_cons, List.length_nil, Nat.zero_add, Nat.reduceAdd] at h23a h23e
      try simp only [h23e] at h23a
      try simp only [List.map_cons, List.map_nil, List.nil_append, List.append_nil, List.cons_append, List.singleton_append, zo, pvE] at h23d
      refine zq fun K kk hK => ?_
      simp only [go_sem, h23a, h23d, h23e, hl0a, hl0b, hl0d, hl0w]
      (repeat refine sd ?_)
      refine hK _ _ fun nx => ?_; clear hK K; try clear kk
      refine nmx ?_
      refine zq fun K kk hK => ?_
      simp only [go_sem, hl0a, hl0b, hl0d, hl0w]
      refine hK _ _ fun nx => ?_; clear hK K; try clear kk
      refine nmx ?_
      refine zq fun K kk hK => ?_
      simp only [go_sem, hl0a, hl0b, hl0d, hl0w]
      refine hK _ _ fun nx => ?_; clear hK K; try clear kk
      refine nmx ?_
      have ih' := ih (pre ++ [akU]) (ahP + 1) _ _ _ _ _ _ _ _ _ (by rw [hsplit]; simp) (by simp [hidx]) hh nx
      refine zG ?_
      first | exact ih' _ _ | (simp only [pvE, lsE, zo, h23e] at ih' ⊢; exact ih' _ _) | (simp only [pvE, lsE, zo, h23e, h17, h19] at ih' ⊢; exact ih' _ _)
   exact key l_1 [] _ _ _ _ _ _ _ _ _ _ rfl rfl f0 _ _ _
  ·rintro s ⟨t, hless, aei, arz, ar8, ark, asL, asZ, as2, aqA, rfl, aun, awl, arQ, nx, g7, g1001, rfl⟩
   try dsimp only at hh
   refine nmy ?_
   first | (refine wG hless ?_; try refine ku ?_) | refine qP hless ?_ | refine qQ hless ?_
   obtain ⟨aok, h24, hh⟩ := zf hh
   refine zb fun K kk hK => ?_
   simp only [go_sem]
   refine zg (Xh _ _ h24).list (by (try simp only [go_sem]) <;> exact wkl) (by rfl) (by rfl) ?_
   simp only [go_sem]
   refine hK _ _ fun nx => ?_; clear hK K; try clear kk
   refine zk ?_; refine nmx ?_
   obtain hR := Option.some.inj hh
   subst hR
   refine vZ ?_ (by rfl) ?_
   ·simp only [go_sem, wI, jU, kP, vY, ZQ, List.map_cons, List.map_append, List.head?_cons]
    all_goals exact wkw
   ·(try simp only [go_sem]); (try simp only [List.length_append, List.map_append]); all_goals exact wkb
  ·intro i s h; exact h.elim
  ·intro s h; exact h.elim
theorem J3 (l_1 : (List za)) (zO : Int) (vU : Int) (zz : Int) (jJ : Int) (kv : (List za)) (vO : Str) (ky : Str) (l_9 : (List zD)) (R : ((List za) × Int × Int × Int × (List za) × Str × Str × (List zD))) (hh : Zf l_1 zO vU zz jJ kv vO ky l_9 = some R) : BC Tryd.prog 79 [.box 1000 0 0, .list 5 (l_1.map za.pv), .int .i64 zO] [.var 136 [.int .u8 vU, .int .i64 zz, .int .i64 jJ, .list 5 (kv.map za.pv), .str vO, .str ky, .row 1001 0 l_9.length], .row false 3 (l_9.map zD.pv)] (.list 5 (R.1.map za.pv)) [.var 136 [.int .u8 R.2.1, .int .i64 R.2.2.1, .int .i64 R.2.2.2.1, .list 5 (R.2.2.2.2.1.map za.pv), .str R.2.2.2.2.2.1, .str R.2.2.2.2.2.2.1, .row 1001 0 R.2.2.2.2.2.2.2.length], .moved 3 (R.2.2.2.2.2.2.2.map zD.pv)] := by
 rw [Zf] at hh
 obtain ⟨kr, hh⟩ := jH hh
 exact (JZ kr) _ _ _ _ _ _ _ _ _ _ hh
theorem ah1 (n_1 : za) (s_2 : zx) (R : (za × (List zD) × Int)) (hh : J9 n_1 s_2 = some R) : PC Tryd.prog 47 [.agg [.str n_1.Kind, .str n_1.Text, .list 1 (n_1.Marks.map PV.str), .list 2 (n_1.zh.map ze.pv), .list 5 (n_1.Kids.map za.pv)], .agg [.int .u8 s_2.Kind, .int .i64 s_2.From, .int .i64 s_2.To, .list 5 (s_2.kG.map za.pv), .str s_2.Name, .str s_2.Value]] (.tup [.agg [.str R.1.Kind, .str R.1.Text, .list 1 (R.1.Marks.map PV.str), .list 2 (R.1.zh.map ze.pv), .list 5 (R.1.Kids.map za.pv)], .list 3 (R.2.1.map zD.pv), .int .i64 R.2.2]) := by
 rw [J9] at hh
 refine aej rfl ?_
 refine zb fun K kk hK => ?_
 simp only [go_sem]
 refine hK _ _ fun nx => ?_; clear hK K; try clear kk
 refine zn ?_
 obtain ⟨QA, h1, hh⟩ := zf hh
 refine zb fun K kk hK => ?_
 simp only [go_sem]
 refine zg (jA _ _ h1) (by (try simp only [go_sem]) <;> exact wkl) (by rfl) (by rfl) ?_
 simp only [go_sem]
 refine hK _ _ fun nx => ?_; clear hK K; try clear kk
 by_cases h2 : (decide (s_2.To > QA)) = true
 ·rw [if_pos h2] at hh
  refine zm (by first | exact congrArg PV.bool h2 | rfl) ?_
  refine zb fun K kk hK => ?_
  simp only [go_sem]
  refine hK _ _ fun nx => ?_; clear hK K; try clear kk
  refine zk ?_; refine nmx ?_
  obtain hR := Option.some.inj hh
  subst hR
  exact zy
 ·rw [if_neg h2] at hh
  replace h2 := Bool.eq_false_iff.mpr h2
  refine zi (by first | exact congrArg PV.bool h2 | rfl) ?_
  refine zt ?_; refine nmx ?_
  refine zb fun K kk hK => ?_
  simp only [go_sem]
  refine hK _ _ fun nx => ?_; clear hK K; try clear kk
  obtain ⟨⟨r_4, avj, au7, axc, atV, avz, arL, art⟩, h3, hh⟩ := zf hh
  dsimp only at hh
  refine zb fun K kk hK => ?_
  simp only [go_sem]
  refine ZP [17, 425] (by decide) (J3 _ _ _ _ _ _ _ _ _ _ h3) (by (try simp only [go_sem, h2]) <;> exact wkb) (by rfl) ?_
  simp only [go_sem]
  refine hK _ _ fun nx => ?_; clear hK K; try clear kk
  refine zb fun K kk hK => ?_
  simp only [go_sem]
  refine hK _ _ fun nx => ?_; clear hK K; try clear kk
  refine zk ?_; refine nmx ?_
  obtain hR := Option.some.inj hh
  subst hR
  exact zy
end Go.Proofs.YtclohbgnaopjfaaDoor
