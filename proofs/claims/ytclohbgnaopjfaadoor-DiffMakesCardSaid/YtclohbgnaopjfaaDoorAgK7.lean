/- Texts of the proof of diffMakesCard -/
import Derived.Test.YtclohbgnaopjfaaDoorAgC
import Derived.Test.YtclohbgnaopjfaaDoorAgF
import Derived.Test.YtclohbgnaopjfaaDoorAgK0
import Derived.Test.YtclohbgnaopjfaaDoorAgK6
namespace Go.Proofs.YtclohbgnaopjfaaDoor
set_option linter.unusedSimpArgs false
set_option linter.unusedVariables false
open Go
set_option maxRecDepth 100000
theorem XH (JY : Int) (arZ : Int) (vX : Int) (zD : Int) (jX : Int) (kN : (List za)) (jd : Str) (kP : Str) (l_9 : (List zx)) (R : (Int × Int × Int × (List za) × Str × Str × (List zx))) (hh : jB JY arZ vX zD jX kN jd kP l_9 = some R) : BC Tryd.prog 113 [.box 1000 0 0, .int .i64 JY, .int .i64 arZ] [.var 136 [.int .u8 vX, .int .i64 zD, .int .i64 jX, .list 5 (kN.map za.pv), .str jd, .str kP, .row 1001 0 l_9.length], .row false 3 (l_9.map zx.pv)] (.tup []) [.var 136 [.int .u8 R.1, .int .i64 R.2.1, .int .i64 R.2.2.1, .list 5 (R.2.2.2.1.map za.pv), .str R.2.2.2.2.1, .str R.2.2.2.2.2.1, .row 1001 0 R.2.2.2.2.2.2.length], .moved 3 (R.2.2.2.2.2.2.map zx.pv)] := by
 rw [jB] at hh
 refine Jh rfl rfl rfl ?_
 refine zb fun K kk hK => ?_
 simp only [go_sem]
 refine hK _ _ fun nx => ?_; clear hK K; try clear kk
 refine zm ?_
 by_cases h1 : (decide ((w64 ((l_9.length : Int) - (1 : Int))) ≥ (0 : Int))) = true
 ·rw [if_pos h1] at hh
  obtain ⟨aeQ, h2, hh⟩ := zf hh
  obtain ⟨h2a, h2b, h2c⟩ := rd_some h2
  have h2d := wR (f := zx.pv) h2c
  have h2f := qM (f := zx.pv) h2c
  try simp only [Int.toNat_natCast, Int.reduceToNat] at h2d h2f
  refine zb fun K kk hK => ?_
  simp only [go_sem, h1, of_decide_eq_true h1, h2a, h2b, h2d, h2f.1, h2f.2]
  (repeat refine sd ?_)
  refine hK _ _ fun nx => ?_; clear hK K; try clear kk
  by_cases h3 : ((w64 (aeQ.Pos + aeQ.Old)) == JY) = true
  ·rw [if_pos h3] at hh
   refine zn (by first | exact congrArg PV.bool h3 | rfl) ?_
   obtain ⟨ata, h4, hh⟩ := zf hh
   obtain ⟨h4a, h4c⟩ := XV h4
   have h4d := acr (f := zx.pv) h4c
   try simp only [Int.toNat_natCast, Int.reduceToNat, List.map_cons, List.map_nil, List.cons_append, List.nil_append, List.singleton_append, pvE] at h4d
   have h4e := aco h4c
   have h2b_h4 := h2b; rw [h4e] at h2b_h4
   have h2f1_h4 := h2f.1; rw [h4e] at h2f1_h4
   have h2a_h4 := h2a; try rw [h4e] at h2a_h4
   have h2d_h4 := h2d; try rw [h4e] at h2d_h4
   try rw [h4e] at h4d
   have h4bw := h4a.2; rw [h4e] at h4bw
   refine zb fun K kk hK => ?_
   simp only [go_sem, h2a, h2b, h2d, h2f.1, h2f.2, h4a.1, h4a.2, h4d, h4e, h2b_h4, h2f1_h4, h2a_h4, h2d_h4, h4bw]
   (repeat refine sd ?_)
   try simp only [go_sem, h2a, h2b, h2d, h2f.1, h2f.2, h4a.1, h4a.2, h4d, h4e, h2b_h4, h2f1_h4, h2a_h4, h2d_h4, h4bw]
   refine hK _ _ fun nx => ?_; clear hK K; try clear kk
   refine zk ?_; refine nmx ?_
   obtain hR := Option.some.inj hh
   subst hR
   refine jf ?_ (by rfl) ?_
   ·simp only [go_sem, wT, xy, vg, jk, Qc, List.map_cons, List.map_append, List.head?_cons, h1, h3]
    all_goals exact wkw
   ·(try simp only [go_sem, h1, h3]); (try simp only [List.length_append, List.map_append, h4e]); all_goals exact wkb
  ·rw [if_neg h3] at hh
   replace h3 := Bool.eq_false_iff.mpr h3
   refine zi (by first | exact congrArg PV.bool h3 | rfl) ?_
   refine zy ?_; refine nmx ?_
   obtain ⟨aiO, h5, hh⟩ := zf hh
   obtain ⟨h5a, h5c⟩ := zZ h5
   have h5d := qX (f := zx.pv) h5c
   have h5e := qW h5c
   try simp only [List.length_cons, List.length_nil, Nat.zero_add, Nat.reduceAdd] at h5a h5e
   try simp only [h5e] at h5a
   try simp only [List.map_cons, List.map_nil, List.nil_append, List.append_nil, List.cons_append, List.singleton_append, zo, pvE] at h5d
   refine zq fun K kk hK => ?_
   simp only [go_sem, h5a, h5d, h5e]
   (repeat refine sd ?_)
   refine hK _ _ fun nx => ?_; clear hK K; try clear kk
   refine nmx ?_
   obtain hR := Option.some.inj hh
   subst hR
   refine YS ?_
   refine jf ?_ (by rfl) ?_
   ·simp only [go_sem, wT, xy, vg, jk, Qc, List.map_cons, List.map_append, List.head?_cons, h1, h3]
    all_goals exact wkw
   ·(try simp only [go_sem, h1, h3]); (try simp only [List.length_append, List.map_append, h5e]); all_goals exact wkb
 ·rw [if_neg h1] at hh
  replace h1 := Bool.eq_false_iff.mpr h1
  refine zb fun K kk hK => ?_
  simp only [go_sem, h1, of_decide_eq_false h1]
  (repeat refine sd ?_)
  refine hK _ _ fun nx => ?_; clear hK K; try clear kk
  refine zi rfl ?_
  refine zy ?_; refine nmx ?_
  obtain ⟨asD, h6, hh⟩ := zf hh
  obtain ⟨h6a, h6c⟩ := zZ h6
  have h6d := qX (f := zx.pv) h6c
  have h6e := qW h6c
  try simp only [List.length_cons, List.length_nil, Nat.zero_add, Nat.reduceAdd] at h6a h6e
  try simp only [h6e] at h6a
  try simp only [List.map_cons, List.map_nil, List.nil_append, List.append_nil, List.cons_append, List.singleton_append, zo, pvE] at h6d
  refine zq fun K kk hK => ?_
  simp only [go_sem, h6a, h6d, h6e]
  (repeat refine sd ?_)
  refine hK _ _ fun nx => ?_; clear hK K; try clear kk
  refine nmx ?_
  obtain hR := Option.some.inj hh
  subst hR
  refine YS ?_
  refine jf ?_ (by rfl) ?_
  ·simp only [go_sem, wT, xy, vg, jk, Qc, List.map_cons, List.map_append, List.head?_cons, h1]
   all_goals exact wkw
  ·(try simp only [go_sem, h1]); (try simp only [List.length_append, List.map_append, h6e]); all_goals exact wkb
theorem xH (a_1 : Int) (b_2 : Int) (agF : (List Str)) (jF : za) (v_5 : (List Int)) (R : za) (hh : ku a_1 b_2 agF jF v_5 = some R) : BC Tryd.prog 114 [.int .i64 a_1, .int .i64 b_2, .list 1 (agF.map PV.str), .box 1000 0 0, .box 1001 0 0] [.var 28 [.str jF.Kind, .str jF.Text, .list 1 (jF.Marks.map PV.str), .list 2 (jF.zh.map ze.pv), .list 5 (jF.Kids.map za.pv)], .var 65 [.list 1 (v_5.map (PV.int .i32))]] (.agg [.str R.Kind, .str R.Text, .list 1 (R.Marks.map PV.str), .list 2 (R.zh.map ze.pv), .list 5 (R.Kids.map za.pv)]) [.var 28 [.str jF.Kind, .str jF.Text, .list 1 (jF.Marks.map PV.str), .list 2 (jF.zh.map ze.pv), .list 5 (jF.Kids.map za.pv)], .var 65 [.list 1 (v_5.map (PV.int .i32))]] := by
 rw [ku] at hh
 refine Vw rfl rfl rfl ?_
 refine zb fun K kk hK => ?_
 simp only [go_sem]
 refine hK _ _ fun nx => ?_; clear hK K; try clear kk
 obtain ⟨s_6, h1, hh⟩ := zf hh
 obtain ⟨h1a, h1c⟩ := yL h1
 have h1g := Ju h1a
 have h1d := apf (f := (PV.int .i32)) h1c
 try simp only [Int.toNat_natCast, Int.reduceToNat, List.map_cons, List.map_nil, pvE] at h1d
 refine zb fun K kk hK => ?_
 simp only [go_sem, h1a.1, h1a.2.1, h1a.2.2, h1d, h1g]
 (repeat refine sd ?_)
 refine hK _ _ fun nx => ?_; clear hK K; try clear kk
 refine zk ?_; refine nmx ?_
 obtain hR := Option.some.inj hh
 subst hR
 refine jf ?_ (by rfl) ?_
 ·simp only [go_sem, wT, xy, vg, jk, Qc, List.map_cons, List.map_append, List.head?_cons]
  all_goals exact wkw
 ·(try simp only [go_sem]); (try simp only [List.length_append, List.map_append]); all_goals exact wkb
theorem XR (n_1 : za) (zQ : Int) (vX : Int) (zD : Int) (jX : Int) (kN : (List za)) (jd : Str) (kP : Str) (l_9 : (List zx)) (R : ((List za) × Int × Int × Int × (List za) × Str × Str × (List zx))) (hh : jC n_1 zQ vX zD jX kN jd kP l_9 = some R) : BC Tryd.prog 101 [.box 1000 0 0, .agg [.str n_1.Kind, .str n_1.Text, .list 1 (n_1.Marks.map PV.str), .list 2 (n_1.zh.map ze.pv), .list 5 (n_1.Kids.map za.pv)], .int .i64 zQ] [.var 136 [.int .u8 vX, .int .i64 zD, .int .i64 jX, .list 5 (kN.map za.pv), .str jd, .str kP, .row 1001 0 l_9.length], .row false 3 (l_9.map zx.pv)] (.list 5 (R.1.map za.pv)) [.var 136 [.int .u8 R.2.1, .int .i64 R.2.2.1, .int .i64 R.2.2.2.1, .list 5 (R.2.2.2.2.1.map za.pv), .str R.2.2.2.2.2.1, .str R.2.2.2.2.2.2.1, .row 1001 0 R.2.2.2.2.2.2.2.length], .moved 3 (R.2.2.2.2.2.2.2.map zx.pv)] := by
 rw [jC] at hh
 refine Jg rfl rfl rfl ?_
 refine zb fun K kk hK => ?_
 simp only [go_sem]
 refine hK _ _ fun nx => ?_; clear hK K; try clear kk
 refine zb fun K kk hK => ?_
 simp only [go_sem]
 refine hK _ _ fun nx => ?_; clear hK K; try clear kk
 refine zb fun K kk hK => ?_
 simp only [go_sem]
 refine hK _ _ fun nx => ?_; clear hK K; try clear kk
 refine zb fun K kk hK => ?_
 simp only [go_sem]
 refine hK _ _ fun nx => ?_; clear hK K; try clear kk
 obtain ⟨⟨J2, ac6⟩, h1, hh⟩ := zf hh
 dsimp only at hh
 refine zb fun K kk hK => ?_
 simp only [go_sem]
 refine zg (adB _ _ _ h1) (by (try simp only [go_sem]) <;> exact wkl) (by rfl) (by rfl) ?_
 simp only [go_sem]
 refine hK _ _ fun nx => ?_; clear hK K; try clear kk
 refine zm ?_
 by_cases h2 : (!ac6) = true
 ·rw [if_pos h2] at hh
  refine zb fun K kk hK => ?_
  simp only [go_sem, h2]
  (repeat refine sd ?_)
  refine hK _ _ fun nx => ?_; clear hK K; try clear kk
  refine zn rfl ?_
  refine zb fun K kk hK => ?_
  simp only [go_sem]
  refine hK _ _ fun nx => ?_; clear hK K; try clear kk
  refine zk ?_; refine nmx ?_
  obtain hR := Option.some.inj hh
  subst hR
  refine jf ?_ (by rfl) ?_
  ·simp only [go_sem, wT, xy, vg, jk, Qc, List.map_cons, List.map_append, List.head?_cons, h2]
   all_goals exact wkw
  ·(try simp only [go_sem, h2]); (try simp only [List.length_append, List.map_append]); all_goals exact wkb
 ·rw [if_neg h2] at hh
  replace h2 := Bool.eq_false_iff.mpr h2
  refine zb fun K kk hK => ?_
  simp only [go_sem, h2]
  (repeat refine sd ?_)
  refine hK _ _ fun nx => ?_; clear hK K; try clear kk
  by_cases h3 : ((if ((runes n_1.Text).length : Int) < (if (0 : Int) > (w64 (zD - zQ)) then (0 : Int) else w64 (zD - zQ)) then ((runes n_1.Text).length : Int) else (if (0 : Int) > (w64 (zD - zQ)) then (0 : Int) else w64 (zD - zQ))) == (if ((runes n_1.Text).length : Int) < (if (if ((runes n_1.Text).length : Int) < (if (0 : Int) > (w64 (zD - zQ)) then (0 : Int) else w64 (zD - zQ)) then ((runes n_1.Text).length : Int) else (if (0 : Int) > (w64 (zD - zQ)) then (0 : Int) else w64 (zD - zQ))) > (w64 (jX - zQ)) then (if ((runes n_1.Text).length : Int) < (if (0 : Int) > (w64 (zD - zQ)) then (0 : Int) else w64 (zD - zQ)) then ((runes n_1.Text).length : Int) else (if (0 : Int) > (w64 (zD - zQ)) then (0 : Int) else w64 (zD - zQ))) else w64 (jX - zQ)) then ((runes n_1.Text).length : Int) else (if (if ((runes n_1.Text).length : Int) < (if (0 : Int) > (w64 (zD - zQ)) then (0 : Int) else w64 (zD - zQ)) then ((runes n_1.Text).length : Int) else (if (0 : Int) > (w64 (zD - zQ)) then (0 : Int) else w64 (zD - zQ))) > (w64 (jX - zQ)) then (if ((runes n_1.Text).length : Int) < (if (0 : Int) > (w64 (zD - zQ)) then (0 : Int) else w64 (zD - zQ)) then ((runes n_1.Text).length : Int) else (if (0 : Int) > (w64 (zD - zQ)) then (0 : Int) else w64 (zD - zQ))) else w64 (jX - zQ)))) = true
  ·rw [if_pos h3] at hh
   refine zn (by first | exact congrArg PV.bool h3 | rfl) ?_
   refine zb fun K kk hK => ?_
   simp only [go_sem]
   refine hK _ _ fun nx => ?_; clear hK K; try clear kk
   refine zk ?_; refine nmx ?_
   obtain hR := Option.some.inj hh
   subst hR
   refine jf ?_ (by rfl) ?_
   ·simp only [go_sem, wT, xy, vg, jk, Qc, List.map_cons, List.map_append, List.head?_cons, h2, h3]
    all_goals exact wkw
   ·(try simp only [go_sem, h2, h3]); (try simp only [List.length_append, List.map_append]); all_goals exact wkb
  ·rw [if_neg h3] at hh
   replace h3 := Bool.eq_false_iff.mpr h3
   refine zi (by first | exact congrArg PV.bool h3 | rfl) ?_
   refine zy ?_; refine nmx ?_
   obtain ⟨⟨aqu, apS, av8, amo, aqi, amu, auD⟩, h4, hh⟩ := zf hh
   dsimp only at hh
   refine zb fun K kk hK => ?_
   simp only [go_sem]
   refine Qa [1000, 1001] (by decide) (XH _ _ _ _ _ _ _ _ _ _ h4) (by (try simp only [go_sem, h2, h3]) <;> exact wkb) (by rfl) ?_
   simp only [go_sem]
   refine hK _ _ fun nx => ?_; clear hK K; try clear kk
   refine zb fun K kk hK => ?_
   simp only [go_sem]
   refine hK _ _ fun nx => ?_; clear hK K; try clear kk
   obtain ⟨av7, h5, hh⟩ := zf hh
   obtain ⟨av9, h6, hh⟩ := zf hh
   obtain ⟨awd, h7, hh⟩ := zf hh
   refine zb fun K kk hK => ?_
   simp only [go_sem]
   refine acf [4, 7] (by decide) (by decide) (xH _ _ _ _ _ _ h5) (by (try simp only [go_sem, h2, h3]) <;> exact wkb) (by rfl) (by rfl) ?_
   simp only [go_sem]
   refine acf [4, 7] (by decide) (by decide) (xH _ _ _ _ _ _ h6) (by (try simp only [go_sem, h2, h3]) <;> exact wkb) (by rfl) (by rfl) ?_
   simp only [go_sem]
   refine acf [4, 7] (by decide) (by decide) (xH _ _ _ _ _ _ h7) (by (try simp only [go_sem, h2, h3]) <;> exact wkb) (by rfl) (by rfl) ?_
   simp only [go_sem]
   refine hK _ _ fun nx => ?_; clear hK K; try clear kk
   refine zk ?_; refine nmx ?_
   obtain hR := Option.some.inj hh
   subst hR
   refine jf ?_ (by rfl) ?_
   ·simp only [go_sem, wT, xy, vg, jk, Qc, List.map_cons, List.map_append, List.head?_cons, h2, h3]
    all_goals exact wkw
   ·(try simp only [go_sem, h2, h3]); (try simp only [List.length_append, List.map_append]); all_goals exact wkb
theorem XN (l_1 : (List za)) (R : (List za)) (hh : Kb l_1 = some R) : PC Tryd.prog 82 [.list 5 (l_1.map za.pv)] (.own 5 (R.map za.pv)) := by
 rw [Kb] at hh
 refine agm rfl ?_
 refine zb fun K kk hK => ?_
 simp only [go_sem]
 refine hK _ _ fun nx => ?_; clear hK K; try clear kk
 refine zb fun K kk hK => ?_
 simp only [go_sem]
 refine hK _ _ fun nx => ?_; clear hK K; try clear kk
 refine zm ?_
 refine zb fun K kk hK => ?_
 simp only [go_sem]
 refine hK _ _ fun nx => ?_; clear hK K; try clear kk
 obtain ⟨e0, f0, hh⟩ := zf hh
 obtain ⟨hlen0, f0⟩ := qo f0
 refine qD (kE (fun s => ∃ aeV, aeV = e0 ∧ ∃ (axC : Int) (atC : Bool) (nx : Nat) (g3 : Nat), s = ⟨[(3, .row 3 g3 aeV.length), (7, .list 5 (l_1.map za.pv)), (8, .int .i64 (l_1.length : Int)), (9, .int .i64 axC), (10, .bool atC)], [(3, g3, .row false 5 (aeV.map za.pv))], nx⟩))
  (fun i s => False)
  (fun s => False) ?_ ?_ ?_ ?_
 ·refine zC ?_
  refine qg fun I hI => ?_
  have key : ∀ (suf pre : List za) (Zv : Int) (jv : (List za)), l_1 = pre ++ suf → Zv = (pre.length : Int) → ky suf Zv jv = some e0 → ∀ (nx : Nat) (g3 : Nat), I ⟨[(3, .row 3 g3 jv.length), (7, .list 5 (l_1.map za.pv)), (8, .int .i64 (l_1.length : Int)), (9, .int .i64 Zv)], [(3, g3, .row false 5 (jv.map za.pv))], nx⟩ := by
   intro suf
   induction suf with
   | nil =>
    intro pre Zv jv hsplit hidx hh nx g3
    rw [ky] at hh
    refine hI _ ?_
    have h43 := walk_nil hsplit hidx
    refine zb fun K kk hK => ?_
    simp only [go_sem]
    refine hK _ _ fun nx => ?_; clear hK K; try clear kk
    refine zm ?_
    refine zi (by first | exact congrArg PV.bool h43 | rfl) ?_
    refine zU ?_; refine nmx ?_
    refine wJ ?_
    refine zG ?_
    refine ⟨_, (Option.some.inj hh), ?_⟩
    first | exact ⟨_, _, _, _, rfl⟩ | (simp only [pvE, lsE, zo]; exact ⟨_, _, _, _, rfl⟩) | (simp only [pvE, lsE, zo, h43]; exact ⟨_, _, _, _, rfl⟩)
   | cons VX suf ih =>
    intro pre Zv jv hsplit hidx hh nx g3
    rw [ky] at hh
    refine hI _ ?_
    obtain ⟨hl0a, hl0b, hl0d, hl0w, h43⟩ := qZ (f := za.pv) hsplit hidx hlen0
    refine zb fun K kk hK => ?_
    simp only [go_sem]
    refine hK _ _ fun nx => ?_; clear hK K; try clear kk
    refine zm ?_
    refine zn (by first | exact congrArg PV.bool h43 | rfl) ?_
    refine zy ?_; refine nmx ?_
    refine zm ?_
    refine zC ?_
    refine zb fun K kk hK => ?_
    simp only [go_sem, hl0a, hl0b, hl0d, hl0w]
    refine hK _ _ fun nx => ?_; clear hK K; try clear kk
    refine zb fun K kk hK => ?_
    simp only [go_sem, hl0a, hl0b, hl0d, hl0w]
    refine hK _ _ fun nx => ?_; clear hK K; try clear kk
    refine zC ?_
    obtain ⟨aeN, h44, hh⟩ := zf hh
    by_cases h45 : (aeN) = true
    ·rw [if_pos h45] at hh
     refine zb fun K kk hK => ?_
     simp only [go_sem, h45, hl0a, hl0b, hl0d, hl0w]
     (repeat refine sd ?_)
     refine zg (kV _ _ h44) (by (try simp only [go_sem, h45, hl0a, hl0b, hl0d, hl0w]) <;> exact wkl) (by rfl) (by rfl) ?_
     simp only [go_sem, h45, hl0a, hl0b, hl0d, hl0w]
     (repeat refine sd ?_)
     refine hK _ _ fun nx => ?_; clear hK K; try clear kk
     by_cases h46 : (VX.Text == ([] : Str)) = true
     ·rw [if_pos h46] at hh
      refine zn (by first | exact congrArg PV.bool h46 | rfl) ?_
      refine zy ?_; refine nmx ?_
      refine zq fun K kk hK => ?_
      simp only [go_sem, hl0a, hl0b, hl0d, hl0w]
      refine hK _ _ fun nx => ?_; clear hK K; try clear kk
      refine nmx ?_
      have ih' := ih (pre ++ [VX]) (Zv + 1) _ (by rw [hsplit]; simp) (by simp [hidx]) hh nx
      refine zG ?_
      first | exact ih' _ | (simp only [pvE, lsE, zo] at ih' ⊢; exact ih' _) | (simp only [pvE, lsE, zo, h43, h45, h46] at ih' ⊢; exact ih' _)
     ·rw [if_neg h46] at hh
      replace h46 := Bool.eq_false_iff.mpr h46
      refine zi (by first | exact congrArg PV.bool h46 | rfl) ?_
      by_cases h47 : (decide ((w64 ((jv.length : Int) - (1 : Int))) ≥ (0 : Int))) = true
      ·rw [if_pos h47] at hh
       obtain ⟨au4, h48, hh⟩ := zf hh
       obtain ⟨h48a, h48b, h48c⟩ := rd_some h48
       have h48d := wR (f := za.pv) h48c
       have h48f := qM (f := za.pv) h48c
       try simp only [Int.toNat_natCast, Int.reduceToNat] at h48d h48f
       obtain ⟨ahA, h49, hh⟩ := zf hh
       refine zb fun K kk hK => ?_
       simp only [go_sem, h47, of_decide_eq_true h47, h48a, h48b, h48d, h48f.1, h48f.2, hl0a, hl0b, hl0d, hl0w]
       (repeat refine sd ?_)
       refine zg (J8 _ _ _ h49) (by (try simp only [go_sem, h47, of_decide_eq_true h47, h48a, h48b, h48d, h48f.1, h48f.2, hl0a, hl0b, hl0d, hl0w]) <;> exact wkl) (by rfl) (by rfl) ?_
       simp only [go_sem, h47, of_decide_eq_true h47, h48a, h48b, h48d, h48f.1, h48f.2, hl0a, hl0b, hl0d, hl0w]
       (repeat refine sd ?_)
       refine hK _ _ fun nx => ?_; clear hK K; try clear kk
       by_cases h50 : (ahA) = true
       ·rw [if_pos h50] at hh
        refine zn (by first | exact congrArg PV.bool h50 | rfl) ?_
        obtain ⟨h51, hh⟩ := qo hh
        refine zb fun K kk hK => ?_
        simp only [go_sem, h48a, h48b, h48d, h48f.1, h48f.2, h51, hl0a, hl0b, hl0d, hl0w]
        (repeat refine sd ?_)
        refine hK _ _ fun nx => ?_; clear hK K; try clear kk
        obtain ⟨aup, h52, hh⟩ := zf hh
        obtain ⟨h52a, h52c⟩ := XV h52
        have h52d := acr (f := za.pv) h52c
        try simp only [Int.toNat_natCast, Int.reduceToNat, List.map_cons, List.map_nil, List.cons_append, List.nil_append, List.singleton_append, pvE] at h52d
        have h52e := aco h52c
        have h48b_h52 := h48b; rw [h52e] at h48b_h52
        have h48f1_h52 := h48f.1; rw [h52e] at h48f1_h52
        have h48a_h52 := h48a; try rw [h52e] at h48a_h52
        have h48d_h52 := h48d; try rw [h52e] at h48d_h52
        try rw [h52e] at h52d
        have h52bw := h52a.2; rw [h52e] at h52bw
        refine zq fun K kk hK => ?_
        simp only [go_sem, h48a, h48b, h48d, h48f.1, h48f.2, h52a.1, h52a.2, h52d, h52e, h48b_h52, h48f1_h52, h48a_h52, h48d_h52, h52bw, hl0a, hl0b, hl0d, hl0w]
        (repeat refine sd ?_)
        try simp only [go_sem, h48a, h48b, h48d, h48f.1, h48f.2, h52a.1, h52a.2, h52d, h52e, h48b_h52, h48f1_h52, h48a_h52, h48d_h52, h52bw, hl0a, hl0b, hl0d, hl0w]
        refine hK _ _ fun nx => ?_; clear hK K; try clear kk
        refine nmx ?_
        refine zq fun K kk hK => ?_
        simp only [go_sem, hl0a, hl0b, hl0d, hl0w]
        refine hK _ _ fun nx => ?_; clear hK K; try clear kk
        refine nmx ?_
        have ih' := ih (pre ++ [VX]) (Zv + 1) _ (by rw [hsplit]; simp) (by simp [hidx]) hh nx
        refine zG ?_
        first | exact ih' _ | (simp only [pvE, lsE, zo, h52e] at ih' ⊢; exact ih' _) | (simp only [pvE, lsE, zo, h52e, h43, h45, h46, h47, h50] at ih' ⊢; exact ih' _)
       ·rw [if_neg h50] at hh
        replace h50 := Bool.eq_false_iff.mpr h50
        refine zi (by first | exact congrArg PV.bool h50 | rfl) ?_
        obtain ⟨atA, h53, hh⟩ := zf hh
        obtain ⟨h53a, h53c⟩ := zZ h53
        have h53d := qX (f := za.pv) h53c
        have h53e := qW h53c
        try simp only [List.length_cons, List.length_nil, Nat.zero_add, Nat.reduceAdd] at h53a h53e
        try simp only [h53e] at h53a
        try simp only [List.map_cons, List.map_nil, List.nil_append, List.append_nil, List.cons_append, List.singleton_append, zo, pvE] at h53d
        refine zq fun K kk hK => ?_
        simp only [go_sem, h53a, h53d, h53e, hl0a, hl0b, hl0d, hl0w]
        (repeat refine sd ?_)
        refine hK _ _ fun nx => ?_; clear hK K; try clear kk
        refine nmx ?_
        refine zq fun K kk hK => ?_
        simp only [go_sem, hl0a, hl0b, hl0d, hl0w]
        refine hK _ _ fun nx => ?_; clear hK K; try clear kk
        refine nmx ?_
        have ih' := ih (pre ++ [VX]) (Zv + 1) _ (by rw [hsplit]; simp) (by simp [hidx]) hh nx
        refine zG ?_
        first | exact ih' _ | (simp only [pvE, lsE, zo, h53e] at ih' ⊢; exact ih' _) | (simp only [pvE, lsE, zo, h53e, h43, h45, h46, h47, h50] at ih' ⊢; exact ih' _)
      ·rw [if_neg h47] at hh
       replace h47 := Bool.eq_false_iff.mpr h47
       refine zb fun K kk hK => ?_
       simp only [go_sem, h47, of_decide_eq_false h47, hl0a, hl0b, hl0d, hl0w]
       (repeat refine sd ?_)
       refine hK _ _ fun nx => ?_; clear hK K; try clear kk
       refine zi rfl ?_
       obtain ⟨auF, h54, hh⟩ := zf hh
       obtain ⟨h54a, h54c⟩ := zZ h54
       have h54d := qX (f := za.pv) h54c
       have h54e := qW h54c
       try simp only [List.length_cons, List.length_nil, Nat.zero_add, Nat.reduceAdd] at h54a h54e
       try simp only [h54e] at h54a
       try simp only [List.map_cons, List.map_nil, List.nil_append, List.append_nil, List.cons_append, List.singleton_append, zo, pvE] at h54d
       refine zq fun K kk hK => ?_
       simp only [go_sem, h54a, h54d, h54e, hl0a, hl0b, hl0d, hl0w]
       (repeat refine sd ?_)
       refine hK _ _ fun nx => ?_; clear hK K; try clear kk
       refine nmx ?_
       refine zq fun K kk hK => ?_
       simp only [go_sem, hl0a, hl0b, hl0d, hl0w]
       refine hK _ _ fun nx => ?_; clear hK K; try clear kk
       refine nmx ?_
       have ih' := ih (pre ++ [VX]) (Zv + 1) _ (by rw [hsplit]; simp) (by simp [hidx]) hh nx
       refine zG ?_
       first | exact ih' _ | (simp only [pvE, lsE, zo, h54e] at ih' ⊢; exact ih' _) | (simp only [pvE, lsE, zo, h54e, h43, h45, h46, h47] at ih' ⊢; exact ih' _)
    ·rw [if_neg h45] at hh
     replace h45 := Bool.eq_false_iff.mpr h45
     refine zb fun K kk hK => ?_
     simp only [go_sem, h45, hl0a, hl0b, hl0d, hl0w]
     (repeat refine sd ?_)
     refine zg (kV _ _ h44) (by (try simp only [go_sem, h45, hl0a, hl0b, hl0d, hl0w]) <;> exact wkl) (by rfl) (by rfl) ?_
     simp only [go_sem, h45, hl0a, hl0b, hl0d, hl0w]
     (repeat refine sd ?_)
     refine hK _ _ fun nx => ?_; clear hK K; try clear kk
     refine zi rfl ?_
     by_cases h55 : (decide ((w64 ((jv.length : Int) - (1 : Int))) ≥ (0 : Int))) = true
     ·rw [if_pos h55] at hh
      obtain ⟨ava, h56, hh⟩ := zf hh
      obtain ⟨h56a, h56b, h56c⟩ := rd_some h56
      have h56d := wR (f := za.pv) h56c
      have h56f := qM (f := za.pv) h56c
      try simp only [Int.toNat_natCast, Int.reduceToNat] at h56d h56f
      obtain ⟨agX, h57, hh⟩ := zf hh
      refine zb fun K kk hK => ?_
      simp only [go_sem, h55, of_decide_eq_true h55, h56a, h56b, h56d, h56f.1, h56f.2, hl0a, hl0b, hl0d, hl0w]
      (repeat refine sd ?_)
      refine zg (J8 _ _ _ h57) (by (try simp only [go_sem, h55, of_decide_eq_true h55, h56a, h56b, h56d, h56f.1, h56f.2, hl0a, hl0b, hl0d, hl0w]) <;> exact wkl) (by rfl) (by rfl) ?_
      simp only [go_sem, h55, of_decide_eq_true h55, h56a, h56b, h56d, h56f.1, h56f.2, hl0a, hl0b, hl0d, hl0w]
      (repeat refine sd ?_)
      refine hK _ _ fun nx => ?_; clear hK K; try clear kk
      by_cases h58 : (agX) = true
      ·rw [if_pos h58] at hh
       refine zn (by first | exact congrArg PV.bool h58 | rfl) ?_
       obtain ⟨h59, hh⟩ := qo hh
       refine zb fun K kk hK => ?_
       simp only [go_sem, h56a, h56b, h56d, h56f.1, h56f.2, h59, hl0a, hl0b, hl0d, hl0w]
       (repeat refine sd ?_)
       refine hK _ _ fun nx => ?_; clear hK K; try clear kk
       obtain ⟨ayi, h60, hh⟩ := zf hh
       obtain ⟨h60a, h60c⟩ := XV h60
       have h60d := acr (f := za.pv) h60c
       try simp only [Int.toNat_natCast, Int.reduceToNat, List.map_cons, List.map_nil, List.cons_append, List.nil_append, List.singleton_append, pvE] at h60d
       have h60e := aco h60c
       have h56b_h60 := h56b; rw [h60e] at h56b_h60
       have h56f1_h60 := h56f.1; rw [h60e] at h56f1_h60
       have h56a_h60 := h56a; try rw [h60e] at h56a_h60
       have h56d_h60 := h56d; try rw [h60e] at h56d_h60
       try rw [h60e] at h60d
       have h60bw := h60a.2; rw [h60e] at h60bw
       refine zq fun K kk hK => ?_
       simp only [go_sem, h56a, h56b, h56d, h56f.1, h56f.2, h60a.1, h60a.2, h60d, h60e, h56b_h60, h56f1_h60, h56a_h60, h56d_h60, h60bw, hl0a, hl0b, hl0d, hl0w]
       (repeat refine sd ?_)
       try simp only [go_sem, h56a, h56b, h56d, h56f.1, h56f.2, h60a.1, h60a.2, h60d, h60e, h56b_h60, h56f1_h60, h56a_h60, h56d_h60, h60bw, hl0a, hl0b, hl0d, hl0w]
       refine hK _ _ fun nx => ?_; clear hK K; try clear kk
       refine nmx ?_
       refine zq fun K kk hK => ?_
       simp only [go_sem, hl0a, hl0b, hl0d, hl0w]
       refine hK _ _ fun nx => ?_; clear hK K; try clear kk
       refine nmx ?_
       have ih' := ih (pre ++ [VX]) (Zv + 1) _ (by rw [hsplit]; simp) (by simp [hidx]) hh nx
       refine zG ?_
       first | exact ih' _ | (simp only [pvE, lsE, zo, h60e] at ih' ⊢; exact ih' _) | (simp only [pvE, lsE, zo, h60e, h43, h45, h55, h58] at ih' ⊢; exact ih' _)
      ·rw [if_neg h58] at hh
       replace h58 := Bool.eq_false_iff.mpr h58
       refine zi (by first | exact congrArg PV.bool h58 | rfl) ?_
       obtain ⟨ax3, h61, hh⟩ := zf hh
       obtain ⟨h61a, h61c⟩ := zZ h61
       have h61d := qX (f := za.pv) h61c
       have h61e := qW h61c
       try simp only [List.length_cons, List.length_nil, Nat.zero_add, Nat.reduceAdd] at h61a h61e
       try simp only [h61e] at h61a
       try simp only [List.map_cons, List.map_nil, List.nil_append, List.append_nil, List.cons_append, List.singleton_append, zo, pvE] at h61d
       refine zq fun K kk hK => ?_
       simp only [go_sem, h61a, h61d, h61e, hl0a, hl0b, hl0d, hl0w]
       (repeat refine sd ?_)
       refine hK _ _ fun nx => ?_; clear hK K; try clear kk
       refine nmx ?_
       refine zq fun K kk hK => ?_
       simp only [go_sem, hl0a, hl0b, hl0d, hl0w]
       refine hK _ _ fun nx => ?_; clear hK K; try clear kk
       refine nmx ?_
       have ih' := ih (pre ++ [VX]) (Zv + 1) _ (by rw [hsplit]; simp) (by simp [hidx]) hh nx
       refine zG ?_
       first | exact ih' _ | (simp only [pvE, lsE, zo, h61e] at ih' ⊢; exact ih' _) | (simp only [pvE, lsE, zo, h61e, h43, h45, h55, h58] at ih' ⊢; exact ih' _)
     ·rw [if_neg h55] at hh
      replace h55 := Bool.eq_false_iff.mpr h55
      refine zb fun K kk hK => ?_
      simp only [go_sem, h55, of_decide_eq_false h55, hl0a, hl0b, hl0d, hl0w]
      (repeat refine sd ?_)
      refine hK _ _ fun nx => ?_; clear hK K; try clear kk
      refine zi rfl ?_
      obtain ⟨axH, h62, hh⟩ := zf hh
      obtain ⟨h62a, h62c⟩ := zZ h62
      have h62d := qX (f := za.pv) h62c
      have h62e := qW h62c
      try simp only [List.length_cons, List.length_nil, Nat.zero_add, Nat.reduceAdd] at h62a h62e
      try simp only [h62e] at h62a
      try simp only [List.map_cons, List.map_nil, List.nil_append, List.append_nil, List.cons_append, List.singleton_append, zo, pvE] at h62d
      refine zq fun K kk hK => ?_
      simp only [go_sem, h62a, h62d, h62e, hl0a, hl0b, hl0d, hl0w]
      (repeat refine sd ?_)
      refine hK _ _ fun nx => ?_; clear hK K; try clear kk
      refine nmx ?_
      refine zq fun K kk hK => ?_
      simp only [go_sem, hl0a, hl0b, hl0d, hl0w]
      refine hK _ _ fun nx => ?_; clear hK K; try clear kk
      refine nmx ?_
      have ih' := ih (pre ++ [VX]) (Zv + 1) _ (by rw [hsplit]; simp) (by simp [hidx]) hh nx
      refine zG ?_
      first | exact ih' _ | (simp only [pvE, lsE, zo, h62e] at ih' ⊢; exact ih' _) | (simp only [pvE, lsE, zo, h62e, h43, h45, h55] at ih' ⊢; exact ih' _)
  exact key l_1 [] _ _ rfl rfl f0 _ _
 ·rintro s ⟨t, hless, aeV, rfl, axC, atC, nx, g3, rfl⟩
  try dsimp only at hh
  refine nmy ?_
  first | (refine wB hless ?_; try refine kC ?_) | refine qK hless ?_ | refine qI hless ?_
  refine zb fun K kk hK => ?_
  simp only [go_sem]
  refine hK _ _ fun nx => ?_; clear hK K; try clear kk
  refine zk ?_; refine nmx ?_
  obtain hR := Option.some.inj hh
  subst hR
  exact XY (by rfl) (by rfl) (by rfl) (by simp only [List.length_map, List.length_cons, List.length_nil, Nat.zero_add, Nat.reduceAdd]) (by first | rfl | (simp only [pvE, lsE, zo]; done) | (simp only [pvE, lsE, zo]; rfl))
 ·intro i s h; exact h.elim
 ·intro s h; exact h.elim
theorem Xd : ∀ kr : Nat, (∀ (l_1 : (List za)) (zQ : Int) (vX : Int) (zD : Int) (jX : Int) (kN : (List za)) (jd : Str) (kP : Str) (l_9 : (List zx)) (R : ((List za) × Int × Int × Int × (List za) × Str × Str × (List zx))), qU kr l_1 zQ vX zD jX kN jd kP l_9 = some R → BC Tryd.prog 79 [.box 1000 0 0, .list 5 (l_1.map za.pv), .int .i64 zQ] [.var 136 [.int .u8 vX, .int .i64 zD, .int .i64 jX, .list 5 (kN.map za.pv), .str jd, .str kP, .row 1001 0 l_9.length], .row false 3 (l_9.map zx.pv)] (.list 5 (R.1.map za.pv)) [.var 136 [.int .u8 R.2.1, .int .i64 R.2.2.1, .int .i64 R.2.2.2.1, .list 5 (R.2.2.2.2.1.map za.pv), .str R.2.2.2.2.2.1, .str R.2.2.2.2.2.2.1, .row 1001 0 R.2.2.2.2.2.2.2.length], .moved 3 (R.2.2.2.2.2.2.2.map zx.pv)]) := by
 intro kr
 induction kr with
 | zero => exact (by intro l_1 zQ vX zD jX kN jd kP l_9 R hh; rw [qU] at hh; cases hh)
 | succ kr ih =>
  have ih_step_painter_kids_x := ih
  clear ih
  intro l_1 zQ vX zD jX kN jd kP l_9 R hh
  rw [qU] at hh
  refine Ji rfl rfl rfl ?_
  refine zb fun K kk hK => ?_
  simp only [go_sem]
  refine hK _ _ fun nx => ?_; clear hK K; try clear kk
  refine zb fun K kk hK => ?_
  simp only [go_sem]
  refine hK _ _ fun nx => ?_; clear hK K; try clear kk
  refine zm ?_
  refine zb fun K kk hK => ?_
  simp only [go_sem]
  refine hK _ _ fun nx => ?_; clear hK K; try clear kk
  obtain ⟨e0, f0, hh⟩ := zf hh
  obtain ⟨hlen0, f0⟩ := qo f0
  refine qD (kE (fun s => ∃ aez, ∃ asq, ∃ atx, ∃ atI, ∃ asI, ∃ atS, ∃ auk, ∃ ar6, (aez, asq, atx, atI, asI, atS, auk, ar6) = e0 ∧ ∃ (awk : Int) (axn : Int) (at6 : Bool) (nx : Nat) (g7 : Nat) (g1001 : Nat), s = ⟨[(0, .box 1000 0 0), (2, .int .i64 awk), (7, .row 7 g7 aez.length), (11, .list 5 (l_1.map za.pv)), (12, .int .i64 (l_1.length : Int)), (13, .int .i64 axn), (14, .bool at6)], [(7, g7, .row false 5 (aez.map za.pv)), (1000, 0, .var 136 [.int .u8 asq, .int .i64 atx, .int .i64 atI, .list 5 (asI.map za.pv), .str atS, .str auk, .row 1001 g1001 ar6.length]), (1001, g1001, .row false 3 (ar6.map zx.pv))], nx⟩))
   (fun i s => False)
   (fun s => False) ?_ ?_ ?_ ?_
  ·refine zC ?_
   refine qg fun I hI => ?_
   have key : ∀ (suf pre : List za) (ag6 : Int) (abE : Int) (JR : (List za)) (alB : Int) (alV : Int) (alI : Int) (alN : (List za)) (akW : Str) (al8 : Str) (YC : (List zx)), l_1 = pre ++ suf → ag6 = (pre.length : Int) → qp (qU kr) suf ag6 abE JR alB alV alI alN akW al8 YC = some e0 → ∀ (nx : Nat) (g7 : Nat) (g1001 : Nat), I ⟨[(0, .box 1000 0 0), (2, .int .i64 abE), (7, .row 7 g7 JR.length), (11, .list 5 (l_1.map za.pv)), (12, .int .i64 (l_1.length : Int)), (13, .int .i64 ag6)], [(7, g7, .row false 5 (JR.map za.pv)), (1000, 0, .var 136 [.int .u8 alB, .int .i64 alV, .int .i64 alI, .list 5 (alN.map za.pv), .str akW, .str al8, .row 1001 g1001 YC.length]), (1001, g1001, .row false 3 (YC.map zx.pv))], nx⟩ := by
    intro suf
    induction suf with
    | nil =>
     intro pre ag6 abE JR alB alV alI alN akW al8 YC hsplit hidx hh nx g7 g1001
     rw [qp] at hh
     refine hI _ ?_
     have h17 := walk_nil hsplit hidx
     refine zb fun K kk hK => ?_
     simp only [go_sem]
     refine hK _ _ fun nx => ?_; clear hK K; try clear kk
     refine zm ?_
     refine zi (by first | exact congrArg PV.bool h17 | rfl) ?_
     refine zU ?_; refine nmx ?_
     refine wJ ?_
     refine zG ?_
     refine ⟨_, _, _, _, _, _, _, _, (Option.some.inj hh), ?_⟩
     first | exact ⟨_, _, _, _, _, _, rfl⟩ | (simp only [pvE, lsE, zo]; exact ⟨_, _, _, _, _, _, rfl⟩) | (simp only [pvE, lsE, zo, h17]; exact ⟨_, _, _, _, _, _, rfl⟩)
    | cons ak0 suf ih =>
     intro pre ag6 abE JR alB alV alI alN akW al8 YC hsplit hidx hh nx g7 g1001
     rw [qp] at hh
     refine hI _ ?_
     obtain ⟨hl0a, hl0b, hl0d, hl0w, h17⟩ := qZ (f := za.pv) hsplit hidx hlen0
     refine zb fun K kk hK => ?_
     simp only [go_sem]
     refine hK _ _ fun nx => ?_; clear hK K; try clear kk
     refine zm ?_
     refine zn (by first | exact congrArg PV.bool h17 | rfl) ?_
     refine zy ?_; refine nmx ?_
     refine zm ?_
     refine zC ?_
     refine zb fun K kk hK => ?_
     simp only [go_sem, hl0a, hl0b, hl0d, hl0w]
     refine hK _ _ fun nx => ?_; clear hK K; try clear kk
     obtain ⟨alL, h18, hh⟩ := zf hh
     refine zb fun K kk hK => ?_
     simp only [go_sem, hl0a, hl0b, hl0d, hl0w]
     refine zg (Wn _ _ h18) (by (try simp only [go_sem, hl0a, hl0b, hl0d, hl0w]) <;> exact wkl) (by rfl) (by rfl) ?_
     simp only [go_sem, hl0a, hl0b, hl0d, hl0w]
     refine hK _ _ fun nx => ?_; clear hK K; try clear kk
     refine zm ?_
     refine zb fun K kk hK => ?_
     simp only [go_sem, hl0a, hl0b, hl0d, hl0w]
     refine hK _ _ fun nx => ?_; clear hK K; try clear kk
     by_cases h19 : (ak0.Kind == ([116, 101, 120, 116] : Str)) = true
     ·rw [if_pos h19] at hh
      refine zn (by first | exact congrArg PV.bool h19 | rfl) ?_
      obtain ⟨⟨axM, aqd, apR, awm, aod, ap6, anB, aoL⟩, h20, hh⟩ := zf hh
      dsimp only at hh
      obtain ⟨ax1, h21, hh⟩ := zf hh
      obtain ⟨h21a, h21c⟩ := zZ h21
      have h21d := qX (f := za.pv) h21c
      have h21e := qW h21c
      try simp only [List.length_cons, List.length_nil, Nat.zero_add, Nat.reduceAdd] at h21a h21e
      try simp only [h21e] at h21a
      try simp only [List.map_cons, List.map_nil, List.nil_append, List.append_nil, List.cons_append, List.singleton_append, zo, pvE] at h21d
      refine zq fun K kk hK => ?_
      simp only [go_sem, h21a, h21d, h21e, hl0a, hl0b, hl0d, hl0w]
      (repeat refine sd ?_)
      refine Qa [1000, 1001] (by decide) (XR _ _ _ _ _ _ _ _ _ _ h20) (by (try simp only [go_sem, h21a, h21d, h21e, hl0a, hl0b, hl0d, hl0w, h17, h19]) <;> exact wkb) (by rfl) ?_
      simp only [go_sem, h21a, h21d, h21e, hl0a, hl0b, hl0d, hl0w]
      (repeat refine sd ?_)
      refine hK _ _ fun nx => ?_; clear hK K; try clear kk
      refine nmx ?_
      refine zq fun K kk hK => ?_
      simp only [go_sem, hl0a, hl0b, hl0d, hl0w]
      refine hK _ _ fun nx => ?_; clear hK K; try clear kk
      refine nmx ?_
      refine zq fun K kk hK => ?_
      simp only [go_sem, hl0a, hl0b, hl0d, hl0w]
      refine hK _ _ fun nx => ?_; clear hK K; try clear kk
      refine nmx ?_
      have ih' := ih (pre ++ [ak0]) (ag6 + 1) _ _ _ _ _ _ _ _ _ (by rw [hsplit]; simp) (by simp [hidx]) hh nx
      refine zG ?_
      first | exact ih' _ _ | (simp only [pvE, lsE, zo, h21e] at ih' ⊢; exact ih' _ _) | (simp only [pvE, lsE, zo, h21e, h17, h19] at ih' ⊢; exact ih' _ _)
     ·rw [if_neg h19] at hh
      replace h19 := Bool.eq_false_iff.mpr h19
      refine zi (by first | exact congrArg PV.bool h19 | rfl) ?_
      obtain ⟨⟨axT, apO, aqB, awg, am9, aqp, anl, axV⟩, h22, hh⟩ := zf hh
      dsimp only at hh
      refine zb fun K kk hK => ?_
      simp only [go_sem, hl0a, hl0b, hl0d, hl0w]
      refine Qa [1000, 1001] (by decide) (ih_step_painter_kids_x _ _ _ _ _ _ _ _ _ _ h22) (by (try simp only [go_sem, hl0a, hl0b, hl0d, hl0w, h17, h19]) <;> exact wkb) (by rfl) ?_
      simp only [go_sem, hl0a, hl0b, hl0d, hl0w]
      refine hK _ _ fun nx => ?_; clear hK K; try clear kk
      obtain ⟨aps, h23, hh⟩ := zf hh
      obtain ⟨h23a, h23c⟩ := zZ h23
      have h23d := qX (f := za.pv) h23c
      have h23e := qW h23c
      try simp only [List.length_cons, List.length_nil, Nat.zero_add, Nat.reduceAdd] at h23a h23e
      try simp only [h23e] at h23a
      try simp only [List.map_cons, List.map_nil, List.nil_append, List.append_nil, List.cons_append, List.singleton_append, zo, pvE] at h23d
      refine zq fun K kk hK => ?_
      simp only [go_sem, h23a, h23d, h23e, hl0a, hl0b, hl0d, hl0w]
      (repeat refine sd ?_)
      refine hK _ _ fun nx => ?_; clear hK K; try clear kk
      refine nmx ?_
      refine zq fun K kk hK => ?_
      simp only [go_sem, hl0a, hl0b, hl0d, hl0w]
      refine hK _ _ fun nx => ?_; clear hK K; try clear kk
      refine nmx ?_
      refine zq fun K kk hK => ?_
      simp only [go_sem, hl0a, hl0b, hl0d, hl0w]
      refine hK _ _ fun nx => ?_; clear hK K; try clear kk
      refine nmx ?_
      have ih' := ih (pre ++ [ak0]) (ag6 + 1) _ _ _ _ _ _ _ _ _ (by rw [hsplit]; simp) (by simp [hidx]) hh nx
      refine zG ?_
      first | exact ih' _ _ | (simp only [pvE, lsE, zo, h23e] at ih' ⊢; exact ih' _ _) | (simp only [pvE, lsE, zo, h23e, h17, h19] at ih' ⊢; exact ih' _ _)
   exact key l_1 [] _ _ _ _ _ _ _ _ _ _ rfl rfl f0 _ _ _
  ·rintro s ⟨t, hless, aez, asq, atx, atI, asI, atS, auk, ar6, rfl, awk, axn, at6, nx, g7, g1001, rfl⟩
   try dsimp only at hh
   refine nmy ?_
   first | (refine wB hless ?_; try refine kC ?_) | refine qK hless ?_ | refine qI hless ?_
   obtain ⟨apN, h24, hh⟩ := zf hh
   refine zb fun K kk hK => ?_
   simp only [go_sem]
   refine zg (XN _ _ h24).list (by (try simp only [go_sem]) <;> exact wkl) (by rfl) (by rfl) ?_
   simp only [go_sem]
   refine hK _ _ fun nx => ?_; clear hK K; try clear kk
   refine zk ?_; refine nmx ?_
   obtain hR := Option.some.inj hh
   subst hR
   refine jf ?_ (by rfl) ?_
   ·simp only [go_sem, wT, xy, vg, jk, Qc, List.map_cons, List.map_append, List.head?_cons]
    all_goals exact wkw
   ·(try simp only [go_sem]); (try simp only [List.length_append, List.map_append]); all_goals exact wkb
  ·intro i s h; exact h.elim
  ·intro s h; exact h.elim
theorem XG (l_1 : (List za)) (zQ : Int) (vX : Int) (zD : Int) (jX : Int) (kN : (List za)) (jd : Str) (kP : Str) (l_9 : (List zx)) (R : ((List za) × Int × Int × Int × (List za) × Str × Str × (List zx))) (hh : jD l_1 zQ vX zD jX kN jd kP l_9 = some R) : BC Tryd.prog 79 [.box 1000 0 0, .list 5 (l_1.map za.pv), .int .i64 zQ] [.var 136 [.int .u8 vX, .int .i64 zD, .int .i64 jX, .list 5 (kN.map za.pv), .str jd, .str kP, .row 1001 0 l_9.length], .row false 3 (l_9.map zx.pv)] (.list 5 (R.1.map za.pv)) [.var 136 [.int .u8 R.2.1, .int .i64 R.2.2.1, .int .i64 R.2.2.2.1, .list 5 (R.2.2.2.2.1.map za.pv), .str R.2.2.2.2.2.1, .str R.2.2.2.2.2.2.1, .row 1001 0 R.2.2.2.2.2.2.2.length], .moved 3 (R.2.2.2.2.2.2.2.map zx.pv)] := by
 rw [jD] at hh
 obtain ⟨kr, hh⟩ := jA hh
 exact (Xd kr) _ _ _ _ _ _ _ _ _ _ hh
theorem ai3 (n_1 : za) (s_2 : zt) (R : (za × (List zx) × Int)) (hh : Qb n_1 s_2 = some R) : PC Tryd.prog 47 [.agg [.str n_1.Kind, .str n_1.Text, .list 1 (n_1.Marks.map PV.str), .list 2 (n_1.zh.map ze.pv), .list 5 (n_1.Kids.map za.pv)], .agg [.int .u8 s_2.Kind, .int .i64 s_2.From, .int .i64 s_2.To, .list 5 (s_2.wO.map za.pv), .str s_2.Name, .str s_2.Value]] (.tup [.agg [.str R.1.Kind, .str R.1.Text, .list 1 (R.1.Marks.map PV.str), .list 2 (R.1.zh.map ze.pv), .list 5 (R.1.Kids.map za.pv)], .list 3 (R.2.1.map zx.pv), .int .i64 R.2.2]) := by
 rw [Qb] at hh
 refine aey rfl ?_
 refine zb fun K kk hK => ?_
 simp only [go_sem]
 refine hK _ _ fun nx => ?_; clear hK K; try clear kk
 refine zm ?_
 obtain ⟨QJ, h1, hh⟩ := zf hh
 refine zb fun K kk hK => ?_
 simp only [go_sem]
 refine zg (jM _ _ h1) (by (try simp only [go_sem]) <;> exact wkl) (by rfl) (by rfl) ?_
 simp only [go_sem]
 refine hK _ _ fun nx => ?_; clear hK K; try clear kk
 by_cases h2 : (decide (s_2.To > QJ)) = true
 ·rw [if_pos h2] at hh
  refine zn (by first | exact congrArg PV.bool h2 | rfl) ?_
  refine zb fun K kk hK => ?_
  simp only [go_sem]
  refine hK _ _ fun nx => ?_; clear hK K; try clear kk
  refine zk ?_; refine nmx ?_
  obtain hR := Option.some.inj hh
  subst hR
  exact zz
 ·rw [if_neg h2] at hh
  replace h2 := Bool.eq_false_iff.mpr h2
  refine zi (by first | exact congrArg PV.bool h2 | rfl) ?_
  refine zy ?_; refine nmx ?_
  refine zb fun K kk hK => ?_
  simp only [go_sem]
  refine hK _ _ fun nx => ?_; clear hK K; try clear kk
  obtain ⟨⟨r_4, aww, aw1, ayK, av3, aw0, ato, ata⟩, h3, hh⟩ := zf hh
  dsimp only at hh
  refine zb fun K kk hK => ?_
  simp only [go_sem]
  refine Qa [17, 425] (by decide) (XG _ _ _ _ _ _ _ _ _ _ h3) (by (try simp only [go_sem, h2]) <;> exact wkb) (by rfl) ?_
  simp only [go_sem]
  refine hK _ _ fun nx => ?_; clear hK K; try clear kk
  refine zb fun K kk hK => ?_
  simp only [go_sem]
  refine hK _ _ fun nx => ?_; clear hK K; try clear kk
  refine zk ?_; refine nmx ?_
  obtain hR := Option.some.inj hh
  subst hR
  exact zz
end Go.Proofs.YtclohbgnaopjfaaDoor
