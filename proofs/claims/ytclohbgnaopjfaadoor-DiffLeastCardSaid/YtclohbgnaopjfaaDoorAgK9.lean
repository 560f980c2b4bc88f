/- Texts of the proof of diffLeastCard -/
import Derived.Test.YtclohbgnaopjfaaDoorAgC
import Derived.Test.YtclohbgnaopjfaaDoorAgF
import Derived.Test.YtclohbgnaopjfaaDoorAgK0
import Derived.Test.YtclohbgnaopjfaaDoorAgK1
import Derived.Test.YtclohbgnaopjfaaDoorAgK2
import Derived.Test.YtclohbgnaopjfaaDoorAgK3
import Derived.Test.YtclohbgnaopjfaaDoorAgK5
import Derived.Test.YtclohbgnaopjfaaDoorAgK6
import Derived.Test.YtclohbgnaopjfaaDoorAgK7
import Derived.Test.YtclohbgnaopjfaaDoorAgK8
import Derived.Test.YtclohbgnaopjfaaDoorAgL
import Derived.Test.YtclohbgnaopjfaaDoorAgSl
namespace Go.Proofs.YtclohbgnaopjfaaDoor
set_option linter.unusedSimpArgs false
set_option linter.unusedVariables false
open Go
set_option maxRecDepth 100000
theorem Ya (l_1 : (List za)) (zO : Int) (R : ((List za) × (List za) × Int)) (hh : xL l_1 zO = some R) : PC Tryd.prog 73 [.list 5 (l_1.map za.pv), .int .i64 zO] (.tup [.list 5 (R.1.map za.pv), .list 5 (R.2.1.map za.pv), .int .i64 R.2.2]) := by
 rw [xL] at hh
 refine ab0 rfl ?_
 refine zb fun K kk hK => ?_
 simp only [go_sem]
 refine hK _ _ fun nx => ?_; clear hK K; try clear kk
 refine zn ?_
 by_cases h1 : (decide (zO < (0 : Int))) = true
 ·rw [if_pos h1] at hh
  refine zb fun K kk hK => ?_
  simp only [go_sem, h1, of_decide_eq_true h1]
  (repeat refine sd ?_)
  refine hK _ _ fun nx => ?_; clear hK K; try clear kk
  refine zm rfl ?_
  refine zb fun K kk hK => ?_
  simp only [go_sem]
  refine hK _ _ fun nx => ?_; clear hK K; try clear kk
  refine zk ?_; refine nmx ?_
  obtain hR := Option.some.inj hh
  subst hR
  exact zy
 ·rw [if_neg h1] at hh
  replace h1 := Bool.eq_false_iff.mpr h1
  obtain ⟨QA, h2, hh⟩ := zf hh
  refine zb fun K kk hK => ?_
  simp only [go_sem, h1, of_decide_eq_false h1]
  (repeat refine sd ?_)
  refine zg (jA _ _ h2) (by (try simp only [go_sem, h1, of_decide_eq_false h1]) <;> exact wkl) (by rfl) (by rfl) ?_
  simp only [go_sem, h1, of_decide_eq_false h1]
  (repeat refine sd ?_)
  refine hK _ _ fun nx => ?_; clear hK K; try clear kk
  by_cases h3 : (decide (zO > QA)) = true
  ·rw [if_pos h3] at hh
   refine zm (by first | exact congrArg PV.bool h3 | rfl) ?_
   refine zb fun K kk hK => ?_
   simp only [go_sem]
   refine hK _ _ fun nx => ?_; clear hK K; try clear kk
   refine zk ?_; refine nmx ?_
   obtain hR := Option.some.inj hh
   subst hR
   exact zy
  ·rw [if_neg h3] at hh
   replace h3 := Bool.eq_false_iff.mpr h3
   refine zi (by first | exact congrArg PV.bool h3 | rfl) ?_
   refine zt ?_; refine nmx ?_
   refine zb fun K kk hK => ?_
   simp only [go_sem]
   refine hK _ _ fun nx => ?_; clear hK K; try clear kk
   refine zn ?_
   obtain ⟨e0, f0, hh⟩ := zf hh
   obtain ⟨hlen0, f0⟩ := qf f0
   refine Qv (fun s => ∃ ae8, ∃ ank, (ae8, ank) = e0 ∧ ∃ (al4 : Bool) (nx : Nat), s = ⟨[(0, .list 5 (l_1.map za.pv)), (1, .int .i64 ae8), (7, .int .i64 ank), (32, .bool al4)], [], nx⟩)
    (fun i s => False)
    (fun s => False) ?_ ?_ ?_ ?_
   ·refine zA ?_
    refine qb fun I hI => ?_
    have key : ∀ (suf pre : List za) (i_8 : Int) (ahJ : Int), l_1 = pre ++ suf → i_8 = (pre.length : Int) → vS suf i_8 ahJ = some e0 → ∀ (nx : Nat), I ⟨[(0, .list 5 (l_1.map za.pv)), (1, .int .i64 ahJ), (7, .int .i64 i_8)], [], nx⟩ := by
     intro suf
     induction suf with
     | nil =>
      intro pre i_8 ahJ hsplit hidx hh nx
      rw [vS] at hh
      refine hI _ ?_
      have h14 := walk_nil hsplit hidx
      refine zn ?_
      refine zb fun K kk hK => ?_
      simp only [go_sem, h14, of_decide_eq_false h14]
      (repeat refine sd ?_)
      refine hK _ _ fun nx => ?_; clear hK K; try clear kk
      refine zi rfl ?_
      refine zU ?_; refine nmx ?_
      refine wU ?_
      refine zG ?_
      refine ⟨_, _, (Option.some.inj hh), ?_⟩
      first | exact ⟨_, _, rfl⟩ | (simp only [pvE, lsE, zo]; exact ⟨_, _, rfl⟩) | (simp only [pvE, lsE, zo, h1, h14, h3]; exact ⟨_, _, rfl⟩)
     | cons aty suf ih =>
      intro pre i_8 ahJ hsplit hidx hh nx
      rw [vS] at hh
      refine hI _ ?_
      obtain ⟨hl0a, hl0b, hl0d, hl0w, h14⟩ := qX (f := za.pv) hsplit hidx hlen0
      refine zn ?_
      obtain ⟨akw, h15, hh⟩ := zf hh
      refine zb fun K kk hK => ?_
      simp only [go_sem, h14, of_decide_eq_true h14, hl0a, hl0b, hl0d, hl0w]
      (repeat refine sd ?_)
      refine zg (QD _ _ h15) (by (try simp only [go_sem, h14, of_decide_eq_true h14, hl0a, hl0b, hl0d, hl0w]) <;> exact wkl) (by rfl) (by rfl) ?_
      simp only [go_sem, h14, of_decide_eq_true h14, hl0a, hl0b, hl0d, hl0w]
      (repeat refine sd ?_)
      refine hK _ _ fun nx => ?_; clear hK K; try clear kk
      by_cases h16 : (decide (ahJ ≥ akw)) = true
      ·rw [if_pos h16] at hh
       refine zm (by first | exact congrArg PV.bool h16 | rfl) ?_
       refine zt ?_; refine nmx ?_
       refine zn ?_
       refine zA ?_
       obtain ⟨aoj, h17, hh⟩ := zf hh
       refine zq fun K kk hK => ?_
       simp only [go_sem, hl0a, hl0b, hl0d, hl0w]
       refine zg (QD _ _ h17) (by (try simp only [go_sem, hl0a, hl0b, hl0d, hl0w]) <;> exact wkl) (by rfl) (by rfl) ?_
       simp only [go_sem, hl0a, hl0b, hl0d, hl0w]
       refine hK _ _ fun nx => ?_; clear hK K; try clear kk
       refine nmx ?_
       refine zq fun K kk hK => ?_
       simp only [go_sem, hl0a, hl0b, hl0d, hl0w]
       refine hK _ _ fun nx => ?_; clear hK K; try clear kk
       refine nmx ?_
       have ih' := ih (pre ++ [aty]) (i_8 + 1) _ (by rw [hsplit]; simp) (by simp [hidx]) hh nx
       refine zG ?_
       first | exact ih' | (simp only [pvE, lsE, zo] at ih' ⊢; exact ih') | (simp only [pvE, lsE, zo, h1, h14, h16, h3] at ih' ⊢; exact ih')
      ·rw [if_neg h16] at hh
       replace h16 := Bool.eq_false_iff.mpr h16
       refine zi (by first | exact congrArg PV.bool h16 | rfl) ?_
       refine zU ?_; refine nmx ?_
       refine wU ?_
       refine zG ?_
       refine ⟨_, _, (Option.some.inj hh), ?_⟩
       first | exact ⟨_, _, rfl⟩ | (simp only [pvE, lsE, zo]; exact ⟨_, _, rfl⟩) | (simp only [pvE, lsE, zo, h1, h14, h16, h3]; exact ⟨_, _, rfl⟩)
    exact key l_1 [] _ _ rfl rfl f0 _
   ·rintro s ⟨ae8, ank, rfl, al4, nx, rfl⟩
    try dsimp only at hh
    obtain ⟨avQ, h18, hh⟩ := zf hh
    obtain ⟨h18a, h18c⟩ := yn h18
    have h18g := VW h18a
    have h18d := V3 (f := za.pv) h18c
    try simp only [Int.toNat_natCast, Int.reduceToNat, List.map_cons, List.map_nil, pvE] at h18d
    obtain ⟨akB, h19, hh⟩ := zf hh
    obtain ⟨awm, h20, hh⟩ := zf hh
    obtain ⟨h20a, h20c⟩ := yn h20
    have h20g := VW h20a
    have h20d := ajR (f := za.pv) h20c
    try simp only [Int.toNat_natCast, Int.reduceToNat, List.map_cons, List.map_nil, pvE] at h20d
    obtain ⟨afP, h21, hh⟩ := zf hh
    refine zb fun K kk hK => ?_
    simp only [go_sem, h18a.1, h18a.2.1, h18a.2.2, h18d, h18g, h20a.1, h20a.2.1, h20a.2.2, h20d, h20g]
    (repeat refine sd ?_)
    refine Xt [] (by decide) (by decide) (vJ _ _ h19) (by (try simp only [go_sem, h18a.1, h18a.2.1, h18a.2.2, h18d, h18g, h20a.1, h20a.2.1, h20a.2.2, h20d, h20g, h1, h3]) <;> exact wkb) (by rfl) (by rfl) ?_
    simp only [go_sem, h18a.1, h18a.2.1, h18a.2.2, h18d, h18g, h20a.1, h20a.2.1, h20a.2.2, h20d, h20g]
    (repeat refine sd ?_)
    refine Xt [] (by decide) (by decide) (vJ _ _ h21) (by (try simp only [go_sem, h18a.1, h18a.2.1, h18a.2.2, h18d, h18g, h20a.1, h20a.2.1, h20a.2.2, h20d, h20g, h1, h3]) <;> exact wkb) (by rfl) (by rfl) ?_
    simp only [go_sem, h18a.1, h18a.2.1, h18a.2.2, h18d, h18g, h20a.1, h20a.2.1, h20a.2.2, h20d, h20g]
    (repeat refine sd ?_)
    refine hK _ _ fun nx => ?_; clear hK K; try clear kk
    refine zn ?_
    refine zA ?_
    refine zb fun K kk hK => ?_
    simp only [go_sem]
    refine hK _ _ fun nx => ?_; clear hK K; try clear kk
    by_cases h22 : (ae8 == (0 : Int)) = true
    ·rw [if_pos h22] at hh
     refine zm (by first | exact congrArg PV.bool h22 | rfl) ?_
     refine zb fun K kk hK => ?_
     simp only [go_sem]
     refine hK _ _ fun nx => ?_; clear hK K; try clear kk
     refine zk ?_; refine nmx ?_
     obtain hR := Option.some.inj hh
     subst hR
     exact zy
    ·rw [if_neg h22] at hh
     replace h22 := Bool.eq_false_iff.mpr h22
     refine zi (by first | exact congrArg PV.bool h22 | rfl) ?_
     obtain ⟨ane, h23, hh⟩ := zf hh
     obtain ⟨h23a, h23b, h23c⟩ := rd_some h23
     have h23d := wN (f := za.pv) h23c
     have h23f := qG (f := za.pv) h23c
     try simp only [Int.toNat_natCast, Int.reduceToNat] at h23d h23f
     refine zb fun K kk hK => ?_
     simp only [go_sem, h23a, h23b, h23d, h23f.1, h23f.2]
     (repeat refine sd ?_)
     refine hK _ _ fun nx => ?_; clear hK K; try clear kk
     by_cases h24 : (!(ane.Kind == ([116, 101, 120, 116] : Str))) = true
     ·rw [if_pos h24] at hh
      refine zm (by first | exact congrArg PV.bool h24 | rfl) ?_
      refine zb fun K kk hK => ?_
      simp only [go_sem]
      refine hK _ _ fun nx => ?_; clear hK K; try clear kk
      refine zk ?_; refine nmx ?_
      obtain hR := Option.some.inj hh
      subst hR
      exact zy
     ·rw [if_neg h24] at hh
      replace h24 := Bool.eq_false_iff.mpr h24
      refine zi (by first | exact congrArg PV.bool h24 | rfl) ?_
      refine zt ?_; refine nmx ?_
      refine zb fun K kk hK => ?_
      simp only [go_sem, h23a, h23b, h23d, h23f.1, h23f.2]
      (repeat refine sd ?_)
      refine hK _ _ fun nx => ?_; clear hK K; try clear kk
      refine zb fun K kk hK => ?_
      simp only [go_sem, h23a, h23b, h23d, h23f.1, h23f.2]
      (repeat refine sd ?_)
      refine hK _ _ fun nx => ?_; clear hK K; try clear kk
      obtain ⟨awD, h25, hh⟩ := zf hh
      obtain ⟨h25a, h25c⟩ := yn h25
      have h25g := VW h25a
      have h25d := V3 (f := (PV.int .i32)) h25c
      try simp only [Int.toNat_natCast, Int.reduceToNat, List.map_cons, List.map_nil, pvE] at h25d
      obtain ⟨aww, h26, hh⟩ := zf hh
      obtain ⟨h26a, h26c⟩ := yn h26
      have h26g := VW h26a
      have h26d := ajR (f := (PV.int .i32)) h26c
      try simp only [Int.toNat_natCast, Int.reduceToNat, List.map_cons, List.map_nil, pvE] at h26d
      obtain ⟨avV, h27, hh⟩ := zf hh
      obtain ⟨h27a, h27b, h27c⟩ := rd_some h27
      have h27d := wN (f := za.pv) h27c
      have h27f := qG (f := za.pv) h27c
      try simp only [Int.toNat_natCast, Int.reduceToNat] at h27d h27f
      obtain ⟨avU, h28, hh⟩ := zf hh
      obtain ⟨h28a, h28c⟩ := XC h28
      have h28d := abY (f := za.pv) h28c
      try simp only [Int.toNat_natCast, Int.reduceToNat, List.map_cons, List.map_nil, List.cons_append, List.nil_append, List.singleton_append, pvE] at h28d
      have h28e := abQ h28c
      have h27b_h28 := h27b; rw [h28e] at h27b_h28
      have h27f1_h28 := h27f.1; rw [h28e] at h27f1_h28
      have h27a_h28 := h27a; try rw [h28e] at h27a_h28
      have h27d_h28 := h27d; try rw [h28e] at h27d_h28
      try rw [h28e] at h28d
      have h28bw := h28a.2; rw [h28e] at h28bw
      refine zb fun K kk hK => ?_
      simp only [go_sem, h25a.1, h25a.2.1, h25a.2.2, h25d, h25g, h26a.1, h26a.2.1, h26a.2.2, h26d, h26g, h27a, h27b, h27d, h27f.1, h27f.2, h28a.1, h28a.2, h28d, h28e, h27b_h28, h27f1_h28, h27a_h28, h27d_h28, h28bw]
      (repeat refine sd ?_)
      try simp only [go_sem, h25a.1, h25a.2.1, h25a.2.2, h25d, h25g, h26a.1, h26a.2.1, h26a.2.2, h26d, h26g, h27a, h27b, h27d, h27f.1, h27f.2, h28a.1, h28a.2, h28d, h28e, h27b_h28, h27f1_h28, h27a_h28, h27d_h28, h28bw]
      refine hK _ _ fun nx => ?_; clear hK K; try clear kk
      obtain ⟨asQ, h29, hh⟩ := zf hh
      obtain ⟨h29a, h29c⟩ := zW h29
      have h29d := qM (f := za.pv) h29c
      have h29e := qL h29c
      try simp only [List.length_cons, List.length_nil, Nat.zero_add, Nat.reduceAdd] at h29a h29e
      try simp only [h29e] at h29a
      try simp only [List.map_cons, List.map_nil, List.nil_append, List.append_nil, List.cons_append, List.singleton_append, zo, pvE] at h29d
      refine zb fun K kk hK => ?_
      simp only [go_sem, h29a, h29d, h29e]
      (repeat refine sd ?_)
      refine hK _ _ fun nx => ?_; clear hK K; try clear kk
      refine zk ?_; refine nmx ?_
      obtain hR := Option.some.inj hh
      subst hR
      exact zy
   ·intro i s h; exact h.elim
   ·intro s h; exact h.elim
theorem VP (n : Int) (R : (List za)) (hh : ji n = some R) : PC Tryd.prog 105 [.kD, .int .i64 n] (.own 5 (R.map za.pv)) := by
 rw [ji] at hh
 obtain ⟨⟨h1, h2⟩, hR⟩ := qf hh
 cases hR
 exact asn Tryd.atW ⟨by kernel_rfl, by kernel_rfl⟩ ⟨_, Tryd.func105, by kernel_rfl, by kernel_rfl⟩ avM rfl n h1 (by simpa using h2)
theorem VG (kI : (List (List za))) (R : (List za)) (hh : kU kI = some R) : PC Tryd.prog 83 [.list 1 (kI.map (pvL 5 za.pv))] (.own 5 (R.map za.pv)) := by
 rw [kU] at hh
 refine Kl rfl ?_
 refine zb fun K kk hK => ?_
 simp only [go_sem]
 refine hK _ _ fun nx => ?_; clear hK K; try clear kk
 refine zb fun K kk hK => ?_
 simp only [go_sem]
 refine hK _ _ fun nx => ?_; clear hK K; try clear kk
 refine zn ?_
 refine zb fun K kk hK => ?_
 simp only [go_sem]
 refine hK _ _ fun nx => ?_; clear hK K; try clear kk
 obtain ⟨e0, f0, hh⟩ := zf hh
 obtain ⟨hlen0, f0⟩ := qf f0
 refine qH (w9 (fun s => ∃ ahz, ahz = e0 ∧ ∃ (v_8 : Int) (v_9 : Bool) (nx : Nat), s = ⟨[(0, .list 1 (kI.map (pvL 5 za.pv))), (3, .int .i64 ahz), (9, .list 1 (kI.map (pvL 5 za.pv))), (10, .int .i64 (kI.length : Int)), (11, .int .i64 v_8), (12, .bool v_9)], [], nx⟩))
  (fun i s => False)
  (fun s => False) ?_ ?_ ?_ ?_
 ·refine zA ?_
  refine qb fun I hI => ?_
  have key : ∀ (suf pre : List (List za)) (v_4 : Int) (Jo : Int), kI = pre ++ suf → v_4 = (pre.length : Int) → qj suf v_4 Jo = some e0 → ∀ (nx : Nat), I ⟨[(0, .list 1 (kI.map (pvL 5 za.pv))), (3, .int .i64 Jo), (9, .list 1 (kI.map (pvL 5 za.pv))), (10, .int .i64 (kI.length : Int)), (11, .int .i64 v_4)], [], nx⟩ := by
   intro suf
   induction suf with
   | nil =>
    intro pre v_4 Jo hsplit hidx hh nx
    rw [qj] at hh
    refine hI _ ?_
    have h7 := walk_nil hsplit hidx
    refine zb fun K kk hK => ?_
    simp only [go_sem]
    refine hK _ _ fun nx => ?_; clear hK K; try clear kk
    refine zn ?_
    refine zi (by first | exact congrArg PV.bool h7 | rfl) ?_
    refine zU ?_; refine nmx ?_
    refine wU ?_
    refine zG ?_
    refine ⟨_, (Option.some.inj hh), ?_⟩
    first | exact ⟨_, _, _, rfl⟩ | (simp only [pvE, lsE, zo]; exact ⟨_, _, _, rfl⟩) | (simp only [pvE, lsE, zo, h7]; exact ⟨_, _, _, rfl⟩)
   | cons y_6 suf ih =>
    intro pre v_4 Jo hsplit hidx hh nx
    rw [qj] at hh
    refine hI _ ?_
    obtain ⟨hl0a, hl0b, hl0d, hl0w, h7⟩ := qX (f := (pvL 5 za.pv)) hsplit hidx hlen0
    refine zb fun K kk hK => ?_
    simp only [go_sem]
    refine hK _ _ fun nx => ?_; clear hK K; try clear kk
    refine zn ?_
    refine zm (by first | exact congrArg PV.bool h7 | rfl) ?_
    refine zt ?_; refine nmx ?_
    refine zn ?_
    refine zA ?_
    refine zb fun K kk hK => ?_
    simp only [go_sem, hl0a, hl0b, hl0d, hl0w]
    refine hK _ _ fun nx => ?_; clear hK K; try clear kk
    refine zb fun K kk hK => ?_
    simp only [go_sem, hl0a, hl0b, hl0d, hl0w]
    refine hK _ _ fun nx => ?_; clear hK K; try clear kk
    refine zb fun K kk hK => ?_
    simp only [go_sem, hl0a, hl0b, hl0d, hl0w]
    refine hK _ _ fun nx => ?_; clear hK K; try clear kk
    by_cases h8 : (decide ((w64 (Jo + (y_6.length : Int))) < (0 : Int))) = true
    ·rw [if_pos h8] at hh
     refine zm (by first | exact congrArg PV.bool h8 | rfl) ?_
     cases hh
    ·rw [if_neg h8] at hh
     replace h8 := Bool.eq_false_iff.mpr h8
     refine zi (by first | exact congrArg PV.bool h8 | rfl) ?_
     refine zt ?_; refine nmx ?_
     refine zq fun K kk hK => ?_
     simp only [go_sem, hl0a, hl0b, hl0d, hl0w]
     refine hK _ _ fun nx => ?_; clear hK K; try clear kk
     refine nmx ?_
     have ih' := ih (pre ++ [y_6]) (v_4 + 1) _ (by rw [hsplit]; simp) (by simp [hidx]) hh nx
     refine zG ?_
     first | exact ih' | (simp only [pvE, lsE, zo] at ih' ⊢; exact ih') | (simp only [pvE, lsE, zo, h7, h8] at ih' ⊢; exact ih')
  exact key kI [] _ _ rfl rfl f0 _
 ·rintro s ⟨t, hless, ahz, rfl, v_8, v_9, nx, rfl⟩
  try dsimp only at hh
  refine nmy ?_
  first | (refine wG hless ?_; try refine ku ?_) | refine qP hless ?_ | refine qQ hless ?_
  obtain ⟨aoH, h9, hh⟩ := zf hh
  refine zb fun K kk hK => ?_
  simp only [go_sem]
  refine zg (VP _ _ h9) (by (try simp only [go_sem]) <;> exact wkl) (by rfl) (by rfl) ?_
  simp only [go_sem]
  refine hK _ _ fun nx => ?_; clear hK K; try clear kk
  refine zn ?_
  refine zb fun K kk hK => ?_
  simp only [go_sem]
  refine hK _ _ fun nx => ?_; clear hK K; try clear kk
  obtain ⟨e1, f1, hh⟩ := zf hh
  obtain ⟨hlen1, f1⟩ := qf f1
  refine qH (w9 (fun s => ∃ ZT, ZT = e1 ∧ ∃ (awh : Int) (VH : Bool) (nx : Nat) (g6 : Nat), s = ⟨[(6, .row 6 g6 ZT.length), (25, .list 1 (kI.map (pvL 5 za.pv))), (26, .int .i64 (kI.length : Int)), (27, .int .i64 awh), (28, .bool VH)], [(6, g6, .row false 5 (ZT.map za.pv))], nx⟩))
   (fun i s => False)
   (fun s => False) ?_ ?_ ?_ ?_
  ·refine zA ?_
   refine qb fun I hI => ?_
   have key : ∀ (suf pre : List (List za)) (Ji : Int) (jR : (List za)), kI = pre ++ suf → Ji = (pre.length : Int) → qo suf Ji jR = some e1 → ∀ (nx : Nat) (g6 : Nat), I ⟨[(6, .row 6 g6 jR.length), (25, .list 1 (kI.map (pvL 5 za.pv))), (26, .int .i64 (kI.length : Int)), (27, .int .i64 Ji)], [(6, g6, .row false 5 (jR.map za.pv))], nx⟩ := by
    intro suf
    induction suf with
    | nil =>
     intro pre Ji jR hsplit hidx hh nx g6
     rw [qo] at hh
     refine hI _ ?_
     have h16 := walk_nil hsplit hidx
     refine zb fun K kk hK => ?_
     simp only [go_sem]
     refine hK _ _ fun nx => ?_; clear hK K; try clear kk
     refine zn ?_
     refine zi (by first | exact congrArg PV.bool h16 | rfl) ?_
     refine zU ?_; refine nmx ?_
     refine wU ?_
     refine zG ?_
     refine ⟨_, (Option.some.inj hh), ?_⟩
     first | exact ⟨_, _, _, _, rfl⟩ | (simp only [pvE, lsE, zo]; exact ⟨_, _, _, _, rfl⟩) | (simp only [pvE, lsE, zo, h16]; exact ⟨_, _, _, _, rfl⟩)
    | cons avc suf ih =>
     intro pre Ji jR hsplit hidx hh nx g6
     rw [qo] at hh
     refine hI _ ?_
     obtain ⟨hl1a, hl1b, hl1d, hl1w, h16⟩ := qX (f := (pvL 5 za.pv)) hsplit hidx hlen1
     refine zb fun K kk hK => ?_
     simp only [go_sem]
     refine hK _ _ fun nx => ?_; clear hK K; try clear kk
     refine zn ?_
     refine zm (by first | exact congrArg PV.bool h16 | rfl) ?_
     refine zt ?_; refine nmx ?_
     refine zn ?_
     refine zA ?_
     refine zb fun K kk hK => ?_
     simp only [go_sem, hl1a, hl1b, hl1d, hl1w]
     refine hK _ _ fun nx => ?_; clear hK K; try clear kk
     obtain ⟨asy, h17, hh⟩ := zf hh
     obtain ⟨h17a, h17c⟩ := zW h17
     have h17d := qM (f := za.pv) h17c
     have h17e := qL h17c
     try simp only [List.length_cons, List.length_nil, Nat.zero_add, Nat.reduceAdd] at h17a h17e
     try simp only [h17e] at h17a
     try simp only [List.map_cons, List.map_nil, List.nil_append, List.append_nil, List.cons_append, List.singleton_append, zo, pvE] at h17d
     refine zq fun K kk hK => ?_
     simp only [go_sem, h17a, h17d, h17e, hl1a, hl1b, hl1d, hl1w]
     (repeat refine sd ?_)
     refine hK _ _ fun nx => ?_; clear hK K; try clear kk
     refine nmx ?_
     refine zq fun K kk hK => ?_
     simp only [go_sem, hl1a, hl1b, hl1d, hl1w]
     refine hK _ _ fun nx => ?_; clear hK K; try clear kk
     refine nmx ?_
     have ih' := ih (pre ++ [avc]) (Ji + 1) _ (by rw [hsplit]; simp) (by simp [hidx]) hh nx
     refine zG ?_
     first | exact ih' _ | (simp only [pvE, lsE, zo, h17e] at ih' ⊢; exact ih' _) | (simp only [pvE, lsE, zo, h17e, h16] at ih' ⊢; exact ih' _)
   exact key kI [] _ _ rfl rfl f1 _ _
  ·rintro s ⟨t, hless, ZT, rfl, awh, VH, nx, g6, rfl⟩
   try dsimp only at hh
   refine nmy ?_
   first | (refine wG hless ?_; try refine ku ?_) | refine qP hless ?_ | refine qQ hless ?_
   refine zb fun K kk hK => ?_
   simp only [go_sem]
   refine hK _ _ fun nx => ?_; clear hK K; try clear kk
   refine zk ?_; refine nmx ?_
   obtain hR := Option.some.inj hh
   subst hR
   exact XB (by rfl) (by rfl) (by rfl) (by simp only [List.length_map, List.length_cons, List.length_nil, Nat.zero_add, Nat.reduceAdd]) (by first | rfl | (simp only [pvE, lsE, zo]; done) | (simp only [pvE, lsE, zo]; rfl))
  ·intro i s h; exact h.elim
  ·intro s h; exact h.elim
 ·intro i s h; exact h.elim
 ·intro s h; exact h.elim
theorem akO (n_1 : za) (Wu : Int) (adQ : Int) (l_4 : (List za)) (R : (za × Int)) (hh : KZ n_1 Wu adQ l_4 = some R) : PC Tryd.prog 49 [.agg [.str n_1.Kind, .str n_1.Text, .list 1 (n_1.Marks.map PV.str), .list 2 (n_1.zh.map ze.pv), .list 5 (n_1.Kids.map za.pv)], .int .i64 Wu, .int .i64 adQ, .list 5 (l_4.map za.pv)] (.tup [.agg [.str R.1.Kind, .str R.1.Text, .list 1 (R.1.Marks.map PV.str), .list 2 (R.1.zh.map ze.pv), .list 5 (R.1.Kids.map za.pv)], .int .i64 R.2]) := by
 rw [KZ] at hh
 refine afC rfl ?_
 refine zb fun K kk hK => ?_
 simp only [go_sem]
 refine hK _ _ fun nx => ?_; clear hK K; try clear kk
 obtain ⟨⟨r_5, r_6⟩, h1, hh⟩ := zf hh
 dsimp only at hh
 refine zb fun K kk hK => ?_
 simp only [go_sem]
 refine zg (agf _ _ _ _ h1) (by (try simp only [go_sem]) <;> exact wkl) (by rfl) (by rfl) ?_
 simp only [go_sem]
 refine hK _ _ fun nx => ?_; clear hK K; try clear kk
 refine zn ?_
 by_cases h2 : (r_6 == (2 : Int)) = true
 ·rw [if_pos h2] at hh
  refine zb fun K kk hK => ?_
  simp only [go_sem, h2]
  (repeat refine sd ?_)
  refine hK _ _ fun nx => ?_; clear hK K; try clear kk
  refine zm rfl ?_
  refine zb fun K kk hK => ?_
  simp only [go_sem]
  refine hK _ _ fun nx => ?_; clear hK K; try clear kk
  refine zk ?_; refine nmx ?_
  obtain hR := Option.some.inj hh
  subst hR
  exact zy
 ·rw [if_neg h2] at hh
  replace h2 := Bool.eq_false_iff.mpr h2
  obtain ⟨ag3, h3, hh⟩ := zf hh
  obtain ⟨ajP, h4, hh⟩ := zf hh
  refine zb fun K kk hK => ?_
  simp only [go_sem, h2]
  (repeat refine sd ?_)
  refine zg (Xh _ _ h3).list (by (try simp only [go_sem, h2]) <;> exact wkl) (by rfl) (by rfl) ?_
  simp only [go_sem, h2]
  (repeat refine sd ?_)
  refine zg (WE _ _ h4) (by (try simp only [go_sem, h2]) <;> exact wkl) (by rfl) (by rfl) ?_
  simp only [go_sem, h2]
  (repeat refine sd ?_)
  refine hK _ _ fun nx => ?_; clear hK K; try clear kk
  by_cases h5 : (ajP == (2 : Int)) = true
  ·rw [if_pos h5] at hh
   refine zm (by first | exact congrArg PV.bool h5 | rfl) ?_
   refine zb fun K kk hK => ?_
   simp only [go_sem]
   refine hK _ _ fun nx => ?_; clear hK K; try clear kk
   refine zk ?_; refine nmx ?_
   obtain hR := Option.some.inj hh
   subst hR
   exact zy
  ·rw [if_neg h5] at hh
   replace h5 := Bool.eq_false_iff.mpr h5
   refine zi (by first | exact congrArg PV.bool h5 | rfl) ?_
   refine zt ?_; refine nmx ?_
   refine zn ?_
   refine zb fun K kk hK => ?_
   simp only [go_sem]
   refine hK _ _ fun nx => ?_; clear hK K; try clear kk
   by_cases h6 : (r_6 != (0 : Int)) = true
   ·rw [if_pos h6] at hh
    refine zm (by first | exact congrArg PV.bool h6 | rfl) ?_
    refine zb fun K kk hK => ?_
    simp only [go_sem]
    refine hK _ _ fun nx => ?_; clear hK K; try clear kk
    refine zk ?_; refine nmx ?_
    obtain hR := Option.some.inj hh
    subst hR
    exact zy
   ·rw [if_neg h6] at hh
    replace h6 := Bool.eq_false_iff.mpr h6
    refine zi (by first | exact congrArg PV.bool h6 | rfl) ?_
    refine zt ?_; refine nmx ?_
    obtain ⟨⟨r_9, KP, adz⟩, h7, hh⟩ := zf hh
    dsimp only at hh
    refine zb fun K kk hK => ?_
    simp only [go_sem]
    refine zg (Ya _ _ _ h7) (by (try simp only [go_sem]) <;> exact wkl) (by rfl) (by rfl) ?_
    simp only [go_sem]
    refine hK _ _ fun nx => ?_; clear hK K; try clear kk
    obtain ⟨⟨akm, afE, ab8⟩, h8, hh⟩ := zf hh
    dsimp only at hh
    refine zb fun K kk hK => ?_
    simp only [go_sem]
    refine zg (Ya _ _ _ h8) (by (try simp only [go_sem]) <;> exact wkl) (by rfl) (by rfl) ?_
    simp only [go_sem]
    refine hK _ _ fun nx => ?_; clear hK K; try clear kk
    obtain ⟨aoq, h9, hh⟩ := zf hh
    obtain ⟨ao9, h10, hh⟩ := zf hh
    refine zb fun K kk hK => ?_
    simp only [go_sem]
    refine zg (VG _ _ h9).list (by (try simp only [go_sem]) <;> exact wkl) (by rfl) (by rfl) ?_
    simp only [go_sem]
    refine zg (Xh _ _ h10).list (by (try simp only [go_sem]) <;> exact wkl) (by rfl) (by rfl) ?_
    simp only [go_sem]
    refine hK _ _ fun nx => ?_; clear hK K; try clear kk
    obtain ⟨⟨au2, aw8⟩, h11, hh⟩ := zf hh
    dsimp only at hh
    refine zb fun K kk hK => ?_
    simp only [go_sem]
    refine zg (aaK _ _ _ _ h11) (by (try simp only [go_sem]) <;> exact wkl) (by rfl) (by rfl) ?_
    simp only [go_sem]
    refine hK _ _ fun nx => ?_; clear hK K; try clear kk
    refine zn ?_
    obtain ⟨acR, h12, hh⟩ := zf hh
    refine zb fun K kk hK => ?_
    simp only [go_sem]
    refine zg (WE _ _ h12) (by (try simp only [go_sem]) <;> exact wkl) (by rfl) (by rfl) ?_
    simp only [go_sem]
    refine hK _ _ fun nx => ?_; clear hK K; try clear kk
    refine zb fun K kk hK => ?_
    simp only [go_sem]
    refine hK _ _ fun nx => ?_; clear hK K; try clear kk
    by_cases h13 : (acR != (0 : Int)) = true
    ·rw [if_pos h13] at hh
     refine zm (by first | exact congrArg PV.bool h13 | rfl) ?_
     refine zb fun K kk hK => ?_
     simp only [go_sem]
     refine hK _ _ fun nx => ?_; clear hK K; try clear kk
     refine zk ?_; refine nmx ?_
     obtain hR := Option.some.inj hh
     subst hR
     exact zy
    ·rw [if_neg h13] at hh
     replace h13 := Bool.eq_false_iff.mpr h13
     refine zi (by first | exact congrArg PV.bool h13 | rfl) ?_
     refine zt ?_; refine nmx ?_
     refine zb fun K kk hK => ?_
     simp only [go_sem]
     refine hK _ _ fun nx => ?_; clear hK K; try clear kk
     refine zk ?_; refine nmx ?_
     obtain hR := Option.some.inj hh
     subst hR
     exact zy
theorem aax (n_1 : za) (s_2 : zx) (R : (za × Int)) (hh : kV n_1 s_2 = some R) : PC Tryd.prog 17 [.agg [.str n_1.Kind, .str n_1.Text, .list 1 (n_1.Marks.map PV.str), .list 2 (n_1.zh.map ze.pv), .list 5 (n_1.Kids.map za.pv)], .agg [.int .u8 s_2.Kind, .int .i64 s_2.From, .int .i64 s_2.To, .list 5 (s_2.kG.map za.pv), .str s_2.Name, .str s_2.Value]] (.tup [.agg [.str R.1.Kind, .str R.1.Text, .list 1 (R.1.Marks.map PV.str), .list 2 (R.1.zh.map ze.pv), .list 5 (R.1.Kids.map za.pv)], .int .i64 R.2]) := by
 rw [kV] at hh
 refine adX rfl ?_
 refine zb fun K kk hK => ?_
 simp only [go_sem]
 refine hK _ _ fun nx => ?_; clear hK K; try clear kk
 refine zn ?_
 refine zA ?_
 obtain ⟨Xf, h1, hh⟩ := zf hh
 refine zb fun K kk hK => ?_
 simp only [go_sem]
 refine zg (ahT _ _ h1) (by (try simp only [go_sem]) <;> exact wkl) (by rfl) (by rfl) ?_
 simp only [go_sem]
 refine hK _ _ fun nx => ?_; clear hK K; try clear kk
 by_cases h2 : (!Xf) = true
 ·rw [if_pos h2] at hh
  refine zm (by first | exact congrArg PV.bool h2 | rfl) ?_
  refine zb fun K kk hK => ?_
  simp only [go_sem]
  refine hK _ _ fun nx => ?_; clear hK K; try clear kk
  refine zk ?_; refine nmx ?_
  obtain hR := Option.some.inj hh
  subst hR
  exact zy
 ·rw [if_neg h2] at hh
  replace h2 := Bool.eq_false_iff.mpr h2
  refine zi (by first | exact congrArg PV.bool h2 | rfl) ?_
  by_cases h3 : (n_1.Kind == ([116, 101, 120, 116] : Str)) = true
  ·rw [if_pos h3] at hh
   refine zb fun K kk hK => ?_
   simp only [go_sem, h3]
   (repeat refine sd ?_)
   refine hK _ _ fun nx => ?_; clear hK K; try clear kk
   refine zm rfl ?_
   refine zb fun K kk hK => ?_
   simp only [go_sem]
   refine hK _ _ fun nx => ?_; clear hK K; try clear kk
   refine zk ?_; refine nmx ?_
   obtain hR := Option.some.inj hh
   subst hR
   exact zy
  ·rw [if_neg h3] at hh
   replace h3 := Bool.eq_false_iff.mpr h3
   obtain ⟨XF, h4, hh⟩ := zf hh
   refine zb fun K kk hK => ?_
   simp only [go_sem, h3]
   (repeat refine sd ?_)
   refine zg (xq _ _ h4) (by (try simp only [go_sem, h3]) <;> exact wkl) (by rfl) (by rfl) ?_
   simp only [go_sem, h3]
   (repeat refine sd ?_)
   refine hK _ _ fun nx => ?_; clear hK K; try clear kk
   by_cases h5 : (!XF) = true
   ·rw [if_pos h5] at hh
    refine zm (by first | exact congrArg PV.bool h5 | rfl) ?_
    refine zb fun K kk hK => ?_
    simp only [go_sem]
    refine hK _ _ fun nx => ?_; clear hK K; try clear kk
    refine zk ?_; refine nmx ?_
    obtain hR := Option.some.inj hh
    subst hR
    exact zy
   ·rw [if_neg h5] at hh
    replace h5 := Bool.eq_false_iff.mpr h5
    refine zi (by first | exact congrArg PV.bool h5 | rfl) ?_
    refine zb fun K kk hK => ?_
    simp only [go_sem]
    refine hK _ _ fun nx => ?_; clear hK K; try clear kk
    by_cases h6 : (s_2.Kind == (114 : Int)) = true
    ·rw [if_pos h6] at hh
     refine zm (by first | exact congrArg PV.bool h6 | rfl) ?_
     obtain ⟨⟨r_5, r_6⟩, h7, hh⟩ := zf hh
     dsimp only at hh
     refine zb fun K kk hK => ?_
     simp only [go_sem]
     refine zg (akO _ _ _ _ _ h7) (by (try simp only [go_sem]) <;> exact wkl) (by rfl) (by rfl) ?_
     simp only [go_sem]
     refine hK _ _ fun nx => ?_; clear hK K; try clear kk
     refine zk ?_; refine nmx ?_
     obtain hR := Option.some.inj hh
     subst hR
     exact zy
    ·rw [if_neg h6] at hh
     replace h6 := Bool.eq_false_iff.mpr h6
     refine zi (by first | exact congrArg PV.bool h6 | rfl) ?_
     refine zb fun K kk hK => ?_
     simp only [go_sem]
     refine hK _ _ fun nx => ?_; clear hK K; try clear kk
     by_cases h8 : (s_2.Kind == (97 : Int)) = true
     ·rw [if_pos h8] at hh
      refine zm (by first | exact congrArg PV.bool h8 | rfl) ?_
      obtain ⟨⟨r_7, r_8, r_9⟩, h9, hh⟩ := zf hh
      dsimp only at hh
      refine zb fun K kk hK => ?_
      simp only [go_sem]
      refine zg (amM _ _ _ h9) (by (try simp only [go_sem]) <;> exact wkl) (by rfl) (by rfl) ?_
      simp only [go_sem]
      refine hK _ _ fun nx => ?_; clear hK K; try clear kk
      refine zb fun K kk hK => ?_
      simp only [go_sem]
      refine hK _ _ fun nx => ?_; clear hK K; try clear kk
      refine zk ?_; refine nmx ?_
      obtain hR := Option.some.inj hh
      subst hR
      exact zy
     ·rw [if_neg h8] at hh
      replace h8 := Bool.eq_false_iff.mpr h8
      refine zi (by first | exact congrArg PV.bool h8 | rfl) ?_
      refine zt ?_; refine nmx ?_
      obtain ⟨⟨KP, adz, akm⟩, h10, hh⟩ := zf hh
      dsimp only at hh
      refine zb fun K kk hK => ?_
      simp only [go_sem]
      refine zg (ah1 _ _ _ h10) (by (try simp only [go_sem]) <;> exact wkl) (by rfl) (by rfl) ?_
      simp only [go_sem]
      refine hK _ _ fun nx => ?_; clear hK K; try clear kk
      refine zb fun K kk hK => ?_
      simp only [go_sem]
      refine hK _ _ fun nx => ?_; clear hK K; try clear kk
      refine zk ?_; refine nmx ?_
      obtain hR := Option.some.inj hh
      subst hR
      exact zy
theorem VN (l_1 : (List zu)) (afS : Int) (s_3 : Str) (R : Bool) (hh : jm l_1 afS s_3 = some R) : PC Tryd.prog 6 [.list 4 (l_1.map zu.pv), .int .i64 afS, .str s_3] (.bool R) := by
 rw [jm] at hh
 refine Ki rfl ?_
 refine zb fun K kk hK => ?_
 simp only [go_sem]
 refine hK _ _ fun nx => ?_; clear hK K; try clear kk
 obtain ⟨ach, h1, hh⟩ := zf hh
 refine zb fun K kk hK => ?_
 simp only [go_sem]
 refine zg (XY _ h1) (by (try simp only [go_sem]) <;> exact wkl) (by rfl) (by rfl) ?_
 simp only [go_sem]
 refine hK _ _ fun nx => ?_; clear hK K; try clear kk
 refine zn ?_
 by_cases h2 : (!ach) = true
 ·rw [if_pos h2] at hh
  refine zb fun K kk hK => ?_
  simp only [go_sem, h2]
  (repeat refine sd ?_)
  refine hK _ _ fun nx => ?_; clear hK K; try clear kk
  refine zm rfl ?_
  refine zb fun K kk hK => ?_
  simp only [go_sem]
  refine hK _ _ fun nx => ?_; clear hK K; try clear kk
  refine zk ?_; refine nmx ?_
  obtain hR := Option.some.inj hh
  subst hR
  exact zy
 ·rw [if_neg h2] at hh
  replace h2 := Bool.eq_false_iff.mpr h2
  refine zb fun K kk hK => ?_
  simp only [go_sem, h2]
  (repeat refine sd ?_)
  refine hK _ _ fun nx => ?_; clear hK K; try clear kk
  by_cases h3 : (decide ((s_3.length : Int) > (100 : Int))) = true
  ·rw [if_pos h3] at hh
   refine zm (by first | exact congrArg PV.bool h3 | rfl) ?_
   refine zb fun K kk hK => ?_
   simp only [go_sem]
   refine hK _ _ fun nx => ?_; clear hK K; try clear kk
   refine zk ?_; refine nmx ?_
   obtain hR := Option.some.inj hh
   subst hR
   exact zy
  ·rw [if_neg h3] at hh
   replace h3 := Bool.eq_false_iff.mpr h3
   refine zi (by first | exact congrArg PV.bool h3 | rfl) ?_
   refine zt ?_; refine nmx ?_
   obtain ⟨aiB, h4, hh⟩ := zf hh
   refine zb fun K kk hK => ?_
   simp only [go_sem]
   refine zg (aan _ _ h4) (by (try simp only [go_sem]) <;> exact wkl) (by rfl) (by rfl) ?_
   simp only [go_sem]
   refine hK _ _ fun nx => ?_; clear hK K; try clear kk
   obtain ⟨aoI, h5, hh⟩ := zf hh
   obtain ⟨Jn, h6, hh⟩ := zf hh
   refine zb fun K kk hK => ?_
   simp only [go_sem]
   refine zg (jA _ _ h5) (by (try simp only [go_sem]) <;> exact wkl) (by rfl) (by rfl) ?_
   simp only [go_sem]
   refine zg (wV _ _ _ h6) (by (try simp only [go_sem]) <;> exact wkl) (by rfl) (by rfl) ?_
   simp only [go_sem]
   refine hK _ _ fun nx => ?_; clear hK K; try clear kk
   obtain ⟨⟨r_8, r_9⟩, h7, hh⟩ := zf hh
   dsimp only at hh
   refine zb fun K kk hK => ?_
   simp only [go_sem]
   refine zg (aax _ _ _ h7) (by (try simp only [go_sem]) <;> exact wkl) (by rfl) (by rfl) ?_
   simp only [go_sem]
   refine hK _ _ fun nx => ?_; clear hK K; try clear kk
   refine zn ?_
   refine zb fun K kk hK => ?_
   simp only [go_sem]
   refine hK _ _ fun nx => ?_; clear hK K; try clear kk
   by_cases h8 : (r_9 != (0 : Int)) = true
   ·rw [if_pos h8] at hh
    refine zm (by first | exact congrArg PV.bool h8 | rfl) ?_
    refine zb fun K kk hK => ?_
    simp only [go_sem]
    refine hK _ _ fun nx => ?_; clear hK K; try clear kk
    refine zk ?_; refine nmx ?_
    obtain hR := Option.some.inj hh
    subst hR
    exact zy
   ·rw [if_neg h8] at hh
    replace h8 := Bool.eq_false_iff.mpr h8
    refine zi (by first | exact congrArg PV.bool h8 | rfl) ?_
    refine zt ?_; refine nmx ?_
    obtain ⟨⟨KP, adz⟩, h9, hh⟩ := zf hh
    dsimp only at hh
    refine zb fun K kk hK => ?_
    simp only [go_sem]
    refine zg (Jh _ _ _ h9) (by (try simp only [go_sem]) <;> exact wkl) (by rfl) (by rfl) ?_
    simp only [go_sem]
    refine hK _ _ fun nx => ?_; clear hK K; try clear kk
    refine zn ?_
    by_cases h10 : (adz != (0 : Int)) = true
    ·rw [if_pos h10] at hh
     refine zb fun K kk hK => ?_
     simp only [go_sem, h10]
     (repeat refine sd ?_)
     refine hK _ _ fun nx => ?_; clear hK K; try clear kk
     refine zm rfl ?_
     refine zb fun K kk hK => ?_
     simp only [go_sem]
     refine hK _ _ fun nx => ?_; clear hK K; try clear kk
     refine zk ?_; refine nmx ?_
     obtain hR := Option.some.inj hh
     subst hR
     exact zy
    ·rw [if_neg h10] at hh
     replace h10 := Bool.eq_false_iff.mpr h10
     refine zb fun K kk hK => ?_
     simp only [go_sem, h10]
     (repeat refine sd ?_)
     refine hK _ _ fun nx => ?_; clear hK K; try clear kk
     by_cases h11 : (decide ((KP.length : Int) > (1 : Int))) = true
     ·rw [if_pos h11] at hh
      refine zm (by first | exact congrArg PV.bool h11 | rfl) ?_
      refine zb fun K kk hK => ?_
      simp only [go_sem]
      refine hK _ _ fun nx => ?_; clear hK K; try clear kk
      refine zk ?_; refine nmx ?_
      obtain hR := Option.some.inj hh
      subst hR
      exact zy
     ·rw [if_neg h11] at hh
      replace h11 := Bool.eq_false_iff.mpr h11
      refine zi (by first | exact congrArg PV.bool h11 | rfl) ?_
      refine zt ?_; refine nmx ?_
      obtain ⟨⟨akm, afE⟩, h12, hh⟩ := zf hh
      dsimp only at hh
      refine zb fun K kk hK => ?_
      simp only [go_sem]
      refine zg (aax _ _ _ h12) (by (try simp only [go_sem]) <;> exact wkl) (by rfl) (by rfl) ?_
      simp only [go_sem]
      refine hK _ _ fun nx => ?_; clear hK K; try clear kk
      obtain ⟨⟨ab8, auU⟩, h13, hh⟩ := zf hh
      dsimp only at hh
      refine zb fun K kk hK => ?_
      simp only [go_sem]
      refine zg (Jh _ _ _ h13) (by (try simp only [go_sem]) <;> exact wkl) (by rfl) (by rfl) ?_
      simp only [go_sem]
      refine hK _ _ fun nx => ?_; clear hK K; try clear kk
      refine zn ?_
      by_cases h14 : (afE != (0 : Int)) = true
      ·rw [if_pos h14] at hh
       refine zb fun K kk hK => ?_
       simp only [go_sem, h14]
       (repeat refine sd ?_)
       refine hK _ _ fun nx => ?_; clear hK K; try clear kk
       refine zm rfl ?_
       refine zb fun K kk hK => ?_
       simp only [go_sem]
       refine hK _ _ fun nx => ?_; clear hK K; try clear kk
       refine zk ?_; refine nmx ?_
       obtain hR := Option.some.inj hh
       subst hR
       exact zy
      ·rw [if_neg h14] at hh
       replace h14 := Bool.eq_false_iff.mpr h14
       by_cases h15 : (auU != (0 : Int)) = true
       ·rw [if_pos h15] at hh
        refine zb fun K kk hK => ?_
        simp only [go_sem, h14, h15]
        (repeat refine sd ?_)
        refine hK _ _ fun nx => ?_; clear hK K; try clear kk
        refine zm rfl ?_
        refine zb fun K kk hK => ?_
        simp only [go_sem]
        refine hK _ _ fun nx => ?_; clear hK K; try clear kk
        refine zk ?_; refine nmx ?_
        obtain hR := Option.some.inj hh
        subst hR
        exact zy
       ·rw [if_neg h15] at hh
        replace h15 := Bool.eq_false_iff.mpr h15
        by_cases h16 : ((ab8.length : Int) != (1 : Int)) = true
        ·rw [if_pos h16] at hh
         refine zb fun K kk hK => ?_
         simp only [go_sem, h14, h15, h16]
         (repeat refine sd ?_)
         refine hK _ _ fun nx => ?_; clear hK K; try clear kk
         refine zm rfl ?_
         refine zb fun K kk hK => ?_
         simp only [go_sem]
         refine hK _ _ fun nx => ?_; clear hK K; try clear kk
         refine zk ?_; refine nmx ?_
         obtain hR := Option.some.inj hh
         subst hR
         exact zy
        ·rw [if_neg h16] at hh
         replace h16 := Bool.eq_false_iff.mpr h16
         obtain ⟨aky, h17, hh⟩ := zf hh
         obtain ⟨h17a, h17b, h17c⟩ := rd_some h17
         have h17d := wN (f := zx.pv) h17c
         have h17f := qG (f := zx.pv) h17c
         try simp only [Int.toNat_natCast, Int.reduceToNat] at h17d h17f
         by_cases h18 : (aky.Kind != (114 : Int)) = true
         ·rw [if_pos h18] at hh
          refine zb fun K kk hK => ?_
          simp only [go_sem, h14, h15, h16, h17a, h17b, h17d, h17f.1, h17f.2, h18]
          (repeat refine sd ?_)
          refine hK _ _ fun nx => ?_; clear hK K; try clear kk
          refine zm rfl ?_
          refine zb fun K kk hK => ?_
          simp only [go_sem]
          refine hK _ _ fun nx => ?_; clear hK K; try clear kk
          refine zk ?_; refine nmx ?_
          obtain hR := Option.some.inj hh
          subst hR
          exact zy
         ·rw [if_neg h18] at hh
          replace h18 := Bool.eq_false_iff.mpr h18
          by_cases h19 : (aky.From != (w64 (Jn + (1 : Int)))) = true
          ·rw [if_pos h19] at hh
           refine zb fun K kk hK => ?_
           simp only [go_sem, h14, h15, h16, h17a, h17b, h17d, h17f.1, h17f.2, h18, h19]
           (repeat refine sd ?_)
           refine hK _ _ fun nx => ?_; clear hK K; try clear kk
           refine zm rfl ?_
           refine zb fun K kk hK => ?_
           simp only [go_sem]
           refine hK _ _ fun nx => ?_; clear hK K; try clear kk
           refine zk ?_; refine nmx ?_
           obtain hR := Option.some.inj hh
           subst hR
           exact zy
          ·rw [if_neg h19] at hh
           replace h19 := Bool.eq_false_iff.mpr h19
           by_cases h20 : (aky.To != (w64 (Jn + (1 : Int)))) = true
           ·rw [if_pos h20] at hh
            refine zb fun K kk hK => ?_
            simp only [go_sem, h14, h15, h16, h17a, h17b, h17d, h17f.1, h17f.2, h18, h19, h20]
            (repeat refine sd ?_)
            refine hK _ _ fun nx => ?_; clear hK K; try clear kk
            refine zm rfl ?_
            refine zb fun K kk hK => ?_
            simp only [go_sem]
            refine hK _ _ fun nx => ?_; clear hK K; try clear kk
            refine zk ?_; refine nmx ?_
            obtain hR := Option.some.inj hh
            subst hR
            exact zy
           ·rw [if_neg h20] at hh
            replace h20 := Bool.eq_false_iff.mpr h20
            refine zb fun K kk hK => ?_
            simp only [go_sem, h14, h15, h16, h17a, h17b, h17d, h17f.1, h17f.2, h18, h19, h20]
            (repeat refine sd ?_)
            refine hK _ _ fun nx => ?_; clear hK K; try clear kk
            by_cases h21 : ((aky.kG.length : Int) != (1 : Int)) = true
            ·rw [if_pos h21] at hh
             refine zm (by first | exact congrArg PV.bool h21 | rfl) ?_
             refine zb fun K kk hK => ?_
             simp only [go_sem]
             refine hK _ _ fun nx => ?_; clear hK K; try clear kk
             refine zk ?_; refine nmx ?_
             obtain hR := Option.some.inj hh
             subst hR
             exact zy
            ·rw [if_neg h21] at hh
             replace h21 := Bool.eq_false_iff.mpr h21
             refine zi (by first | exact congrArg PV.bool h21 | rfl) ?_
             refine zt ?_; refine nmx ?_
             by_cases h22 : ((KP.length : Int) == (0 : Int)) = true
             ·rw [if_pos h22] at hh
              refine zb fun K kk hK => ?_
              simp only [go_sem, h22]
              (repeat refine sd ?_)
              refine hK _ _ fun nx => ?_; clear hK K; try clear kk
              refine zk ?_; refine nmx ?_
              obtain hR := Option.some.inj hh
              subst hR
              exact zy
             ·rw [if_neg h22] at hh
              replace h22 := Bool.eq_false_iff.mpr h22
              obtain ⟨akZ, h23, hh⟩ := zf hh
              obtain ⟨h23a, h23b, h23c⟩ := rd_some h23
              have h23d := wN (f := zx.pv) h23c
              have h23f := qG (f := zx.pv) h23c
              try simp only [Int.toNat_natCast, Int.reduceToNat] at h23d h23f
              by_cases h24 : (akZ.Kind == (97 : Int)) = true
              ·rw [if_pos h24] at hh
               by_cases h25 : (akZ.From == Jn) = true
               ·rw [if_pos h25] at hh
                by_cases h26 : (akZ.Name == ([110, 111, 116, 101] : Str)) = true
                ·rw [if_pos h26] at hh
                 refine zb fun K kk hK => ?_
                 simp only [go_sem, h22, h23a, h23b, h23d, h23f.1, h23f.2, h24, h25, h26]
                 (repeat refine sd ?_)
                 refine hK _ _ fun nx => ?_; clear hK K; try clear kk
                 refine zk ?_; refine nmx ?_
                 obtain hR := Option.some.inj hh
                 subst hR
                 exact zy
                ·rw [if_neg h26] at hh
                 replace h26 := Bool.eq_false_iff.mpr h26
                 refine zb fun K kk hK => ?_
                 simp only [go_sem, h22, h23a, h23b, h23d, h23f.1, h23f.2, h24, h25, h26]
                 (repeat refine sd ?_)
                 refine hK _ _ fun nx => ?_; clear hK K; try clear kk
                 refine zk ?_; refine nmx ?_
                 obtain hR := Option.some.inj hh
                 subst hR
                 exact zy
               ·rw [if_neg h25] at hh
                replace h25 := Bool.eq_false_iff.mpr h25
                refine zb fun K kk hK => ?_
                simp only [go_sem, h22, h23a, h23b, h23d, h23f.1, h23f.2, h24, h25]
                (repeat refine sd ?_)
                refine hK _ _ fun nx => ?_; clear hK K; try clear kk
                refine zk ?_; refine nmx ?_
                obtain hR := Option.some.inj hh
                subst hR
                exact zy
              ·rw [if_neg h24] at hh
               replace h24 := Bool.eq_false_iff.mpr h24
               refine zb fun K kk hK => ?_
               simp only [go_sem, h22, h23a, h23b, h23d, h23f.1, h23f.2, h24]
               (repeat refine sd ?_)
               refine hK _ _ fun nx => ?_; clear hK K; try clear kk
               refine zk ?_; refine nmx ?_
               obtain hR := Option.some.inj hh
               subst hR
               exact zy
end Go.Proofs.YtclohbgnaopjfaaDoor
