/- Texts of the proof of diffChainCard -/
import Derived.Test.YtclohbgnaopjfaaDoorAgC
import Derived.Test.YtclohbgnaopjfaaDoorAgF
import Derived.Test.YtclohbgnaopjfaaDoorAgK0
import Derived.Test.YtclohbgnaopjfaaDoorAgK1
import Derived.Test.YtclohbgnaopjfaaDoorAgK2
import Derived.Test.YtclohbgnaopjfaaDoorAgK6
import Derived.Test.YtclohbgnaopjfaaDoorAgK7
import Derived.Test.YtclohbgnaopjfaaDoorAgK8
import Derived.Test.YtclohbgnaopjfaaDoorAgL
import Derived.Test.YtclohbgnaopjfaaDoorAgSl
namespace Go.Proofs.YtclohbgnaopjfaaDoor
set_option linter.unusedSimpArgs false
set_option linter.unusedVariables false
open Go
set_option maxRecDepth 100000
theorem Wm (l_1 : (List za)) (zQ : Int) (R : ((List za) × (List za) × Int)) (hh : jM l_1 zQ = some R) : PC Tryd.prog 73 [.list 5 (l_1.map za.pv), .int .i64 zQ] (.tup [.list 5 (R.1.map za.pv), .list 5 (R.2.1.map za.pv), .int .i64 R.2.2]) := by
 rw [jM] at hh
 refine aew rfl ?_
 refine zb fun K kk hK => ?_
 simp only [go_sem]
 refine hK _ _ fun nx => ?_; clear hK K; try clear kk
 refine zm ?_
 by_cases h1 : (decide (zQ < (0 : Int))) = true
 ·rw [if_pos h1] at hh
  refine zb fun K kk hK => ?_
  simp only [go_sem, h1, of_decide_eq_true h1]
  (repeat refine sd ?_)
  refine hK _ _ fun nx => ?_; clear hK K; try clear kk
  refine zn rfl ?_
  refine zb fun K kk hK => ?_
  simp only [go_sem]
  refine hK _ _ fun nx => ?_; clear hK K; try clear kk
  refine zk ?_; refine nmx ?_
  obtain hR := Option.some.inj hh
  subst hR
  exact zz
 ·rw [if_neg h1] at hh
  replace h1 := Bool.eq_false_iff.mpr h1
  obtain ⟨Wq, h2, hh⟩ := zf hh
  refine zb fun K kk hK => ?_
  simp only [go_sem, h1, of_decide_eq_false h1]
  (repeat refine sd ?_)
  refine zg (jK _ _ h2) (by (try simp only [go_sem, h1, of_decide_eq_false h1]) <;> exact wkl) (by rfl) (by rfl) ?_
  simp only [go_sem, h1, of_decide_eq_false h1]
  (repeat refine sd ?_)
  refine hK _ _ fun nx => ?_; clear hK K; try clear kk
  by_cases h3 : (decide (zQ > Wq)) = true
  ·rw [if_pos h3] at hh
   refine zn (by first | exact congrArg PV.bool h3 | rfl) ?_
   refine zb fun K kk hK => ?_
   simp only [go_sem]
   refine hK _ _ fun nx => ?_; clear hK K; try clear kk
   refine zk ?_; refine nmx ?_
   obtain hR := Option.some.inj hh
   subst hR
   exact zz
  ·rw [if_neg h3] at hh
   replace h3 := Bool.eq_false_iff.mpr h3
   refine zi (by first | exact congrArg PV.bool h3 | rfl) ?_
   refine zy ?_; refine nmx ?_
   refine zb fun K kk hK => ?_
   simp only [go_sem]
   refine hK _ _ fun nx => ?_; clear hK K; try clear kk
   refine zm ?_
   obtain ⟨e0, f0, hh⟩ := zf hh
   obtain ⟨hlen0, f0⟩ := qf f0
   refine QR (fun s => ∃ afU, ∃ ao8, (afU, ao8) = e0 ∧ ∃ (am5 : Bool) (nx : Nat), s = ⟨[(0, .list 5 (l_1.map za.pv)), (1, .int .i64 afU), (7, .int .i64 ao8), (32, .bool am5)], [], nx⟩)
    (fun i s => False)
    (fun s => False) ?_ ?_ ?_ ?_
   ·refine zA ?_
    refine qd fun I hI => ?_
    have key : ∀ (suf pre : List za) (i_8 : Int) (ain : Int), l_1 = pre ++ suf → i_8 = (pre.length : Int) → jc suf i_8 ain = some e0 → ∀ (nx : Nat), I ⟨[(0, .list 5 (l_1.map za.pv)), (1, .int .i64 ain), (7, .int .i64 i_8)], [], nx⟩ := by
     intro suf
     induction suf with
     | nil =>
      intro pre i_8 ain hsplit hidx hh nx
      rw [jc] at hh
      refine hI _ ?_
      have h14 := walk_nil hsplit hidx
      refine zm ?_
      refine zb fun K kk hK => ?_
      simp only [go_sem, h14, of_decide_eq_false h14]
      (repeat refine sd ?_)
      refine hK _ _ fun nx => ?_; clear hK K; try clear kk
      refine zi rfl ?_
      refine zU ?_; refine nmx ?_
      refine wX ?_
      refine zG ?_
      refine ⟨_, _, (Option.some.inj hh), ?_⟩
      first | exact ⟨_, _, rfl⟩ | (simp only [pvE, lsE, zq]; exact ⟨_, _, rfl⟩) | (simp only [pvE, lsE, zq, h1, h14, h3]; exact ⟨_, _, rfl⟩)
     | cons aws suf ih =>
      intro pre i_8 ain hsplit hidx hh nx
      rw [jc] at hh
      refine hI _ ?_
      obtain ⟨hl0a, hl0b, hl0d, hl0w, h14⟩ := qM (f := za.pv) hsplit hidx hlen0
      refine zm ?_
      obtain ⟨alU, h15, hh⟩ := zf hh
      refine zb fun K kk hK => ?_
      simp only [go_sem, h14, of_decide_eq_true h14, hl0a, hl0b, hl0d, hl0w]
      (repeat refine sd ?_)
      refine zg (Q7 _ _ h15) (by (try simp only [go_sem, h14, of_decide_eq_true h14, hl0a, hl0b, hl0d, hl0w]) <;> exact wkl) (by rfl) (by rfl) ?_
      simp only [go_sem, h14, of_decide_eq_true h14, hl0a, hl0b, hl0d, hl0w]
      (repeat refine sd ?_)
      refine hK _ _ fun nx => ?_; clear hK K; try clear kk
      by_cases h16 : (decide (ain ≥ alU)) = true
      ·rw [if_pos h16] at hh
       refine zn (by first | exact congrArg PV.bool h16 | rfl) ?_
       refine zy ?_; refine nmx ?_
       refine zm ?_
       refine zA ?_
       obtain ⟨aq8, h17, hh⟩ := zf hh
       refine zu fun K kk hK => ?_
       simp only [go_sem, hl0a, hl0b, hl0d, hl0w]
       refine zg (Q7 _ _ h17) (by (try simp only [go_sem, hl0a, hl0b, hl0d, hl0w]) <;> exact wkl) (by rfl) (by rfl) ?_
       simp only [go_sem, hl0a, hl0b, hl0d, hl0w]
       refine hK _ _ fun nx => ?_; clear hK K; try clear kk
       refine nmx ?_
       refine zu fun K kk hK => ?_
       simp only [go_sem, hl0a, hl0b, hl0d, hl0w]
       refine hK _ _ fun nx => ?_; clear hK K; try clear kk
       refine nmx ?_
       have ih' := ih (pre ++ [aws]) (i_8 + 1) _ (by rw [hsplit]; simp) (by simp [hidx]) hh nx
       refine zG ?_
       first | exact ih' | (simp only [pvE, lsE, zq] at ih' ⊢; exact ih') | (simp only [pvE, lsE, zq, h1, h14, h16, h3] at ih' ⊢; exact ih')
      ·rw [if_neg h16] at hh
       replace h16 := Bool.eq_false_iff.mpr h16
       refine zi (by first | exact congrArg PV.bool h16 | rfl) ?_
       refine zU ?_; refine nmx ?_
       refine wX ?_
       refine zG ?_
       refine ⟨_, _, (Option.some.inj hh), ?_⟩
       first | exact ⟨_, _, rfl⟩ | (simp only [pvE, lsE, zq]; exact ⟨_, _, rfl⟩) | (simp only [pvE, lsE, zq, h1, h14, h16, h3]; exact ⟨_, _, rfl⟩)
    exact key l_1 [] _ _ rfl rfl f0 _
   ·rintro s ⟨afU, ao8, rfl, am5, nx, rfl⟩
    try dsimp only at hh
    obtain ⟨ayh, h18, hh⟩ := zf hh
    obtain ⟨h18a, h18c⟩ := yP h18
    have h18g := Jn h18a
    have h18d := JD (f := za.pv) h18c
    try simp only [Int.toNat_natCast, Int.reduceToNat, List.map_cons, List.map_nil, pvE] at h18d
    obtain ⟨amC, h19, hh⟩ := zf hh
    obtain ⟨ay6, h20, hh⟩ := zf hh
    obtain ⟨h20a, h20c⟩ := yP h20
    have h20g := Jn h20a
    have h20d := alI (f := za.pv) h20c
    try simp only [Int.toNat_natCast, Int.reduceToNat, List.map_cons, List.map_nil, pvE] at h20d
    obtain ⟨ahe, h21, hh⟩ := zf hh
    refine zb fun K kk hK => ?_
    simp only [go_sem, h18a.1, h18a.2.1, h18a.2.2, h18d, h18g, h20a.1, h20a.2.1, h20a.2.2, h20d, h20g]
    (repeat refine sd ?_)
    refine XO [] (by decide) (by decide) (vN _ _ h19) (by (try simp only [go_sem, h18a.1, h18a.2.1, h18a.2.2, h18d, h18g, h20a.1, h20a.2.1, h20a.2.2, h20d, h20g, h1, h3]) <;> exact wkb) (by rfl) (by rfl) ?_
    simp only [go_sem, h18a.1, h18a.2.1, h18a.2.2, h18d, h18g, h20a.1, h20a.2.1, h20a.2.2, h20d, h20g]
    (repeat refine sd ?_)
    refine XO [] (by decide) (by decide) (vN _ _ h21) (by (try simp only [go_sem, h18a.1, h18a.2.1, h18a.2.2, h18d, h18g, h20a.1, h20a.2.1, h20a.2.2, h20d, h20g, h1, h3]) <;> exact wkb) (by rfl) (by rfl) ?_
    simp only [go_sem, h18a.1, h18a.2.1, h18a.2.2, h18d, h18g, h20a.1, h20a.2.1, h20a.2.2, h20d, h20g]
    (repeat refine sd ?_)
    refine hK _ _ fun nx => ?_; clear hK K; try clear kk
    refine zm ?_
    refine zA ?_
    refine zb fun K kk hK => ?_
    simp only [go_sem]
    refine hK _ _ fun nx => ?_; clear hK K; try clear kk
    by_cases h22 : (afU == (0 : Int)) = true
    ·rw [if_pos h22] at hh
     refine zn (by first | exact congrArg PV.bool h22 | rfl) ?_
     refine zb fun K kk hK => ?_
     simp only [go_sem]
     refine hK _ _ fun nx => ?_; clear hK K; try clear kk
     refine zk ?_; refine nmx ?_
     obtain hR := Option.some.inj hh
     subst hR
     exact zz
    ·rw [if_neg h22] at hh
     replace h22 := Bool.eq_false_iff.mpr h22
     refine zi (by first | exact congrArg PV.bool h22 | rfl) ?_
     obtain ⟨ao9, h23, hh⟩ := zf hh
     obtain ⟨h23a, h23b, h23c⟩ := rd_some h23
     have h23d := kE (f := za.pv) h23c
     have h23f := wo (f := za.pv) h23c
     try simp only [Int.toNat_natCast, Int.reduceToNat] at h23d h23f
     refine zb fun K kk hK => ?_
     simp only [go_sem, h23a, h23b, h23d, h23f.1, h23f.2]
     (repeat refine sd ?_)
     refine hK _ _ fun nx => ?_; clear hK K; try clear kk
     by_cases h24 : (!(ao9.Kind == ([116, 101, 120, 116] : Str))) = true
     ·rw [if_pos h24] at hh
      refine zn (by first | exact congrArg PV.bool h24 | rfl) ?_
      refine zb fun K kk hK => ?_
      simp only [go_sem]
      refine hK _ _ fun nx => ?_; clear hK K; try clear kk
      refine zk ?_; refine nmx ?_
      obtain hR := Option.some.inj hh
      subst hR
      exact zz
     ·rw [if_neg h24] at hh
      replace h24 := Bool.eq_false_iff.mpr h24
      refine zi (by first | exact congrArg PV.bool h24 | rfl) ?_
      refine zy ?_; refine nmx ?_
      refine zb fun K kk hK => ?_
      simp only [go_sem, h23a, h23b, h23d, h23f.1, h23f.2]
      (repeat refine sd ?_)
      refine hK _ _ fun nx => ?_; clear hK K; try clear kk
      refine zb fun K kk hK => ?_
      simp only [go_sem, h23a, h23b, h23d, h23f.1, h23f.2]
      (repeat refine sd ?_)
      refine hK _ _ fun nx => ?_; clear hK K; try clear kk
      obtain ⟨axZ, h25, hh⟩ := zf hh
      obtain ⟨h25a, h25c⟩ := yP h25
      have h25g := Jn h25a
      have h25d := JD (f := (PV.int .i32)) h25c
      try simp only [Int.toNat_natCast, Int.reduceToNat, List.map_cons, List.map_nil, pvE] at h25d
      obtain ⟨ayH, h26, hh⟩ := zf hh
      obtain ⟨h26a, h26c⟩ := yP h26
      have h26g := Jn h26a
      have h26d := alI (f := (PV.int .i32)) h26c
      try simp only [Int.toNat_natCast, Int.reduceToNat, List.map_cons, List.map_nil, pvE] at h26d
      obtain ⟨ay0, h27, hh⟩ := zf hh
      obtain ⟨h27a, h27b, h27c⟩ := rd_some h27
      have h27d := kE (f := za.pv) h27c
      have h27f := wo (f := za.pv) h27c
      try simp only [Int.toNat_natCast, Int.reduceToNat] at h27d h27f
      obtain ⟨ayi, h28, hh⟩ := zf hh
      obtain ⟨h28a, h28c⟩ := XY h28
      have h28d := acR (f := za.pv) h28c
      try simp only [Int.toNat_natCast, Int.reduceToNat, List.map_cons, List.map_nil, List.cons_append, List.nil_append, List.singleton_append, pvE] at h28d
      have h28e := acN h28c
      have h27b_h28 := h27b; rw [h28e] at h27b_h28
      have h27f1_h28 := h27f.1; rw [h28e] at h27f1_h28
      have h27a_h28 := h27a; try rw [h28e] at h27a_h28
      have h27d_h28 := h27d; try rw [h28e] at h27d_h28
      try rw [h28e] at h28d
      have h28bw := h28a.2; rw [h28e] at h28bw
      refine zb fun K kk hK => ?_
      simp only [go_sem, h25a.1, h25a.2.1, h25a.2.2, h25d, h25g, h26a.1, h26a.2.1, h26a.2.2, h26d, h26g, h27a, h27b, h27d, h27f.1, h27f.2, h28a.1, h28a.2, h28d, h28e, h27b_h28, h27f1_h28, h27a_h28, h27d_h28, h28bw]
      (repeat refine sd ?_)
      try simp only [go_sem, h25a.1, h25a.2.1, h25a.2.2, h25d, h25g, h26a.1, h26a.2.1, h26a.2.2, h26d, h26g, h27a, h27b, h27d, h27f.1, h27f.2, h28a.1, h28a.2, h28d, h28e, h27b_h28, h27f1_h28, h27a_h28, h27d_h28, h28bw]
      refine hK _ _ fun nx => ?_; clear hK K; try clear kk
      obtain ⟨auq, h29, hh⟩ := zf hh
      obtain ⟨h29a, h29c⟩ := zV h29
      have h29d := qI (f := za.pv) h29c
      have h29e := qK h29c
      try simp only [List.length_cons, List.length_nil, Nat.zero_add, Nat.reduceAdd] at h29a h29e
      try simp only [h29e] at h29a
      try simp only [List.map_cons, List.map_nil, List.nil_append, List.append_nil, List.cons_append, List.singleton_append, zq, pvE] at h29d
      refine zb fun K kk hK => ?_
      simp only [go_sem, h29a, h29d, h29e]
      (repeat refine sd ?_)
      refine hK _ _ fun nx => ?_; clear hK K; try clear kk
      refine zk ?_; refine nmx ?_
      obtain hR := Option.some.inj hh
      subst hR
      exact zz
   ·intro i s h; exact h.elim
   ·intro s h; exact h.elim
theorem Jl (n : Int) (R : (List za)) (hh : jE n = some R) : PC Tryd.prog 105 [.kS, .int .i64 n] (.own 5 (R.map za.pv)) := by
 rw [jE] at hh
 obtain ⟨⟨h1, h2⟩, hR⟩ := qf hh
 cases hR
 exact asZ Tryd.awj ⟨by kernel_rfl, by kernel_rfl⟩ ⟨_, Tryd.func105, by kernel_rfl, by kernel_rfl⟩ ayK rfl n h1 (by simpa using h2)
theorem Jc (kW : (List (List za))) (R : (List za)) (hh : vv kW = some R) : PC Tryd.prog 83 [.list 1 (kW.map (pvL 5 za.pv))] (.own 5 (R.map za.pv)) := by
 rw [vv] at hh
 refine KT rfl ?_
 refine zb fun K kk hK => ?_
 simp only [go_sem]
 refine hK _ _ fun nx => ?_; clear hK K; try clear kk
 refine zb fun K kk hK => ?_
 simp only [go_sem]
 refine hK _ _ fun nx => ?_; clear hK K; try clear kk
 refine zm ?_
 refine zb fun K kk hK => ?_
 simp only [go_sem]
 refine hK _ _ fun nx => ?_; clear hK K; try clear kk
 obtain ⟨e0, f0, hh⟩ := zf hh
 obtain ⟨hlen0, f0⟩ := qf f0
 refine qp (kC (fun s => ∃ ahW, ahW = e0 ∧ ∃ (v_8 : Int) (v_9 : Bool) (nx : Nat), s = ⟨[(0, .list 1 (kW.map (pvL 5 za.pv))), (3, .int .i64 ahW), (9, .list 1 (kW.map (pvL 5 za.pv))), (10, .int .i64 (kW.length : Int)), (11, .int .i64 v_8), (12, .bool v_9)], [], nx⟩))
  (fun i s => False)
  (fun s => False) ?_ ?_ ?_ ?_
 ·refine zA ?_
  refine qd fun I hI => ?_
  have key : ∀ (suf pre : List (List za)) (v_4 : Int) (J3 : Int), kW = pre ++ suf → v_4 = (pre.length : Int) → qA suf v_4 J3 = some e0 → ∀ (nx : Nat), I ⟨[(0, .list 1 (kW.map (pvL 5 za.pv))), (3, .int .i64 J3), (9, .list 1 (kW.map (pvL 5 za.pv))), (10, .int .i64 (kW.length : Int)), (11, .int .i64 v_4)], [], nx⟩ := by
   intro suf
   induction suf with
   | nil =>
    intro pre v_4 J3 hsplit hidx hh nx
    rw [qA] at hh
    refine hI _ ?_
    have h7 := walk_nil hsplit hidx
    refine zb fun K kk hK => ?_
    simp only [go_sem]
    refine hK _ _ fun nx => ?_; clear hK K; try clear kk
    refine zm ?_
    refine zi (by first | exact congrArg PV.bool h7 | rfl) ?_
    refine zU ?_; refine nmx ?_
    refine wX ?_
    refine zG ?_
    refine ⟨_, (Option.some.inj hh), ?_⟩
    first | exact ⟨_, _, _, rfl⟩ | (simp only [pvE, lsE, zq]; exact ⟨_, _, _, rfl⟩) | (simp only [pvE, lsE, zq, h7]; exact ⟨_, _, _, rfl⟩)
   | cons y_6 suf ih =>
    intro pre v_4 J3 hsplit hidx hh nx
    rw [qA] at hh
    refine hI _ ?_
    obtain ⟨hl0a, hl0b, hl0d, hl0w, h7⟩ := qM (f := (pvL 5 za.pv)) hsplit hidx hlen0
    refine zb fun K kk hK => ?_
    simp only [go_sem]
    refine hK _ _ fun nx => ?_; clear hK K; try clear kk
    refine zm ?_
    refine zn (by first | exact congrArg PV.bool h7 | rfl) ?_
    refine zy ?_; refine nmx ?_
    refine zm ?_
    refine zA ?_
    refine zb fun K kk hK => ?_
    simp only [go_sem, hl0a, hl0b, hl0d, hl0w]
    refine hK _ _ fun nx => ?_; clear hK K; try clear kk
    refine zb fun K kk hK => ?_
    simp only [go_sem, hl0a, hl0b, hl0d, hl0w]
    refine hK _ _ fun nx => ?_; clear hK K; try clear kk
    refine zb fun K kk hK => ?_
    simp only [go_sem, hl0a, hl0b, hl0d, hl0w]
    refine hK _ _ fun nx => ?_; clear hK K; try clear kk
    by_cases h8 : (decide ((w64 (J3 + (y_6.length : Int))) < (0 : Int))) = true
    ·rw [if_pos h8] at hh
     refine zn (by first | exact congrArg PV.bool h8 | rfl) ?_
     cases hh
    ·rw [if_neg h8] at hh
     replace h8 := Bool.eq_false_iff.mpr h8
     refine zi (by first | exact congrArg PV.bool h8 | rfl) ?_
     refine zy ?_; refine nmx ?_
     refine zu fun K kk hK => ?_
     simp only [go_sem, hl0a, hl0b, hl0d, hl0w]
     refine hK _ _ fun nx => ?_; clear hK K; try clear kk
     refine nmx ?_
     have ih' := ih (pre ++ [y_6]) (v_4 + 1) _ (by rw [hsplit]; simp) (by simp [hidx]) hh nx
     refine zG ?_
     first | exact ih' | (simp only [pvE, lsE, zq] at ih' ⊢; exact ih') | (simp only [pvE, lsE, zq, h7, h8] at ih' ⊢; exact ih')
  exact key kW [] _ _ rfl rfl f0 _
 ·rintro s ⟨t, hless, ahW, rfl, v_8, v_9, nx, rfl⟩
  try dsimp only at hh
  refine nmy ?_
  first | (refine wh hless ?_; try refine ku ?_) | refine qD hless ?_ | refine qE hless ?_
  obtain ⟨aqt, h9, hh⟩ := zf hh
  refine zb fun K kk hK => ?_
  simp only [go_sem]
  refine zg (Jl _ _ h9) (by (try simp only [go_sem]) <;> exact wkl) (by rfl) (by rfl) ?_
  simp only [go_sem]
  refine hK _ _ fun nx => ?_; clear hK K; try clear kk
  refine zm ?_
  refine zb fun K kk hK => ?_
  simp only [go_sem]
  refine hK _ _ fun nx => ?_; clear hK K; try clear kk
  obtain ⟨e1, f1, hh⟩ := zf hh
  obtain ⟨hlen1, f1⟩ := qf f1
  refine qp (kC (fun s => ∃ Qz, Qz = e1 ∧ ∃ (ayQ : Int) (Je : Bool) (nx : Nat) (g6 : Nat), s = ⟨[(6, .row 6 g6 Qz.length), (25, .list 1 (kW.map (pvL 5 za.pv))), (26, .int .i64 (kW.length : Int)), (27, .int .i64 ayQ), (28, .bool Je)], [(6, g6, .row false 5 (Qz.map za.pv))], nx⟩))
   (fun i s => False)
   (fun s => False) ?_ ?_ ?_ ?_
  ·refine zA ?_
   refine qd fun I hI => ?_
   have key : ∀ (suf pre : List (List za)) (JO : Int) (xw : (List za)), kW = pre ++ suf → JO = (pre.length : Int) → qz suf JO xw = some e1 → ∀ (nx : Nat) (g6 : Nat), I ⟨[(6, .row 6 g6 xw.length), (25, .list 1 (kW.map (pvL 5 za.pv))), (26, .int .i64 (kW.length : Int)), (27, .int .i64 JO)], [(6, g6, .row false 5 (xw.map za.pv))], nx⟩ := by
    intro suf
    induction suf with
    | nil =>
     intro pre JO xw hsplit hidx hh nx g6
     rw [qz] at hh
     refine hI _ ?_
     have h16 := walk_nil hsplit hidx
     refine zb fun K kk hK => ?_
     simp only [go_sem]
     refine hK _ _ fun nx => ?_; clear hK K; try clear kk
     refine zm ?_
     refine zi (by first | exact congrArg PV.bool h16 | rfl) ?_
     refine zU ?_; refine nmx ?_
     refine wX ?_
     refine zG ?_
     refine ⟨_, (Option.some.inj hh), ?_⟩
     first | exact ⟨_, _, _, _, rfl⟩ | (simp only [pvE, lsE, zq]; exact ⟨_, _, _, _, rfl⟩) | (simp only [pvE, lsE, zq, h16]; exact ⟨_, _, _, _, rfl⟩)
    | cons axg suf ih =>
     intro pre JO xw hsplit hidx hh nx g6
     rw [qz] at hh
     refine hI _ ?_
     obtain ⟨hl1a, hl1b, hl1d, hl1w, h16⟩ := qM (f := (pvL 5 za.pv)) hsplit hidx hlen1
     refine zb fun K kk hK => ?_
     simp only [go_sem]
     refine hK _ _ fun nx => ?_; clear hK K; try clear kk
     refine zm ?_
     refine zn (by first | exact congrArg PV.bool h16 | rfl) ?_
     refine zy ?_; refine nmx ?_
     refine zm ?_
     refine zA ?_
     refine zb fun K kk hK => ?_
     simp only [go_sem, hl1a, hl1b, hl1d, hl1w]
     refine hK _ _ fun nx => ?_; clear hK K; try clear kk
     obtain ⟨auw, h17, hh⟩ := zf hh
     obtain ⟨h17a, h17c⟩ := zV h17
     have h17d := qI (f := za.pv) h17c
     have h17e := qK h17c
     try simp only [List.length_cons, List.length_nil, Nat.zero_add, Nat.reduceAdd] at h17a h17e
     try simp only [h17e] at h17a
     try simp only [List.map_cons, List.map_nil, List.nil_append, List.append_nil, List.cons_append, List.singleton_append, zq, pvE] at h17d
     refine zu fun K kk hK => ?_
     simp only [go_sem, h17a, h17d, h17e, hl1a, hl1b, hl1d, hl1w]
     (repeat refine sd ?_)
     refine hK _ _ fun nx => ?_; clear hK K; try clear kk
     refine nmx ?_
     refine zu fun K kk hK => ?_
     simp only [go_sem, hl1a, hl1b, hl1d, hl1w]
     refine hK _ _ fun nx => ?_; clear hK K; try clear kk
     refine nmx ?_
     have ih' := ih (pre ++ [axg]) (JO + 1) _ (by rw [hsplit]; simp) (by simp [hidx]) hh nx
     refine zG ?_
     first | exact ih' _ | (simp only [pvE, lsE, zq, h17e] at ih' ⊢; exact ih' _) | (simp only [pvE, lsE, zq, h17e, h16] at ih' ⊢; exact ih' _)
   exact key kW [] _ _ rfl rfl f1 _ _
  ·rintro s ⟨t, hless, Qz, rfl, ayQ, Je, nx, g6, rfl⟩
   try dsimp only at hh
   refine nmy ?_
   first | (refine wh hless ?_; try refine ku ?_) | refine qD hless ?_ | refine qE hless ?_
   refine zb fun K kk hK => ?_
   simp only [go_sem]
   refine hK _ _ fun nx => ?_; clear hK K; try clear kk
   refine zk ?_; refine nmx ?_
   obtain hR := Option.some.inj hh
   subst hR
   exact X6 (by rfl) (by rfl) (by rfl) (by simp only [List.length_map, List.length_cons, List.length_nil, Nat.zero_add, Nat.reduceAdd]) (by first | rfl | (simp only [pvE, lsE, zq]; done) | (simp only [pvE, lsE, zq]; rfl))
  ·intro i s h; exact h.elim
  ·intro s h; exact h.elim
 ·intro i s h; exact h.elim
 ·intro s h; exact h.elim
theorem amj (n_1 : za) (yK : Int) (YB : Int) (l_4 : (List za)) (R : (za × Int)) (hh : Zl n_1 yK YB l_4 = some R) : PC Tryd.prog 49 [.agg [.str n_1.Kind, .str n_1.Text, .list 1 (n_1.Marks.map PV.str), .list 2 (n_1.zh.map ze.pv), .list 5 (n_1.Kids.map za.pv)], .int .i64 yK, .int .i64 YB, .list 5 (l_4.map za.pv)] (.tup [.agg [.str R.1.Kind, .str R.1.Text, .list 1 (R.1.Marks.map PV.str), .list 2 (R.1.zh.map ze.pv), .list 5 (R.1.Kids.map za.pv)], .int .i64 R.2]) := by
 rw [Zl] at hh
 refine agY rfl ?_
 refine zb fun K kk hK => ?_
 simp only [go_sem]
 refine hK _ _ fun nx => ?_; clear hK K; try clear kk
 obtain ⟨⟨r_5, r_6⟩, h1, hh⟩ := zf hh
 dsimp only at hh
 refine zb fun K kk hK => ?_
 simp only [go_sem]
 refine zg (aaS _ _ _ _ h1) (by (try simp only [go_sem]) <;> exact wkl) (by rfl) (by rfl) ?_
 simp only [go_sem]
 refine hK _ _ fun nx => ?_; clear hK K; try clear kk
 refine zm ?_
 by_cases h2 : (r_6 == (2 : Int)) = true
 ·rw [if_pos h2] at hh
  refine zb fun K kk hK => ?_
  simp only [go_sem, h2]
  (repeat refine sd ?_)
  refine hK _ _ fun nx => ?_; clear hK K; try clear kk
  refine zn rfl ?_
  refine zb fun K kk hK => ?_
  simp only [go_sem]
  refine hK _ _ fun nx => ?_; clear hK K; try clear kk
  refine zk ?_; refine nmx ?_
  obtain hR := Option.some.inj hh
  subst hR
  exact zz
 ·rw [if_neg h2] at hh
  replace h2 := Bool.eq_false_iff.mpr h2
  obtain ⟨ajb, h3, hh⟩ := zf hh
  obtain ⟨alQ, h4, hh⟩ := zf hh
  refine zb fun K kk hK => ?_
  simp only [go_sem, h2]
  (repeat refine sd ?_)
  refine zg (Yl _ _ h3).list (by (try simp only [go_sem, h2]) <;> exact wkl) (by rfl) (by rfl) ?_
  simp only [go_sem, h2]
  (repeat refine sd ?_)
  refine zg (Kl _ _ h4) (by (try simp only [go_sem, h2]) <;> exact wkl) (by rfl) (by rfl) ?_
  simp only [go_sem, h2]
  (repeat refine sd ?_)
  refine hK _ _ fun nx => ?_; clear hK K; try clear kk
  by_cases h5 : (alQ == (2 : Int)) = true
  ·rw [if_pos h5] at hh
   refine zn (by first | exact congrArg PV.bool h5 | rfl) ?_
   refine zb fun K kk hK => ?_
   simp only [go_sem]
   refine hK _ _ fun nx => ?_; clear hK K; try clear kk
   refine zk ?_; refine nmx ?_
   obtain hR := Option.some.inj hh
   subst hR
   exact zz
  ·rw [if_neg h5] at hh
   replace h5 := Bool.eq_false_iff.mpr h5
   refine zi (by first | exact congrArg PV.bool h5 | rfl) ?_
   refine zy ?_; refine nmx ?_
   refine zm ?_
   refine zb fun K kk hK => ?_
   simp only [go_sem]
   refine hK _ _ fun nx => ?_; clear hK K; try clear kk
   by_cases h6 : (r_6 != (0 : Int)) = true
   ·rw [if_pos h6] at hh
    refine zn (by first | exact congrArg PV.bool h6 | rfl) ?_
    refine zb fun K kk hK => ?_
    simp only [go_sem]
    refine hK _ _ fun nx => ?_; clear hK K; try clear kk
    refine zk ?_; refine nmx ?_
    obtain hR := Option.some.inj hh
    subst hR
    exact zz
   ·rw [if_neg h6] at hh
    replace h6 := Bool.eq_false_iff.mpr h6
    refine zi (by first | exact congrArg PV.bool h6 | rfl) ?_
    refine zy ?_; refine nmx ?_
    obtain ⟨⟨r_9, VZ, YH⟩, h7, hh⟩ := zf hh
    dsimp only at hh
    refine zb fun K kk hK => ?_
    simp only [go_sem]
    refine zg (Wm _ _ _ h7) (by (try simp only [go_sem]) <;> exact wkl) (by rfl) (by rfl) ?_
    simp only [go_sem]
    refine hK _ _ fun nx => ?_; clear hK K; try clear kk
    obtain ⟨⟨VU, YM, ale⟩, h8, hh⟩ := zf hh
    dsimp only at hh
    refine zb fun K kk hK => ?_
    simp only [go_sem]
    refine zg (Wm _ _ _ h8) (by (try simp only [go_sem]) <;> exact wkl) (by rfl) (by rfl) ?_
    simp only [go_sem]
    refine hK _ _ fun nx => ?_; clear hK K; try clear kk
    obtain ⟨aqK, h9, hh⟩ := zf hh
    obtain ⟨aqe, h10, hh⟩ := zf hh
    refine zb fun K kk hK => ?_
    simp only [go_sem]
    refine zg (Jc _ _ h9).list (by (try simp only [go_sem]) <;> exact wkl) (by rfl) (by rfl) ?_
    simp only [go_sem]
    refine zg (Yl _ _ h10).list (by (try simp only [go_sem]) <;> exact wkl) (by rfl) (by rfl) ?_
    simp only [go_sem]
    refine hK _ _ fun nx => ?_; clear hK K; try clear kk
    obtain ⟨⟨axw, azp⟩, h11, hh⟩ := zf hh
    dsimp only at hh
    refine zb fun K kk hK => ?_
    simp only [go_sem]
    refine zg (abK _ _ _ _ h11) (by (try simp only [go_sem]) <;> exact wkl) (by rfl) (by rfl) ?_
    simp only [go_sem]
    refine hK _ _ fun nx => ?_; clear hK K; try clear kk
    refine zm ?_
    obtain ⟨adI, h12, hh⟩ := zf hh
    refine zb fun K kk hK => ?_
    simp only [go_sem]
    refine zg (Kl _ _ h12) (by (try simp only [go_sem]) <;> exact wkl) (by rfl) (by rfl) ?_
    simp only [go_sem]
    refine hK _ _ fun nx => ?_; clear hK K; try clear kk
    refine zb fun K kk hK => ?_
    simp only [go_sem]
    refine hK _ _ fun nx => ?_; clear hK K; try clear kk
    by_cases h13 : (adI != (0 : Int)) = true
    ·rw [if_pos h13] at hh
     refine zn (by first | exact congrArg PV.bool h13 | rfl) ?_
     refine zb fun K kk hK => ?_
     simp only [go_sem]
     refine hK _ _ fun nx => ?_; clear hK K; try clear kk
     refine zk ?_; refine nmx ?_
     obtain hR := Option.some.inj hh
     subst hR
     exact zz
    ·rw [if_neg h13] at hh
     replace h13 := Bool.eq_false_iff.mpr h13
     refine zi (by first | exact congrArg PV.bool h13 | rfl) ?_
     refine zy ?_; refine nmx ?_
     refine zb fun K kk hK => ?_
     simp only [go_sem]
     refine hK _ _ fun nx => ?_; clear hK K; try clear kk
     refine zk ?_; refine nmx ?_
     obtain hR := Option.some.inj hh
     subst hR
     exact zz
theorem JY (n_1 : za) (s_2 : zo) (R : (za × Int)) (hh : qH n_1 s_2 = some R) : PC Tryd.prog 17 [.agg [.str n_1.Kind, .str n_1.Text, .list 1 (n_1.Marks.map PV.str), .list 2 (n_1.zh.map ze.pv), .list 5 (n_1.Kids.map za.pv)], .agg [.int .u8 s_2.Kind, .int .i64 s_2.From, .int .i64 s_2.To, .list 5 (s_2.kF.map za.pv), .str s_2.Name, .str s_2.Value]] (.tup [.agg [.str R.1.Kind, .str R.1.Text, .list 1 (R.1.Marks.map PV.str), .list 2 (R.1.zh.map ze.pv), .list 5 (R.1.Kids.map za.pv)], .int .i64 R.2]) := by
 rw [qH] at hh
 refine ae4 rfl ?_
 refine zb fun K kk hK => ?_
 simp only [go_sem]
 refine hK _ _ fun nx => ?_; clear hK K; try clear kk
 refine zm ?_
 refine zA ?_
 obtain ⟨XZ, h1, hh⟩ := zf hh
 refine zb fun K kk hK => ?_
 simp only [go_sem]
 refine zg (ajq _ _ h1) (by (try simp only [go_sem]) <;> exact wkl) (by rfl) (by rfl) ?_
 simp only [go_sem]
 refine hK _ _ fun nx => ?_; clear hK K; try clear kk
 by_cases h2 : (!XZ) = true
 ·rw [if_pos h2] at hh
  refine zn (by first | exact congrArg PV.bool h2 | rfl) ?_
  refine zb fun K kk hK => ?_
  simp only [go_sem]
  refine hK _ _ fun nx => ?_; clear hK K; try clear kk
  refine zk ?_; refine nmx ?_
  obtain hR := Option.some.inj hh
  subst hR
  exact zz
 ·rw [if_neg h2] at hh
  replace h2 := Bool.eq_false_iff.mpr h2
  refine zi (by first | exact congrArg PV.bool h2 | rfl) ?_
  by_cases h3 : (n_1.Kind == ([116, 101, 120, 116] : Str)) = true
  ·rw [if_pos h3] at hh
   refine zb fun K kk hK => ?_
   simp only [go_sem, h3]
   (repeat refine sd ?_)
   refine hK _ _ fun nx => ?_; clear hK K; try clear kk
   refine zn rfl ?_
   refine zb fun K kk hK => ?_
   simp only [go_sem]
   refine hK _ _ fun nx => ?_; clear hK K; try clear kk
   refine zk ?_; refine nmx ?_
   obtain hR := Option.some.inj hh
   subst hR
   exact zz
  ·rw [if_neg h3] at hh
   replace h3 := Bool.eq_false_iff.mpr h3
   obtain ⟨XF, h4, hh⟩ := zf hh
   refine zb fun K kk hK => ?_
   simp only [go_sem, h3]
   (repeat refine sd ?_)
   refine zg (xL _ _ h4) (by (try simp only [go_sem, h3]) <;> exact wkl) (by rfl) (by rfl) ?_
   simp only [go_sem, h3]
   (repeat refine sd ?_)
   refine hK _ _ fun nx => ?_; clear hK K; try clear kk
   by_cases h5 : (!XF) = true
   ·rw [if_pos h5] at hh
    refine zn (by first | exact congrArg PV.bool h5 | rfl) ?_
    refine zb fun K kk hK => ?_
    simp only [go_sem]
    refine hK _ _ fun nx => ?_; clear hK K; try clear kk
    refine zk ?_; refine nmx ?_
    obtain hR := Option.some.inj hh
    subst hR
    exact zz
   ·rw [if_neg h5] at hh
    replace h5 := Bool.eq_false_iff.mpr h5
    refine zi (by first | exact congrArg PV.bool h5 | rfl) ?_
    refine zb fun K kk hK => ?_
    simp only [go_sem]
    refine hK _ _ fun nx => ?_; clear hK K; try clear kk
    by_cases h6 : (s_2.Kind == (114 : Int)) = true
    ·rw [if_pos h6] at hh
     refine zn (by first | exact congrArg PV.bool h6 | rfl) ?_
     obtain ⟨⟨r_5, r_6⟩, h7, hh⟩ := zf hh
     dsimp only at hh
     refine zb fun K kk hK => ?_
     simp only [go_sem]
     refine zg (amj _ _ _ _ _ h7) (by (try simp only [go_sem]) <;> exact wkl) (by rfl) (by rfl) ?_
     simp only [go_sem]
     refine hK _ _ fun nx => ?_; clear hK K; try clear kk
     refine zk ?_; refine nmx ?_
     obtain hR := Option.some.inj hh
     subst hR
     exact zz
    ·rw [if_neg h6] at hh
     replace h6 := Bool.eq_false_iff.mpr h6
     refine zi (by first | exact congrArg PV.bool h6 | rfl) ?_
     refine zb fun K kk hK => ?_
     simp only [go_sem]
     refine hK _ _ fun nx => ?_; clear hK K; try clear kk
     by_cases h8 : (s_2.Kind == (97 : Int)) = true
     ·rw [if_pos h8] at hh
      refine zn (by first | exact congrArg PV.bool h8 | rfl) ?_
      obtain ⟨⟨r_7, r_8, r_9⟩, h9, hh⟩ := zf hh
      dsimp only at hh
      refine zb fun K kk hK => ?_
      simp only [go_sem]
      refine zg (agi _ _ _ h9) (by (try simp only [go_sem]) <;> exact wkl) (by rfl) (by rfl) ?_
      simp only [go_sem]
      refine hK _ _ fun nx => ?_; clear hK K; try clear kk
      refine zb fun K kk hK => ?_
      simp only [go_sem]
      refine hK _ _ fun nx => ?_; clear hK K; try clear kk
      refine zk ?_; refine nmx ?_
      obtain hR := Option.some.inj hh
      subst hR
      exact zz
     ·rw [if_neg h8] at hh
      replace h8 := Bool.eq_false_iff.mpr h8
      refine zi (by first | exact congrArg PV.bool h8 | rfl) ?_
      refine zy ?_; refine nmx ?_
      obtain ⟨⟨VZ, YH, VU⟩, h10, hh⟩ := zf hh
      dsimp only at hh
      refine zb fun K kk hK => ?_
      simp only [go_sem]
      refine zg (abD _ _ _ h10) (by (try simp only [go_sem]) <;> exact wkl) (by rfl) (by rfl) ?_
      simp only [go_sem]
      refine hK _ _ fun nx => ?_; clear hK K; try clear kk
      refine zb fun K kk hK => ?_
      simp only [go_sem]
      refine hK _ _ fun nx => ?_; clear hK K; try clear kk
      refine zk ?_; refine nmx ?_
      obtain hR := Option.some.inj hh
      subst hR
      exact zz
theorem age (n_1 : za) (l_2 : (List zo)) (R : (za × Int)) (hh : Xc n_1 l_2 = some R) : PC Tryd.prog 14 [.agg [.str n_1.Kind, .str n_1.Text, .list 1 (n_1.Marks.map PV.str), .list 2 (n_1.zh.map ze.pv), .list 5 (n_1.Kids.map za.pv)], .list 6 (l_2.map zo.pv)] (.tup [.agg [.str R.1.Kind, .str R.1.Text, .list 1 (R.1.Marks.map PV.str), .list 2 (R.1.zh.map ze.pv), .list 5 (R.1.Kids.map za.pv)], .int .i64 R.2]) := by
 rw [Xc] at hh
 refine ahs rfl ?_
 refine zb fun K kk hK => ?_
 simp only [go_sem]
 refine hK _ _ fun nx => ?_; clear hK K; try clear kk
 refine zb fun K kk hK => ?_
 simp only [go_sem]
 refine hK _ _ fun nx => ?_; clear hK K; try clear kk
 refine zm ?_
 refine zb fun K kk hK => ?_
 simp only [go_sem]
 refine hK _ _ fun nx => ?_; clear hK K; try clear kk
 obtain ⟨e0, f0, hh⟩ := zf hh
 obtain ⟨hlen0, f0⟩ := qf f0
 refine qp (kC (fun s => ∃ alH, .inr alH = e0 ∧ ∃ (Yc : Int) (agN : Bool) (nx : Nat) (g2 : Nat) (g4 : Nat), s = ⟨[(2, .box 2 g2 0), (4, .box 4 g4 0), (9, .list 6 (l_2.map zo.pv)), (10, .int .i64 (l_2.length : Int)), (11, .int .i64 Yc), (12, .bool agN)], [(2, g2, .var 28 [.str alH.Kind, .str alH.Text, .list 1 (alH.Marks.map PV.str), .list 2 (alH.zh.map ze.pv), .list 5 (alH.Kids.map za.pv)]), (4, g4, .var 28 [.str ([] : Str), .str ([] : Str), .list 1 ([].map PV.str), .list 2 ([].map ze.pv), .list 5 ([].map za.pv)])], nx⟩))
  (fun i s => False)
  (fun s => ∃ JS, .inl JS = e0 ∧ zS Tryd.prog [.cell 4 28, .tmp 5] (.tup [.agg [.str JS.1.Kind, .str JS.1.Text, .list 1 (JS.1.Marks.map PV.str), .list 2 (JS.1.zh.map ze.pv), .list 5 (JS.1.Kids.map za.pv)], .int .i64 JS.2]) [] .ret s) ?_ ?_ ?_ ?_
 ·refine zA ?_
  refine qd fun I hI => ?_
  have key : ∀ (suf pre : List zo) (v_7 : Int) (n_6 : za), l_2 = pre ++ suf → v_7 = (pre.length : Int) → y9 suf v_7 n_6 = some e0 → ∀ (nx : Nat) (g2 : Nat) (g4 : Nat), I ⟨[(2, .box 2 g2 0), (4, .box 4 g4 0), (9, .list 6 (l_2.map zo.pv)), (10, .int .i64 (l_2.length : Int)), (11, .int .i64 v_7)], [(2, g2, .var 28 [.str n_6.Kind, .str n_6.Text, .list 1 (n_6.Marks.map PV.str), .list 2 (n_6.zh.map ze.pv), .list 5 (n_6.Kids.map za.pv)]), (4, g4, .var 28 [.str ([] : Str), .str ([] : Str), .list 1 ([].map PV.str), .list 2 ([].map ze.pv), .list 5 ([].map za.pv)])], nx⟩ := by
   intro suf
   induction suf with
   | nil =>
    intro pre v_7 n_6 hsplit hidx hh nx g2 g4
    rw [y9] at hh
    refine hI _ ?_
    have h9 := walk_nil hsplit hidx
    refine zb fun K kk hK => ?_
    simp only [go_sem]
    refine hK _ _ fun nx => ?_; clear hK K; try clear kk
    refine zm ?_
    refine zi (by first | exact congrArg PV.bool h9 | rfl) ?_
    refine zU ?_; refine nmx ?_
    refine wX ?_
    refine zG ?_
    refine ⟨_, (Option.some.inj hh), ?_⟩
    first | exact ⟨_, _, _, _, _, rfl⟩ | (simp only [pvE, lsE, zq]; exact ⟨_, _, _, _, _, rfl⟩) | (simp only [pvE, lsE, zq, h9]; exact ⟨_, _, _, _, _, rfl⟩)
   | cons axd suf ih =>
    intro pre v_7 n_6 hsplit hidx hh nx g2 g4
    rw [y9] at hh
    refine hI _ ?_
    obtain ⟨hl0a, hl0b, hl0d, hl0w, h9⟩ := qM (f := zo.pv) hsplit hidx hlen0
    refine zb fun K kk hK => ?_
    simp only [go_sem]
    refine hK _ _ fun nx => ?_; clear hK K; try clear kk
    refine zm ?_
    refine zn (by first | exact congrArg PV.bool h9 | rfl) ?_
    refine zy ?_; refine nmx ?_
    refine zm ?_
    refine zA ?_
    refine zb fun K kk hK => ?_
    simp only [go_sem, hl0a, hl0b, hl0d, hl0w]
    refine hK _ _ fun nx => ?_; clear hK K; try clear kk
    obtain ⟨⟨VU, YM⟩, h10, hh⟩ := zf hh
    dsimp only at hh
    refine zb fun K kk hK => ?_
    simp only [go_sem, hl0a, hl0b, hl0d, hl0w]
    refine zg (JY _ _ _ h10) (by (try simp only [go_sem, hl0a, hl0b, hl0d, hl0w]) <;> exact wkl) (by rfl) (by rfl) ?_
    simp only [go_sem, hl0a, hl0b, hl0d, hl0w]
    refine hK _ _ fun nx => ?_; clear hK K; try clear kk
    refine zb fun K kk hK => ?_
    simp only [go_sem, hl0a, hl0b, hl0d, hl0w]
    refine hK _ _ fun nx => ?_; clear hK K; try clear kk
    by_cases h11 : (YM != (0 : Int)) = true
    ·rw [if_pos h11] at hh
     refine zn (by first | exact congrArg PV.bool h11 | rfl) ?_
     refine zb fun K kk hK => ?_
     simp only [go_sem, hl0a, hl0b, hl0d, hl0w]
     refine hK _ _ fun nx => ?_; clear hK K; try clear kk
     refine zk ?_; refine nmx ?_
     refine yN ⟨_, (Option.some.inj hh), ?_⟩
     exact zz
    ·rw [if_neg h11] at hh
     replace h11 := Bool.eq_false_iff.mpr h11
     refine zi (by first | exact congrArg PV.bool h11 | rfl) ?_
     refine zy ?_; refine nmx ?_
     refine zu fun K kk hK => ?_
     simp only [go_sem, hl0a, hl0b, hl0d, hl0w]
     refine hK _ _ fun nx => ?_; clear hK K; try clear kk
     refine nmx ?_
     have ih' := ih (pre ++ [axd]) (v_7 + 1) _ (by rw [hsplit]; simp) (by simp [hidx]) hh nx
     refine zG ?_
     first | exact ih' _ _ | (simp only [pvE, lsE, zq] at ih' ⊢; exact ih' _ _) | (simp only [pvE, lsE, zq, h11, h9] at ih' ⊢; exact ih' _ _)
  exact key l_2 [] _ _ rfl rfl f0 _ _ _
 ·rintro s ⟨t, hless, alH, rfl, Yc, agN, nx, g2, g4, rfl⟩
  try dsimp only at hh
  refine nmy ?_
  first | (refine wh hless ?_; try refine ku ?_) | refine qD hless ?_ | refine qE hless ?_
  refine zb fun K kk hK => ?_
  simp only [go_sem]
  refine hK _ _ fun nx => ?_; clear hK K; try clear kk
  refine zk ?_; refine nmx ?_
  obtain hR := Option.some.inj hh
  subst hR
  exact zz
 ·intro i s h; exact h.elim
 ·rintro s ⟨JS, rfl, hb⟩
  try dsimp only at hh
  obtain hR := Option.some.inj hh
  subst hR
  refine nmx ?_
  exact hb
theorem alz (n_1 : za) (yK : Int) (YB : Int) (R : ((List za) × Int)) (hh : WW n_1 yK YB = some R) : PC Tryd.prog 45 [.agg [.str n_1.Kind, .str n_1.Text, .list 1 (n_1.Marks.map PV.str), .list 2 (n_1.zh.map ze.pv), .list 5 (n_1.Kids.map za.pv)], .int .i64 yK, .int .i64 YB] (.tup [.list 5 (R.1.map za.pv), .int .i64 R.2]) := by
 rw [WW] at hh
 refine agO rfl ?_
 refine zb fun K kk hK => ?_
 simp only [go_sem]
 refine hK _ _ fun nx => ?_; clear hK K; try clear kk
 obtain ⟨⟨r_4, r_5⟩, h1, hh⟩ := zf hh
 dsimp only at hh
 refine zb fun K kk hK => ?_
 simp only [go_sem]
 refine zg (aaS _ _ _ _ h1) (by (try simp only [go_sem]) <;> exact wkl) (by rfl) (by rfl) ?_
 simp only [go_sem]
 refine hK _ _ fun nx => ?_; clear hK K; try clear kk
 refine zm ?_
 refine zb fun K kk hK => ?_
 simp only [go_sem]
 refine hK _ _ fun nx => ?_; clear hK K; try clear kk
 by_cases h2 : (r_5 != (0 : Int)) = true
 ·rw [if_pos h2] at hh
  refine zn (by first | exact congrArg PV.bool h2 | rfl) ?_
  refine zb fun K kk hK => ?_
  simp only [go_sem]
  refine hK _ _ fun nx => ?_; clear hK K; try clear kk
  refine zk ?_; refine nmx ?_
  obtain hR := Option.some.inj hh
  subst hR
  exact zz
 ·rw [if_neg h2] at hh
  replace h2 := Bool.eq_false_iff.mpr h2
  refine zi (by first | exact congrArg PV.bool h2 | rfl) ?_
  refine zy ?_; refine nmx ?_
  obtain ⟨⟨r_6, r_7, r_8⟩, h3, hh⟩ := zf hh
  dsimp only at hh
  refine zb fun K kk hK => ?_
  simp only [go_sem]
  refine zg (Wm _ _ _ h3) (by (try simp only [go_sem]) <;> exact wkl) (by rfl) (by rfl) ?_
  simp only [go_sem]
  refine hK _ _ fun nx => ?_; clear hK K; try clear kk
  obtain ⟨⟨r_9, VZ, YH⟩, h4, hh⟩ := zf hh
  dsimp only at hh
  refine zb fun K kk hK => ?_
  simp only [go_sem]
  refine zg (Wm _ _ _ h4) (by (try simp only [go_sem]) <;> exact wkl) (by rfl) (by rfl) ?_
  simp only [go_sem]
  refine hK _ _ fun nx => ?_; clear hK K; try clear kk
  refine zb fun K kk hK => ?_
  simp only [go_sem]
  refine hK _ _ fun nx => ?_; clear hK K; try clear kk
  refine zk ?_; refine nmx ?_
  obtain hR := Option.some.inj hh
  subst hR
  exact zz
end Go.Proofs.YtclohbgnaopjfaaDoor
