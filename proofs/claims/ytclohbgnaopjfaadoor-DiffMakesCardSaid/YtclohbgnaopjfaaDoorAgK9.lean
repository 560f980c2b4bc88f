/- Texts of the proof of diffMakesCard -/
import Derived.Test.YtclohbgnaopjfaaDoorAgC
import Derived.Test.YtclohbgnaopjfaaDoorAgF
import Derived.Test.YtclohbgnaopjfaaDoorAgK0
import Derived.Test.YtclohbgnaopjfaaDoorAgK1
import Derived.Test.YtclohbgnaopjfaaDoorAgK2
import Derived.Test.YtclohbgnaopjfaaDoorAgK6
import Derived.Test.YtclohbgnaopjfaaDoorAgK7
import Derived.Test.YtclohbgnaopjfaaDoorAgK8
import Derived.Test.YtclohbgnaopjfaaDoorAgL
import Derived.Test.YtclohbgnaopjfaaDoorAgSl
namespace Go.Proofs.YtclohbgnaopjfaaDoor
set_option linter.unusedSimpArgs false
set_option linter.unusedVariables false
open Go
set_option maxRecDepth 100000
theorem Y3 (l_1 : (List za)) (zQ : Int) (R : ((List za) × (List za) × Int)) (hh : yh l_1 zQ = some R) : PC Tryd.prog 73 [.list 5 (l_1.map za.pv), .int .i64 zQ] (.tup [.list 5 (R.1.map za.pv), .list 5 (R.2.1.map za.pv), .int .i64 R.2.2]) := by
 rw [yh] at hh
 refine acQ rfl ?_
 refine zb fun K kk hK => ?_
 simp only [go_sem]
 refine hK _ _ fun nx => ?_; clear hK K; try clear kk
 refine zm ?_
 by_cases h1 : (decide (zQ < (0 : Int))) = true
 ·rw [if_pos h1] at hh
  refine zb fun K kk hK => ?_
  simp only [go_sem, h1, of_decide_eq_true h1]
  (repeat refine sd ?_)
  refine hK _ _ fun nx => ?_; clear hK K; try clear kk
  refine zn rfl ?_
  refine zb fun K kk hK => ?_
  simp only [go_sem]
  refine hK _ _ fun nx => ?_; clear hK K; try clear kk
  refine zk ?_; refine nmx ?_
  obtain hR := Option.some.inj hh
  subst hR
  exact zz
 ·rw [if_neg h1] at hh
  replace h1 := Bool.eq_false_iff.mpr h1
  obtain ⟨QJ, h2, hh⟩ := zf hh
  refine zb fun K kk hK => ?_
  simp only [go_sem, h1, of_decide_eq_false h1]
  (repeat refine sd ?_)
  refine zg (jM _ _ h2) (by (try simp only [go_sem, h1, of_decide_eq_false h1]) <;> exact wkl) (by rfl) (by rfl) ?_
  simp only [go_sem, h1, of_decide_eq_false h1]
  (repeat refine sd ?_)
  refine hK _ _ fun nx => ?_; clear hK K; try clear kk
  by_cases h3 : (decide (zQ > QJ)) = true
  ·rw [if_pos h3] at hh
   refine zn (by first | exact congrArg PV.bool h3 | rfl) ?_
   refine zb fun K kk hK => ?_
   simp only [go_sem]
   refine hK _ _ fun nx => ?_; clear hK K; try clear kk
   refine zk ?_; refine nmx ?_
   obtain hR := Option.some.inj hh
   subst hR
   exact zz
  ·rw [if_neg h3] at hh
   replace h3 := Bool.eq_false_iff.mpr h3
   refine zi (by first | exact congrArg PV.bool h3 | rfl) ?_
   refine zy ?_; refine nmx ?_
   refine zb fun K kk hK => ?_
   simp only [go_sem]
   refine hK _ _ fun nx => ?_; clear hK K; try clear kk
   refine zm ?_
   obtain ⟨e0, f0, hh⟩ := zf hh
   obtain ⟨hlen0, f0⟩ := qo f0
   refine ZX (fun s => ∃ afw, ∃ ao1, (afw, ao1) = e0 ∧ ∃ (amw : Bool) (nx : Nat), s = ⟨[(0, .list 5 (l_1.map za.pv)), (1, .int .i64 afw), (7, .int .i64 ao1), (32, .bool amw)], [], nx⟩)
    (fun i s => False)
    (fun s => False) ?_ ?_ ?_ ?_
   ·refine zC ?_
    refine qg fun I hI => ?_
    have key : ∀ (suf pre : List za) (i_8 : Int) (ahi : Int), l_1 = pre ++ suf → i_8 = (pre.length : Int) → vZ suf i_8 ahi = some e0 → ∀ (nx : Nat), I ⟨[(0, .list 5 (l_1.map za.pv)), (1, .int .i64 ahi), (7, .int .i64 i_8)], [], nx⟩ := by
     intro suf
     induction suf with
     | nil =>
      intro pre i_8 ahi hsplit hidx hh nx
      rw [vZ] at hh
      refine hI _ ?_
      have h14 := walk_nil hsplit hidx
      refine zm ?_
      refine zb fun K kk hK => ?_
      simp only [go_sem, h14, of_decide_eq_false h14]
      (repeat refine sd ?_)
      refine hK _ _ fun nx => ?_; clear hK K; try clear kk
      refine zi rfl ?_
      refine zU ?_; refine nmx ?_
      refine wJ ?_
      refine zG ?_
      refine ⟨_, _, (Option.some.inj hh), ?_⟩
      first | exact ⟨_, _, rfl⟩ | (simp only [pvE, lsE, zo]; exact ⟨_, _, rfl⟩) | (simp only [pvE, lsE, zo, h1, h14, h3]; exact ⟨_, _, rfl⟩)
     | cons avP suf ih =>
      intro pre i_8 ahi hsplit hidx hh nx
      rw [vZ] at hh
      refine hI _ ?_
      obtain ⟨hl0a, hl0b, hl0d, hl0w, h14⟩ := qZ (f := za.pv) hsplit hidx hlen0
      refine zm ?_
      obtain ⟨akV, h15, hh⟩ := zf hh
      refine zb fun K kk hK => ?_
      simp only [go_sem, h14, of_decide_eq_true h14, hl0a, hl0b, hl0d, hl0w]
      (repeat refine sd ?_)
      refine zg (Wn _ _ h15) (by (try simp only [go_sem, h14, of_decide_eq_true h14, hl0a, hl0b, hl0d, hl0w]) <;> exact wkl) (by rfl) (by rfl) ?_
      simp only [go_sem, h14, of_decide_eq_true h14, hl0a, hl0b, hl0d, hl0w]
      (repeat refine sd ?_)
      refine hK _ _ fun nx => ?_; clear hK K; try clear kk
      by_cases h16 : (decide (ahi ≥ akV)) = true
      ·rw [if_pos h16] at hh
       refine zn (by first | exact congrArg PV.bool h16 | rfl) ?_
       refine zy ?_; refine nmx ?_
       refine zm ?_
       refine zC ?_
       obtain ⟨ap0, h17, hh⟩ := zf hh
       refine zq fun K kk hK => ?_
       simp only [go_sem, hl0a, hl0b, hl0d, hl0w]
       refine zg (Wn _ _ h17) (by (try simp only [go_sem, hl0a, hl0b, hl0d, hl0w]) <;> exact wkl) (by rfl) (by rfl) ?_
       simp only [go_sem, hl0a, hl0b, hl0d, hl0w]
       refine hK _ _ fun nx => ?_; clear hK K; try clear kk
       refine nmx ?_
       refine zq fun K kk hK => ?_
       simp only [go_sem, hl0a, hl0b, hl0d, hl0w]
       refine hK _ _ fun nx => ?_; clear hK K; try clear kk
       refine nmx ?_
       have ih' := ih (pre ++ [avP]) (i_8 + 1) _ (by rw [hsplit]; simp) (by simp [hidx]) hh nx
       refine zG ?_
       first | exact ih' | (simp only [pvE, lsE, zo] at ih' ⊢; exact ih') | (simp only [pvE, lsE, zo, h1, h14, h16, h3] at ih' ⊢; exact ih')
      ·rw [if_neg h16] at hh
       replace h16 := Bool.eq_false_iff.mpr h16
       refine zi (by first | exact congrArg PV.bool h16 | rfl) ?_
       refine zU ?_; refine nmx ?_
       refine wJ ?_
       refine zG ?_
       refine ⟨_, _, (Option.some.inj hh), ?_⟩
       first | exact ⟨_, _, rfl⟩ | (simp only [pvE, lsE, zo]; exact ⟨_, _, rfl⟩) | (simp only [pvE, lsE, zo, h1, h14, h16, h3]; exact ⟨_, _, rfl⟩)
    exact key l_1 [] _ _ rfl rfl f0 _
   ·rintro s ⟨afw, ao1, rfl, amw, nx, rfl⟩
    try dsimp only at hh
    obtain ⟨ax0, h18, hh⟩ := zf hh
    obtain ⟨h18a, h18c⟩ := yL h18
    have h18g := Ju h18a
    have h18d := Jr (f := za.pv) h18c
    try simp only [Int.toNat_natCast, Int.reduceToNat, List.map_cons, List.map_nil, pvE] at h18d
    obtain ⟨alf, h19, hh⟩ := zf hh
    obtain ⟨ayg, h20, hh⟩ := zf hh
    obtain ⟨h20a, h20c⟩ := yL h20
    have h20g := Ju h20a
    have h20d := ale (f := za.pv) h20c
    try simp only [Int.toNat_natCast, Int.reduceToNat, List.map_cons, List.map_nil, pvE] at h20d
    obtain ⟨agP, h21, hh⟩ := zf hh
    refine zb fun K kk hK => ?_
    simp only [go_sem, h18a.1, h18a.2.1, h18a.2.2, h18d, h18g, h20a.1, h20a.2.1, h20a.2.2, h20d, h20g]
    (repeat refine sd ?_)
    refine X9 [] (by decide) (by decide) (vN _ _ h19) (by (try simp only [go_sem, h18a.1, h18a.2.1, h18a.2.2, h18d, h18g, h20a.1, h20a.2.1, h20a.2.2, h20d, h20g, h1, h3]) <;> exact wkb) (by rfl) (by rfl) ?_
    simp only [go_sem, h18a.1, h18a.2.1, h18a.2.2, h18d, h18g, h20a.1, h20a.2.1, h20a.2.2, h20d, h20g]
    (repeat refine sd ?_)
    refine X9 [] (by decide) (by decide) (vN _ _ h21) (by (try simp only [go_sem, h18a.1, h18a.2.1, h18a.2.2, h18d, h18g, h20a.1, h20a.2.1, h20a.2.2, h20d, h20g, h1, h3]) <;> exact wkb) (by rfl) (by rfl) ?_
    simp only [go_sem, h18a.1, h18a.2.1, h18a.2.2, h18d, h18g, h20a.1, h20a.2.1, h20a.2.2, h20d, h20g]
    (repeat refine sd ?_)
    refine hK _ _ fun nx => ?_; clear hK K; try clear kk
    refine zm ?_
    refine zC ?_
    refine zb fun K kk hK => ?_
    simp only [go_sem]
    refine hK _ _ fun nx => ?_; clear hK K; try clear kk
    by_cases h22 : (afw == (0 : Int)) = true
    ·rw [if_pos h22] at hh
     refine zn (by first | exact congrArg PV.bool h22 | rfl) ?_
     refine zb fun K kk hK => ?_
     simp only [go_sem]
     refine hK _ _ fun nx => ?_; clear hK K; try clear kk
     refine zk ?_; refine nmx ?_
     obtain hR := Option.some.inj hh
     subst hR
     exact zz
    ·rw [if_neg h22] at hh
     replace h22 := Bool.eq_false_iff.mpr h22
     refine zi (by first | exact congrArg PV.bool h22 | rfl) ?_
     obtain ⟨aoO, h23, hh⟩ := zf hh
     obtain ⟨h23a, h23b, h23c⟩ := rd_some h23
     have h23d := wR (f := za.pv) h23c
     have h23f := qM (f := za.pv) h23c
     try simp only [Int.toNat_natCast, Int.reduceToNat] at h23d h23f
     refine zb fun K kk hK => ?_
     simp only [go_sem, h23a, h23b, h23d, h23f.1, h23f.2]
     (repeat refine sd ?_)
     refine hK _ _ fun nx => ?_; clear hK K; try clear kk
     by_cases h24 : (!(aoO.Kind == ([116, 101, 120, 116] : Str))) = true
     ·rw [if_pos h24] at hh
      refine zn (by first | exact congrArg PV.bool h24 | rfl) ?_
      refine zb fun K kk hK => ?_
      simp only [go_sem]
      refine hK _ _ fun nx => ?_; clear hK K; try clear kk
      refine zk ?_; refine nmx ?_
      obtain hR := Option.some.inj hh
      subst hR
      exact zz
     ·rw [if_neg h24] at hh
      replace h24 := Bool.eq_false_iff.mpr h24
      refine zi (by first | exact congrArg PV.bool h24 | rfl) ?_
      refine zy ?_; refine nmx ?_
      refine zb fun K kk hK => ?_
      simp only [go_sem, h23a, h23b, h23d, h23f.1, h23f.2]
      (repeat refine sd ?_)
      refine hK _ _ fun nx => ?_; clear hK K; try clear kk
      refine zb fun K kk hK => ?_
      simp only [go_sem, h23a, h23b, h23d, h23f.1, h23f.2]
      (repeat refine sd ?_)
      refine hK _ _ fun nx => ?_; clear hK K; try clear kk
      obtain ⟨axr, h25, hh⟩ := zf hh
      obtain ⟨h25a, h25c⟩ := yL h25
      have h25g := Ju h25a
      have h25d := Jr (f := (PV.int .i32)) h25c
      try simp only [Int.toNat_natCast, Int.reduceToNat, List.map_cons, List.map_nil, pvE] at h25d
      obtain ⟨afv, h26, hh⟩ := zf hh
      obtain ⟨h26a, h26c⟩ := yL h26
      have h26g := Ju h26a
      have h26d := ale (f := (PV.int .i32)) h26c
      try simp only [Int.toNat_natCast, Int.reduceToNat, List.map_cons, List.map_nil, pvE] at h26d
      obtain ⟨axX, h27, hh⟩ := zf hh
      obtain ⟨h27a, h27b, h27c⟩ := rd_some h27
      have h27d := wR (f := za.pv) h27c
      have h27f := qM (f := za.pv) h27c
      try simp only [Int.toNat_natCast, Int.reduceToNat] at h27d h27f
      obtain ⟨axy, h28, hh⟩ := zf hh
      obtain ⟨h28a, h28c⟩ := XV h28
      have h28d := acr (f := za.pv) h28c
      try simp only [Int.toNat_natCast, Int.reduceToNat, List.map_cons, List.map_nil, List.cons_append, List.nil_append, List.singleton_append, pvE] at h28d
      have h28e := aco h28c
      have h27b_h28 := h27b; rw [h28e] at h27b_h28
      have h27f1_h28 := h27f.1; rw [h28e] at h27f1_h28
      have h27a_h28 := h27a; try rw [h28e] at h27a_h28
      have h27d_h28 := h27d; try rw [h28e] at h27d_h28
      try rw [h28e] at h28d
      have h28bw := h28a.2; rw [h28e] at h28bw
      refine zb fun K kk hK => ?_
      simp only [go_sem, h25a.1, h25a.2.1, h25a.2.2, h25d, h25g, h26a.1, h26a.2.1, h26a.2.2, h26d, h26g, h27a, h27b, h27d, h27f.1, h27f.2, h28a.1, h28a.2, h28d, h28e, h27b_h28, h27f1_h28, h27a_h28, h27d_h28, h28bw]
      (repeat refine sd ?_)
      try simp only [go_sem, h25a.1, h25a.2.1, h25a.2.2, h25d, h25g, h26a.1, h26a.2.1, h26a.2.2, h26d, h26g, h27a, h27b, h27d, h27f.1, h27f.2, h28a.1, h28a.2, h28d, h28e, h27b_h28, h27f1_h28, h27a_h28, h27d_h28, h28bw]
      refine hK _ _ fun nx => ?_; clear hK K; try clear kk
      obtain ⟨atE, h29, hh⟩ := zf hh
      obtain ⟨h29a, h29c⟩ := zZ h29
      have h29d := qX (f := za.pv) h29c
      have h29e := qW h29c
      try simp only [List.length_cons, List.length_nil, Nat.zero_add, Nat.reduceAdd] at h29a h29e
      try simp only [h29e] at h29a
      try simp only [List.map_cons, List.map_nil, List.nil_append, List.append_nil, List.cons_append, List.singleton_append, zo, pvE] at h29d
      refine zb fun K kk hK => ?_
      simp only [go_sem, h29a, h29d, h29e]
      (repeat refine sd ?_)
      refine hK _ _ fun nx => ?_; clear hK K; try clear kk
      refine zk ?_; refine nmx ?_
      obtain hR := Option.some.inj hh
      subst hR
      exact zz
   ·intro i s h; exact h.elim
   ·intro s h; exact h.elim
theorem Jf (n : Int) (R : (List za)) (hh : jH n = some R) : PC Tryd.prog 105 [.kR, .int .i64 n] (.own 5 (R.map za.pv)) := by
 rw [jH] at hh
 obtain ⟨⟨h1, h2⟩, hR⟩ := qo hh
 cases hR
 exact asw Tryd.avT ⟨by kernel_rfl, by kernel_rfl⟩ ⟨_, Tryd.func105, by kernel_rfl, by kernel_rfl⟩ ayc rfl n h1 (by simpa using h2)
theorem Jn (kU : (List (List za))) (R : (List za)) (hh : vv kU = some R) : PC Tryd.prog 83 [.list 1 (kU.map (pvL 5 za.pv))] (.own 5 (R.map za.pv)) := by
 rw [vv] at hh
 refine KU rfl ?_
 refine zb fun K kk hK => ?_
 simp only [go_sem]
 refine hK _ _ fun nx => ?_; clear hK K; try clear kk
 refine zb fun K kk hK => ?_
 simp only [go_sem]
 refine hK _ _ fun nx => ?_; clear hK K; try clear kk
 refine zm ?_
 refine zb fun K kk hK => ?_
 simp only [go_sem]
 refine hK _ _ fun nx => ?_; clear hK K; try clear kk
 obtain ⟨e0, f0, hh⟩ := zf hh
 obtain ⟨hlen0, f0⟩ := qo f0
 refine qD (kE (fun s => ∃ ahx, ahx = e0 ∧ ∃ (v_8 : Int) (v_9 : Bool) (nx : Nat), s = ⟨[(0, .list 1 (kU.map (pvL 5 za.pv))), (3, .int .i64 ahx), (9, .list 1 (kU.map (pvL 5 za.pv))), (10, .int .i64 (kU.length : Int)), (11, .int .i64 v_8), (12, .bool v_9)], [], nx⟩))
  (fun i s => False)
  (fun s => False) ?_ ?_ ?_ ?_
 ·refine zC ?_
  refine qg fun I hI => ?_
  have key : ∀ (suf pre : List (List za)) (v_4 : Int) (JH : Int), kU = pre ++ suf → v_4 = (pre.length : Int) → qB suf v_4 JH = some e0 → ∀ (nx : Nat), I ⟨[(0, .list 1 (kU.map (pvL 5 za.pv))), (3, .int .i64 JH), (9, .list 1 (kU.map (pvL 5 za.pv))), (10, .int .i64 (kU.length : Int)), (11, .int .i64 v_4)], [], nx⟩ := by
   intro suf
   induction suf with
   | nil =>
    intro pre v_4 JH hsplit hidx hh nx
    rw [qB] at hh
    refine hI _ ?_
    have h7 := walk_nil hsplit hidx
    refine zb fun K kk hK => ?_
    simp only [go_sem]
    refine hK _ _ fun nx => ?_; clear hK K; try clear kk
    refine zm ?_
    refine zi (by first | exact congrArg PV.bool h7 | rfl) ?_
    refine zU ?_; refine nmx ?_
    refine wJ ?_
    refine zG ?_
    refine ⟨_, (Option.some.inj hh), ?_⟩
    first | exact ⟨_, _, _, rfl⟩ | (simp only [pvE, lsE, zo]; exact ⟨_, _, _, rfl⟩) | (simp only [pvE, lsE, zo, h7]; exact ⟨_, _, _, rfl⟩)
   | cons y_6 suf ih =>
    intro pre v_4 JH hsplit hidx hh nx
    rw [qB] at hh
    refine hI _ ?_
    obtain ⟨hl0a, hl0b, hl0d, hl0w, h7⟩ := qZ (f := (pvL 5 za.pv)) hsplit hidx hlen0
    refine zb fun K kk hK => ?_
    simp only [go_sem]
    refine hK _ _ fun nx => ?_; clear hK K; try clear kk
    refine zm ?_
    refine zn (by first | exact congrArg PV.bool h7 | rfl) ?_
    refine zy ?_; refine nmx ?_
    refine zm ?_
    refine zC ?_
    refine zb fun K kk hK => ?_
    simp only [go_sem, hl0a, hl0b, hl0d, hl0w]
    refine hK _ _ fun nx => ?_; clear hK K; try clear kk
    refine zb fun K kk hK => ?_
    simp only [go_sem, hl0a, hl0b, hl0d, hl0w]
    refine hK _ _ fun nx => ?_; clear hK K; try clear kk
    refine zb fun K kk hK => ?_
    simp only [go_sem, hl0a, hl0b, hl0d, hl0w]
    refine hK _ _ fun nx => ?_; clear hK K; try clear kk
    by_cases h8 : (decide ((w64 (JH + (y_6.length : Int))) < (0 : Int))) = true
    ·rw [if_pos h8] at hh
     refine zn (by first | exact congrArg PV.bool h8 | rfl) ?_
     cases hh
    ·rw [if_neg h8] at hh
     replace h8 := Bool.eq_false_iff.mpr h8
     refine zi (by first | exact congrArg PV.bool h8 | rfl) ?_
     refine zy ?_; refine nmx ?_
     refine zq fun K kk hK => ?_
     simp only [go_sem, hl0a, hl0b, hl0d, hl0w]
     refine hK _ _ fun nx => ?_; clear hK K; try clear kk
     refine nmx ?_
     have ih' := ih (pre ++ [y_6]) (v_4 + 1) _ (by rw [hsplit]; simp) (by simp [hidx]) hh nx
     refine zG ?_
     first | exact ih' | (simp only [pvE, lsE, zo] at ih' ⊢; exact ih') | (simp only [pvE, lsE, zo, h7, h8] at ih' ⊢; exact ih')
  exact key kU [] _ _ rfl rfl f0 _
 ·rintro s ⟨t, hless, ahx, rfl, v_8, v_9, nx, rfl⟩
  try dsimp only at hh
  refine nmy ?_
  first | (refine wB hless ?_; try refine kC ?_) | refine qK hless ?_ | refine qI hless ?_
  obtain ⟨aqG, h9, hh⟩ := zf hh
  refine zb fun K kk hK => ?_
  simp only [go_sem]
  refine zg (Jf _ _ h9) (by (try simp only [go_sem]) <;> exact wkl) (by rfl) (by rfl) ?_
  simp only [go_sem]
  refine hK _ _ fun nx => ?_; clear hK K; try clear kk
  refine zm ?_
  refine zb fun K kk hK => ?_
  simp only [go_sem]
  refine hK _ _ fun nx => ?_; clear hK K; try clear kk
  obtain ⟨e1, f1, hh⟩ := zf hh
  obtain ⟨hlen1, f1⟩ := qo f1
  refine qD (kE (fun s => ∃ Qg, Qg = e1 ∧ ∃ (ax7 : Int) (Je : Bool) (nx : Nat) (g6 : Nat), s = ⟨[(6, .row 6 g6 Qg.length), (25, .list 1 (kU.map (pvL 5 za.pv))), (26, .int .i64 (kU.length : Int)), (27, .int .i64 ax7), (28, .bool Je)], [(6, g6, .row false 5 (Qg.map za.pv))], nx⟩))
   (fun i s => False)
   (fun s => False) ?_ ?_ ?_ ?_
  ·refine zC ?_
   refine qg fun I hI => ?_
   have key : ∀ (suf pre : List (List za)) (JI : Int) (xw : (List za)), kU = pre ++ suf → JI = (pre.length : Int) → qA suf JI xw = some e1 → ∀ (nx : Nat) (g6 : Nat), I ⟨[(6, .row 6 g6 xw.length), (25, .list 1 (kU.map (pvL 5 za.pv))), (26, .int .i64 (kU.length : Int)), (27, .int .i64 JI)], [(6, g6, .row false 5 (xw.map za.pv))], nx⟩ := by
    intro suf
    induction suf with
    | nil =>
     intro pre JI xw hsplit hidx hh nx g6
     rw [qA] at hh
     refine hI _ ?_
     have h16 := walk_nil hsplit hidx
     refine zb fun K kk hK => ?_
     simp only [go_sem]
     refine hK _ _ fun nx => ?_; clear hK K; try clear kk
     refine zm ?_
     refine zi (by first | exact congrArg PV.bool h16 | rfl) ?_
     refine zU ?_; refine nmx ?_
     refine wJ ?_
     refine zG ?_
     refine ⟨_, (Option.some.inj hh), ?_⟩
     first | exact ⟨_, _, _, _, rfl⟩ | (simp only [pvE, lsE, zo]; exact ⟨_, _, _, _, rfl⟩) | (simp only [pvE, lsE, zo, h16]; exact ⟨_, _, _, _, rfl⟩)
    | cons axi suf ih =>
     intro pre JI xw hsplit hidx hh nx g6
     rw [qA] at hh
     refine hI _ ?_
     obtain ⟨hl1a, hl1b, hl1d, hl1w, h16⟩ := qZ (f := (pvL 5 za.pv)) hsplit hidx hlen1
     refine zb fun K kk hK => ?_
     simp only [go_sem]
     refine hK _ _ fun nx => ?_; clear hK K; try clear kk
     refine zm ?_
     refine zn (by first | exact congrArg PV.bool h16 | rfl) ?_
     refine zy ?_; refine nmx ?_
     refine zm ?_
     refine zC ?_
     refine zb fun K kk hK => ?_
     simp only [go_sem, hl1a, hl1b, hl1d, hl1w]
     refine hK _ _ fun nx => ?_; clear hK K; try clear kk
     obtain ⟨auD, h17, hh⟩ := zf hh
     obtain ⟨h17a, h17c⟩ := zZ h17
     have h17d := qX (f := za.pv) h17c
     have h17e := qW h17c
     try simp only [List.length_cons, List.length_nil, Nat.zero_add, Nat.reduceAdd] at h17a h17e
     try simp only [h17e] at h17a
     try simp only [List.map_cons, List.map_nil, List.nil_append, List.append_nil, List.cons_append, List.singleton_append, zo, pvE] at h17d
     refine zq fun K kk hK => ?_
     simp only [go_sem, h17a, h17d, h17e, hl1a, hl1b, hl1d, hl1w]
     (repeat refine sd ?_)
     refine hK _ _ fun nx => ?_; clear hK K; try clear kk
     refine nmx ?_
     refine zq fun K kk hK => ?_
     simp only [go_sem, hl1a, hl1b, hl1d, hl1w]
     refine hK _ _ fun nx => ?_; clear hK K; try clear kk
     refine nmx ?_
     have ih' := ih (pre ++ [axi]) (JI + 1) _ (by rw [hsplit]; simp) (by simp [hidx]) hh nx
     refine zG ?_
     first | exact ih' _ | (simp only [pvE, lsE, zo, h17e] at ih' ⊢; exact ih' _) | (simp only [pvE, lsE, zo, h17e, h16] at ih' ⊢; exact ih' _)
   exact key kU [] _ _ rfl rfl f1 _ _
  ·rintro s ⟨t, hless, Qg, rfl, ax7, Je, nx, g6, rfl⟩
   try dsimp only at hh
   refine nmy ?_
   first | (refine wB hless ?_; try refine kC ?_) | refine qK hless ?_ | refine qI hless ?_
   refine zb fun K kk hK => ?_
   simp only [go_sem]
   refine hK _ _ fun nx => ?_; clear hK K; try clear kk
   refine zk ?_; refine nmx ?_
   obtain hR := Option.some.inj hh
   subst hR
   exact XY (by rfl) (by rfl) (by rfl) (by simp only [List.length_map, List.length_cons, List.length_nil, Nat.zero_add, Nat.reduceAdd]) (by first | rfl | (simp only [pvE, lsE, zo]; done) | (simp only [pvE, lsE, zo]; rfl))
  ·intro i s h; exact h.elim
  ·intro s h; exact h.elim
 ·intro i s h; exact h.elim
 ·intro s h; exact h.elim
theorem alS (n_1 : za) (Kh : Int) (aeC : Int) (l_4 : (List za)) (R : (za × Int)) (hh : y9 n_1 Kh aeC l_4 = some R) : PC Tryd.prog 49 [.agg [.str n_1.Kind, .str n_1.Text, .list 1 (n_1.Marks.map PV.str), .list 2 (n_1.zh.map ze.pv), .list 5 (n_1.Kids.map za.pv)], .int .i64 Kh, .int .i64 aeC, .list 5 (l_4.map za.pv)] (.tup [.agg [.str R.1.Kind, .str R.1.Text, .list 1 (R.1.Marks.map PV.str), .list 2 (R.1.zh.map ze.pv), .list 5 (R.1.Kids.map za.pv)], .int .i64 R.2]) := by
 rw [y9] at hh
 refine agt rfl ?_
 refine zb fun K kk hK => ?_
 simp only [go_sem]
 refine hK _ _ fun nx => ?_; clear hK K; try clear kk
 obtain ⟨⟨r_5, r_6⟩, h1, hh⟩ := zf hh
 dsimp only at hh
 refine zb fun K kk hK => ?_
 simp only [go_sem]
 refine zg (ahW _ _ _ _ h1) (by (try simp only [go_sem]) <;> exact wkl) (by rfl) (by rfl) ?_
 simp only [go_sem]
 refine hK _ _ fun nx => ?_; clear hK K; try clear kk
 refine zm ?_
 by_cases h2 : (r_6 == (2 : Int)) = true
 ·rw [if_pos h2] at hh
  refine zb fun K kk hK => ?_
  simp only [go_sem, h2]
  (repeat refine sd ?_)
  refine hK _ _ fun nx => ?_; clear hK K; try clear kk
  refine zn rfl ?_
  refine zb fun K kk hK => ?_
  simp only [go_sem]
  refine hK _ _ fun nx => ?_; clear hK K; try clear kk
  refine zk ?_; refine nmx ?_
  obtain hR := Option.some.inj hh
  subst hR
  exact zz
 ·rw [if_neg h2] at hh
  replace h2 := Bool.eq_false_iff.mpr h2
  obtain ⟨ahn, h3, hh⟩ := zf hh
  obtain ⟨akT, h4, hh⟩ := zf hh
  refine zb fun K kk hK => ?_
  simp only [go_sem, h2]
  (repeat refine sd ?_)
  refine zg (XN _ _ h3).list (by (try simp only [go_sem, h2]) <;> exact wkl) (by rfl) (by rfl) ?_
  simp only [go_sem, h2]
  (repeat refine sd ?_)
  refine zg (Kk _ _ h4) (by (try simp only [go_sem, h2]) <;> exact wkl) (by rfl) (by rfl) ?_
  simp only [go_sem, h2]
  (repeat refine sd ?_)
  refine hK _ _ fun nx => ?_; clear hK K; try clear kk
  by_cases h5 : (akT == (2 : Int)) = true
  ·rw [if_pos h5] at hh
   refine zn (by first | exact congrArg PV.bool h5 | rfl) ?_
   refine zb fun K kk hK => ?_
   simp only [go_sem]
   refine hK _ _ fun nx => ?_; clear hK K; try clear kk
   refine zk ?_; refine nmx ?_
   obtain hR := Option.some.inj hh
   subst hR
   exact zz
  ·rw [if_neg h5] at hh
   replace h5 := Bool.eq_false_iff.mpr h5
   refine zi (by first | exact congrArg PV.bool h5 | rfl) ?_
   refine zy ?_; refine nmx ?_
   refine zm ?_
   refine zb fun K kk hK => ?_
   simp only [go_sem]
   refine hK _ _ fun nx => ?_; clear hK K; try clear kk
   by_cases h6 : (r_6 != (0 : Int)) = true
   ·rw [if_pos h6] at hh
    refine zn (by first | exact congrArg PV.bool h6 | rfl) ?_
    refine zb fun K kk hK => ?_
    simp only [go_sem]
    refine hK _ _ fun nx => ?_; clear hK K; try clear kk
    refine zk ?_; refine nmx ?_
    obtain hR := Option.some.inj hh
    subst hR
    exact zz
   ·rw [if_neg h6] at hh
    replace h6 := Bool.eq_false_iff.mpr h6
    refine zi (by first | exact congrArg PV.bool h6 | rfl) ?_
    refine zy ?_; refine nmx ?_
    obtain ⟨⟨r_9, J2, ac6⟩, h7, hh⟩ := zf hh
    dsimp only at hh
    refine zb fun K kk hK => ?_
    simp only [go_sem]
    refine zg (Y3 _ _ _ h7) (by (try simp only [go_sem]) <;> exact wkl) (by rfl) (by rfl) ?_
    simp only [go_sem]
    refine hK _ _ fun nx => ?_; clear hK K; try clear kk
    obtain ⟨⟨aeF, aaz, agD⟩, h8, hh⟩ := zf hh
    dsimp only at hh
    refine zb fun K kk hK => ?_
    simp only [go_sem]
    refine zg (Y3 _ _ _ h8) (by (try simp only [go_sem]) <;> exact wkl) (by rfl) (by rfl) ?_
    simp only [go_sem]
    refine hK _ _ fun nx => ?_; clear hK K; try clear kk
    obtain ⟨apU, h9, hh⟩ := zf hh
    obtain ⟨aqy, h10, hh⟩ := zf hh
    refine zb fun K kk hK => ?_
    simp only [go_sem]
    refine zg (Jn _ _ h9).list (by (try simp only [go_sem]) <;> exact wkl) (by rfl) (by rfl) ?_
    simp only [go_sem]
    refine zg (XN _ _ h10).list (by (try simp only [go_sem]) <;> exact wkl) (by rfl) (by rfl) ?_
    simp only [go_sem]
    refine hK _ _ fun nx => ?_; clear hK K; try clear kk
    obtain ⟨⟨aoo, ayH⟩, h11, hh⟩ := zf hh
    dsimp only at hh
    refine zb fun K kk hK => ?_
    simp only [go_sem]
    refine zg (ab6 _ _ _ _ h11) (by (try simp only [go_sem]) <;> exact wkl) (by rfl) (by rfl) ?_
    simp only [go_sem]
    refine hK _ _ fun nx => ?_; clear hK K; try clear kk
    refine zm ?_
    obtain ⟨aem, h12, hh⟩ := zf hh
    refine zb fun K kk hK => ?_
    simp only [go_sem]
    refine zg (Kk _ _ h12) (by (try simp only [go_sem]) <;> exact wkl) (by rfl) (by rfl) ?_
    simp only [go_sem]
    refine hK _ _ fun nx => ?_; clear hK K; try clear kk
    refine zb fun K kk hK => ?_
    simp only [go_sem]
    refine hK _ _ fun nx => ?_; clear hK K; try clear kk
    by_cases h13 : (aem != (0 : Int)) = true
    ·rw [if_pos h13] at hh
     refine zn (by first | exact congrArg PV.bool h13 | rfl) ?_
     refine zb fun K kk hK => ?_
     simp only [go_sem]
     refine hK _ _ fun nx => ?_; clear hK K; try clear kk
     refine zk ?_; refine nmx ?_
     obtain hR := Option.some.inj hh
     subst hR
     exact zz
    ·rw [if_neg h13] at hh
     replace h13 := Bool.eq_false_iff.mpr h13
     refine zi (by first | exact congrArg PV.bool h13 | rfl) ?_
     refine zy ?_; refine nmx ?_
     refine zb fun K kk hK => ?_
     simp only [go_sem]
     refine hK _ _ fun nx => ?_; clear hK K; try clear kk
     refine zk ?_; refine nmx ?_
     obtain hR := Option.some.inj hh
     subst hR
     exact zz
theorem acb (n_1 : za) (s_2 : zt) (R : (za × Int)) (hh : wZ n_1 s_2 = some R) : PC Tryd.prog 17 [.agg [.str n_1.Kind, .str n_1.Text, .list 1 (n_1.Marks.map PV.str), .list 2 (n_1.zh.map ze.pv), .list 5 (n_1.Kids.map za.pv)], .agg [.int .u8 s_2.Kind, .int .i64 s_2.From, .int .i64 s_2.To, .list 5 (s_2.wO.map za.pv), .str s_2.Name, .str s_2.Value]] (.tup [.agg [.str R.1.Kind, .str R.1.Text, .list 1 (R.1.Marks.map PV.str), .list 2 (R.1.zh.map ze.pv), .list 5 (R.1.Kids.map za.pv)], .int .i64 R.2]) := by
 rw [wZ] at hh
 refine afs rfl ?_
 refine zb fun K kk hK => ?_
 simp only [go_sem]
 refine hK _ _ fun nx => ?_; clear hK K; try clear kk
 refine zm ?_
 refine zC ?_
 obtain ⟨XW, h1, hh⟩ := zf hh
 refine zb fun K kk hK => ?_
 simp only [go_sem]
 refine zg (aiX _ _ h1) (by (try simp only [go_sem]) <;> exact wkl) (by rfl) (by rfl) ?_
 simp only [go_sem]
 refine hK _ _ fun nx => ?_; clear hK K; try clear kk
 by_cases h2 : (!XW) = true
 ·rw [if_pos h2] at hh
  refine zn (by first | exact congrArg PV.bool h2 | rfl) ?_
  refine zb fun K kk hK => ?_
  simp only [go_sem]
  refine hK _ _ fun nx => ?_; clear hK K; try clear kk
  refine zk ?_; refine nmx ?_
  obtain hR := Option.some.inj hh
  subst hR
  exact zz
 ·rw [if_neg h2] at hh
  replace h2 := Bool.eq_false_iff.mpr h2
  refine zi (by first | exact congrArg PV.bool h2 | rfl) ?_
  by_cases h3 : (n_1.Kind == ([116, 101, 120, 116] : Str)) = true
  ·rw [if_pos h3] at hh
   refine zb fun K kk hK => ?_
   simp only [go_sem, h3]
   (repeat refine sd ?_)
   refine hK _ _ fun nx => ?_; clear hK K; try clear kk
   refine zn rfl ?_
   refine zb fun K kk hK => ?_
   simp only [go_sem]
   refine hK _ _ fun nx => ?_; clear hK K; try clear kk
   refine zk ?_; refine nmx ?_
   obtain hR := Option.some.inj hh
   subst hR
   exact zz
  ·rw [if_neg h3] at hh
   replace h3 := Bool.eq_false_iff.mpr h3
   obtain ⟨X0, h4, hh⟩ := zf hh
   refine zb fun K kk hK => ?_
   simp only [go_sem, h3]
   (repeat refine sd ?_)
   refine zg (xJ _ _ h4) (by (try simp only [go_sem, h3]) <;> exact wkl) (by rfl) (by rfl) ?_
   simp only [go_sem, h3]
   (repeat refine sd ?_)
   refine hK _ _ fun nx => ?_; clear hK K; try clear kk
   by_cases h5 : (!X0) = true
   ·rw [if_pos h5] at hh
    refine zn (by first | exact congrArg PV.bool h5 | rfl) ?_
    refine zb fun K kk hK => ?_
    simp only [go_sem]
    refine hK _ _ fun nx => ?_; clear hK K; try clear kk
    refine zk ?_; refine nmx ?_
    obtain hR := Option.some.inj hh
    subst hR
    exact zz
   ·rw [if_neg h5] at hh
    replace h5 := Bool.eq_false_iff.mpr h5
    refine zi (by first | exact congrArg PV.bool h5 | rfl) ?_
    refine zb fun K kk hK => ?_
    simp only [go_sem]
    refine hK _ _ fun nx => ?_; clear hK K; try clear kk
    by_cases h6 : (s_2.Kind == (114 : Int)) = true
    ·rw [if_pos h6] at hh
     refine zn (by first | exact congrArg PV.bool h6 | rfl) ?_
     obtain ⟨⟨r_5, r_6⟩, h7, hh⟩ := zf hh
     dsimp only at hh
     refine zb fun K kk hK => ?_
     simp only [go_sem]
     refine zg (alS _ _ _ _ _ h7) (by (try simp only [go_sem]) <;> exact wkl) (by rfl) (by rfl) ?_
     simp only [go_sem]
     refine hK _ _ fun nx => ?_; clear hK K; try clear kk
     refine zk ?_; refine nmx ?_
     obtain hR := Option.some.inj hh
     subst hR
     exact zz
    ·rw [if_neg h6] at hh
     replace h6 := Bool.eq_false_iff.mpr h6
     refine zi (by first | exact congrArg PV.bool h6 | rfl) ?_
     refine zb fun K kk hK => ?_
     simp only [go_sem]
     refine hK _ _ fun nx => ?_; clear hK K; try clear kk
     by_cases h8 : (s_2.Kind == (97 : Int)) = true
     ·rw [if_pos h8] at hh
      refine zn (by first | exact congrArg PV.bool h8 | rfl) ?_
      obtain ⟨⟨r_7, r_8, r_9⟩, h9, hh⟩ := zf hh
      dsimp only at hh
      refine zb fun K kk hK => ?_
      simp only [go_sem]
      refine zg (ane _ _ _ h9) (by (try simp only [go_sem]) <;> exact wkl) (by rfl) (by rfl) ?_
      simp only [go_sem]
      refine hK _ _ fun nx => ?_; clear hK K; try clear kk
      refine zb fun K kk hK => ?_
      simp only [go_sem]
      refine hK _ _ fun nx => ?_; clear hK K; try clear kk
      refine zk ?_; refine nmx ?_
      obtain hR := Option.some.inj hh
      subst hR
      exact zz
     ·rw [if_neg h8] at hh
      replace h8 := Bool.eq_false_iff.mpr h8
      refine zi (by first | exact congrArg PV.bool h8 | rfl) ?_
      refine zy ?_; refine nmx ?_
      obtain ⟨⟨J2, ac6, aeF⟩, h10, hh⟩ := zf hh
      dsimp only at hh
      refine zb fun K kk hK => ?_
      simp only [go_sem]
      refine zg (ai3 _ _ _ h10) (by (try simp only [go_sem]) <;> exact wkl) (by rfl) (by rfl) ?_
      simp only [go_sem]
      refine hK _ _ fun nx => ?_; clear hK K; try clear kk
      refine zb fun K kk hK => ?_
      simp only [go_sem]
      refine hK _ _ fun nx => ?_; clear hK K; try clear kk
      refine zk ?_; refine nmx ?_
      obtain hR := Option.some.inj hh
      subst hR
      exact zz
theorem af6 (n_1 : za) (l_2 : (List zt)) (R : (za × Int)) (hh : VY n_1 l_2 = some R) : PC Tryd.prog 14 [.agg [.str n_1.Kind, .str n_1.Text, .list 1 (n_1.Marks.map PV.str), .list 2 (n_1.zh.map ze.pv), .list 5 (n_1.Kids.map za.pv)], .list 6 (l_2.map zt.pv)] (.tup [.agg [.str R.1.Kind, .str R.1.Text, .list 1 (R.1.Marks.map PV.str), .list 2 (R.1.zh.map ze.pv), .list 5 (R.1.Kids.map za.pv)], .int .i64 R.2]) := by
 rw [VY] at hh
 refine aiy rfl ?_
 refine zb fun K kk hK => ?_
 simp only [go_sem]
 refine hK _ _ fun nx => ?_; clear hK K; try clear kk
 refine zb fun K kk hK => ?_
 simp only [go_sem]
 refine hK _ _ fun nx => ?_; clear hK K; try clear kk
 refine zm ?_
 refine zb fun K kk hK => ?_
 simp only [go_sem]
 refine hK _ _ fun nx => ?_; clear hK K; try clear kk
 obtain ⟨e0, f0, hh⟩ := zf hh
 obtain ⟨hlen0, f0⟩ := qo f0
 refine qD (kE (fun s => ∃ amg, .inr amg = e0 ∧ ∃ (XP : Int) (axS : Bool) (nx : Nat) (g2 : Nat) (g4 : Nat), s = ⟨[(2, .box 2 g2 0), (4, .box 4 g4 0), (9, .list 6 (l_2.map zt.pv)), (10, .int .i64 (l_2.length : Int)), (11, .int .i64 XP), (12, .bool axS)], [(2, g2, .var 28 [.str amg.Kind, .str amg.Text, .list 1 (amg.Marks.map PV.str), .list 2 (amg.zh.map ze.pv), .list 5 (amg.Kids.map za.pv)]), (4, g4, .var 28 [.str ([] : Str), .str ([] : Str), .list 1 ([].map PV.str), .list 2 ([].map ze.pv), .list 5 ([].map za.pv)])], nx⟩))
  (fun i s => False)
  (fun s => ∃ J4, .inl J4 = e0 ∧ zW Tryd.prog [.cell 4 28, .tmp 5] (.tup [.agg [.str J4.1.Kind, .str J4.1.Text, .list 1 (J4.1.Marks.map PV.str), .list 2 (J4.1.zh.map ze.pv), .list 5 (J4.1.Kids.map za.pv)], .int .i64 J4.2]) [] .ret s) ?_ ?_ ?_ ?_
 ·refine zC ?_
  refine qg fun I hI => ?_
  have key : ∀ (suf pre : List zt) (v_7 : Int) (n_6 : za), l_2 = pre ++ suf → v_7 = (pre.length : Int) → yS suf v_7 n_6 = some e0 → ∀ (nx : Nat) (g2 : Nat) (g4 : Nat), I ⟨[(2, .box 2 g2 0), (4, .box 4 g4 0), (9, .list 6 (l_2.map zt.pv)), (10, .int .i64 (l_2.length : Int)), (11, .int .i64 v_7)], [(2, g2, .var 28 [.str n_6.Kind, .str n_6.Text, .list 1 (n_6.Marks.map PV.str), .list 2 (n_6.zh.map ze.pv), .list 5 (n_6.Kids.map za.pv)]), (4, g4, .var 28 [.str ([] : Str), .str ([] : Str), .list 1 ([].map PV.str), .list 2 ([].map ze.pv), .list 5 ([].map za.pv)])], nx⟩ := by
   intro suf
   induction suf with
   | nil =>
    intro pre v_7 n_6 hsplit hidx hh nx g2 g4
    rw [yS] at hh
    refine hI _ ?_
    have h9 := walk_nil hsplit hidx
    refine zb fun K kk hK => ?_
    simp only [go_sem]
    refine hK _ _ fun nx => ?_; clear hK K; try clear kk
    refine zm ?_
    refine zi (by first | exact congrArg PV.bool h9 | rfl) ?_
    refine zU ?_; refine nmx ?_
    refine wJ ?_
    refine zG ?_
    refine ⟨_, (Option.some.inj hh), ?_⟩
    first | exact ⟨_, _, _, _, _, rfl⟩ | (simp only [pvE, lsE, zo]; exact ⟨_, _, _, _, _, rfl⟩) | (simp only [pvE, lsE, zo, h9]; exact ⟨_, _, _, _, _, rfl⟩)
   | cons awS suf ih =>
    intro pre v_7 n_6 hsplit hidx hh nx g2 g4
    rw [yS] at hh
    refine hI _ ?_
    obtain ⟨hl0a, hl0b, hl0d, hl0w, h9⟩ := qZ (f := zt.pv) hsplit hidx hlen0
    refine zb fun K kk hK => ?_
    simp only [go_sem]
    refine hK _ _ fun nx => ?_; clear hK K; try clear kk
    refine zm ?_
    refine zn (by first | exact congrArg PV.bool h9 | rfl) ?_
    refine zy ?_; refine nmx ?_
    refine zm ?_
    refine zC ?_
    refine zb fun K kk hK => ?_
    simp only [go_sem, hl0a, hl0b, hl0d, hl0w]
    refine hK _ _ fun nx => ?_; clear hK K; try clear kk
    obtain ⟨⟨aeF, aaz⟩, h10, hh⟩ := zf hh
    dsimp only at hh
    refine zb fun K kk hK => ?_
    simp only [go_sem, hl0a, hl0b, hl0d, hl0w]
    refine zg (acb _ _ _ h10) (by (try simp only [go_sem, hl0a, hl0b, hl0d, hl0w]) <;> exact wkl) (by rfl) (by rfl) ?_
    simp only [go_sem, hl0a, hl0b, hl0d, hl0w]
    refine hK _ _ fun nx => ?_; clear hK K; try clear kk
    refine zb fun K kk hK => ?_
    simp only [go_sem, hl0a, hl0b, hl0d, hl0w]
    refine hK _ _ fun nx => ?_; clear hK K; try clear kk
    by_cases h11 : (aaz != (0 : Int)) = true
    ·rw [if_pos h11] at hh
     refine zn (by first | exact congrArg PV.bool h11 | rfl) ?_
     refine zb fun K kk hK => ?_
     simp only [go_sem, hl0a, hl0b, hl0d, hl0w]
     refine hK _ _ fun nx => ?_; clear hK K; try clear kk
     refine zk ?_; refine nmx ?_
     refine Qn ⟨_, (Option.some.inj hh), ?_⟩
     exact zz
    ·rw [if_neg h11] at hh
     replace h11 := Bool.eq_false_iff.mpr h11
     refine zi (by first | exact congrArg PV.bool h11 | rfl) ?_
     refine zy ?_; refine nmx ?_
     refine zq fun K kk hK => ?_
     simp only [go_sem, hl0a, hl0b, hl0d, hl0w]
     refine hK _ _ fun nx => ?_; clear hK K; try clear kk
     refine nmx ?_
     have ih' := ih (pre ++ [awS]) (v_7 + 1) _ (by rw [hsplit]; simp) (by simp [hidx]) hh nx
     refine zG ?_
     first | exact ih' _ _ | (simp only [pvE, lsE, zo] at ih' ⊢; exact ih' _ _) | (simp only [pvE, lsE, zo, h11, h9] at ih' ⊢; exact ih' _ _)
  exact key l_2 [] _ _ rfl rfl f0 _ _ _
 ·rintro s ⟨t, hless, amg, rfl, XP, axS, nx, g2, g4, rfl⟩
  try dsimp only at hh
  refine nmy ?_
  first | (refine wB hless ?_; try refine kC ?_) | refine qK hless ?_ | refine qI hless ?_
  refine zb fun K kk hK => ?_
  simp only [go_sem]
  refine hK _ _ fun nx => ?_; clear hK K; try clear kk
  refine zk ?_; refine nmx ?_
  obtain hR := Option.some.inj hh
  subst hR
  exact zz
 ·intro i s h; exact h.elim
 ·rintro s ⟨J4, rfl, hb⟩
  try dsimp only at hh
  obtain hR := Option.some.inj hh
  subst hR
  refine nmx ?_
  exact hb
end Go.Proofs.YtclohbgnaopjfaaDoor
