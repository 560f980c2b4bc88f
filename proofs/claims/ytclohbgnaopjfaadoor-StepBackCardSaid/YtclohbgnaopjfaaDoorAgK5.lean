/- Texts of the proof of stepBackCard -/
import Derived.Test.YtclohbgnaopjfaaDoorAgC
import Derived.Test.YtclohbgnaopjfaaDoorAgF
import Derived.Test.YtclohbgnaopjfaaDoorAgK0
import Derived.Test.YtclohbgnaopjfaaDoorAgK1
import Derived.Test.YtclohbgnaopjfaaDoorAgK2
import Derived.Test.YtclohbgnaopjfaaDoorAgK3
import Derived.Test.YtclohbgnaopjfaaDoorAgK4
import Derived.Test.YtclohbgnaopjfaaDoorAgL
import Derived.Test.YtclohbgnaopjfaaDoorAgSl
namespace Go.Proofs.YtclohbgnaopjfaaDoor
set_option linter.unusedSimpArgs false
set_option linter.unusedVariables false
open Go
set_option maxRecDepth 100000
theorem Qr (l_1 : (List za)) (zO : Int) (R : ((List za) × (List za) × Int)) (hh : jB l_1 zO = some R) : PC Tryd.prog 73 [.list 5 (l_1.map za.pv), .int .i64 zO] (.tup [.list 5 (R.1.map za.pv), .list 5 (R.2.1.map za.pv), .int .i64 R.2.2]) := by
 rw [jB] at hh
 refine acu rfl ?_
 refine zb fun K kk hK => ?_
 simp only [go_sem]
 refine hK _ _ fun nx => ?_; clear hK K; try clear kk
 refine zm ?_
 by_cases h1 : (decide (zO < (0 : Int))) = true
 ·rw [if_pos h1] at hh
  refine zb fun K kk hK => ?_
  simp only [go_sem, h1, of_decide_eq_true h1]
  (repeat refine sd ?_)
  refine hK _ _ fun nx => ?_; clear hK K; try clear kk
  refine zn rfl ?_
  refine zb fun K kk hK => ?_
  simp only [go_sem]
  refine hK _ _ fun nx => ?_; clear hK K; try clear kk
  refine zi ?_; refine nmx ?_
  obtain hR := Option.some.inj hh
  subst hR
  exact zy
 ·rw [if_neg h1] at hh
  replace h1 := Bool.eq_false_iff.mpr h1
  obtain ⟨Qx, h2, hh⟩ := zf hh
  refine zb fun K kk hK => ?_
  simp only [go_sem, h1, of_decide_eq_false h1]
  (repeat refine sd ?_)
  refine ze (xw _ _ h2) (by (try simp only [go_sem, h1, of_decide_eq_false h1]) <;> exact wkl) (by rfl) (by rfl) ?_
  simp only [go_sem, h1, of_decide_eq_false h1]
  (repeat refine sd ?_)
  refine hK _ _ fun nx => ?_; clear hK K; try clear kk
  by_cases h3 : (decide (zO > Qx)) = true
  ·rw [if_pos h3] at hh
   refine zn (by first | exact congrArg PV.bool h3 | rfl) ?_
   refine zb fun K kk hK => ?_
   simp only [go_sem]
   refine hK _ _ fun nx => ?_; clear hK K; try clear kk
   refine zi ?_; refine nmx ?_
   obtain hR := Option.some.inj hh
   subst hR
   exact zy
  ·rw [if_neg h3] at hh
   replace h3 := Bool.eq_false_iff.mpr h3
   refine zh (by first | exact congrArg PV.bool h3 | rfl) ?_
   refine zx ?_; refine nmx ?_
   refine zb fun K kk hK => ?_
   simp only [go_sem]
   refine hK _ _ fun nx => ?_; clear hK K; try clear kk
   refine zm ?_
   obtain ⟨e0, f0, hh⟩ := zf hh
   obtain ⟨hlen0, f0⟩ := z8 f0
   refine VI (fun s => ∃ afQ, ∃ anH, (afQ, anH) = e0 ∧ ∃ (amt : Bool) (nx : Nat), s = ⟨[(0, .list 5 (l_1.map za.pv)), (1, .int .i64 afQ), (7, .int .i64 anH), (32, .bool amt)], [], nx⟩)
    (fun i s => False)
    (fun s => False) ?_ ?_ ?_ ?_
   ·refine zC ?_
    refine qh fun I hI => ?_
    have key : ∀ (suf pre : List za) (i_8 : Int) (ahG : Int), l_1 = pre ++ suf → i_8 = (pre.length : Int) → vP suf i_8 ahG = some e0 → ∀ (nx : Nat), I ⟨[(0, .list 5 (l_1.map za.pv)), (1, .int .i64 ahG), (7, .int .i64 i_8)], [], nx⟩ := by
     intro suf
     induction suf with
     | nil =>
      intro pre i_8 ahG hsplit hidx hh nx
      rw [vP] at hh
      refine hI _ ?_
      have h14 := walk_nil hsplit hidx
      refine zm ?_
      refine zb fun K kk hK => ?_
      simp only [go_sem, h14, of_decide_eq_false h14]
      (repeat refine sd ?_)
      refine hK _ _ fun nx => ?_; clear hK K; try clear kk
      refine zh rfl ?_
      refine zZ ?_; refine nmx ?_
      refine kN ?_
      refine zJ ?_
      refine ⟨_, _, (Option.some.inj hh), ?_⟩
      first | exact ⟨_, _, rfl⟩ | (simp only [pvE, lsE, zq]; exact ⟨_, _, rfl⟩) | (simp only [pvE, lsE, zq, h1, h14, h3]; exact ⟨_, _, rfl⟩)
     | cons alU suf ih =>
      intro pre i_8 ahG hsplit hidx hh nx
      rw [vP] at hh
      refine hI _ ?_
      obtain ⟨hl0a, hl0b, hl0d, hl0w, h14⟩ := qI (f := za.pv) hsplit hidx hlen0
      refine zm ?_
      obtain ⟨alI, h15, hh⟩ := zf hh
      refine zb fun K kk hK => ?_
      simp only [go_sem, h14, of_decide_eq_true h14, hl0a, hl0b, hl0d, hl0w]
      (repeat refine sd ?_)
      refine ze (ky _ _ h15) (by (try simp only [go_sem, h14, of_decide_eq_true h14, hl0a, hl0b, hl0d, hl0w]) <;> exact wkl) (by rfl) (by rfl) ?_
      simp only [go_sem, h14, of_decide_eq_true h14, hl0a, hl0b, hl0d, hl0w]
      (repeat refine sd ?_)
      refine hK _ _ fun nx => ?_; clear hK K; try clear kk
      by_cases h16 : (decide (ahG ≥ alI)) = true
      ·rw [if_pos h16] at hh
       refine zn (by first | exact congrArg PV.bool h16 | rfl) ?_
       refine zx ?_; refine nmx ?_
       refine zm ?_
       refine zC ?_
       obtain ⟨apl, h17, hh⟩ := zf hh
       refine zu fun K kk hK => ?_
       simp only [go_sem, hl0a, hl0b, hl0d, hl0w]
       refine ze (ky _ _ h17) (by (try simp only [go_sem, hl0a, hl0b, hl0d, hl0w]) <;> exact wkl) (by rfl) (by rfl) ?_
       simp only [go_sem, hl0a, hl0b, hl0d, hl0w]
       refine hK _ _ fun nx => ?_; clear hK K; try clear kk
       refine nmx ?_
       refine zu fun K kk hK => ?_
       simp only [go_sem, hl0a, hl0b, hl0d, hl0w]
       refine hK _ _ fun nx => ?_; clear hK K; try clear kk
       refine nmx ?_
       have ih' := ih (pre ++ [alU]) (i_8 + 1) _ (by rw [hsplit]; simp) (by simp [hidx]) hh nx
       refine zJ ?_
       first | exact ih' | (simp only [pvE, lsE, zq] at ih' ⊢; exact ih') | (simp only [pvE, lsE, zq, h1, h14, h16, h3] at ih' ⊢; exact ih')
      ·rw [if_neg h16] at hh
       replace h16 := Bool.eq_false_iff.mpr h16
       refine zh (by first | exact congrArg PV.bool h16 | rfl) ?_
       refine zZ ?_; refine nmx ?_
       refine kN ?_
       refine zJ ?_
       refine ⟨_, _, (Option.some.inj hh), ?_⟩
       first | exact ⟨_, _, rfl⟩ | (simp only [pvE, lsE, zq]; exact ⟨_, _, rfl⟩) | (simp only [pvE, lsE, zq, h1, h14, h16, h3]; exact ⟨_, _, rfl⟩)
    exact key l_1 [] _ _ rfl rfl f0 _
   ·rintro s ⟨afQ, anH, rfl, amt, nx, rfl⟩
    try dsimp only at hh
    obtain ⟨axe, h18, hh⟩ := zf hh
    obtain ⟨h18a, h18c⟩ := WS h18
    have h18g := aa9 h18a
    have h18d := aaw (f := za.pv) h18c
    try simp only [Int.toNat_natCast, Int.reduceToNat, List.map_cons, List.map_nil, pvE] at h18d
    obtain ⟨akC, h19, hh⟩ := zf hh
    obtain ⟨anu, h20, hh⟩ := zf hh
    obtain ⟨h20a, h20c⟩ := WS h20
    have h20g := aa9 h20a
    have h20d := ak5 (f := za.pv) h20c
    try simp only [Int.toNat_natCast, Int.reduceToNat, List.map_cons, List.map_nil, pvE] at h20d
    obtain ⟨agB, h21, hh⟩ := zf hh
    refine zb fun K kk hK => ?_
    simp only [go_sem, h18a.1, h18a.2.1, h18a.2.2, h18d, h18g, h20a.1, h20a.2.1, h20a.2.2, h20d, h20g]
    (repeat refine sd ?_)
    refine ace [] (by decide) (by decide) (xu _ _ h19) (by (try simp only [go_sem, h18a.1, h18a.2.1, h18a.2.2, h18d, h18g, h20a.1, h20a.2.1, h20a.2.2, h20d, h20g, h1, h3]) <;> exact wkb) (by rfl) (by rfl) ?_
    simp only [go_sem, h18a.1, h18a.2.1, h18a.2.2, h18d, h18g, h20a.1, h20a.2.1, h20a.2.2, h20d, h20g]
    (repeat refine sd ?_)
    refine ace [] (by decide) (by decide) (xu _ _ h21) (by (try simp only [go_sem, h18a.1, h18a.2.1, h18a.2.2, h18d, h18g, h20a.1, h20a.2.1, h20a.2.2, h20d, h20g, h1, h3]) <;> exact wkb) (by rfl) (by rfl) ?_
    simp only [go_sem, h18a.1, h18a.2.1, h18a.2.2, h18d, h18g, h20a.1, h20a.2.1, h20a.2.2, h20d, h20g]
    (repeat refine sd ?_)
    refine hK _ _ fun nx => ?_; clear hK K; try clear kk
    refine zm ?_
    refine zC ?_
    refine zb fun K kk hK => ?_
    simp only [go_sem]
    refine hK _ _ fun nx => ?_; clear hK K; try clear kk
    by_cases h22 : (afQ == (0 : Int)) = true
    ·rw [if_pos h22] at hh
     refine zn (by first | exact congrArg PV.bool h22 | rfl) ?_
     refine zb fun K kk hK => ?_
     simp only [go_sem]
     refine hK _ _ fun nx => ?_; clear hK K; try clear kk
     refine zi ?_; refine nmx ?_
     obtain hR := Option.some.inj hh
     subst hR
     exact zy
    ·rw [if_neg h22] at hh
     replace h22 := Bool.eq_false_iff.mpr h22
     refine zh (by first | exact congrArg PV.bool h22 | rfl) ?_
     obtain ⟨aiO, h23, hh⟩ := zf hh
     obtain ⟨h23a, h23b, h23c⟩ := rd_some h23
     have h23d := vz (f := za.pv) h23c
     have h23f := wX (f := za.pv) h23c
     try simp only [Int.toNat_natCast, Int.reduceToNat] at h23d h23f
     refine zb fun K kk hK => ?_
     simp only [go_sem, h23a, h23b, h23d, h23f.1, h23f.2]
     (repeat refine sd ?_)
     refine hK _ _ fun nx => ?_; clear hK K; try clear kk
     by_cases h24 : (!(aiO.Kind == ([116, 101, 120, 116] : Str))) = true
     ·rw [if_pos h24] at hh
      refine zn (by first | exact congrArg PV.bool h24 | rfl) ?_
      refine zb fun K kk hK => ?_
      simp only [go_sem]
      refine hK _ _ fun nx => ?_; clear hK K; try clear kk
      refine zi ?_; refine nmx ?_
      obtain hR := Option.some.inj hh
      subst hR
      exact zy
     ·rw [if_neg h24] at hh
      replace h24 := Bool.eq_false_iff.mpr h24
      refine zh (by first | exact congrArg PV.bool h24 | rfl) ?_
      refine zx ?_; refine nmx ?_
      refine zb fun K kk hK => ?_
      simp only [go_sem, h23a, h23b, h23d, h23f.1, h23f.2]
      (repeat refine sd ?_)
      refine hK _ _ fun nx => ?_; clear hK K; try clear kk
      refine zb fun K kk hK => ?_
      simp only [go_sem, h23a, h23b, h23d, h23f.1, h23f.2]
      (repeat refine sd ?_)
      refine hK _ _ fun nx => ?_; clear hK K; try clear kk
      obtain ⟨awM, h25, hh⟩ := zf hh
      obtain ⟨h25a, h25c⟩ := WS h25
      have h25g := aa9 h25a
      have h25d := aaw (f := (PV.int .i32)) h25c
      try simp only [Int.toNat_natCast, Int.reduceToNat, List.map_cons, List.map_nil, pvE] at h25d
      obtain ⟨awD, h26, hh⟩ := zf hh
      obtain ⟨h26a, h26c⟩ := WS h26
      have h26g := aa9 h26a
      have h26d := ak5 (f := (PV.int .i32)) h26c
      try simp only [Int.toNat_natCast, Int.reduceToNat, List.map_cons, List.map_nil, pvE] at h26d
      obtain ⟨aw5, h27, hh⟩ := zf hh
      obtain ⟨h27a, h27b, h27c⟩ := rd_some h27
      have h27d := vz (f := za.pv) h27c
      have h27f := wX (f := za.pv) h27c
      try simp only [Int.toNat_natCast, Int.reduceToNat] at h27d h27f
      obtain ⟨axf, h28, hh⟩ := zf hh
      obtain ⟨h28a, h28c⟩ := aas h28
      have h28d := aeJ (f := za.pv) h28c
      try simp only [Int.toNat_natCast, Int.reduceToNat, List.map_cons, List.map_nil, List.cons_append, List.nil_append, List.singleton_append, pvE] at h28d
      have h28e := aeZ h28c
      have h27b_h28 := h27b; rw [h28e] at h27b_h28
      have h27f1_h28 := h27f.1; rw [h28e] at h27f1_h28
      have h27a_h28 := h27a; try rw [h28e] at h27a_h28
      have h27d_h28 := h27d; try rw [h28e] at h27d_h28
      try rw [h28e] at h28d
      have h28bw := h28a.2; rw [h28e] at h28bw
      refine zb fun K kk hK => ?_
      simp only [go_sem, h25a.1, h25a.2.1, h25a.2.2, h25d, h25g, h26a.1, h26a.2.1, h26a.2.2, h26d, h26g, h27a, h27b, h27d, h27f.1, h27f.2, h28a.1, h28a.2, h28d, h28e, h27b_h28, h27f1_h28, h27a_h28, h27d_h28, h28bw]
      (repeat refine sd ?_)
      try simp only [go_sem, h25a.1, h25a.2.1, h25a.2.2, h25d, h25g, h26a.1, h26a.2.1, h26a.2.2, h26d, h26g, h27a, h27b, h27d, h27f.1, h27f.2, h28a.1, h28a.2, h28d, h28e, h27b_h28, h27f1_h28, h27a_h28, h27d_h28, h28bw]
      refine hK _ _ fun nx => ?_; clear hK K; try clear kk
      obtain ⟨aw7, h29, hh⟩ := zf hh
      obtain ⟨h29a, h29c⟩ := zX h29
      have h29d := qP (f := za.pv) h29c
      have h29e := qQ h29c
      try simp only [List.length_cons, List.length_nil, Nat.zero_add, Nat.reduceAdd] at h29a h29e
      try simp only [h29e] at h29a
      try simp only [List.map_cons, List.map_nil, List.nil_append, List.append_nil, List.cons_append, List.singleton_append, zq, pvE] at h29d
      refine zb fun K kk hK => ?_
      simp only [go_sem, h29a, h29d, h29e]
      (repeat refine sd ?_)
      refine hK _ _ fun nx => ?_; clear hK K; try clear kk
      refine zi ?_; refine nmx ?_
      obtain hR := Option.some.inj hh
      subst hR
      exact zy
   ·intro i s h; exact h.elim
   ·intro s h; exact h.elim
theorem VT (n : Int) (R : (List za)) (hh : jv n = some R) : PC Tryd.prog 105 [.kX, .int .i64 n] (.own 5 (R.map za.pv)) := by
 rw [jv] at hh
 obtain ⟨⟨h1, h2⟩, hR⟩ := z8 hh
 cases hR
 exact asn Tryd.auh ⟨by kernel_rfl, by kernel_rfl⟩ ⟨_, Tryd.func105, by kernel_rfl, by kernel_rfl⟩ aw2 rfl n h1 (by simpa using h2)
theorem VU (kS : (List (List za))) (R : (List za)) (hh : kZ kS = some R) : PC Tryd.prog 83 [.list 1 (kS.map (pvL 5 za.pv))] (.own 5 (R.map za.pv)) := by
 rw [kZ] at hh
 refine Kt rfl ?_
 refine zb fun K kk hK => ?_
 simp only [go_sem]
 refine hK _ _ fun nx => ?_; clear hK K; try clear kk
 refine zb fun K kk hK => ?_
 simp only [go_sem]
 refine hK _ _ fun nx => ?_; clear hK K; try clear kk
 refine zm ?_
 refine zb fun K kk hK => ?_
 simp only [go_sem]
 refine hK _ _ fun nx => ?_; clear hK K; try clear kk
 obtain ⟨e0, f0, hh⟩ := zf hh
 obtain ⟨hlen0, f0⟩ := z8 f0
 refine qz (kv (fun s => ∃ ait, ait = e0 ∧ ∃ (v_8 : Int) (v_9 : Bool) (nx : Nat), s = ⟨[(0, .list 1 (kS.map (pvL 5 za.pv))), (3, .int .i64 ait), (9, .list 1 (kS.map (pvL 5 za.pv))), (10, .int .i64 (kS.length : Int)), (11, .int .i64 v_8), (12, .bool v_9)], [], nx⟩))
  (fun i s => False)
  (fun s => False) ?_ ?_ ?_ ?_
 ·refine zC ?_
  refine qh fun I hI => ?_
  have key : ∀ (suf pre : List (List za)) (v_4 : Int) (Jy : Int), kS = pre ++ suf → v_4 = (pre.length : Int) → qo suf v_4 Jy = some e0 → ∀ (nx : Nat), I ⟨[(0, .list 1 (kS.map (pvL 5 za.pv))), (3, .int .i64 Jy), (9, .list 1 (kS.map (pvL 5 za.pv))), (10, .int .i64 (kS.length : Int)), (11, .int .i64 v_4)], [], nx⟩ := by
   intro suf
   induction suf with
   | nil =>
    intro pre v_4 Jy hsplit hidx hh nx
    rw [qo] at hh
    refine hI _ ?_
    have h7 := walk_nil hsplit hidx
    refine zb fun K kk hK => ?_
    simp only [go_sem]
    refine hK _ _ fun nx => ?_; clear hK K; try clear kk
    refine zm ?_
    refine zh (by first | exact congrArg PV.bool h7 | rfl) ?_
    refine zZ ?_; refine nmx ?_
    refine kN ?_
    refine zJ ?_
    refine ⟨_, (Option.some.inj hh), ?_⟩
    first | exact ⟨_, _, _, rfl⟩ | (simp only [pvE, lsE, zq]; exact ⟨_, _, _, rfl⟩) | (simp only [pvE, lsE, zq, h7]; exact ⟨_, _, _, rfl⟩)
   | cons y_6 suf ih =>
    intro pre v_4 Jy hsplit hidx hh nx
    rw [qo] at hh
    refine hI _ ?_
    obtain ⟨hl0a, hl0b, hl0d, hl0w, h7⟩ := qI (f := (pvL 5 za.pv)) hsplit hidx hlen0
    refine zb fun K kk hK => ?_
    simp only [go_sem]
    refine hK _ _ fun nx => ?_; clear hK K; try clear kk
    refine zm ?_
    refine zn (by first | exact congrArg PV.bool h7 | rfl) ?_
    refine zx ?_; refine nmx ?_
    refine zm ?_
    refine zC ?_
    refine zb fun K kk hK => ?_
    simp only [go_sem, hl0a, hl0b, hl0d, hl0w]
    refine hK _ _ fun nx => ?_; clear hK K; try clear kk
    refine zb fun K kk hK => ?_
    simp only [go_sem, hl0a, hl0b, hl0d, hl0w]
    refine hK _ _ fun nx => ?_; clear hK K; try clear kk
    refine zb fun K kk hK => ?_
    simp only [go_sem, hl0a, hl0b, hl0d, hl0w]
    refine hK _ _ fun nx => ?_; clear hK K; try clear kk
    by_cases h8 : (decide ((w64 (Jy + (y_6.length : Int))) < (0 : Int))) = true
    ·rw [if_pos h8] at hh
     refine zn (by first | exact congrArg PV.bool h8 | rfl) ?_
     cases hh
    ·rw [if_neg h8] at hh
     replace h8 := Bool.eq_false_iff.mpr h8
     refine zh (by first | exact congrArg PV.bool h8 | rfl) ?_
     refine zx ?_; refine nmx ?_
     refine zu fun K kk hK => ?_
     simp only [go_sem, hl0a, hl0b, hl0d, hl0w]
     refine hK _ _ fun nx => ?_; clear hK K; try clear kk
     refine nmx ?_
     have ih' := ih (pre ++ [y_6]) (v_4 + 1) _ (by rw [hsplit]; simp) (by simp [hidx]) hh nx
     refine zJ ?_
     first | exact ih' | (simp only [pvE, lsE, zq] at ih' ⊢; exact ih') | (simp only [pvE, lsE, zq, h7, h8] at ih' ⊢; exact ih')
  exact key kS [] _ _ rfl rfl f0 _
 ·rintro s ⟨t, hless, ait, rfl, v_8, v_9, nx, rfl⟩
  try dsimp only at hh
  refine nmy ?_
  first | (refine wm hless ?_; try refine kz ?_) | refine qH hless ?_ | refine qG hless ?_
  obtain ⟨apk, h9, hh⟩ := zf hh
  refine zb fun K kk hK => ?_
  simp only [go_sem]
  refine ze (VT _ _ h9) (by (try simp only [go_sem]) <;> exact wkl) (by rfl) (by rfl) ?_
  simp only [go_sem]
  refine hK _ _ fun nx => ?_; clear hK K; try clear kk
  refine zm ?_
  refine zb fun K kk hK => ?_
  simp only [go_sem]
  refine hK _ _ fun nx => ?_; clear hK K; try clear kk
  obtain ⟨e1, f1, hh⟩ := zf hh
  obtain ⟨hlen1, f1⟩ := z8 f1
  refine qz (kv (fun s => ∃ Qb, Qb = e1 ∧ ∃ (arY : Int) (asX : Bool) (nx : Nat) (g6 : Nat), s = ⟨[(6, .row 6 g6 Qb.length), (25, .list 1 (kS.map (pvL 5 za.pv))), (26, .int .i64 (kS.length : Int)), (27, .int .i64 arY), (28, .bool asX)], [(6, g6, .row false 5 (Qb.map za.pv))], nx⟩))
   (fun i s => False)
   (fun s => False) ?_ ?_ ?_ ?_
  ·refine zC ?_
   refine qh fun I hI => ?_
   have key : ∀ (suf pre : List (List za)) (Yh : Int) (xe : (List za)), kS = pre ++ suf → Yh = (pre.length : Int) → qj suf Yh xe = some e1 → ∀ (nx : Nat) (g6 : Nat), I ⟨[(6, .row 6 g6 xe.length), (25, .list 1 (kS.map (pvL 5 za.pv))), (26, .int .i64 (kS.length : Int)), (27, .int .i64 Yh)], [(6, g6, .row false 5 (xe.map za.pv))], nx⟩ := by
    intro suf
    induction suf with
    | nil =>
     intro pre Yh xe hsplit hidx hh nx g6
     rw [qj] at hh
     refine hI _ ?_
     have h16 := walk_nil hsplit hidx
     refine zb fun K kk hK => ?_
     simp only [go_sem]
     refine hK _ _ fun nx => ?_; clear hK K; try clear kk
     refine zm ?_
     refine zh (by first | exact congrArg PV.bool h16 | rfl) ?_
     refine zZ ?_; refine nmx ?_
     refine kN ?_
     refine zJ ?_
     refine ⟨_, (Option.some.inj hh), ?_⟩
     first | exact ⟨_, _, _, _, rfl⟩ | (simp only [pvE, lsE, zq]; exact ⟨_, _, _, _, rfl⟩) | (simp only [pvE, lsE, zq, h16]; exact ⟨_, _, _, _, rfl⟩)
    | cons avJ suf ih =>
     intro pre Yh xe hsplit hidx hh nx g6
     rw [qj] at hh
     refine hI _ ?_
     obtain ⟨hl1a, hl1b, hl1d, hl1w, h16⟩ := qI (f := (pvL 5 za.pv)) hsplit hidx hlen1
     refine zb fun K kk hK => ?_
     simp only [go_sem]
     refine hK _ _ fun nx => ?_; clear hK K; try clear kk
     refine zm ?_
     refine zn (by first | exact congrArg PV.bool h16 | rfl) ?_
     refine zx ?_; refine nmx ?_
     refine zm ?_
     refine zC ?_
     refine zb fun K kk hK => ?_
     simp only [go_sem, hl1a, hl1b, hl1d, hl1w]
     refine hK _ _ fun nx => ?_; clear hK K; try clear kk
     obtain ⟨asT, h17, hh⟩ := zf hh
     obtain ⟨h17a, h17c⟩ := zX h17
     have h17d := qP (f := za.pv) h17c
     have h17e := qQ h17c
     try simp only [List.length_cons, List.length_nil, Nat.zero_add, Nat.reduceAdd] at h17a h17e
     try simp only [h17e] at h17a
     try simp only [List.map_cons, List.map_nil, List.nil_append, List.append_nil, List.cons_append, List.singleton_append, zq, pvE] at h17d
     refine zu fun K kk hK => ?_
     simp only [go_sem, h17a, h17d, h17e, hl1a, hl1b, hl1d, hl1w]
     (repeat refine sd ?_)
     refine hK _ _ fun nx => ?_; clear hK K; try clear kk
     refine nmx ?_
     refine zu fun K kk hK => ?_
     simp only [go_sem, hl1a, hl1b, hl1d, hl1w]
     refine hK _ _ fun nx => ?_; clear hK K; try clear kk
     refine nmx ?_
     have ih' := ih (pre ++ [avJ]) (Yh + 1) _ (by rw [hsplit]; simp) (by simp [hidx]) hh nx
     refine zJ ?_
     first | exact ih' _ | (simp only [pvE, lsE, zq, h17e] at ih' ⊢; exact ih' _) | (simp only [pvE, lsE, zq, h17e, h16] at ih' ⊢; exact ih' _)
   exact key kS [] _ _ rfl rfl f1 _ _
  ·rintro s ⟨t, hless, Qb, rfl, arY, asX, nx, g6, rfl⟩
   try dsimp only at hh
   refine nmy ?_
   first | (refine wm hless ?_; try refine kz ?_) | refine qH hless ?_ | refine qG hless ?_
   refine zb fun K kk hK => ?_
   simp only [go_sem]
   refine hK _ _ fun nx => ?_; clear hK K; try clear kk
   refine zi ?_; refine nmx ?_
   obtain hR := Option.some.inj hh
   subst hR
   exact aaF (by rfl) (by rfl) (by rfl) (by simp only [List.length_map, List.length_cons, List.length_nil, Nat.zero_add, Nat.reduceAdd]) (by first | rfl | (simp only [pvE, lsE, zq]; done) | (simp only [pvE, lsE, zq]; rfl))
  ·intro i s h; exact h.elim
  ·intro s h; exact h.elim
 ·intro i s h; exact h.elim
 ·intro s h; exact h.elim
theorem akN (n_1 : za) (ym : Int) (Yi : Int) (l_4 : (List za)) (R : (za × Int)) (hh : yQ n_1 ym Yi l_4 = some R) : PC Tryd.prog 49 [.agg [.str n_1.Kind, .str n_1.Text, .list 1 (n_1.Marks.map PV.str), .list 2 (n_1.zo.map zg.pv), .list 5 (n_1.Kids.map za.pv)], .int .i64 ym, .int .i64 Yi, .list 5 (l_4.map za.pv)] (.tup [.agg [.str R.1.Kind, .str R.1.Text, .list 1 (R.1.Marks.map PV.str), .list 2 (R.1.zo.map zg.pv), .list 5 (R.1.Kids.map za.pv)], .int .i64 R.2]) := by
 rw [yQ] at hh
 refine agd rfl ?_
 refine zb fun K kk hK => ?_
 simp only [go_sem]
 refine hK _ _ fun nx => ?_; clear hK K; try clear kk
 obtain ⟨⟨r_5, r_6⟩, h1, hh⟩ := zf hh
 dsimp only at hh
 refine zb fun K kk hK => ?_
 simp only [go_sem]
 refine ze (YC _ _ _ _ h1) (by (try simp only [go_sem]) <;> exact wkl) (by rfl) (by rfl) ?_
 simp only [go_sem]
 refine hK _ _ fun nx => ?_; clear hK K; try clear kk
 refine zm ?_
 by_cases h2 : (r_6 == (2 : Int)) = true
 ·rw [if_pos h2] at hh
  refine zb fun K kk hK => ?_
  simp only [go_sem, h2]
  (repeat refine sd ?_)
  refine hK _ _ fun nx => ?_; clear hK K; try clear kk
  refine zn rfl ?_
  refine zb fun K kk hK => ?_
  simp only [go_sem]
  refine hK _ _ fun nx => ?_; clear hK K; try clear kk
  refine zi ?_; refine nmx ?_
  obtain hR := Option.some.inj hh
  subst hR
  exact zy
 ·rw [if_neg h2] at hh
  replace h2 := Bool.eq_false_iff.mpr h2
  obtain ⟨agP, h3, hh⟩ := zf hh
  obtain ⟨alc, h4, hh⟩ := zf hh
  refine zb fun K kk hK => ?_
  simp only [go_sem, h2]
  (repeat refine sd ?_)
  refine ze (XU _ _ h3).list (by (try simp only [go_sem, h2]) <;> exact wkl) (by rfl) (by rfl) ?_
  simp only [go_sem, h2]
  (repeat refine sd ?_)
  refine ze (WH _ _ h4) (by (try simp only [go_sem, h2]) <;> exact wkl) (by rfl) (by rfl) ?_
  simp only [go_sem, h2]
  (repeat refine sd ?_)
  refine hK _ _ fun nx => ?_; clear hK K; try clear kk
  by_cases h5 : (alc == (2 : Int)) = true
  ·rw [if_pos h5] at hh
   refine zn (by first | exact congrArg PV.bool h5 | rfl) ?_
   refine zb fun K kk hK => ?_
   simp only [go_sem]
   refine hK _ _ fun nx => ?_; clear hK K; try clear kk
   refine zi ?_; refine nmx ?_
   obtain hR := Option.some.inj hh
   subst hR
   exact zy
  ·rw [if_neg h5] at hh
   replace h5 := Bool.eq_false_iff.mpr h5
   refine zh (by first | exact congrArg PV.bool h5 | rfl) ?_
   refine zx ?_; refine nmx ?_
   refine zm ?_
   refine zb fun K kk hK => ?_
   simp only [go_sem]
   refine hK _ _ fun nx => ?_; clear hK K; try clear kk
   by_cases h6 : (r_6 != (0 : Int)) = true
   ·rw [if_pos h6] at hh
    refine zn (by first | exact congrArg PV.bool h6 | rfl) ?_
    refine zb fun K kk hK => ?_
    simp only [go_sem]
    refine hK _ _ fun nx => ?_; clear hK K; try clear kk
    refine zi ?_; refine nmx ?_
    obtain hR := Option.some.inj hh
    subst hR
    exact zy
   ·rw [if_neg h6] at hh
    replace h6 := Bool.eq_false_iff.mpr h6
    refine zh (by first | exact congrArg PV.bool h6 | rfl) ?_
    refine zx ?_; refine nmx ?_
    obtain ⟨⟨r_9, QU, Js⟩, h7, hh⟩ := zf hh
    dsimp only at hh
    refine zb fun K kk hK => ?_
    simp only [go_sem]
    refine ze (Qr _ _ _ h7) (by (try simp only [go_sem]) <;> exact wkl) (by rfl) (by rfl) ?_
    simp only [go_sem]
    refine hK _ _ fun nx => ?_; clear hK K; try clear kk
    obtain ⟨⟨QX, JL, aeI⟩, h8, hh⟩ := zf hh
    dsimp only at hh
    refine zb fun K kk hK => ?_
    simp only [go_sem]
    refine ze (Qr _ _ _ h8) (by (try simp only [go_sem]) <;> exact wkl) (by rfl) (by rfl) ?_
    simp only [go_sem]
    refine hK _ _ fun nx => ?_; clear hK K; try clear kk
    obtain ⟨ao8, h9, hh⟩ := zf hh
    obtain ⟨apo, h10, hh⟩ := zf hh
    refine zb fun K kk hK => ?_
    simp only [go_sem]
    refine ze (VU _ _ h9).list (by (try simp only [go_sem]) <;> exact wkl) (by rfl) (by rfl) ?_
    simp only [go_sem]
    refine ze (XU _ _ h10).list (by (try simp only [go_sem]) <;> exact wkl) (by rfl) (by rfl) ?_
    simp only [go_sem]
    refine hK _ _ fun nx => ?_; clear hK K; try clear kk
    obtain ⟨⟨asM, auL⟩, h11, hh⟩ := zf hh
    dsimp only at hh
    refine zb fun K kk hK => ?_
    simp only [go_sem]
    refine ze (abO _ _ _ _ h11) (by (try simp only [go_sem]) <;> exact wkl) (by rfl) (by rfl) ?_
    simp only [go_sem]
    refine hK _ _ fun nx => ?_; clear hK K; try clear kk
    refine zm ?_
    obtain ⟨adB, h12, hh⟩ := zf hh
    refine zb fun K kk hK => ?_
    simp only [go_sem]
    refine ze (WH _ _ h12) (by (try simp only [go_sem]) <;> exact wkl) (by rfl) (by rfl) ?_
    simp only [go_sem]
    refine hK _ _ fun nx => ?_; clear hK K; try clear kk
    refine zb fun K kk hK => ?_
    simp only [go_sem]
    refine hK _ _ fun nx => ?_; clear hK K; try clear kk
    by_cases h13 : (adB != (0 : Int)) = true
    ·rw [if_pos h13] at hh
     refine zn (by first | exact congrArg PV.bool h13 | rfl) ?_
     refine zb fun K kk hK => ?_
     simp only [go_sem]
     refine hK _ _ fun nx => ?_; clear hK K; try clear kk
     refine zi ?_; refine nmx ?_
     obtain hR := Option.some.inj hh
     subst hR
     exact zy
    ·rw [if_neg h13] at hh
     replace h13 := Bool.eq_false_iff.mpr h13
     refine zh (by first | exact congrArg PV.bool h13 | rfl) ?_
     refine zx ?_; refine nmx ?_
     refine zb fun K kk hK => ?_
     simp only [go_sem]
     refine hK _ _ fun nx => ?_; clear hK K; try clear kk
     refine zi ?_; refine nmx ?_
     obtain hR := Option.some.inj hh
     subst hR
     exact zy
theorem yl (n_1 : za) (s_2 : zz) (R : (za × Int)) (hh : qa n_1 s_2 = some R) : PC Tryd.prog 17 [.agg [.str n_1.Kind, .str n_1.Text, .list 1 (n_1.Marks.map PV.str), .list 2 (n_1.zo.map zg.pv), .list 5 (n_1.Kids.map za.pv)], .agg [.int .u8 s_2.Kind, .int .i64 s_2.From, .int .i64 s_2.To, .list 5 (s_2.wC.map za.pv), .str s_2.Name, .str s_2.Value]] (.tup [.agg [.str R.1.Kind, .str R.1.Text, .list 1 (R.1.Marks.map PV.str), .list 2 (R.1.zo.map zg.pv), .list 5 (R.1.Kids.map za.pv)], .int .i64 R.2]) := by
 rw [qa] at hh
 refine aeP rfl ?_
 refine zb fun K kk hK => ?_
 simp only [go_sem]
 refine hK _ _ fun nx => ?_; clear hK K; try clear kk
 refine zm ?_
 refine zC ?_
 obtain ⟨alm, h1, hh⟩ := zf hh
 refine zb fun K kk hK => ?_
 simp only [go_sem]
 refine ze (ajb _ _ h1) (by (try simp only [go_sem]) <;> exact wkl) (by rfl) (by rfl) ?_
 simp only [go_sem]
 refine hK _ _ fun nx => ?_; clear hK K; try clear kk
 by_cases h2 : (!alm) = true
 ·rw [if_pos h2] at hh
  refine zn (by first | exact congrArg PV.bool h2 | rfl) ?_
  refine zb fun K kk hK => ?_
  simp only [go_sem]
  refine hK _ _ fun nx => ?_; clear hK K; try clear kk
  refine zi ?_; refine nmx ?_
  obtain hR := Option.some.inj hh
  subst hR
  exact zy
 ·rw [if_neg h2] at hh
  replace h2 := Bool.eq_false_iff.mpr h2
  refine zh (by first | exact congrArg PV.bool h2 | rfl) ?_
  by_cases h3 : (n_1.Kind == ([116, 101, 120, 116] : Str)) = true
  ·rw [if_pos h3] at hh
   refine zb fun K kk hK => ?_
   simp only [go_sem, h3]
   (repeat refine sd ?_)
   refine hK _ _ fun nx => ?_; clear hK K; try clear kk
   refine zn rfl ?_
   refine zb fun K kk hK => ?_
   simp only [go_sem]
   refine hK _ _ fun nx => ?_; clear hK K; try clear kk
   refine zi ?_; refine nmx ?_
   obtain hR := Option.some.inj hh
   subst hR
   exact zy
  ·rw [if_neg h3] at hh
   replace h3 := Bool.eq_false_iff.mpr h3
   obtain ⟨akO, h4, hh⟩ := zf hh
   refine zb fun K kk hK => ?_
   simp only [go_sem, h3]
   (repeat refine sd ?_)
   refine ze (WJ _ _ h4) (by (try simp only [go_sem, h3]) <;> exact wkl) (by rfl) (by rfl) ?_
   simp only [go_sem, h3]
   (repeat refine sd ?_)
   refine hK _ _ fun nx => ?_; clear hK K; try clear kk
   by_cases h5 : (!akO) = true
   ·rw [if_pos h5] at hh
    refine zn (by first | exact congrArg PV.bool h5 | rfl) ?_
    refine zb fun K kk hK => ?_
    simp only [go_sem]
    refine hK _ _ fun nx => ?_; clear hK K; try clear kk
    refine zi ?_; refine nmx ?_
    obtain hR := Option.some.inj hh
    subst hR
    exact zy
   ·rw [if_neg h5] at hh
    replace h5 := Bool.eq_false_iff.mpr h5
    refine zh (by first | exact congrArg PV.bool h5 | rfl) ?_
    refine zb fun K kk hK => ?_
    simp only [go_sem]
    refine hK _ _ fun nx => ?_; clear hK K; try clear kk
    by_cases h6 : (s_2.Kind == (114 : Int)) = true
    ·rw [if_pos h6] at hh
     refine zn (by first | exact congrArg PV.bool h6 | rfl) ?_
     obtain ⟨⟨r_5, r_6⟩, h7, hh⟩ := zf hh
     dsimp only at hh
     refine zb fun K kk hK => ?_
     simp only [go_sem]
     refine ze (akN _ _ _ _ _ h7) (by (try simp only [go_sem]) <;> exact wkl) (by rfl) (by rfl) ?_
     simp only [go_sem]
     refine hK _ _ fun nx => ?_; clear hK K; try clear kk
     refine zi ?_; refine nmx ?_
     obtain hR := Option.some.inj hh
     subst hR
     exact zy
    ·rw [if_neg h6] at hh
     replace h6 := Bool.eq_false_iff.mpr h6
     refine zh (by first | exact congrArg PV.bool h6 | rfl) ?_
     refine zb fun K kk hK => ?_
     simp only [go_sem]
     refine hK _ _ fun nx => ?_; clear hK K; try clear kk
     by_cases h8 : (s_2.Kind == (97 : Int)) = true
     ·rw [if_pos h8] at hh
      refine zn (by first | exact congrArg PV.bool h8 | rfl) ?_
      obtain ⟨⟨r_7, r_8, r_9⟩, h9, hh⟩ := zf hh
      dsimp only at hh
      refine zb fun K kk hK => ?_
      simp only [go_sem]
      refine ze (afs _ _ _ h9) (by (try simp only [go_sem]) <;> exact wkl) (by rfl) (by rfl) ?_
      simp only [go_sem]
      refine hK _ _ fun nx => ?_; clear hK K; try clear kk
      refine zb fun K kk hK => ?_
      simp only [go_sem]
      refine hK _ _ fun nx => ?_; clear hK K; try clear kk
      refine zi ?_; refine nmx ?_
      obtain hR := Option.some.inj hh
      subst hR
      exact zy
     ·rw [if_neg h8] at hh
      replace h8 := Bool.eq_false_iff.mpr h8
      refine zh (by first | exact congrArg PV.bool h8 | rfl) ?_
      refine zx ?_; refine nmx ?_
      obtain ⟨⟨QU, Js, QX⟩, h10, hh⟩ := zf hh
      dsimp only at hh
      refine zb fun K kk hK => ?_
      simp only [go_sem]
      refine ze (abI _ _ _ h10) (by (try simp only [go_sem]) <;> exact wkl) (by rfl) (by rfl) ?_
      simp only [go_sem]
      refine hK _ _ fun nx => ?_; clear hK K; try clear kk
      refine zb fun K kk hK => ?_
      simp only [go_sem]
      refine hK _ _ fun nx => ?_; clear hK K; try clear kk
      refine zi ?_; refine nmx ?_
      obtain hR := Option.some.inj hh
      subst hR
      exact zy
theorem ama (n_1 : za) (l_2 : (List zz)) (R : (za × Int)) (hh : YY n_1 l_2 = some R) : PC Tryd.prog 14 [.agg [.str n_1.Kind, .str n_1.Text, .list 1 (n_1.Marks.map PV.str), .list 2 (n_1.zo.map zg.pv), .list 5 (n_1.Kids.map za.pv)], .list 6 (l_2.map zz.pv)] (.tup [.agg [.str R.1.Kind, .str R.1.Text, .list 1 (R.1.Marks.map PV.str), .list 2 (R.1.zo.map zg.pv), .list 5 (R.1.Kids.map za.pv)], .int .i64 R.2]) := by
 rw [YY] at hh
 refine ag5 rfl ?_
 refine zb fun K kk hK => ?_
 simp only [go_sem]
 refine hK _ _ fun nx => ?_; clear hK K; try clear kk
 refine zb fun K kk hK => ?_
 simp only [go_sem]
 refine hK _ _ fun nx => ?_; clear hK K; try clear kk
 refine zm ?_
 refine zb fun K kk hK => ?_
 simp only [go_sem]
 refine hK _ _ fun nx => ?_; clear hK K; try clear kk
 obtain ⟨e0, f0, hh⟩ := zf hh
 obtain ⟨hlen0, f0⟩ := z8 f0
 refine qz (kv (fun s => ∃ akI, .inr akI = e0 ∧ ∃ (aiB : Int) (Xx : Bool) (nx : Nat) (g2 : Nat) (g4 : Nat), s = ⟨[(2, .box 2 g2 0), (4, .box 4 g4 0), (9, .list 6 (l_2.map zz.pv)), (10, .int .i64 (l_2.length : Int)), (11, .int .i64 aiB), (12, .bool Xx)], [(2, g2, .var 28 [.str akI.Kind, .str akI.Text, .list 1 (akI.Marks.map PV.str), .list 2 (akI.zo.map zg.pv), .list 5 (akI.Kids.map za.pv)]), (4, g4, .var 28 [.str ([] : Str), .str ([] : Str), .list 1 ([].map PV.str), .list 2 ([].map zg.pv), .list 5 ([].map za.pv)])], nx⟩))
  (fun i s => False)
  (fun s => ∃ JA, .inl JA = e0 ∧ zS Tryd.prog [.cell 4 28, .tmp 5] (.tup [.agg [.str JA.1.Kind, .str JA.1.Text, .list 1 (JA.1.Marks.map PV.str), .list 2 (JA.1.zo.map zg.pv), .list 5 (JA.1.Kids.map za.pv)], .int .i64 JA.2]) [] .ret s) ?_ ?_ ?_ ?_
 ·refine zC ?_
  refine qh fun I hI => ?_
  have key : ∀ (suf pre : List zz) (v_7 : Int) (n_6 : za), l_2 = pre ++ suf → v_7 = (pre.length : Int) → yC suf v_7 n_6 = some e0 → ∀ (nx : Nat) (g2 : Nat) (g4 : Nat), I ⟨[(2, .box 2 g2 0), (4, .box 4 g4 0), (9, .list 6 (l_2.map zz.pv)), (10, .int .i64 (l_2.length : Int)), (11, .int .i64 v_7)], [(2, g2, .var 28 [.str n_6.Kind, .str n_6.Text, .list 1 (n_6.Marks.map PV.str), .list 2 (n_6.zo.map zg.pv), .list 5 (n_6.Kids.map za.pv)]), (4, g4, .var 28 [.str ([] : Str), .str ([] : Str), .list 1 ([].map PV.str), .list 2 ([].map zg.pv), .list 5 ([].map za.pv)])], nx⟩ := by
   intro suf
   induction suf with
   | nil =>
    intro pre v_7 n_6 hsplit hidx hh nx g2 g4
    rw [yC] at hh
    refine hI _ ?_
    have h9 := walk_nil hsplit hidx
    refine zb fun K kk hK => ?_
    simp only [go_sem]
    refine hK _ _ fun nx => ?_; clear hK K; try clear kk
    refine zm ?_
    refine zh (by first | exact congrArg PV.bool h9 | rfl) ?_
    refine zZ ?_; refine nmx ?_
    refine kN ?_
    refine zJ ?_
    refine ⟨_, (Option.some.inj hh), ?_⟩
    first | exact ⟨_, _, _, _, _, rfl⟩ | (simp only [pvE, lsE, zq]; exact ⟨_, _, _, _, _, rfl⟩) | (simp only [pvE, lsE, zq, h9]; exact ⟨_, _, _, _, _, rfl⟩)
   | cons avY suf ih =>
    intro pre v_7 n_6 hsplit hidx hh nx g2 g4
    rw [yC] at hh
    refine hI _ ?_
    obtain ⟨hl0a, hl0b, hl0d, hl0w, h9⟩ := qI (f := zz.pv) hsplit hidx hlen0
    refine zb fun K kk hK => ?_
    simp only [go_sem]
    refine hK _ _ fun nx => ?_; clear hK K; try clear kk
    refine zm ?_
    refine zn (by first | exact congrArg PV.bool h9 | rfl) ?_
    refine zx ?_; refine nmx ?_
    refine zm ?_
    refine zC ?_
    refine zb fun K kk hK => ?_
    simp only [go_sem, hl0a, hl0b, hl0d, hl0w]
    refine hK _ _ fun nx => ?_; clear hK K; try clear kk
    obtain ⟨⟨QX, JL⟩, h10, hh⟩ := zf hh
    dsimp only at hh
    refine zb fun K kk hK => ?_
    simp only [go_sem, hl0a, hl0b, hl0d, hl0w]
    refine ze (yl _ _ _ h10) (by (try simp only [go_sem, hl0a, hl0b, hl0d, hl0w]) <;> exact wkl) (by rfl) (by rfl) ?_
    simp only [go_sem, hl0a, hl0b, hl0d, hl0w]
    refine hK _ _ fun nx => ?_; clear hK K; try clear kk
    refine zb fun K kk hK => ?_
    simp only [go_sem, hl0a, hl0b, hl0d, hl0w]
    refine hK _ _ fun nx => ?_; clear hK K; try clear kk
    by_cases h11 : (JL != (0 : Int)) = true
    ·rw [if_pos h11] at hh
     refine zn (by first | exact congrArg PV.bool h11 | rfl) ?_
     refine zb fun K kk hK => ?_
     simp only [go_sem, hl0a, hl0b, hl0d, hl0w]
     refine hK _ _ fun nx => ?_; clear hK K; try clear kk
     refine zi ?_; refine nmx ?_
     refine QD ⟨_, (Option.some.inj hh), ?_⟩
     exact zy
    ·rw [if_neg h11] at hh
     replace h11 := Bool.eq_false_iff.mpr h11
     refine zh (by first | exact congrArg PV.bool h11 | rfl) ?_
     refine zx ?_; refine nmx ?_
     refine zu fun K kk hK => ?_
     simp only [go_sem, hl0a, hl0b, hl0d, hl0w]
     refine hK _ _ fun nx => ?_; clear hK K; try clear kk
     refine nmx ?_
     have ih' := ih (pre ++ [avY]) (v_7 + 1) _ (by rw [hsplit]; simp) (by simp [hidx]) hh nx
     refine zJ ?_
     first | exact ih' _ _ | (simp only [pvE, lsE, zq] at ih' ⊢; exact ih' _ _) | (simp only [pvE, lsE, zq, h11, h9] at ih' ⊢; exact ih' _ _)
  exact key l_2 [] _ _ rfl rfl f0 _ _ _
 ·rintro s ⟨t, hless, akI, rfl, aiB, Xx, nx, g2, g4, rfl⟩
  try dsimp only at hh
  refine nmy ?_
  first | (refine wm hless ?_; try refine kz ?_) | refine qH hless ?_ | refine qG hless ?_
  refine zb fun K kk hK => ?_
  simp only [go_sem]
  refine hK _ _ fun nx => ?_; clear hK K; try clear kk
  refine zi ?_; refine nmx ?_
  obtain hR := Option.some.inj hh
  subst hR
  exact zy
 ·intro i s h; exact h.elim
 ·rintro s ⟨JA, rfl, hb⟩
  try dsimp only at hh
  obtain hR := Option.some.inj hh
  subst hR
  refine nmx ?_
  exact hb
theorem Zp (vB : (List zg)) (vU : (List zg)) (R : Bool) (hh : vC vB vU = some R) : PC Tryd.prog 43 [.list 2 (vB.map zg.pv), .list 2 (vU.map zg.pv)] (.bool R) := by
 rw [vC] at hh
 refine K7 rfl ?_
 refine zb fun K kk hK => ?_
 simp only [go_sem]
 refine hK _ _ fun nx => ?_; clear hK K; try clear kk
 refine zm ?_
 refine zb fun K kk hK => ?_
 simp only [go_sem]
 refine hK _ _ fun nx => ?_; clear hK K; try clear kk
 by_cases h1 : ((vB.length : Int) != (vU.length : Int)) = true
 ·rw [if_pos h1] at hh
  refine zn (by first | exact congrArg PV.bool h1 | rfl) ?_
  refine zb fun K kk hK => ?_
  simp only [go_sem]
  refine hK _ _ fun nx => ?_; clear hK K; try clear kk
  refine zi ?_; refine nmx ?_
  obtain hR := Option.some.inj hh
  subst hR
  exact zy
 ·rw [if_neg h1] at hh
  replace h1 := Bool.eq_false_iff.mpr h1
  refine zh (by first | exact congrArg PV.bool h1 | rfl) ?_
  refine zx ?_; refine nmx ?_
  refine zm ?_
  refine zb fun K kk hK => ?_
  simp only [go_sem]
  refine hK _ _ fun nx => ?_; clear hK K; try clear kk
  obtain ⟨e0, f0, hh⟩ := zf hh
  obtain ⟨hlen0, f0⟩ := z8 f0
  refine qz (kv (fun s => .inr () = e0 ∧ ∃ (WC : Int) (Kq : Bool) (nx : Nat), s = ⟨[(0, .list 2 (vB.map zg.pv)), (1, .list 2 (vU.map zg.pv)), (12, .int .i64 (vB.length : Int)), (13, .int .i64 WC), (14, .bool Kq)], [], nx⟩))
   (fun i s => False)
   (fun s => ∃ wZ, .inl wZ = e0 ∧ zS Tryd.prog [.tmp 4] (.bool wZ) [] .ret s) ?_ ?_ ?_ ?_
  ·refine zC ?_
   refine qh fun I hI => ?_
   have key : ∀ (suf pre : List zg) (v_5 : Int), vB = pre ++ suf → v_5 = (pre.length : Int) → qV vU suf v_5 = some e0 → ∀ (nx : Nat), I ⟨[(0, .list 2 (vB.map zg.pv)), (1, .list 2 (vU.map zg.pv)), (12, .int .i64 (vB.length : Int)), (13, .int .i64 v_5)], [], nx⟩ := by
    intro suf
    induction suf with
    | nil =>
     intro pre v_5 hsplit hidx hh nx
     rw [qV] at hh
     refine hI _ ?_
     have h10 := walk_nil hsplit hidx
     refine zb fun K kk hK => ?_
     simp only [go_sem]
     refine hK _ _ fun nx => ?_; clear hK K; try clear kk
     refine zm ?_
     refine zh (by first | exact congrArg PV.bool h10 | rfl) ?_
     refine zZ ?_; refine nmx ?_
     refine kN ?_
     refine zJ ?_
     refine ⟨(Option.some.inj hh), ?_⟩
     first | exact ⟨_, _, _, rfl⟩ | (simp only [pvE, lsE, zq]; exact ⟨_, _, _, rfl⟩) | (simp only [pvE, lsE, zq, h1, h10]; exact ⟨_, _, _, rfl⟩)
    | cons y_8 suf ih =>
     intro pre v_5 hsplit hidx hh nx
     rw [qV] at hh
     refine hI _ ?_
     obtain ⟨hl0a, hl0b, hl0d, hl0w, h10⟩ := qI (f := zg.pv) hsplit hidx hlen0
     refine zb fun K kk hK => ?_
     simp only [go_sem]
     refine hK _ _ fun nx => ?_; clear hK K; try clear kk
     refine zm ?_
     refine zn (by first | exact congrArg PV.bool h10 | rfl) ?_
     refine zx ?_; refine nmx ?_
     refine zm ?_
     refine zC ?_
     refine zb fun K kk hK => ?_
     simp only [go_sem, hl0a, hl0b, hl0d, hl0w]
     refine hK _ _ fun nx => ?_; clear hK K; try clear kk
     obtain ⟨x_9, h11, hh⟩ := zf hh
     obtain ⟨h11a, h11b, h11c⟩ := rd_some h11
     have h11d := vz (f := zg.pv) h11c
     have h11f := wX (f := zg.pv) h11c
     try simp only [Int.toNat_natCast, Int.reduceToNat] at h11d h11f
     refine zb fun K kk hK => ?_
     simp only [go_sem, h11a, h11b, h11d, h11f.1, h11f.2, hl0a, hl0b, hl0d, hl0w]
     (repeat refine sd ?_)
     refine hK _ _ fun nx => ?_; clear hK K; try clear kk
     by_cases h12 : ((((y_8.Name == x_9.Name) && (y_8.Value == x_9.Value)) != true)) = true
     ·rw [if_pos h12] at hh
      refine zn (by first | exact congrArg PV.bool h12 | rfl) ?_
      refine zb fun K kk hK => ?_
      simp only [go_sem, hl0a, hl0b, hl0d, hl0w]
      refine hK _ _ fun nx => ?_; clear hK K; try clear kk
      refine zi ?_; refine nmx ?_
      refine QD ⟨_, (Option.some.inj hh), ?_⟩
      exact zy
     ·rw [if_neg h12] at hh
      replace h12 := Bool.eq_false_iff.mpr h12
      refine zh (by first | exact congrArg PV.bool h12 | rfl) ?_
      refine zx ?_; refine nmx ?_
      refine zu fun K kk hK => ?_
      simp only [go_sem, hl0a, hl0b, hl0d, hl0w]
      refine hK _ _ fun nx => ?_; clear hK K; try clear kk
      refine nmx ?_
      have ih' := ih (pre ++ [y_8]) (v_5 + 1) (by rw [hsplit]; simp) (by simp [hidx]) hh nx
      refine zJ ?_
      first | exact ih' | (simp only [pvE, lsE, zq] at ih' ⊢; exact ih') | (simp only [pvE, lsE, zq, h1, h10, h12] at ih' ⊢; exact ih')
   exact key vB [] _ rfl rfl f0 _
  ·rintro s ⟨t, hless, rfl, WC, Kq, nx, rfl⟩
   try dsimp only at hh
   refine nmy ?_
   first | (refine wm hless ?_; try refine kz ?_) | refine qH hless ?_ | refine qG hless ?_
   refine zb fun K kk hK => ?_
   simp only [go_sem]
   refine hK _ _ fun nx => ?_; clear hK K; try clear kk
   refine zi ?_; refine nmx ?_
   obtain hR := Option.some.inj hh
   subst hR
   exact zy
  ·intro i s h; exact h.elim
  ·rintro s ⟨wZ, rfl, hb⟩
   try dsimp only at hh
   obtain hR := Option.some.inj hh
   subst hR
   refine nmx ?_
   exact hb
end Go.Proofs.YtclohbgnaopjfaaDoor
