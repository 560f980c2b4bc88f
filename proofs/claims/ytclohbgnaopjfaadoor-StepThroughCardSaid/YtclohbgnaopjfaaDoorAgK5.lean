/- Texts of the proof of stepThroughCard -/
import Derived.Test.YtclohbgnaopjfaaDoorAgC
import Derived.Test.YtclohbgnaopjfaaDoorAgF
import Derived.Test.YtclohbgnaopjfaaDoorAgK0
import Derived.Test.YtclohbgnaopjfaaDoorAgK1
import Derived.Test.YtclohbgnaopjfaaDoorAgK2
import Derived.Test.YtclohbgnaopjfaaDoorAgK3
import Derived.Test.YtclohbgnaopjfaaDoorAgK4
import Derived.Test.YtclohbgnaopjfaaDoorAgL
import Derived.Test.YtclohbgnaopjfaaDoorAgSl
namespace Go.Proofs.YtclohbgnaopjfaaDoor
set_option linter.unusedSimpArgs false
set_option linter.unusedVariables false
open Go
set_option maxRecDepth 100000
theorem XE (l_1 : (List za)) (zP : Int) (R : ((List za) × (List za) × Int)) (hh : xB l_1 zP = some R) : PC Tryd.prog 73 [.list 5 (l_1.map za.pv), .int .i64 zP] (.tup [.list 5 (R.1.map za.pv), .list 5 (R.2.1.map za.pv), .int .i64 R.2.2]) := by
  rw [xB] at hh
  refine acX rfl ?_
  refine zb fun K kk hK => ?_
  simp only [go_sem]
  refine hK _ _ fun nx => ?_; clear hK K; try clear kk
  refine zm ?_
  by_cases h1 : (decide (zP < (0 : Int))) = true
  · rw [if_pos h1] at hh
    refine zb fun K kk hK => ?_
    simp only [go_sem, h1, of_decide_eq_true h1]
    (repeat refine sd ?_)
    refine hK _ _ fun nx => ?_; clear hK K; try clear kk
    refine zn rfl ?_
    refine zb fun K kk hK => ?_
    simp only [go_sem]
    refine hK _ _ fun nx => ?_; clear hK K; try clear kk
    refine zk ?_; refine nmx ?_
    obtain hR := Option.some.inj hh
    subst hR
    exact zy
  · rw [if_neg h1] at hh
    replace h1 := Bool.eq_false_iff.mpr h1
    obtain ⟨Qi, h2, hh⟩ := ze hh
    refine zb fun K kk hK => ?_
    simp only [go_sem, h1, of_decide_eq_false h1]
    (repeat refine sd ?_)
    refine zf (j6 _ _ h2) (by (try simp only [go_sem, h1, of_decide_eq_false h1]) <;> exact wkl) (by rfl) (by rfl) ?_
    simp only [go_sem, h1, of_decide_eq_false h1]
    (repeat refine sd ?_)
    refine hK _ _ fun nx => ?_; clear hK K; try clear kk
    by_cases h3 : (decide (zP > Qi)) = true
    · rw [if_pos h3] at hh
      refine zn (by first | exact congrArg PV.bool h3 | rfl) ?_
      refine zb fun K kk hK => ?_
      simp only [go_sem]
      refine hK _ _ fun nx => ?_; clear hK K; try clear kk
      refine zk ?_; refine nmx ?_
      obtain hR := Option.some.inj hh
      subst hR
      exact zy
    · rw [if_neg h3] at hh
      replace h3 := Bool.eq_false_iff.mpr h3
      refine zi (by first | exact congrArg PV.bool h3 | rfl) ?_
      refine zt ?_; refine nmx ?_
      refine zb fun K kk hK => ?_
      simp only [go_sem]
      refine hK _ _ fun nx => ?_; clear hK K; try clear kk
      refine zm ?_
      obtain ⟨e0, f0, hh⟩ := ze hh
      obtain ⟨hlen0, f0⟩ := qa f0
      refine Vd (fun s => ∃ aeM, ∃ amq, (aeM, amq) = e0 ∧ ∃ (alN : Bool) (nx : Nat), s = ⟨[(0, .list 5 (l_1.map za.pv)), (1, .int .i64 aeM), (7, .int .i64 amq), (32, .bool alN)], [], nx⟩)
        (fun i s => False)
        (fun s => False) ?_ ?_ ?_ ?_
      · refine zC ?_
        refine qo fun I hI => ?_
        have key : ∀ (suf pre : List za) (i_8 : Int) (agp : Int), l_1 = pre ++ suf → i_8 = (pre.length : Int) → vF suf i_8 agp = some e0 → ∀ (nx : Nat), I ⟨[(0, .list 5 (l_1.map za.pv)), (1, .int .i64 agp), (7, .int .i64 i_8)], [], nx⟩ := by
          intro suf
          induction suf with
          | nil =>
            intro pre i_8 agp hsplit hidx hh nx
            rw [vF] at hh
            refine hI _ ?_
            have h14 := walk_nil hsplit hidx
            refine zm ?_
            refine zb fun K kk hK => ?_
            simp only [go_sem, h14, of_decide_eq_false h14]
            (repeat refine sd ?_)
            refine hK _ _ fun nx => ?_; clear hK K; try clear kk
            refine zi rfl ?_
            refine zZ ?_; refine nmx ?_
            refine kg ?_
            refine zJ ?_
            refine ⟨_, _, (Option.some.inj hh), ?_⟩
            first | exact ⟨_, _, rfl⟩ | (simp only [pvE, lsE, zo]; exact ⟨_, _, rfl⟩) | (simp only [pvE, lsE, zo, h1, h14, h3]; exact ⟨_, _, rfl⟩)
          | cons aaa suf ih =>
            intro pre i_8 agp hsplit hidx hh nx
            rw [vF] at hh
            refine hI _ ?_
            obtain ⟨hl0a, hl0b, hl0d, hl0w, h14⟩ := qD (f := za.pv) hsplit hidx hlen0
            refine zm ?_
            obtain ⟨ajP, h15, hh⟩ := ze hh
            refine zb fun K kk hK => ?_
            simp only [go_sem, h14, of_decide_eq_true h14, hl0a, hl0b, hl0d, hl0w]
            (repeat refine sd ?_)
            refine zf (QE _ _ h15) (by (try simp only [go_sem, h14, of_decide_eq_true h14, hl0a, hl0b, hl0d, hl0w]) <;> exact wkl) (by rfl) (by rfl) ?_
            simp only [go_sem, h14, of_decide_eq_true h14, hl0a, hl0b, hl0d, hl0w]
            (repeat refine sd ?_)
            refine hK _ _ fun nx => ?_; clear hK K; try clear kk
            by_cases h16 : (decide (agp ≥ ajP)) = true
            · rw [if_pos h16] at hh
              refine zn (by first | exact congrArg PV.bool h16 | rfl) ?_
              refine zt ?_; refine nmx ?_
              refine zm ?_
              refine zC ?_
              obtain ⟨an3, h17, hh⟩ := ze hh
              refine zq fun K kk hK => ?_
              simp only [go_sem, hl0a, hl0b, hl0d, hl0w]
              refine zf (QE _ _ h17) (by (try simp only [go_sem, hl0a, hl0b, hl0d, hl0w]) <;> exact wkl) (by rfl) (by rfl) ?_
              simp only [go_sem, hl0a, hl0b, hl0d, hl0w]
              refine hK _ _ fun nx => ?_; clear hK K; try clear kk
              refine nmx ?_
              refine zq fun K kk hK => ?_
              simp only [go_sem, hl0a, hl0b, hl0d, hl0w]
              refine hK _ _ fun nx => ?_; clear hK K; try clear kk
              refine nmx ?_
              have ih' := ih (pre ++ [aaa]) (i_8 + 1) _ (by rw [hsplit]; simp) (by simp [hidx]) hh nx
              refine zJ ?_
              first | exact ih' | (simp only [pvE, lsE, zo] at ih' ⊢; exact ih') | (simp only [pvE, lsE, zo, h1, h14, h16, h3] at ih' ⊢; exact ih')
            · rw [if_neg h16] at hh
              replace h16 := Bool.eq_false_iff.mpr h16
              refine zi (by first | exact congrArg PV.bool h16 | rfl) ?_
              refine zZ ?_; refine nmx ?_
              refine kg ?_
              refine zJ ?_
              refine ⟨_, _, (Option.some.inj hh), ?_⟩
              first | exact ⟨_, _, rfl⟩ | (simp only [pvE, lsE, zo]; exact ⟨_, _, rfl⟩) | (simp only [pvE, lsE, zo, h1, h14, h16, h3]; exact ⟨_, _, rfl⟩)
        exact key l_1 [] _ _ rfl rfl f0 _
      · rintro s ⟨aeM, amq, rfl, alN, nx, rfl⟩
        try dsimp only at hh
        obtain ⟨auU, h18, hh⟩ := ze hh
        obtain ⟨h18a, h18c⟩ := Wm h18
        have h18g := aaB h18a
        have h18d := YW (f := za.pv) h18c
        try simp only [Int.toNat_natCast, Int.reduceToNat, List.map_cons, List.map_nil, pvE] at h18d
        obtain ⟨aj6, h19, hh⟩ := ze hh
        obtain ⟨aur, h20, hh⟩ := ze hh
        obtain ⟨h20a, h20c⟩ := Wm h20
        have h20g := aaB h20a
        have h20d := akr (f := za.pv) h20c
        try simp only [Int.toNat_natCast, Int.reduceToNat, List.map_cons, List.map_nil, pvE] at h20d
        obtain ⟨afx, h21, hh⟩ := ze hh
        refine zb fun K kk hK => ?_
        simp only [go_sem, h18a.1, h18a.2.1, h18a.2.2, h18d, h18g, h20a.1, h20a.2.1, h20a.2.2, h20d, h20g]
        (repeat refine sd ?_)
        refine abm [] (by decide) (by decide) (jY _ _ h19) (by (try simp only [go_sem, h18a.1, h18a.2.1, h18a.2.2, h18d, h18g, h20a.1, h20a.2.1, h20a.2.2, h20d, h20g, h1, h3]) <;> exact wkb) (by rfl) (by rfl) ?_
        simp only [go_sem, h18a.1, h18a.2.1, h18a.2.2, h18d, h18g, h20a.1, h20a.2.1, h20a.2.2, h20d, h20g]
        (repeat refine sd ?_)
        refine abm [] (by decide) (by decide) (jY _ _ h21) (by (try simp only [go_sem, h18a.1, h18a.2.1, h18a.2.2, h18d, h18g, h20a.1, h20a.2.1, h20a.2.2, h20d, h20g, h1, h3]) <;> exact wkb) (by rfl) (by rfl) ?_
        simp only [go_sem, h18a.1, h18a.2.1, h18a.2.2, h18d, h18g, h20a.1, h20a.2.1, h20a.2.2, h20d, h20g]
        (repeat refine sd ?_)
        refine hK _ _ fun nx => ?_; clear hK K; try clear kk
        refine zm ?_
        refine zC ?_
        refine zb fun K kk hK => ?_
        simp only [go_sem]
        refine hK _ _ fun nx => ?_; clear hK K; try clear kk
        by_cases h22 : (aeM == (0 : Int)) = true
        · rw [if_pos h22] at hh
          refine zn (by first | exact congrArg PV.bool h22 | rfl) ?_
          refine zb fun K kk hK => ?_
          simp only [go_sem]
          refine hK _ _ fun nx => ?_; clear hK K; try clear kk
          refine zk ?_; refine nmx ?_
          obtain hR := Option.some.inj hh
          subst hR
          exact zy
        · rw [if_neg h22] at hh
          replace h22 := Bool.eq_false_iff.mpr h22
          refine zi (by first | exact congrArg PV.bool h22 | rfl) ?_
          obtain ⟨am9, h23, hh⟩ := ze hh
          obtain ⟨h23a, h23b, h23c⟩ := rd_some h23
          have h23d := vD (f := za.pv) h23c
          have h23f := wY (f := za.pv) h23c
          try simp only [Int.toNat_natCast, Int.reduceToNat] at h23d h23f
          refine zb fun K kk hK => ?_
          simp only [go_sem, h23a, h23b, h23d, h23f.1, h23f.2]
          (repeat refine sd ?_)
          refine hK _ _ fun nx => ?_; clear hK K; try clear kk
          by_cases h24 : (!(am9.Kind == ([116, 101, 120, 116] : Str))) = true
          · rw [if_pos h24] at hh
            refine zn (by first | exact congrArg PV.bool h24 | rfl) ?_
            refine zb fun K kk hK => ?_
            simp only [go_sem]
            refine hK _ _ fun nx => ?_; clear hK K; try clear kk
            refine zk ?_; refine nmx ?_
            obtain hR := Option.some.inj hh
            subst hR
            exact zy
          · rw [if_neg h24] at hh
            replace h24 := Bool.eq_false_iff.mpr h24
            refine zi (by first | exact congrArg PV.bool h24 | rfl) ?_
            refine zt ?_; refine nmx ?_
            refine zb fun K kk hK => ?_
            simp only [go_sem, h23a, h23b, h23d, h23f.1, h23f.2]
            (repeat refine sd ?_)
            refine hK _ _ fun nx => ?_; clear hK K; try clear kk
            refine zb fun K kk hK => ?_
            simp only [go_sem, h23a, h23b, h23d, h23f.1, h23f.2]
            (repeat refine sd ?_)
            refine hK _ _ fun nx => ?_; clear hK K; try clear kk
            obtain ⟨avi, h25, hh⟩ := ze hh
            obtain ⟨h25a, h25c⟩ := Wm h25
            have h25g := aaB h25a
            have h25d := YW (f := (PV.int .i32)) h25c
            try simp only [Int.toNat_natCast, Int.reduceToNat, List.map_cons, List.map_nil, pvE] at h25d
            obtain ⟨au3, h26, hh⟩ := ze hh
            obtain ⟨h26a, h26c⟩ := Wm h26
            have h26g := aaB h26a
            have h26d := akr (f := (PV.int .i32)) h26c
            try simp only [Int.toNat_natCast, Int.reduceToNat, List.map_cons, List.map_nil, pvE] at h26d
            obtain ⟨au5, h27, hh⟩ := ze hh
            obtain ⟨h27a, h27b, h27c⟩ := rd_some h27
            have h27d := vD (f := za.pv) h27c
            have h27f := wY (f := za.pv) h27c
            try simp only [Int.toNat_natCast, Int.reduceToNat] at h27d h27f
            obtain ⟨avo, h28, hh⟩ := ze hh
            obtain ⟨h28a, h28c⟩ := Y3 h28
            have h28d := adS (f := za.pv) h28c
            try simp only [Int.toNat_natCast, Int.reduceToNat, List.map_cons, List.map_nil, List.cons_append, List.nil_append, List.singleton_append, pvE] at h28d
            have h28e := adq h28c
            have h27b_h28 := h27b; rw [h28e] at h27b_h28
            have h27f1_h28 := h27f.1; rw [h28e] at h27f1_h28
            have h27a_h28 := h27a; try rw [h28e] at h27a_h28
            have h27d_h28 := h27d; try rw [h28e] at h27d_h28
            try rw [h28e] at h28d
            have h28bw := h28a.2; rw [h28e] at h28bw
            refine zb fun K kk hK => ?_
            simp only [go_sem, h25a.1, h25a.2.1, h25a.2.2, h25d, h25g, h26a.1, h26a.2.1, h26a.2.2, h26d, h26g, h27a, h27b, h27d, h27f.1, h27f.2, h28a.1, h28a.2, h28d, h28e, h27b_h28, h27f1_h28, h27a_h28, h27d_h28, h28bw]
            (repeat refine sd ?_)
            try simp only [go_sem, h25a.1, h25a.2.1, h25a.2.2, h25d, h25g, h26a.1, h26a.2.1, h26a.2.2, h26d, h26g, h27a, h27b, h27d, h27f.1, h27f.2, h28a.1, h28a.2, h28d, h28e, h27b_h28, h27f1_h28, h27a_h28, h27d_h28, h28bw]
            refine hK _ _ fun nx => ?_; clear hK K; try clear kk
            obtain ⟨avm, h29, hh⟩ := ze hh
            obtain ⟨h29a, h29c⟩ := z8 h29
            have h29d := qO (f := za.pv) h29c
            have h29e := qQ h29c
            try simp only [List.length_cons, List.length_nil, Nat.zero_add, Nat.reduceAdd] at h29a h29e
            try simp only [h29e] at h29a
            try simp only [List.map_cons, List.map_nil, List.nil_append, List.append_nil, List.cons_append, List.singleton_append, zo, pvE] at h29d
            refine zb fun K kk hK => ?_
            simp only [go_sem, h29a, h29d, h29e]
            (repeat refine sd ?_)
            refine hK _ _ fun nx => ?_; clear hK K; try clear kk
            refine zk ?_; refine nmx ?_
            obtain hR := Option.some.inj hh
            subst hR
            exact zy
      · intro i s h; exact h.elim
      · intro s h; exact h.elim
theorem Vs (n : Int) (R : (List za)) (hh : vW n = some R) : PC Tryd.prog 105 [.kK, .int .i64 n] (.own 5 (R.map za.pv)) := by
 rw [vW] at hh
 obtain ⟨⟨h1, h2⟩, hR⟩ := qa hh
 cases hR
 exact ap7 Tryd.asS ⟨by kernel_rfl, by kernel_rfl⟩ ⟨_, Tryd.func105, by kernel_rfl, by kernel_rfl⟩ avd rfl n h1 (by simpa using h2)
theorem Vt (ky : (List (List za))) (R : (List za)) (hh : kL ky = some R) : PC Tryd.prog 83 [.list 1 (ky.map (pvL 5 za.pv))] (.own 5 (R.map za.pv)) := by
  rw [kL] at hh
  refine WN rfl ?_
  refine zb fun K kk hK => ?_
  simp only [go_sem]
  refine hK _ _ fun nx => ?_; clear hK K; try clear kk
  refine zb fun K kk hK => ?_
  simp only [go_sem]
  refine hK _ _ fun nx => ?_; clear hK K; try clear kk
  refine zm ?_
  refine zb fun K kk hK => ?_
  simp only [go_sem]
  refine hK _ _ fun nx => ?_; clear hK K; try clear kk
  obtain ⟨e0, f0, hh⟩ := ze hh
  obtain ⟨hlen0, f0⟩ := qa f0
  refine qx (wS (fun s => ∃ ag4, ag4 = e0 ∧ ∃ (v_8 : Int) (v_9 : Bool) (nx : Nat), s = ⟨[(0, .list 1 (ky.map (pvL 5 za.pv))), (3, .int .i64 ag4), (9, .list 1 (ky.map (pvL 5 za.pv))), (10, .int .i64 (ky.length : Int)), (11, .int .i64 v_8), (12, .bool v_9)], [], nx⟩))
    (fun i s => False)
    (fun s => False) ?_ ?_ ?_ ?_
  · refine zC ?_
    refine qo fun I hI => ?_
    have key : ∀ (suf pre : List (List za)) (v_4 : Int) (V4 : Int), ky = pre ++ suf → v_4 = (pre.length : Int) → qi suf v_4 V4 = some e0 → ∀ (nx : Nat), I ⟨[(0, .list 1 (ky.map (pvL 5 za.pv))), (3, .int .i64 V4), (9, .list 1 (ky.map (pvL 5 za.pv))), (10, .int .i64 (ky.length : Int)), (11, .int .i64 v_4)], [], nx⟩ := by
      intro suf
      induction suf with
      | nil =>
        intro pre v_4 V4 hsplit hidx hh nx
        rw [qi] at hh
        refine hI _ ?_
        have h7 := walk_nil hsplit hidx
        refine zb fun K kk hK => ?_
        simp only [go_sem]
        refine hK _ _ fun nx => ?_; clear hK K; try clear kk
        refine zm ?_
        refine zi (by first | exact congrArg PV.bool h7 | rfl) ?_
        refine zZ ?_; refine nmx ?_
        refine kg ?_
        refine zJ ?_
        refine ⟨_, (Option.some.inj hh), ?_⟩
        first | exact ⟨_, _, _, rfl⟩ | (simp only [pvE, lsE, zo]; exact ⟨_, _, _, rfl⟩) | (simp only [pvE, lsE, zo, h7]; exact ⟨_, _, _, rfl⟩)
      | cons y_6 suf ih =>
        intro pre v_4 V4 hsplit hidx hh nx
        rw [qi] at hh
        refine hI _ ?_
        obtain ⟨hl0a, hl0b, hl0d, hl0w, h7⟩ := qD (f := (pvL 5 za.pv)) hsplit hidx hlen0
        refine zb fun K kk hK => ?_
        simp only [go_sem]
        refine hK _ _ fun nx => ?_; clear hK K; try clear kk
        refine zm ?_
        refine zn (by first | exact congrArg PV.bool h7 | rfl) ?_
        refine zt ?_; refine nmx ?_
        refine zm ?_
        refine zC ?_
        refine zb fun K kk hK => ?_
        simp only [go_sem, hl0a, hl0b, hl0d, hl0w]
        refine hK _ _ fun nx => ?_; clear hK K; try clear kk
        refine zb fun K kk hK => ?_
        simp only [go_sem, hl0a, hl0b, hl0d, hl0w]
        refine hK _ _ fun nx => ?_; clear hK K; try clear kk
        refine zb fun K kk hK => ?_
        simp only [go_sem, hl0a, hl0b, hl0d, hl0w]
        refine hK _ _ fun nx => ?_; clear hK K; try clear kk
        by_cases h8 : (decide ((w64 (V4 + (y_6.length : Int))) < (0 : Int))) = true
        · rw [if_pos h8] at hh
          refine zn (by first | exact congrArg PV.bool h8 | rfl) ?_
          cases hh
        · rw [if_neg h8] at hh
          replace h8 := Bool.eq_false_iff.mpr h8
          refine zi (by first | exact congrArg PV.bool h8 | rfl) ?_
          refine zt ?_; refine nmx ?_
          refine zq fun K kk hK => ?_
          simp only [go_sem, hl0a, hl0b, hl0d, hl0w]
          refine hK _ _ fun nx => ?_; clear hK K; try clear kk
          refine nmx ?_
          have ih' := ih (pre ++ [y_6]) (v_4 + 1) _ (by rw [hsplit]; simp) (by simp [hidx]) hh nx
          refine zJ ?_
          first | exact ih' | (simp only [pvE, lsE, zo] at ih' ⊢; exact ih') | (simp only [pvE, lsE, zo, h7, h8] at ih' ⊢; exact ih')
    exact key ky [] _ _ rfl rfl f0 _
  · rintro s ⟨t, hless, ag4, rfl, v_8, v_9, nx, rfl⟩
    try dsimp only at hh
    refine nmy ?_
    first | (refine qR hless ?_; try refine wT ?_) | refine qC hless ?_ | refine qE hless ?_
    obtain ⟨anY, h9, hh⟩ := ze hh
    refine zb fun K kk hK => ?_
    simp only [go_sem]
    refine zf (Vs _ _ h9) (by (try simp only [go_sem]) <;> exact wkl) (by rfl) (by rfl) ?_
    simp only [go_sem]
    refine hK _ _ fun nx => ?_; clear hK K; try clear kk
    refine zm ?_
    refine zb fun K kk hK => ?_
    simp only [go_sem]
    refine hK _ _ fun nx => ?_; clear hK K; try clear kk
    obtain ⟨e1, f1, hh⟩ := ze hh
    obtain ⟨hlen1, f1⟩ := qa f1
    refine qx (wS (fun s => ∃ ZP, ZP = e1 ∧ ∃ (au7 : Int) (aqj : Bool) (nx : Nat) (g6 : Nat), s = ⟨[(6, .row 6 g6 ZP.length), (25, .list 1 (ky.map (pvL 5 za.pv))), (26, .int .i64 (ky.length : Int)), (27, .int .i64 au7), (28, .bool aqj)], [(6, g6, .row false 5 (ZP.map za.pv))], nx⟩))
      (fun i s => False)
      (fun s => False) ?_ ?_ ?_ ?_
    · refine zC ?_
      refine qo fun I hI => ?_
      have key : ∀ (suf pre : List (List za)) (Xw : Int) (jN : (List za)), ky = pre ++ suf → Xw = (pre.length : Int) → qh suf Xw jN = some e1 → ∀ (nx : Nat) (g6 : Nat), I ⟨[(6, .row 6 g6 jN.length), (25, .list 1 (ky.map (pvL 5 za.pv))), (26, .int .i64 (ky.length : Int)), (27, .int .i64 Xw)], [(6, g6, .row false 5 (jN.map za.pv))], nx⟩ := by
        intro suf
        induction suf with
        | nil =>
          intro pre Xw jN hsplit hidx hh nx g6
          rw [qh] at hh
          refine hI _ ?_
          have h16 := walk_nil hsplit hidx
          refine zb fun K kk hK => ?_
          simp only [go_sem]
          refine hK _ _ fun nx => ?_; clear hK K; try clear kk
          refine zm ?_
          refine zi (by first | exact congrArg PV.bool h16 | rfl) ?_
          refine zZ ?_; refine nmx ?_
          refine kg ?_
          refine zJ ?_
          refine ⟨_, (Option.some.inj hh), ?_⟩
          first | exact ⟨_, _, _, _, rfl⟩ | (simp only [pvE, lsE, zo]; exact ⟨_, _, _, _, rfl⟩) | (simp only [pvE, lsE, zo, h16]; exact ⟨_, _, _, _, rfl⟩)
        | cons atv suf ih =>
          intro pre Xw jN hsplit hidx hh nx g6
          rw [qh] at hh
          refine hI _ ?_
          obtain ⟨hl1a, hl1b, hl1d, hl1w, h16⟩ := qD (f := (pvL 5 za.pv)) hsplit hidx hlen1
          refine zb fun K kk hK => ?_
          simp only [go_sem]
          refine hK _ _ fun nx => ?_; clear hK K; try clear kk
          refine zm ?_
          refine zn (by first | exact congrArg PV.bool h16 | rfl) ?_
          refine zt ?_; refine nmx ?_
          refine zm ?_
          refine zC ?_
          refine zb fun K kk hK => ?_
          simp only [go_sem, hl1a, hl1b, hl1d, hl1w]
          refine hK _ _ fun nx => ?_; clear hK K; try clear kk
          obtain ⟨aqw, h17, hh⟩ := ze hh
          obtain ⟨h17a, h17c⟩ := z8 h17
          have h17d := qO (f := za.pv) h17c
          have h17e := qQ h17c
          try simp only [List.length_cons, List.length_nil, Nat.zero_add, Nat.reduceAdd] at h17a h17e
          try simp only [h17e] at h17a
          try simp only [List.map_cons, List.map_nil, List.nil_append, List.append_nil, List.cons_append, List.singleton_append, zo, pvE] at h17d
          refine zq fun K kk hK => ?_
          simp only [go_sem, h17a, h17d, h17e, hl1a, hl1b, hl1d, hl1w]
          (repeat refine sd ?_)
          refine hK _ _ fun nx => ?_; clear hK K; try clear kk
          refine nmx ?_
          refine zq fun K kk hK => ?_
          simp only [go_sem, hl1a, hl1b, hl1d, hl1w]
          refine hK _ _ fun nx => ?_; clear hK K; try clear kk
          refine nmx ?_
          have ih' := ih (pre ++ [atv]) (Xw + 1) _ (by rw [hsplit]; simp) (by simp [hidx]) hh nx
          refine zJ ?_
          first | exact ih' _ | (simp only [pvE, lsE, zo, h17e] at ih' ⊢; exact ih' _) | (simp only [pvE, lsE, zo, h17e, h16] at ih' ⊢; exact ih' _)
      exact key ky [] _ _ rfl rfl f1 _ _
    · rintro s ⟨t, hless, ZP, rfl, au7, aqj, nx, g6, rfl⟩
      try dsimp only at hh
      refine nmy ?_
      first | (refine qR hless ?_; try refine wT ?_) | refine qC hless ?_ | refine qE hless ?_
      refine zb fun K kk hK => ?_
      simp only [go_sem]
      refine hK _ _ fun nx => ?_; clear hK K; try clear kk
      refine zk ?_; refine nmx ?_
      obtain hR := Option.some.inj hh
      subst hR
      exact YT (by rfl) (by rfl) (by rfl) (by simp only [List.length_map, List.length_cons, List.length_nil, Nat.zero_add, Nat.reduceAdd]) (by first | rfl | (simp only [pvE, lsE, zo]; done) | (simp only [pvE, lsE, zo]; rfl))
    · intro i s h; exact h.elim
    · intro s h; exact h.elim
  · intro i s h; exact h.elim
  · intro s h; exact h.elim
theorem ajF (n_1 : za) (xU : Int) (XB : Int) (l_4 : (List za)) (R : (za × Int)) (hh : QX n_1 xU XB l_4 = some R) : PC Tryd.prog 49 [.agg [.str n_1.Kind, .str n_1.Text, .list 1 (n_1.Marks.map PV.str), .list 2 (n_1.zu.map zh.pv), .list 5 (n_1.Kids.map za.pv)], .int .i64 xU, .int .i64 XB, .list 5 (l_4.map za.pv)] (.tup [.agg [.str R.1.Kind, .str R.1.Text, .list 1 (R.1.Marks.map PV.str), .list 2 (R.1.zu.map zh.pv), .list 5 (R.1.Kids.map za.pv)], .int .i64 R.2]) := by
  rw [QX] at hh
  refine ae1 rfl ?_
  refine zb fun K kk hK => ?_
  simp only [go_sem]
  refine hK _ _ fun nx => ?_; clear hK K; try clear kk
  obtain ⟨⟨r_5, r_6⟩, h1, hh⟩ := ze hh
  dsimp only at hh
  refine zb fun K kk hK => ?_
  simp only [go_sem]
  refine zf (age _ _ _ _ h1) (by (try simp only [go_sem]) <;> exact wkl) (by rfl) (by rfl) ?_
  simp only [go_sem]
  refine hK _ _ fun nx => ?_; clear hK K; try clear kk
  refine zm ?_
  by_cases h2 : (r_6 == (2 : Int)) = true
  · rw [if_pos h2] at hh
    refine zb fun K kk hK => ?_
    simp only [go_sem, h2]
    (repeat refine sd ?_)
    refine hK _ _ fun nx => ?_; clear hK K; try clear kk
    refine zn rfl ?_
    refine zb fun K kk hK => ?_
    simp only [go_sem]
    refine hK _ _ fun nx => ?_; clear hK K; try clear kk
    refine zk ?_; refine nmx ?_
    obtain hR := Option.some.inj hh
    subst hR
    exact zy
  · rw [if_neg h2] at hh
    replace h2 := Bool.eq_false_iff.mpr h2
    obtain ⟨agZ, h3, hh⟩ := ze hh
    obtain ⟨ajB, h4, hh⟩ := ze hh
    refine zb fun K kk hK => ?_
    simp only [go_sem, h2]
    (repeat refine sd ?_)
    refine zf (Xg _ _ h3).list (by (try simp only [go_sem, h2]) <;> exact wkl) (by rfl) (by rfl) ?_
    simp only [go_sem, h2]
    (repeat refine sd ?_)
    refine zf (Wq _ _ h4) (by (try simp only [go_sem, h2]) <;> exact wkl) (by rfl) (by rfl) ?_
    simp only [go_sem, h2]
    (repeat refine sd ?_)
    refine hK _ _ fun nx => ?_; clear hK K; try clear kk
    by_cases h5 : (ajB == (2 : Int)) = true
    · rw [if_pos h5] at hh
      refine zn (by first | exact congrArg PV.bool h5 | rfl) ?_
      refine zb fun K kk hK => ?_
      simp only [go_sem]
      refine hK _ _ fun nx => ?_; clear hK K; try clear kk
      refine zk ?_; refine nmx ?_
      obtain hR := Option.some.inj hh
      subst hR
      exact zy
    · rw [if_neg h5] at hh
      replace h5 := Bool.eq_false_iff.mpr h5
      refine zi (by first | exact congrArg PV.bool h5 | rfl) ?_
      refine zt ?_; refine nmx ?_
      refine zm ?_
      refine zb fun K kk hK => ?_
      simp only [go_sem]
      refine hK _ _ fun nx => ?_; clear hK K; try clear kk
      by_cases h6 : (r_6 != (0 : Int)) = true
      · rw [if_pos h6] at hh
        refine zn (by first | exact congrArg PV.bool h6 | rfl) ?_
        refine zb fun K kk hK => ?_
        simp only [go_sem]
        refine hK _ _ fun nx => ?_; clear hK K; try clear kk
        refine zk ?_; refine nmx ?_
        obtain hR := Option.some.inj hh
        subst hR
        exact zy
      · rw [if_neg h6] at hh
        replace h6 := Bool.eq_false_iff.mpr h6
        refine zi (by first | exact congrArg PV.bool h6 | rfl) ?_
        refine zt ?_; refine nmx ?_
        obtain ⟨⟨r_9, XT, adp⟩, h7, hh⟩ := ze hh
        dsimp only at hh
        refine zb fun K kk hK => ?_
        simp only [go_sem]
        refine zf (XE _ _ _ h7) (by (try simp only [go_sem]) <;> exact wkl) (by rfl) (by rfl) ?_
        simp only [go_sem]
        refine hK _ _ fun nx => ?_; clear hK K; try clear kk
        obtain ⟨⟨aeh, adE, ae0⟩, h8, hh⟩ := ze hh
        dsimp only at hh
        refine zb fun K kk hK => ?_
        simp only [go_sem]
        refine zf (XE _ _ _ h8) (by (try simp only [go_sem]) <;> exact wkl) (by rfl) (by rfl) ?_
        simp only [go_sem]
        refine hK _ _ fun nx => ?_; clear hK K; try clear kk
        obtain ⟨aom, h9, hh⟩ := ze hh
        obtain ⟨an7, h10, hh⟩ := ze hh
        refine zb fun K kk hK => ?_
        simp only [go_sem]
        refine zf (Vt _ _ h9).list (by (try simp only [go_sem]) <;> exact wkl) (by rfl) (by rfl) ?_
        simp only [go_sem]
        refine zf (Xg _ _ h10).list (by (try simp only [go_sem]) <;> exact wkl) (by rfl) (by rfl) ?_
        simp only [go_sem]
        refine hK _ _ fun nx => ?_; clear hK K; try clear kk
        obtain ⟨⟨amU, asx⟩, h11, hh⟩ := ze hh
        dsimp only at hh
        refine zb fun K kk hK => ?_
        simp only [go_sem]
        refine zf (aaf _ _ _ _ h11) (by (try simp only [go_sem]) <;> exact wkl) (by rfl) (by rfl) ?_
        simp only [go_sem]
        refine hK _ _ fun nx => ?_; clear hK K; try clear kk
        refine zm ?_
        obtain ⟨acU, h12, hh⟩ := ze hh
        refine zb fun K kk hK => ?_
        simp only [go_sem]
        refine zf (Wq _ _ h12) (by (try simp only [go_sem]) <;> exact wkl) (by rfl) (by rfl) ?_
        simp only [go_sem]
        refine hK _ _ fun nx => ?_; clear hK K; try clear kk
        refine zb fun K kk hK => ?_
        simp only [go_sem]
        refine hK _ _ fun nx => ?_; clear hK K; try clear kk
        by_cases h13 : (acU != (0 : Int)) = true
        · rw [if_pos h13] at hh
          refine zn (by first | exact congrArg PV.bool h13 | rfl) ?_
          refine zb fun K kk hK => ?_
          simp only [go_sem]
          refine hK _ _ fun nx => ?_; clear hK K; try clear kk
          refine zk ?_; refine nmx ?_
          obtain hR := Option.some.inj hh
          subst hR
          exact zy
        · rw [if_neg h13] at hh
          replace h13 := Bool.eq_false_iff.mpr h13
          refine zi (by first | exact congrArg PV.bool h13 | rfl) ?_
          refine zt ?_; refine nmx ?_
          refine zb fun K kk hK => ?_
          simp only [go_sem]
          refine hK _ _ fun nx => ?_; clear hK K; try clear kk
          refine zk ?_; refine nmx ?_
          obtain hR := Option.some.inj hh
          subst hR
          exact zy
theorem aaQ (n_1 : za) (s_2 : zz) (R : (za × Int)) (hh : vN n_1 s_2 = some R) : PC Tryd.prog 17 [.agg [.str n_1.Kind, .str n_1.Text, .list 1 (n_1.Marks.map PV.str), .list 2 (n_1.zu.map zh.pv), .list 5 (n_1.Kids.map za.pv)], .agg [.int .u8 s_2.Kind, .int .i64 s_2.From, .int .i64 s_2.To, .list 5 (s_2.qK.map za.pv), .str s_2.Name, .str s_2.Value]] (.tup [.agg [.str R.1.Kind, .str R.1.Text, .list 1 (R.1.Marks.map PV.str), .list 2 (R.1.zu.map zh.pv), .list 5 (R.1.Kids.map za.pv)], .int .i64 R.2]) := by
  rw [vN] at hh
  refine adt rfl ?_
  refine zb fun K kk hK => ?_
  simp only [go_sem]
  refine hK _ _ fun nx => ?_; clear hK K; try clear kk
  refine zm ?_
  refine zC ?_
  obtain ⟨vg, h1, hh⟩ := ze hh
  refine zb fun K kk hK => ?_
  simp only [go_sem]
  refine zf (ahI _ _ h1) (by (try simp only [go_sem]) <;> exact wkl) (by rfl) (by rfl) ?_
  simp only [go_sem]
  refine hK _ _ fun nx => ?_; clear hK K; try clear kk
  by_cases h2 : (!vg) = true
  · rw [if_pos h2] at hh
    refine zn (by first | exact congrArg PV.bool h2 | rfl) ?_
    refine zb fun K kk hK => ?_
    simp only [go_sem]
    refine hK _ _ fun nx => ?_; clear hK K; try clear kk
    refine zk ?_; refine nmx ?_
    obtain hR := Option.some.inj hh
    subst hR
    exact zy
  · rw [if_neg h2] at hh
    replace h2 := Bool.eq_false_iff.mpr h2
    refine zi (by first | exact congrArg PV.bool h2 | rfl) ?_
    by_cases h3 : (n_1.Kind == ([116, 101, 120, 116] : Str)) = true
    · rw [if_pos h3] at hh
      refine zb fun K kk hK => ?_
      simp only [go_sem, h3]
      (repeat refine sd ?_)
      refine hK _ _ fun nx => ?_; clear hK K; try clear kk
      refine zn rfl ?_
      refine zb fun K kk hK => ?_
      simp only [go_sem]
      refine hK _ _ fun nx => ?_; clear hK K; try clear kk
      refine zk ?_; refine nmx ?_
      obtain hR := Option.some.inj hh
      subst hR
      exact zy
    · rw [if_neg h3] at hh
      replace h3 := Bool.eq_false_iff.mpr h3
      obtain ⟨ajg, h4, hh⟩ := ze hh
      refine zb fun K kk hK => ?_
      simp only [go_sem, h3]
      (repeat refine sd ?_)
      refine zf (aah _ _ h4) (by (try simp only [go_sem, h3]) <;> exact wkl) (by rfl) (by rfl) ?_
      simp only [go_sem, h3]
      (repeat refine sd ?_)
      refine hK _ _ fun nx => ?_; clear hK K; try clear kk
      by_cases h5 : (!ajg) = true
      · rw [if_pos h5] at hh
        refine zn (by first | exact congrArg PV.bool h5 | rfl) ?_
        refine zb fun K kk hK => ?_
        simp only [go_sem]
        refine hK _ _ fun nx => ?_; clear hK K; try clear kk
        refine zk ?_; refine nmx ?_
        obtain hR := Option.some.inj hh
        subst hR
        exact zy
      · rw [if_neg h5] at hh
        replace h5 := Bool.eq_false_iff.mpr h5
        refine zi (by first | exact congrArg PV.bool h5 | rfl) ?_
        refine zb fun K kk hK => ?_
        simp only [go_sem]
        refine hK _ _ fun nx => ?_; clear hK K; try clear kk
        by_cases h6 : (s_2.Kind == (114 : Int)) = true
        · rw [if_pos h6] at hh
          refine zn (by first | exact congrArg PV.bool h6 | rfl) ?_
          obtain ⟨⟨r_5, r_6⟩, h7, hh⟩ := ze hh
          dsimp only at hh
          refine zb fun K kk hK => ?_
          simp only [go_sem]
          refine zf (ajF _ _ _ _ _ h7) (by (try simp only [go_sem]) <;> exact wkl) (by rfl) (by rfl) ?_
          simp only [go_sem]
          refine hK _ _ fun nx => ?_; clear hK K; try clear kk
          refine zk ?_; refine nmx ?_
          obtain hR := Option.some.inj hh
          subst hR
          exact zy
        · rw [if_neg h6] at hh
          replace h6 := Bool.eq_false_iff.mpr h6
          refine zi (by first | exact congrArg PV.bool h6 | rfl) ?_
          refine zb fun K kk hK => ?_
          simp only [go_sem]
          refine hK _ _ fun nx => ?_; clear hK K; try clear kk
          by_cases h8 : (s_2.Kind == (97 : Int)) = true
          · rw [if_pos h8] at hh
            refine zn (by first | exact congrArg PV.bool h8 | rfl) ?_
            obtain ⟨⟨r_7, r_8, r_9⟩, h9, hh⟩ := ze hh
            dsimp only at hh
            refine zb fun K kk hK => ?_
            simp only [go_sem]
            refine zf (ama _ _ _ h9) (by (try simp only [go_sem]) <;> exact wkl) (by rfl) (by rfl) ?_
            simp only [go_sem]
            refine hK _ _ fun nx => ?_; clear hK K; try clear kk
            refine zb fun K kk hK => ?_
            simp only [go_sem]
            refine hK _ _ fun nx => ?_; clear hK K; try clear kk
            refine zk ?_; refine nmx ?_
            obtain hR := Option.some.inj hh
            subst hR
            exact zy
          · rw [if_neg h8] at hh
            replace h8 := Bool.eq_false_iff.mpr h8
            refine zi (by first | exact congrArg PV.bool h8 | rfl) ?_
            refine zt ?_; refine nmx ?_
            obtain ⟨⟨XT, adp, aeh⟩, h10, hh⟩ := ze hh
            dsimp only at hh
            refine zb fun K kk hK => ?_
            simp only [go_sem]
            refine zf (ah3 _ _ _ h10) (by (try simp only [go_sem]) <;> exact wkl) (by rfl) (by rfl) ?_
            simp only [go_sem]
            refine hK _ _ fun nx => ?_; clear hK K; try clear kk
            refine zb fun K kk hK => ?_
            simp only [go_sem]
            refine hK _ _ fun nx => ?_; clear hK K; try clear kk
            refine zk ?_; refine nmx ?_
            obtain hR := Option.some.inj hh
            subst hR
            exact zy
theorem aeO (n_1 : za) (l_2 : (List zz)) (R : (za × Int)) (hh : QC n_1 l_2 = some R) : PC Tryd.prog 14 [.agg [.str n_1.Kind, .str n_1.Text, .list 1 (n_1.Marks.map PV.str), .list 2 (n_1.zu.map zh.pv), .list 5 (n_1.Kids.map za.pv)], .list 6 (l_2.map zz.pv)] (.tup [.agg [.str R.1.Kind, .str R.1.Text, .list 1 (R.1.Marks.map PV.str), .list 2 (R.1.zu.map zh.pv), .list 5 (R.1.Kids.map za.pv)], .int .i64 R.2]) := by
  rw [QC] at hh
  refine ahC rfl ?_
  refine zb fun K kk hK => ?_
  simp only [go_sem]
  refine hK _ _ fun nx => ?_; clear hK K; try clear kk
  refine zb fun K kk hK => ?_
  simp only [go_sem]
  refine hK _ _ fun nx => ?_; clear hK K; try clear kk
  refine zm ?_
  refine zb fun K kk hK => ?_
  simp only [go_sem]
  refine hK _ _ fun nx => ?_; clear hK K; try clear kk
  obtain ⟨e0, f0, hh⟩ := ze hh
  obtain ⟨hlen0, f0⟩ := qa f0
  refine qx (wS (fun s => ∃ ajw, .inr ajw = e0 ∧ ∃ (alo : Int) (aut : Bool) (nx : Nat) (g2 : Nat) (g4 : Nat), s = ⟨[(2, .box 2 g2 0), (4, .box 4 g4 0), (9, .list 6 (l_2.map zz.pv)), (10, .int .i64 (l_2.length : Int)), (11, .int .i64 alo), (12, .bool aut)], [(2, g2, .var 28 [.str ajw.Kind, .str ajw.Text, .list 1 (ajw.Marks.map PV.str), .list 2 (ajw.zu.map zh.pv), .list 5 (ajw.Kids.map za.pv)]), (4, g4, .var 28 [.str ([] : Str), .str ([] : Str), .list 1 ([].map PV.str), .list 2 ([].map zh.pv), .list 5 ([].map za.pv)])], nx⟩))
    (fun i s => False)
    (fun s => ∃ VL, .inl VL = e0 ∧ zS Tryd.prog [.cell 4 28, .tmp 5] (.tup [.agg [.str VL.1.Kind, .str VL.1.Text, .list 1 (VL.1.Marks.map PV.str), .list 2 (VL.1.zu.map zh.pv), .list 5 (VL.1.Kids.map za.pv)], .int .i64 VL.2]) [] .ret s) ?_ ?_ ?_ ?_
  · refine zC ?_
    refine qo fun I hI => ?_
    have key : ∀ (suf pre : List zz) (v_7 : Int) (n_6 : za), l_2 = pre ++ suf → v_7 = (pre.length : Int) → yB suf v_7 n_6 = some e0 → ∀ (nx : Nat) (g2 : Nat) (g4 : Nat), I ⟨[(2, .box 2 g2 0), (4, .box 4 g4 0), (9, .list 6 (l_2.map zz.pv)), (10, .int .i64 (l_2.length : Int)), (11, .int .i64 v_7)], [(2, g2, .var 28 [.str n_6.Kind, .str n_6.Text, .list 1 (n_6.Marks.map PV.str), .list 2 (n_6.zu.map zh.pv), .list 5 (n_6.Kids.map za.pv)]), (4, g4, .var 28 [.str ([] : Str), .str ([] : Str), .list 1 ([].map PV.str), .list 2 ([].map zh.pv), .list 5 ([].map za.pv)])], nx⟩ := by
      intro suf
      induction suf with
      | nil =>
        intro pre v_7 n_6 hsplit hidx hh nx g2 g4
        rw [yB] at hh
        refine hI _ ?_
        have h9 := walk_nil hsplit hidx
        refine zb fun K kk hK => ?_
        simp only [go_sem]
        refine hK _ _ fun nx => ?_; clear hK K; try clear kk
        refine zm ?_
        refine zi (by first | exact congrArg PV.bool h9 | rfl) ?_
        refine zZ ?_; refine nmx ?_
        refine kg ?_
        refine zJ ?_
        refine ⟨_, (Option.some.inj hh), ?_⟩
        first | exact ⟨_, _, _, _, _, rfl⟩ | (simp only [pvE, lsE, zo]; exact ⟨_, _, _, _, _, rfl⟩) | (simp only [pvE, lsE, zo, h9]; exact ⟨_, _, _, _, _, rfl⟩)
      | cons atq suf ih =>
        intro pre v_7 n_6 hsplit hidx hh nx g2 g4
        rw [yB] at hh
        refine hI _ ?_
        obtain ⟨hl0a, hl0b, hl0d, hl0w, h9⟩ := qD (f := zz.pv) hsplit hidx hlen0
        refine zb fun K kk hK => ?_
        simp only [go_sem]
        refine hK _ _ fun nx => ?_; clear hK K; try clear kk
        refine zm ?_
        refine zn (by first | exact congrArg PV.bool h9 | rfl) ?_
        refine zt ?_; refine nmx ?_
        refine zm ?_
        refine zC ?_
        refine zb fun K kk hK => ?_
        simp only [go_sem, hl0a, hl0b, hl0d, hl0w]
        refine hK _ _ fun nx => ?_; clear hK K; try clear kk
        obtain ⟨⟨aeh, adE⟩, h10, hh⟩ := ze hh
        dsimp only at hh
        refine zb fun K kk hK => ?_
        simp only [go_sem, hl0a, hl0b, hl0d, hl0w]
        refine zf (aaQ _ _ _ h10) (by (try simp only [go_sem, hl0a, hl0b, hl0d, hl0w]) <;> exact wkl) (by rfl) (by rfl) ?_
        simp only [go_sem, hl0a, hl0b, hl0d, hl0w]
        refine hK _ _ fun nx => ?_; clear hK K; try clear kk
        refine zb fun K kk hK => ?_
        simp only [go_sem, hl0a, hl0b, hl0d, hl0w]
        refine hK _ _ fun nx => ?_; clear hK K; try clear kk
        by_cases h11 : (adE != (0 : Int)) = true
        · rw [if_pos h11] at hh
          refine zn (by first | exact congrArg PV.bool h11 | rfl) ?_
          refine zb fun K kk hK => ?_
          simp only [go_sem, hl0a, hl0b, hl0d, hl0w]
          refine hK _ _ fun nx => ?_; clear hK K; try clear kk
          refine zk ?_; refine nmx ?_
          refine xZ ⟨_, (Option.some.inj hh), ?_⟩
          exact zy
        · rw [if_neg h11] at hh
          replace h11 := Bool.eq_false_iff.mpr h11
          refine zi (by first | exact congrArg PV.bool h11 | rfl) ?_
          refine zt ?_; refine nmx ?_
          refine zq fun K kk hK => ?_
          simp only [go_sem, hl0a, hl0b, hl0d, hl0w]
          refine hK _ _ fun nx => ?_; clear hK K; try clear kk
          refine nmx ?_
          have ih' := ih (pre ++ [atq]) (v_7 + 1) _ (by rw [hsplit]; simp) (by simp [hidx]) hh nx
          refine zJ ?_
          first | exact ih' _ _ | (simp only [pvE, lsE, zo] at ih' ⊢; exact ih' _ _) | (simp only [pvE, lsE, zo, h11, h9] at ih' ⊢; exact ih' _ _)
    exact key l_2 [] _ _ rfl rfl f0 _ _ _
  · rintro s ⟨t, hless, ajw, rfl, alo, aut, nx, g2, g4, rfl⟩
    try dsimp only at hh
    refine nmy ?_
    first | (refine qR hless ?_; try refine wT ?_) | refine qC hless ?_ | refine qE hless ?_
    refine zb fun K kk hK => ?_
    simp only [go_sem]
    refine hK _ _ fun nx => ?_; clear hK K; try clear kk
    refine zk ?_; refine nmx ?_
    obtain hR := Option.some.inj hh
    subst hR
    exact zy
  · intro i s h; exact h.elim
  · rintro s ⟨VL, rfl, hb⟩
    try dsimp only at hh
    obtain hR := Option.some.inj hh
    subst hR
    refine nmx ?_
    exact hb
theorem Zk (kN : (List zh)) (vB : (List zh)) (R : Bool) (hh : kR kN vB = some R) : PC Tryd.prog 43 [.list 2 (kN.map zh.pv), .list 2 (vB.map zh.pv)] (.bool R) := by
  rw [kR] at hh
  refine KA rfl ?_
  refine zb fun K kk hK => ?_
  simp only [go_sem]
  refine hK _ _ fun nx => ?_; clear hK K; try clear kk
  refine zm ?_
  refine zb fun K kk hK => ?_
  simp only [go_sem]
  refine hK _ _ fun nx => ?_; clear hK K; try clear kk
  by_cases h1 : ((kN.length : Int) != (vB.length : Int)) = true
  · rw [if_pos h1] at hh
    refine zn (by first | exact congrArg PV.bool h1 | rfl) ?_
    refine zb fun K kk hK => ?_
    simp only [go_sem]
    refine hK _ _ fun nx => ?_; clear hK K; try clear kk
    refine zk ?_; refine nmx ?_
    obtain hR := Option.some.inj hh
    subst hR
    exact zy
  · rw [if_neg h1] at hh
    replace h1 := Bool.eq_false_iff.mpr h1
    refine zi (by first | exact congrArg PV.bool h1 | rfl) ?_
    refine zt ?_; refine nmx ?_
    refine zm ?_
    refine zb fun K kk hK => ?_
    simp only [go_sem]
    refine hK _ _ fun nx => ?_; clear hK K; try clear kk
    obtain ⟨e0, f0, hh⟩ := ze hh
    obtain ⟨hlen0, f0⟩ := qa f0
    refine qx (wS (fun s => .inr () = e0 ∧ ∃ (yY : Int) (Zx : Bool) (nx : Nat), s = ⟨[(0, .list 2 (kN.map zh.pv)), (1, .list 2 (vB.map zh.pv)), (12, .int .i64 (kN.length : Int)), (13, .int .i64 yY), (14, .bool Zx)], [], nx⟩))
      (fun i s => False)
      (fun s => ∃ qf, .inl qf = e0 ∧ zS Tryd.prog [.tmp 4] (.bool qf) [] .ret s) ?_ ?_ ?_ ?_
    · refine zC ?_
      refine qo fun I hI => ?_
      have key : ∀ (suf pre : List zh) (v_5 : Int), kN = pre ++ suf → v_5 = (pre.length : Int) → qL vB suf v_5 = some e0 → ∀ (nx : Nat), I ⟨[(0, .list 2 (kN.map zh.pv)), (1, .list 2 (vB.map zh.pv)), (12, .int .i64 (kN.length : Int)), (13, .int .i64 v_5)], [], nx⟩ := by
        intro suf
        induction suf with
        | nil =>
          intro pre v_5 hsplit hidx hh nx
          rw [qL] at hh
          refine hI _ ?_
          have h10 := walk_nil hsplit hidx
          refine zb fun K kk hK => ?_
          simp only [go_sem]
          refine hK _ _ fun nx => ?_; clear hK K; try clear kk
          refine zm ?_
          refine zi (by first | exact congrArg PV.bool h10 | rfl) ?_
          refine zZ ?_; refine nmx ?_
          refine kg ?_
          refine zJ ?_
          refine ⟨(Option.some.inj hh), ?_⟩
          first | exact ⟨_, _, _, rfl⟩ | (simp only [pvE, lsE, zo]; exact ⟨_, _, _, rfl⟩) | (simp only [pvE, lsE, zo, h1, h10]; exact ⟨_, _, _, rfl⟩)
        | cons y_8 suf ih =>
          intro pre v_5 hsplit hidx hh nx
          rw [qL] at hh
          refine hI _ ?_
          obtain ⟨hl0a, hl0b, hl0d, hl0w, h10⟩ := qD (f := zh.pv) hsplit hidx hlen0
          refine zb fun K kk hK => ?_
          simp only [go_sem]
          refine hK _ _ fun nx => ?_; clear hK K; try clear kk
          refine zm ?_
          refine zn (by first | exact congrArg PV.bool h10 | rfl) ?_
          refine zt ?_; refine nmx ?_
          refine zm ?_
          refine zC ?_
          refine zb fun K kk hK => ?_
          simp only [go_sem, hl0a, hl0b, hl0d, hl0w]
          refine hK _ _ fun nx => ?_; clear hK K; try clear kk
          obtain ⟨x_9, h11, hh⟩ := ze hh
          obtain ⟨h11a, h11b, h11c⟩ := rd_some h11
          have h11d := vD (f := zh.pv) h11c
          have h11f := wY (f := zh.pv) h11c
          try simp only [Int.toNat_natCast, Int.reduceToNat] at h11d h11f
          refine zb fun K kk hK => ?_
          simp only [go_sem, h11a, h11b, h11d, h11f.1, h11f.2, hl0a, hl0b, hl0d, hl0w]
          (repeat refine sd ?_)
          refine hK _ _ fun nx => ?_; clear hK K; try clear kk
          by_cases h12 : ((((y_8.Name == x_9.Name) && (y_8.Value == x_9.Value)) != true)) = true
          · rw [if_pos h12] at hh
            refine zn (by first | exact congrArg PV.bool h12 | rfl) ?_
            refine zb fun K kk hK => ?_
            simp only [go_sem, hl0a, hl0b, hl0d, hl0w]
            refine hK _ _ fun nx => ?_; clear hK K; try clear kk
            refine zk ?_; refine nmx ?_
            refine xZ ⟨_, (Option.some.inj hh), ?_⟩
            exact zy
          · rw [if_neg h12] at hh
            replace h12 := Bool.eq_false_iff.mpr h12
            refine zi (by first | exact congrArg PV.bool h12 | rfl) ?_
            refine zt ?_; refine nmx ?_
            refine zq fun K kk hK => ?_
            simp only [go_sem, hl0a, hl0b, hl0d, hl0w]
            refine hK _ _ fun nx => ?_; clear hK K; try clear kk
            refine nmx ?_
            have ih' := ih (pre ++ [y_8]) (v_5 + 1) (by rw [hsplit]; simp) (by simp [hidx]) hh nx
            refine zJ ?_
            first | exact ih' | (simp only [pvE, lsE, zo] at ih' ⊢; exact ih') | (simp only [pvE, lsE, zo, h1, h10, h12] at ih' ⊢; exact ih')
      exact key kN [] _ rfl rfl f0 _
    · rintro s ⟨t, hless, rfl, yY, Zx, nx, rfl⟩
      try dsimp only at hh
      refine nmy ?_
      first | (refine qR hless ?_; try refine wT ?_) | refine qC hless ?_ | refine qE hless ?_
      refine zb fun K kk hK => ?_
      simp only [go_sem]
      refine hK _ _ fun nx => ?_; clear hK K; try clear kk
      refine zk ?_; refine nmx ?_
      obtain hR := Option.some.inj hh
      subst hR
      exact zy
    · intro i s h; exact h.elim
    · rintro s ⟨qf, rfl, hb⟩
      try dsimp only at hh
      obtain hR := Option.some.inj hh
      subst hR
      refine nmx ?_
      exact hb
end Go.Proofs.YtclohbgnaopjfaaDoor
