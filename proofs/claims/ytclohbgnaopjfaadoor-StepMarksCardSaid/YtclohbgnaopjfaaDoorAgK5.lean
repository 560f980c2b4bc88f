/- Texts of the proof of stepMarksCard -/
import Derived.Test.YtclohbgnaopjfaaDoorAgC
import Derived.Test.YtclohbgnaopjfaaDoorAgF
import Derived.Test.YtclohbgnaopjfaaDoorAgK0
import Derived.Test.YtclohbgnaopjfaaDoorAgK1
import Derived.Test.YtclohbgnaopjfaaDoorAgK2
import Derived.Test.YtclohbgnaopjfaaDoorAgK3
import Derived.Test.YtclohbgnaopjfaaDoorAgK4
import Derived.Test.YtclohbgnaopjfaaDoorAgL
import Derived.Test.YtclohbgnaopjfaaDoorAgSl
namespace Go.Proofs.YtclohbgnaopjfaaDoor
set_option linter.unusedSimpArgs false
set_option linter.unusedVariables false
open Go
set_option maxRecDepth 100000
theorem J9 (l_1 : (List za)) (zL : Int) (R : ((List za) × (List za) × Int)) (hh : Vb l_1 zL = some R) : PC Tryd.prog 73 [.list 5 (l_1.map za.pv), .int .i64 zL] (.tup [.list 5 (R.1.map za.pv), .list 5 (R.2.1.map za.pv), .int .i64 R.2.2]) := by
  rw [Vb] at hh
  refine acy rfl ?_
  refine zb fun K kk hK => ?_
  simp only [go_sem]
  refine hK _ _ fun nx => ?_; clear hK K; try clear kk
  refine zk ?_
  by_cases h1 : (decide (zL < (0 : Int))) = true
  · rw [if_pos h1] at hh
    refine zb fun K kk hK => ?_
    simp only [go_sem, h1, of_decide_eq_true h1]
    (repeat refine sd ?_)
    refine hK _ _ fun nx => ?_; clear hK K; try clear kk
    refine zm rfl ?_
    refine zb fun K kk hK => ?_
    simp only [go_sem]
    refine hK _ _ fun nx => ?_; clear hK K; try clear kk
    refine zi ?_; refine nmx ?_
    obtain hR := Option.some.inj hh
    subst hR
    exact zy
  · rw [if_neg h1] at hh
    replace h1 := Bool.eq_false_iff.mpr h1
    obtain ⟨Qj, h2, hh⟩ := ze hh
    refine zb fun K kk hK => ?_
    simp only [go_sem, h1, of_decide_eq_false h1]
    (repeat refine sd ?_)
    refine zf (xx _ _ h2) (by (try simp only [go_sem, h1, of_decide_eq_false h1]) <;> exact wkl) (by rfl) (by rfl) ?_
    simp only [go_sem, h1, of_decide_eq_false h1]
    (repeat refine sd ?_)
    refine hK _ _ fun nx => ?_; clear hK K; try clear kk
    by_cases h3 : (decide (zL > Qj)) = true
    · rw [if_pos h3] at hh
      refine zm (by first | exact congrArg PV.bool h3 | rfl) ?_
      refine zb fun K kk hK => ?_
      simp only [go_sem]
      refine hK _ _ fun nx => ?_; clear hK K; try clear kk
      refine zi ?_; refine nmx ?_
      obtain hR := Option.some.inj hh
      subst hR
      exact zy
    · rw [if_neg h3] at hh
      replace h3 := Bool.eq_false_iff.mpr h3
      refine zh (by first | exact congrArg PV.bool h3 | rfl) ?_
      refine zx ?_; refine nmx ?_
      refine zb fun K kk hK => ?_
      simp only [go_sem]
      refine hK _ _ fun nx => ?_; clear hK K; try clear kk
      refine zk ?_
      obtain ⟨e0, f0, hh⟩ := ze hh
      obtain ⟨hlen0, f0⟩ := zY f0
      refine VW (fun s => ∃ adz, ∃ alj, (adz, alj) = e0 ∧ ∃ (aki : Bool) (nx : Nat), s = ⟨[(0, .list 5 (l_1.map za.pv)), (1, .int .i64 adz), (7, .int .i64 alj), (32, .bool aki)], [], nx⟩)
        (fun i s => False)
        (fun s => False) ?_ ?_ ?_ ?_
      · refine zC ?_
        refine qp fun I hI => ?_
        have key : ∀ (suf pre : List za) (i_8 : Int) (afj : Int), l_1 = pre ++ suf → i_8 = (pre.length : Int) → xY suf i_8 afj = some e0 → ∀ (nx : Nat), I ⟨[(0, .list 5 (l_1.map za.pv)), (1, .int .i64 afj), (7, .int .i64 i_8)], [], nx⟩ := by
          intro suf
          induction suf with
          | nil =>
            intro pre i_8 afj hsplit hidx hh nx
            rw [xY] at hh
            refine hI _ ?_
            have h14 := walk_nil hsplit hidx
            refine zk ?_
            refine zb fun K kk hK => ?_
            simp only [go_sem, h14, of_decide_eq_false h14]
            (repeat refine sd ?_)
            refine hK _ _ fun nx => ?_; clear hK K; try clear kk
            refine zh rfl ?_
            refine qa ?_; refine nmx ?_
            refine kF ?_
            refine zH ?_
            refine ⟨_, _, (Option.some.inj hh), ?_⟩
            first | exact ⟨_, _, rfl⟩ | (simp only [pvE, lsE, zn]; exact ⟨_, _, rfl⟩) | (simp only [pvE, lsE, zn, h1, h14, h3]; exact ⟨_, _, rfl⟩)
          | cons ajQ suf ih =>
            intro pre i_8 afj hsplit hidx hh nx
            rw [xY] at hh
            refine hI _ ?_
            obtain ⟨hl0a, hl0b, hl0d, hl0w, h14⟩ := qF (f := za.pv) hsplit hidx hlen0
            refine zk ?_
            obtain ⟨ah4, h15, hh⟩ := ze hh
            refine zb fun K kk hK => ?_
            simp only [go_sem, h14, of_decide_eq_true h14, hl0a, hl0b, hl0d, hl0w]
            (repeat refine sd ?_)
            refine zf (ZW _ _ h15) (by (try simp only [go_sem, h14, of_decide_eq_true h14, hl0a, hl0b, hl0d, hl0w]) <;> exact wkl) (by rfl) (by rfl) ?_
            simp only [go_sem, h14, of_decide_eq_true h14, hl0a, hl0b, hl0d, hl0w]
            (repeat refine sd ?_)
            refine hK _ _ fun nx => ?_; clear hK K; try clear kk
            by_cases h16 : (decide (afj ≥ ah4)) = true
            · rw [if_pos h16] at hh
              refine zm (by first | exact congrArg PV.bool h16 | rfl) ?_
              refine zx ?_; refine nmx ?_
              refine zk ?_
              refine zC ?_
              obtain ⟨amF, h17, hh⟩ := ze hh
              refine zq fun K kk hK => ?_
              simp only [go_sem, hl0a, hl0b, hl0d, hl0w]
              refine zf (ZW _ _ h17) (by (try simp only [go_sem, hl0a, hl0b, hl0d, hl0w]) <;> exact wkl) (by rfl) (by rfl) ?_
              simp only [go_sem, hl0a, hl0b, hl0d, hl0w]
              refine hK _ _ fun nx => ?_; clear hK K; try clear kk
              refine nmx ?_
              refine zq fun K kk hK => ?_
              simp only [go_sem, hl0a, hl0b, hl0d, hl0w]
              refine hK _ _ fun nx => ?_; clear hK K; try clear kk
              refine nmx ?_
              have ih' := ih (pre ++ [ajQ]) (i_8 + 1) _ (by rw [hsplit]; simp) (by simp [hidx]) hh nx
              refine zH ?_
              first | exact ih' | (simp only [pvE, lsE, zn] at ih' ⊢; exact ih') | (simp only [pvE, lsE, zn, h1, h14, h16, h3] at ih' ⊢; exact ih')
            · rw [if_neg h16] at hh
              replace h16 := Bool.eq_false_iff.mpr h16
              refine zh (by first | exact congrArg PV.bool h16 | rfl) ?_
              refine qa ?_; refine nmx ?_
              refine kF ?_
              refine zH ?_
              refine ⟨_, _, (Option.some.inj hh), ?_⟩
              first | exact ⟨_, _, rfl⟩ | (simp only [pvE, lsE, zn]; exact ⟨_, _, rfl⟩) | (simp only [pvE, lsE, zn, h1, h14, h16, h3]; exact ⟨_, _, rfl⟩)
        exact key l_1 [] _ _ rfl rfl f0 _
      · rintro s ⟨adz, alj, rfl, aki, nx, rfl⟩
        try dsimp only at hh
        obtain ⟨atu, h18, hh⟩ := ze hh
        obtain ⟨h18a, h18c⟩ := QS h18
        have h18g := YD h18a
        have h18d := Yd (f := za.pv) h18c
        try simp only [Int.toNat_natCast, Int.reduceToNat, List.map_cons, List.map_nil, pvE] at h18d
        obtain ⟨ai6, h19, hh⟩ := ze hh
        obtain ⟨atB, h20, hh⟩ := ze hh
        obtain ⟨h20a, h20c⟩ := QS h20
        have h20g := YD h20a
        have h20d := aiW (f := za.pv) h20c
        try simp only [Int.toNat_natCast, Int.reduceToNat, List.map_cons, List.map_nil, pvE] at h20d
        obtain ⟨aez, h21, hh⟩ := ze hh
        refine zb fun K kk hK => ?_
        simp only [go_sem, h18a.1, h18a.2.1, h18a.2.2, h18d, h18g, h20a.1, h20a.2.1, h20a.2.2, h20d, h20g]
        (repeat refine sd ?_)
        refine aax [] (by decide) (by decide) (jJ _ _ h19) (by (try simp only [go_sem, h18a.1, h18a.2.1, h18a.2.2, h18d, h18g, h20a.1, h20a.2.1, h20a.2.2, h20d, h20g, h1, h3]) <;> exact wkb) (by rfl) (by rfl) ?_
        simp only [go_sem, h18a.1, h18a.2.1, h18a.2.2, h18d, h18g, h20a.1, h20a.2.1, h20a.2.2, h20d, h20g]
        (repeat refine sd ?_)
        refine aax [] (by decide) (by decide) (jJ _ _ h21) (by (try simp only [go_sem, h18a.1, h18a.2.1, h18a.2.2, h18d, h18g, h20a.1, h20a.2.1, h20a.2.2, h20d, h20g, h1, h3]) <;> exact wkb) (by rfl) (by rfl) ?_
        simp only [go_sem, h18a.1, h18a.2.1, h18a.2.2, h18d, h18g, h20a.1, h20a.2.1, h20a.2.2, h20d, h20g]
        (repeat refine sd ?_)
        refine hK _ _ fun nx => ?_; clear hK K; try clear kk
        refine zk ?_
        refine zC ?_
        refine zb fun K kk hK => ?_
        simp only [go_sem]
        refine hK _ _ fun nx => ?_; clear hK K; try clear kk
        by_cases h22 : (adz == (0 : Int)) = true
        · rw [if_pos h22] at hh
          refine zm (by first | exact congrArg PV.bool h22 | rfl) ?_
          refine zb fun K kk hK => ?_
          simp only [go_sem]
          refine hK _ _ fun nx => ?_; clear hK K; try clear kk
          refine zi ?_; refine nmx ?_
          obtain hR := Option.some.inj hh
          subst hR
          exact zy
        · rw [if_neg h22] at hh
          replace h22 := Bool.eq_false_iff.mpr h22
          refine zh (by first | exact congrArg PV.bool h22 | rfl) ?_
          obtain ⟨alx, h23, hh⟩ := ze hh
          obtain ⟨h23a, h23b, h23c⟩ := rd_some h23
          have h23d := vz (f := za.pv) h23c
          have h23f := wY (f := za.pv) h23c
          try simp only [Int.toNat_natCast, Int.reduceToNat] at h23d h23f
          refine zb fun K kk hK => ?_
          simp only [go_sem, h23a, h23b, h23d, h23f.1, h23f.2]
          (repeat refine sd ?_)
          refine hK _ _ fun nx => ?_; clear hK K; try clear kk
          by_cases h24 : (!(alx.Kind == ([116, 101, 120, 116] : Str))) = true
          · rw [if_pos h24] at hh
            refine zm (by first | exact congrArg PV.bool h24 | rfl) ?_
            refine zb fun K kk hK => ?_
            simp only [go_sem]
            refine hK _ _ fun nx => ?_; clear hK K; try clear kk
            refine zi ?_; refine nmx ?_
            obtain hR := Option.some.inj hh
            subst hR
            exact zy
          · rw [if_neg h24] at hh
            replace h24 := Bool.eq_false_iff.mpr h24
            refine zh (by first | exact congrArg PV.bool h24 | rfl) ?_
            refine zx ?_; refine nmx ?_
            refine zb fun K kk hK => ?_
            simp only [go_sem, h23a, h23b, h23d, h23f.1, h23f.2]
            (repeat refine sd ?_)
            refine hK _ _ fun nx => ?_; clear hK K; try clear kk
            refine zb fun K kk hK => ?_
            simp only [go_sem, h23a, h23b, h23d, h23f.1, h23f.2]
            (repeat refine sd ?_)
            refine hK _ _ fun nx => ?_; clear hK K; try clear kk
            obtain ⟨at6, h25, hh⟩ := ze hh
            obtain ⟨h25a, h25c⟩ := QS h25
            have h25g := YD h25a
            have h25d := Yd (f := (PV.int .i32)) h25c
            try simp only [Int.toNat_natCast, Int.reduceToNat, List.map_cons, List.map_nil, pvE] at h25d
            obtain ⟨atj, h26, hh⟩ := ze hh
            obtain ⟨h26a, h26c⟩ := QS h26
            have h26g := YD h26a
            have h26d := aiW (f := (PV.int .i32)) h26c
            try simp only [Int.toNat_natCast, Int.reduceToNat, List.map_cons, List.map_nil, pvE] at h26d
            obtain ⟨as0, h27, hh⟩ := ze hh
            obtain ⟨h27a, h27b, h27c⟩ := rd_some h27
            have h27d := vz (f := za.pv) h27c
            have h27f := wY (f := za.pv) h27c
            try simp only [Int.toNat_natCast, Int.reduceToNat] at h27d h27f
            obtain ⟨atQ, h28, hh⟩ := ze hh
            obtain ⟨h28a, h28c⟩ := Yl h28
            have h28d := acT (f := za.pv) h28c
            try simp only [Int.toNat_natCast, Int.reduceToNat, List.map_cons, List.map_nil, List.cons_append, List.nil_append, List.singleton_append, pvE] at h28d
            have h28e := adq h28c
            have h27b_h28 := h27b; rw [h28e] at h27b_h28
            have h27f1_h28 := h27f.1; rw [h28e] at h27f1_h28
            have h27a_h28 := h27a; try rw [h28e] at h27a_h28
            have h27d_h28 := h27d; try rw [h28e] at h27d_h28
            try rw [h28e] at h28d
            have h28bw := h28a.2; rw [h28e] at h28bw
            refine zb fun K kk hK => ?_
            simp only [go_sem, h25a.1, h25a.2.1, h25a.2.2, h25d, h25g, h26a.1, h26a.2.1, h26a.2.2, h26d, h26g, h27a, h27b, h27d, h27f.1, h27f.2, h28a.1, h28a.2, h28d, h28e, h27b_h28, h27f1_h28, h27a_h28, h27d_h28, h28bw]
            (repeat refine sd ?_)
            try simp only [go_sem, h25a.1, h25a.2.1, h25a.2.2, h25d, h25g, h26a.1, h26a.2.1, h26a.2.2, h26d, h26g, h27a, h27b, h27d, h27f.1, h27f.2, h28a.1, h28a.2, h28d, h28e, h27b_h28, h27f1_h28, h27a_h28, h27d_h28, h28bw]
            refine hK _ _ fun nx => ?_; clear hK K; try clear kk
            obtain ⟨as7, h29, hh⟩ := ze hh
            obtain ⟨h29a, h29c⟩ := zV h29
            have h29d := qE (f := za.pv) h29c
            have h29e := qH h29c
            try simp only [List.length_cons, List.length_nil, Nat.zero_add, Nat.reduceAdd] at h29a h29e
            try simp only [h29e] at h29a
            try simp only [List.map_cons, List.map_nil, List.nil_append, List.append_nil, List.cons_append, List.singleton_append, zn, pvE] at h29d
            refine zb fun K kk hK => ?_
            simp only [go_sem, h29a, h29d, h29e]
            (repeat refine sd ?_)
            refine hK _ _ fun nx => ?_; clear hK K; try clear kk
            refine zi ?_; refine nmx ?_
            obtain hR := Option.some.inj hh
            subst hR
            exact zy
      · intro i s h; exact h.elim
      · intro s h; exact h.elim
theorem KX (n : Int) (R : (List za)) (hh : xc n = some R) : PC Tryd.prog 105 [.kC, .int .i64 n] (.own 5 (R.map za.pv)) := by
 rw [xc] at hh
 obtain ⟨⟨h1, h2⟩, hR⟩ := zY hh
 cases hR
 exact aoX Tryd.aq1 ⟨by kernel_rfl, by kernel_rfl⟩ ⟨_, Tryd.func105, by kernel_rfl, by kernel_rfl⟩ atJ rfl n h1 (by simpa using h2)
theorem KS (kg : (List (List za))) (R : (List za)) (hh : xh kg = some R) : PC Tryd.prog 83 [.list 1 (kg.map (pvL 5 za.pv))] (.own 5 (R.map za.pv)) := by
  rw [xh] at hh
  refine Wo rfl ?_
  refine zb fun K kk hK => ?_
  simp only [go_sem]
  refine hK _ _ fun nx => ?_; clear hK K; try clear kk
  refine zb fun K kk hK => ?_
  simp only [go_sem]
  refine hK _ _ fun nx => ?_; clear hK K; try clear kk
  refine zk ?_
  refine zb fun K kk hK => ?_
  simp only [go_sem]
  refine hK _ _ fun nx => ?_; clear hK K; try clear kk
  obtain ⟨e0, f0, hh⟩ := ze hh
  obtain ⟨hlen0, f0⟩ := zY f0
  refine qz (wZ (fun s => ∃ ae4, ae4 = e0 ∧ ∃ (v_8 : Int) (v_9 : Bool) (nx : Nat), s = ⟨[(0, .list 1 (kg.map (pvL 5 za.pv))), (3, .int .i64 ae4), (9, .list 1 (kg.map (pvL 5 za.pv))), (10, .int .i64 (kg.length : Int)), (11, .int .i64 v_8), (12, .bool v_9)], [], nx⟩))
    (fun i s => False)
    (fun s => False) ?_ ?_ ?_ ?_
  · refine zC ?_
    refine qp fun I hI => ?_
    have key : ∀ (suf pre : List (List za)) (v_4 : Int) (VB : Int), kg = pre ++ suf → v_4 = (pre.length : Int) → wN suf v_4 VB = some e0 → ∀ (nx : Nat), I ⟨[(0, .list 1 (kg.map (pvL 5 za.pv))), (3, .int .i64 VB), (9, .list 1 (kg.map (pvL 5 za.pv))), (10, .int .i64 (kg.length : Int)), (11, .int .i64 v_4)], [], nx⟩ := by
      intro suf
      induction suf with
      | nil =>
        intro pre v_4 VB hsplit hidx hh nx
        rw [wN] at hh
        refine hI _ ?_
        have h7 := walk_nil hsplit hidx
        refine zb fun K kk hK => ?_
        simp only [go_sem]
        refine hK _ _ fun nx => ?_; clear hK K; try clear kk
        refine zk ?_
        refine zh (by first | exact congrArg PV.bool h7 | rfl) ?_
        refine qa ?_; refine nmx ?_
        refine kF ?_
        refine zH ?_
        refine ⟨_, (Option.some.inj hh), ?_⟩
        first | exact ⟨_, _, _, rfl⟩ | (simp only [pvE, lsE, zn]; exact ⟨_, _, _, rfl⟩) | (simp only [pvE, lsE, zn, h7]; exact ⟨_, _, _, rfl⟩)
      | cons y_6 suf ih =>
        intro pre v_4 VB hsplit hidx hh nx
        rw [wN] at hh
        refine hI _ ?_
        obtain ⟨hl0a, hl0b, hl0d, hl0w, h7⟩ := qF (f := (pvL 5 za.pv)) hsplit hidx hlen0
        refine zb fun K kk hK => ?_
        simp only [go_sem]
        refine hK _ _ fun nx => ?_; clear hK K; try clear kk
        refine zk ?_
        refine zm (by first | exact congrArg PV.bool h7 | rfl) ?_
        refine zx ?_; refine nmx ?_
        refine zk ?_
        refine zC ?_
        refine zb fun K kk hK => ?_
        simp only [go_sem, hl0a, hl0b, hl0d, hl0w]
        refine hK _ _ fun nx => ?_; clear hK K; try clear kk
        refine zb fun K kk hK => ?_
        simp only [go_sem, hl0a, hl0b, hl0d, hl0w]
        refine hK _ _ fun nx => ?_; clear hK K; try clear kk
        refine zb fun K kk hK => ?_
        simp only [go_sem, hl0a, hl0b, hl0d, hl0w]
        refine hK _ _ fun nx => ?_; clear hK K; try clear kk
        by_cases h8 : (decide ((w64 (VB + (y_6.length : Int))) < (0 : Int))) = true
        · rw [if_pos h8] at hh
          refine zm (by first | exact congrArg PV.bool h8 | rfl) ?_
          cases hh
        · rw [if_neg h8] at hh
          replace h8 := Bool.eq_false_iff.mpr h8
          refine zh (by first | exact congrArg PV.bool h8 | rfl) ?_
          refine zx ?_; refine nmx ?_
          refine zq fun K kk hK => ?_
          simp only [go_sem, hl0a, hl0b, hl0d, hl0w]
          refine hK _ _ fun nx => ?_; clear hK K; try clear kk
          refine nmx ?_
          have ih' := ih (pre ++ [y_6]) (v_4 + 1) _ (by rw [hsplit]; simp) (by simp [hidx]) hh nx
          refine zH ?_
          first | exact ih' | (simp only [pvE, lsE, zn] at ih' ⊢; exact ih') | (simp only [pvE, lsE, zn, h7, h8] at ih' ⊢; exact ih')
    exact key kg [] _ _ rfl rfl f0 _
  · rintro s ⟨t, hless, ae4, rfl, v_8, v_9, nx, rfl⟩
    try dsimp only at hh
    refine nmy ?_
    first | (refine wu hless ?_; try refine ko ?_) | refine qG hless ?_ | refine qI hless ?_
    obtain ⟨amN, h9, hh⟩ := ze hh
    refine zb fun K kk hK => ?_
    simp only [go_sem]
    refine zf (KX _ _ h9) (by (try simp only [go_sem]) <;> exact wkl) (by rfl) (by rfl) ?_
    simp only [go_sem]
    refine hK _ _ fun nx => ?_; clear hK K; try clear kk
    refine zk ?_
    refine zb fun K kk hK => ?_
    simp only [go_sem]
    refine hK _ _ fun nx => ?_; clear hK K; try clear kk
    obtain ⟨e1, f1, hh⟩ := ze hh
    obtain ⟨hlen1, f1⟩ := zY f1
    refine qz (wZ (fun s => ∃ Zq, Zq = e1 ∧ ∃ (atC : Int) (aow : Bool) (nx : Nat) (g6 : Nat), s = ⟨[(6, .row 6 g6 Zq.length), (25, .list 1 (kg.map (pvL 5 za.pv))), (26, .int .i64 (kg.length : Int)), (27, .int .i64 atC), (28, .bool aow)], [(6, g6, .row false 5 (Zq.map za.pv))], nx⟩))
      (fun i s => False)
      (fun s => False) ?_ ?_ ?_ ?_
    · refine zC ?_
      refine qp fun I hI => ?_
      have key : ∀ (suf pre : List (List za)) (JY : Int) (jC : (List za)), kg = pre ++ suf → JY = (pre.length : Int) → wO suf JY jC = some e1 → ∀ (nx : Nat) (g6 : Nat), I ⟨[(6, .row 6 g6 jC.length), (25, .list 1 (kg.map (pvL 5 za.pv))), (26, .int .i64 (kg.length : Int)), (27, .int .i64 JY)], [(6, g6, .row false 5 (jC.map za.pv))], nx⟩ := by
        intro suf
        induction suf with
        | nil =>
          intro pre JY jC hsplit hidx hh nx g6
          rw [wO] at hh
          refine hI _ ?_
          have h16 := walk_nil hsplit hidx
          refine zb fun K kk hK => ?_
          simp only [go_sem]
          refine hK _ _ fun nx => ?_; clear hK K; try clear kk
          refine zk ?_
          refine zh (by first | exact congrArg PV.bool h16 | rfl) ?_
          refine qa ?_; refine nmx ?_
          refine kF ?_
          refine zH ?_
          refine ⟨_, (Option.some.inj hh), ?_⟩
          first | exact ⟨_, _, _, _, rfl⟩ | (simp only [pvE, lsE, zn]; exact ⟨_, _, _, _, rfl⟩) | (simp only [pvE, lsE, zn, h16]; exact ⟨_, _, _, _, rfl⟩)
        | cons asG suf ih =>
          intro pre JY jC hsplit hidx hh nx g6
          rw [wO] at hh
          refine hI _ ?_
          obtain ⟨hl1a, hl1b, hl1d, hl1w, h16⟩ := qF (f := (pvL 5 za.pv)) hsplit hidx hlen1
          refine zb fun K kk hK => ?_
          simp only [go_sem]
          refine hK _ _ fun nx => ?_; clear hK K; try clear kk
          refine zk ?_
          refine zm (by first | exact congrArg PV.bool h16 | rfl) ?_
          refine zx ?_; refine nmx ?_
          refine zk ?_
          refine zC ?_
          refine zb fun K kk hK => ?_
          simp only [go_sem, hl1a, hl1b, hl1d, hl1w]
          refine hK _ _ fun nx => ?_; clear hK K; try clear kk
          obtain ⟨aov, h17, hh⟩ := ze hh
          obtain ⟨h17a, h17c⟩ := zV h17
          have h17d := qE (f := za.pv) h17c
          have h17e := qH h17c
          try simp only [List.length_cons, List.length_nil, Nat.zero_add, Nat.reduceAdd] at h17a h17e
          try simp only [h17e] at h17a
          try simp only [List.map_cons, List.map_nil, List.nil_append, List.append_nil, List.cons_append, List.singleton_append, zn, pvE] at h17d
          refine zq fun K kk hK => ?_
          simp only [go_sem, h17a, h17d, h17e, hl1a, hl1b, hl1d, hl1w]
          (repeat refine sd ?_)
          refine hK _ _ fun nx => ?_; clear hK K; try clear kk
          refine nmx ?_
          refine zq fun K kk hK => ?_
          simp only [go_sem, hl1a, hl1b, hl1d, hl1w]
          refine hK _ _ fun nx => ?_; clear hK K; try clear kk
          refine nmx ?_
          have ih' := ih (pre ++ [asG]) (JY + 1) _ (by rw [hsplit]; simp) (by simp [hidx]) hh nx
          refine zH ?_
          first | exact ih' _ | (simp only [pvE, lsE, zn, h17e] at ih' ⊢; exact ih' _) | (simp only [pvE, lsE, zn, h17e, h16] at ih' ⊢; exact ih' _)
      exact key kg [] _ _ rfl rfl f1 _ _
    · rintro s ⟨t, hless, Zq, rfl, atC, aow, nx, g6, rfl⟩
      try dsimp only at hh
      refine nmy ?_
      first | (refine wu hless ?_; try refine ko ?_) | refine qG hless ?_ | refine qI hless ?_
      refine zb fun K kk hK => ?_
      simp only [go_sem]
      refine hK _ _ fun nx => ?_; clear hK K; try clear kk
      refine zi ?_; refine nmx ?_
      obtain hR := Option.some.inj hh
      subst hR
      exact Yf (by rfl) (by rfl) (by rfl) (by simp only [List.length_map, List.length_cons, List.length_nil, Nat.zero_add, Nat.reduceAdd]) (by first | rfl | (simp only [pvE, lsE, zn]; done) | (simp only [pvE, lsE, zn]; rfl))
    · intro i s h; exact h.elim
    · intro s h; exact h.elim
  · intro i s h; exact h.elim
  · intro s h; exact h.elim
theorem aiw (n_1 : za) (xz : Int) (JS : Int) (l_4 : (List za)) (R : (za × Int)) (hh : Yi n_1 xz JS l_4 = some R) : PC Tryd.prog 49 [.agg [.str n_1.Kind, .str n_1.Text, .list 1 (n_1.Marks.map PV.str), .list 2 (n_1.zu.map zg.pv), .list 5 (n_1.Kids.map za.pv)], .int .i64 xz, .int .i64 JS, .list 5 (l_4.map za.pv)] (.tup [.agg [.str R.1.Kind, .str R.1.Text, .list 1 (R.1.Marks.map PV.str), .list 2 (R.1.zu.map zg.pv), .list 5 (R.1.Kids.map za.pv)], .int .i64 R.2]) := by
  rw [Yi] at hh
  refine aeq rfl ?_
  refine zb fun K kk hK => ?_
  simp only [go_sem]
  refine hK _ _ fun nx => ?_; clear hK K; try clear kk
  obtain ⟨⟨r_5, r_6⟩, h1, hh⟩ := ze hh
  dsimp only at hh
  refine zb fun K kk hK => ?_
  simp only [go_sem]
  refine zf (ae9 _ _ _ _ h1) (by (try simp only [go_sem]) <;> exact wkl) (by rfl) (by rfl) ?_
  simp only [go_sem]
  refine hK _ _ fun nx => ?_; clear hK K; try clear kk
  refine zk ?_
  by_cases h2 : (r_6 == (2 : Int)) = true
  · rw [if_pos h2] at hh
    refine zb fun K kk hK => ?_
    simp only [go_sem, h2]
    (repeat refine sd ?_)
    refine hK _ _ fun nx => ?_; clear hK K; try clear kk
    refine zm rfl ?_
    refine zb fun K kk hK => ?_
    simp only [go_sem]
    refine hK _ _ fun nx => ?_; clear hK K; try clear kk
    refine zi ?_; refine nmx ?_
    obtain hR := Option.some.inj hh
    subst hR
    exact zy
  · rw [if_neg h2] at hh
    replace h2 := Bool.eq_false_iff.mpr h2
    obtain ⟨afA, h3, hh⟩ := ze hh
    obtain ⟨aiQ, h4, hh⟩ := ze hh
    refine zb fun K kk hK => ?_
    simp only [go_sem, h2]
    (repeat refine sd ?_)
    refine zf (Jh _ _ h3).list (by (try simp only [go_sem, h2]) <;> exact wkl) (by rfl) (by rfl) ?_
    simp only [go_sem, h2]
    (repeat refine sd ?_)
    refine zf (QU _ _ h4) (by (try simp only [go_sem, h2]) <;> exact wkl) (by rfl) (by rfl) ?_
    simp only [go_sem, h2]
    (repeat refine sd ?_)
    refine hK _ _ fun nx => ?_; clear hK K; try clear kk
    by_cases h5 : (aiQ == (2 : Int)) = true
    · rw [if_pos h5] at hh
      refine zm (by first | exact congrArg PV.bool h5 | rfl) ?_
      refine zb fun K kk hK => ?_
      simp only [go_sem]
      refine hK _ _ fun nx => ?_; clear hK K; try clear kk
      refine zi ?_; refine nmx ?_
      obtain hR := Option.some.inj hh
      subst hR
      exact zy
    · rw [if_neg h5] at hh
      replace h5 := Bool.eq_false_iff.mpr h5
      refine zh (by first | exact congrArg PV.bool h5 | rfl) ?_
      refine zx ?_; refine nmx ?_
      refine zk ?_
      refine zb fun K kk hK => ?_
      simp only [go_sem]
      refine hK _ _ fun nx => ?_; clear hK K; try clear kk
      by_cases h6 : (r_6 != (0 : Int)) = true
      · rw [if_pos h6] at hh
        refine zm (by first | exact congrArg PV.bool h6 | rfl) ?_
        refine zb fun K kk hK => ?_
        simp only [go_sem]
        refine hK _ _ fun nx => ?_; clear hK K; try clear kk
        refine zi ?_; refine nmx ?_
        obtain hR := Option.some.inj hh
        subst hR
        exact zy
      · rw [if_neg h6] at hh
        replace h6 := Bool.eq_false_iff.mpr h6
        refine zh (by first | exact congrArg PV.bool h6 | rfl) ?_
        refine zx ?_; refine nmx ?_
        obtain ⟨⟨r_9, V8, abU⟩, h7, hh⟩ := ze hh
        dsimp only at hh
        refine zb fun K kk hK => ?_
        simp only [go_sem]
        refine zf (J9 _ _ _ h7) (by (try simp only [go_sem]) <;> exact wkl) (by rfl) (by rfl) ?_
        simp only [go_sem]
        refine hK _ _ fun nx => ?_; clear hK K; try clear kk
        obtain ⟨⟨aek, Xp, aei⟩, h8, hh⟩ := ze hh
        dsimp only at hh
        refine zb fun K kk hK => ?_
        simp only [go_sem]
        refine zf (J9 _ _ _ h8) (by (try simp only [go_sem]) <;> exact wkl) (by rfl) (by rfl) ?_
        simp only [go_sem]
        refine hK _ _ fun nx => ?_; clear hK K; try clear kk
        obtain ⟨amT, h9, hh⟩ := ze hh
        obtain ⟨amr, h10, hh⟩ := ze hh
        refine zb fun K kk hK => ?_
        simp only [go_sem]
        refine zf (KS _ _ h9).list (by (try simp only [go_sem]) <;> exact wkl) (by rfl) (by rfl) ?_
        simp only [go_sem]
        refine zf (Jh _ _ h10).list (by (try simp only [go_sem]) <;> exact wkl) (by rfl) (by rfl) ?_
        simp only [go_sem]
        refine hK _ _ fun nx => ?_; clear hK K; try clear kk
        obtain ⟨⟨alX, apD⟩, h11, hh⟩ := ze hh
        dsimp only at hh
        refine zb fun K kk hK => ?_
        simp only [go_sem]
        refine zf (YP _ _ _ _ h11) (by (try simp only [go_sem]) <;> exact wkl) (by rfl) (by rfl) ?_
        simp only [go_sem]
        refine hK _ _ fun nx => ?_; clear hK K; try clear kk
        refine zk ?_
        obtain ⟨acv, h12, hh⟩ := ze hh
        refine zb fun K kk hK => ?_
        simp only [go_sem]
        refine zf (QU _ _ h12) (by (try simp only [go_sem]) <;> exact wkl) (by rfl) (by rfl) ?_
        simp only [go_sem]
        refine hK _ _ fun nx => ?_; clear hK K; try clear kk
        refine zb fun K kk hK => ?_
        simp only [go_sem]
        refine hK _ _ fun nx => ?_; clear hK K; try clear kk
        by_cases h13 : (acv != (0 : Int)) = true
        · rw [if_pos h13] at hh
          refine zm (by first | exact congrArg PV.bool h13 | rfl) ?_
          refine zb fun K kk hK => ?_
          simp only [go_sem]
          refine hK _ _ fun nx => ?_; clear hK K; try clear kk
          refine zi ?_; refine nmx ?_
          obtain hR := Option.some.inj hh
          subst hR
          exact zy
        · rw [if_neg h13] at hh
          replace h13 := Bool.eq_false_iff.mpr h13
          refine zh (by first | exact congrArg PV.bool h13 | rfl) ?_
          refine zx ?_; refine nmx ?_
          refine zb fun K kk hK => ?_
          simp only [go_sem]
          refine hK _ _ fun nx => ?_; clear hK K; try clear kk
          refine zi ?_; refine nmx ?_
          obtain hR := Option.some.inj hh
          subst hR
          exact zy
theorem QR (n_1 : za) (s_2 : zD) (R : (za × Int)) (hh : kE n_1 s_2 = some R) : PC Tryd.prog 17 [.agg [.str n_1.Kind, .str n_1.Text, .list 1 (n_1.Marks.map PV.str), .list 2 (n_1.zu.map zg.pv), .list 5 (n_1.Kids.map za.pv)], .agg [.int .u8 s_2.Kind, .int .i64 s_2.From, .int .i64 s_2.To, .list 5 (s_2.wM.map za.pv), .str s_2.Name, .str s_2.Value]] (.tup [.agg [.str R.1.Kind, .str R.1.Text, .list 1 (R.1.Marks.map PV.str), .list 2 (R.1.zu.map zg.pv), .list 5 (R.1.Kids.map za.pv)], .int .i64 R.2]) := by
  rw [kE] at hh
  refine adi rfl ?_
  refine zb fun K kk hK => ?_
  simp only [go_sem]
  refine hK _ _ fun nx => ?_; clear hK K; try clear kk
  refine zk ?_
  refine zC ?_
  obtain ⟨ail, h1, hh⟩ := ze hh
  refine zb fun K kk hK => ?_
  simp only [go_sem]
  refine zf (agU _ _ h1) (by (try simp only [go_sem]) <;> exact wkl) (by rfl) (by rfl) ?_
  simp only [go_sem]
  refine hK _ _ fun nx => ?_; clear hK K; try clear kk
  by_cases h2 : (!ail) = true
  · rw [if_pos h2] at hh
    refine zm (by first | exact congrArg PV.bool h2 | rfl) ?_
    refine zb fun K kk hK => ?_
    simp only [go_sem]
    refine hK _ _ fun nx => ?_; clear hK K; try clear kk
    refine zi ?_; refine nmx ?_
    obtain hR := Option.some.inj hh
    subst hR
    exact zy
  · rw [if_neg h2] at hh
    replace h2 := Bool.eq_false_iff.mpr h2
    refine zh (by first | exact congrArg PV.bool h2 | rfl) ?_
    by_cases h3 : (n_1.Kind == ([116, 101, 120, 116] : Str)) = true
    · rw [if_pos h3] at hh
      refine zb fun K kk hK => ?_
      simp only [go_sem, h3]
      (repeat refine sd ?_)
      refine hK _ _ fun nx => ?_; clear hK K; try clear kk
      refine zm rfl ?_
      refine zb fun K kk hK => ?_
      simp only [go_sem]
      refine hK _ _ fun nx => ?_; clear hK K; try clear kk
      refine zi ?_; refine nmx ?_
      obtain hR := Option.some.inj hh
      subst hR
      exact zy
    · rw [if_neg h3] at hh
      replace h3 := Bool.eq_false_iff.mpr h3
      obtain ⟨aid, h4, hh⟩ := ze hh
      refine zb fun K kk hK => ?_
      simp only [go_sem, h3]
      (repeat refine sd ?_)
      refine zf (Y0 _ _ h4) (by (try simp only [go_sem, h3]) <;> exact wkl) (by rfl) (by rfl) ?_
      simp only [go_sem, h3]
      (repeat refine sd ?_)
      refine hK _ _ fun nx => ?_; clear hK K; try clear kk
      by_cases h5 : (!aid) = true
      · rw [if_pos h5] at hh
        refine zm (by first | exact congrArg PV.bool h5 | rfl) ?_
        refine zb fun K kk hK => ?_
        simp only [go_sem]
        refine hK _ _ fun nx => ?_; clear hK K; try clear kk
        refine zi ?_; refine nmx ?_
        obtain hR := Option.some.inj hh
        subst hR
        exact zy
      · rw [if_neg h5] at hh
        replace h5 := Bool.eq_false_iff.mpr h5
        refine zh (by first | exact congrArg PV.bool h5 | rfl) ?_
        refine zb fun K kk hK => ?_
        simp only [go_sem]
        refine hK _ _ fun nx => ?_; clear hK K; try clear kk
        by_cases h6 : (s_2.Kind == (114 : Int)) = true
        · rw [if_pos h6] at hh
          refine zm (by first | exact congrArg PV.bool h6 | rfl) ?_
          obtain ⟨⟨r_5, r_6⟩, h7, hh⟩ := ze hh
          dsimp only at hh
          refine zb fun K kk hK => ?_
          simp only [go_sem]
          refine zf (aiw _ _ _ _ _ h7) (by (try simp only [go_sem]) <;> exact wkl) (by rfl) (by rfl) ?_
          simp only [go_sem]
          refine hK _ _ fun nx => ?_; clear hK K; try clear kk
          refine zi ?_; refine nmx ?_
          obtain hR := Option.some.inj hh
          subst hR
          exact zy
        · rw [if_neg h6] at hh
          replace h6 := Bool.eq_false_iff.mpr h6
          refine zh (by first | exact congrArg PV.bool h6 | rfl) ?_
          refine zb fun K kk hK => ?_
          simp only [go_sem]
          refine hK _ _ fun nx => ?_; clear hK K; try clear kk
          by_cases h8 : (s_2.Kind == (97 : Int)) = true
          · rw [if_pos h8] at hh
            refine zm (by first | exact congrArg PV.bool h8 | rfl) ?_
            obtain ⟨⟨r_7, r_8, r_9⟩, h9, hh⟩ := ze hh
            dsimp only at hh
            refine zb fun K kk hK => ?_
            simp only [go_sem]
            refine zf (aky _ _ _ h9) (by (try simp only [go_sem]) <;> exact wkl) (by rfl) (by rfl) ?_
            simp only [go_sem]
            refine hK _ _ fun nx => ?_; clear hK K; try clear kk
            refine zb fun K kk hK => ?_
            simp only [go_sem]
            refine hK _ _ fun nx => ?_; clear hK K; try clear kk
            refine zi ?_; refine nmx ?_
            obtain hR := Option.some.inj hh
            subst hR
            exact zy
          · rw [if_neg h8] at hh
            replace h8 := Bool.eq_false_iff.mpr h8
            refine zh (by first | exact congrArg PV.bool h8 | rfl) ?_
            refine zx ?_; refine nmx ?_
            obtain ⟨⟨V8, abU, aek⟩, h10, hh⟩ := ze hh
            dsimp only at hh
            refine zb fun K kk hK => ?_
            simp only [go_sem]
            refine zf (agL _ _ _ h10) (by (try simp only [go_sem]) <;> exact wkl) (by rfl) (by rfl) ?_
            simp only [go_sem]
            refine hK _ _ fun nx => ?_; clear hK K; try clear kk
            refine zb fun K kk hK => ?_
            simp only [go_sem]
            refine hK _ _ fun nx => ?_; clear hK K; try clear kk
            refine zi ?_; refine nmx ?_
            obtain hR := Option.some.inj hh
            subst hR
            exact zy
theorem K9 (n_1 : za) (l_2 : (List zD)) (R : (za × Int)) (hh : Z9 n_1 l_2 = some R) : PC Tryd.prog 14 [.agg [.str n_1.Kind, .str n_1.Text, .list 1 (n_1.Marks.map PV.str), .list 2 (n_1.zu.map zg.pv), .list 5 (n_1.Kids.map za.pv)], .list 6 (l_2.map zD.pv)] (.tup [.agg [.str R.1.Kind, .str R.1.Text, .list 1 (R.1.Marks.map PV.str), .list 2 (R.1.zu.map zg.pv), .list 5 (R.1.Kids.map za.pv)], .int .i64 R.2]) := by
  rw [Z9] at hh
  refine afG rfl ?_
  refine zb fun K kk hK => ?_
  simp only [go_sem]
  refine hK _ _ fun nx => ?_; clear hK K; try clear kk
  refine zb fun K kk hK => ?_
  simp only [go_sem]
  refine hK _ _ fun nx => ?_; clear hK K; try clear kk
  refine zk ?_
  refine zb fun K kk hK => ?_
  simp only [go_sem]
  refine hK _ _ fun nx => ?_; clear hK K; try clear kk
  obtain ⟨e0, f0, hh⟩ := ze hh
  obtain ⟨hlen0, f0⟩ := zY f0
  refine qz (wZ (fun s => ∃ aiq, .inr aiq = e0 ∧ ∃ (afW : Int) (aiN : Bool) (nx : Nat) (g2 : Nat) (g4 : Nat), s = ⟨[(2, .box 2 g2 0), (4, .box 4 g4 0), (9, .list 6 (l_2.map zD.pv)), (10, .int .i64 (l_2.length : Int)), (11, .int .i64 afW), (12, .bool aiN)], [(2, g2, .var 28 [.str aiq.Kind, .str aiq.Text, .list 1 (aiq.Marks.map PV.str), .list 2 (aiq.zu.map zg.pv), .list 5 (aiq.Kids.map za.pv)]), (4, g4, .var 28 [.str ([] : Str), .str ([] : Str), .list 1 ([].map PV.str), .list 2 ([].map zg.pv), .list 5 ([].map za.pv)])], nx⟩))
    (fun i s => False)
    (fun s => ∃ Vv, .inl Vv = e0 ∧ zQ Tryd.prog [.cell 4 28, .tmp 5] (.tup [.agg [.str Vv.1.Kind, .str Vv.1.Text, .list 1 (Vv.1.Marks.map PV.str), .list 2 (Vv.1.zu.map zg.pv), .list 5 (Vv.1.Kids.map za.pv)], .int .i64 Vv.2]) [] .ret s) ?_ ?_ ?_ ?_
  · refine zC ?_
    refine qp fun I hI => ?_
    have key : ∀ (suf pre : List zD) (v_7 : Int) (n_6 : za), l_2 = pre ++ suf → v_7 = (pre.length : Int) → xU suf v_7 n_6 = some e0 → ∀ (nx : Nat) (g2 : Nat) (g4 : Nat), I ⟨[(2, .box 2 g2 0), (4, .box 4 g4 0), (9, .list 6 (l_2.map zD.pv)), (10, .int .i64 (l_2.length : Int)), (11, .int .i64 v_7)], [(2, g2, .var 28 [.str n_6.Kind, .str n_6.Text, .list 1 (n_6.Marks.map PV.str), .list 2 (n_6.zu.map zg.pv), .list 5 (n_6.Kids.map za.pv)]), (4, g4, .var 28 [.str ([] : Str), .str ([] : Str), .list 1 ([].map PV.str), .list 2 ([].map zg.pv), .list 5 ([].map za.pv)])], nx⟩ := by
      intro suf
      induction suf with
      | nil =>
        intro pre v_7 n_6 hsplit hidx hh nx g2 g4
        rw [xU] at hh
        refine hI _ ?_
        have h9 := walk_nil hsplit hidx
        refine zb fun K kk hK => ?_
        simp only [go_sem]
        refine hK _ _ fun nx => ?_; clear hK K; try clear kk
        refine zk ?_
        refine zh (by first | exact congrArg PV.bool h9 | rfl) ?_
        refine qa ?_; refine nmx ?_
        refine kF ?_
        refine zH ?_
        refine ⟨_, (Option.some.inj hh), ?_⟩
        first | exact ⟨_, _, _, _, _, rfl⟩ | (simp only [pvE, lsE, zn]; exact ⟨_, _, _, _, _, rfl⟩) | (simp only [pvE, lsE, zn, h9]; exact ⟨_, _, _, _, _, rfl⟩)
      | cons asy suf ih =>
        intro pre v_7 n_6 hsplit hidx hh nx g2 g4
        rw [xU] at hh
        refine hI _ ?_
        obtain ⟨hl0a, hl0b, hl0d, hl0w, h9⟩ := qF (f := zD.pv) hsplit hidx hlen0
        refine zb fun K kk hK => ?_
        simp only [go_sem]
        refine hK _ _ fun nx => ?_; clear hK K; try clear kk
        refine zk ?_
        refine zm (by first | exact congrArg PV.bool h9 | rfl) ?_
        refine zx ?_; refine nmx ?_
        refine zk ?_
        refine zC ?_
        refine zb fun K kk hK => ?_
        simp only [go_sem, hl0a, hl0b, hl0d, hl0w]
        refine hK _ _ fun nx => ?_; clear hK K; try clear kk
        obtain ⟨⟨aek, Xp⟩, h10, hh⟩ := ze hh
        dsimp only at hh
        refine zb fun K kk hK => ?_
        simp only [go_sem, hl0a, hl0b, hl0d, hl0w]
        refine zf (QR _ _ _ h10) (by (try simp only [go_sem, hl0a, hl0b, hl0d, hl0w]) <;> exact wkl) (by rfl) (by rfl) ?_
        simp only [go_sem, hl0a, hl0b, hl0d, hl0w]
        refine hK _ _ fun nx => ?_; clear hK K; try clear kk
        refine zb fun K kk hK => ?_
        simp only [go_sem, hl0a, hl0b, hl0d, hl0w]
        refine hK _ _ fun nx => ?_; clear hK K; try clear kk
        by_cases h11 : (Xp != (0 : Int)) = true
        · rw [if_pos h11] at hh
          refine zm (by first | exact congrArg PV.bool h11 | rfl) ?_
          refine zb fun K kk hK => ?_
          simp only [go_sem, hl0a, hl0b, hl0d, hl0w]
          refine hK _ _ fun nx => ?_; clear hK K; try clear kk
          refine zi ?_; refine nmx ?_
          refine Z8 ⟨_, (Option.some.inj hh), ?_⟩
          exact zy
        · rw [if_neg h11] at hh
          replace h11 := Bool.eq_false_iff.mpr h11
          refine zh (by first | exact congrArg PV.bool h11 | rfl) ?_
          refine zx ?_; refine nmx ?_
          refine zq fun K kk hK => ?_
          simp only [go_sem, hl0a, hl0b, hl0d, hl0w]
          refine hK _ _ fun nx => ?_; clear hK K; try clear kk
          refine nmx ?_
          have ih' := ih (pre ++ [asy]) (v_7 + 1) _ (by rw [hsplit]; simp) (by simp [hidx]) hh nx
          refine zH ?_
          first | exact ih' _ _ | (simp only [pvE, lsE, zn] at ih' ⊢; exact ih' _ _) | (simp only [pvE, lsE, zn, h11, h9] at ih' ⊢; exact ih' _ _)
    exact key l_2 [] _ _ rfl rfl f0 _ _ _
  · rintro s ⟨t, hless, aiq, rfl, afW, aiN, nx, g2, g4, rfl⟩
    try dsimp only at hh
    refine nmy ?_
    first | (refine wu hless ?_; try refine ko ?_) | refine qG hless ?_ | refine qI hless ?_
    refine zb fun K kk hK => ?_
    simp only [go_sem]
    refine hK _ _ fun nx => ?_; clear hK K; try clear kk
    refine zi ?_; refine nmx ?_
    obtain hR := Option.some.inj hh
    subst hR
    exact zy
  · intro i s h; exact h.elim
  · rintro s ⟨Vv, rfl, hb⟩
    try dsimp only at hh
    obtain hR := Option.some.inj hh
    subst hR
    refine nmx ?_
    exact hb
theorem yR (kI : (List zg)) (vD : (List zg)) (R : Bool) (hh : kP kI vD = some R) : PC Tryd.prog 43 [.list 2 (kI.map zg.pv), .list 2 (vD.map zg.pv)] (.bool R) := by
  rw [kP] at hh
  refine WZ rfl ?_
  refine zb fun K kk hK => ?_
  simp only [go_sem]
  refine hK _ _ fun nx => ?_; clear hK K; try clear kk
  refine zk ?_
  refine zb fun K kk hK => ?_
  simp only [go_sem]
  refine hK _ _ fun nx => ?_; clear hK K; try clear kk
  by_cases h1 : ((kI.length : Int) != (vD.length : Int)) = true
  · rw [if_pos h1] at hh
    refine zm (by first | exact congrArg PV.bool h1 | rfl) ?_
    refine zb fun K kk hK => ?_
    simp only [go_sem]
    refine hK _ _ fun nx => ?_; clear hK K; try clear kk
    refine zi ?_; refine nmx ?_
    obtain hR := Option.some.inj hh
    subst hR
    exact zy
  · rw [if_neg h1] at hh
    replace h1 := Bool.eq_false_iff.mpr h1
    refine zh (by first | exact congrArg PV.bool h1 | rfl) ?_
    refine zx ?_; refine nmx ?_
    refine zk ?_
    refine zb fun K kk hK => ?_
    simp only [go_sem]
    refine hK _ _ fun nx => ?_; clear hK K; try clear kk
    obtain ⟨e0, f0, hh⟩ := ze hh
    obtain ⟨hlen0, f0⟩ := zY f0
    refine qz (wZ (fun s => .inr () = e0 ∧ ∃ (QH : Int) (Wj : Bool) (nx : Nat), s = ⟨[(0, .list 2 (kI.map zg.pv)), (1, .list 2 (vD.map zg.pv)), (12, .int .i64 (kI.length : Int)), (13, .int .i64 QH), (14, .bool Wj)], [], nx⟩))
      (fun i s => False)
      (fun s => ∃ wG, .inl wG = e0 ∧ zQ Tryd.prog [.tmp 4] (.bool wG) [] .ret s) ?_ ?_ ?_ ?_
    · refine zC ?_
      refine qp fun I hI => ?_
      have key : ∀ (suf pre : List zg) (v_5 : Int), kI = pre ++ suf → v_5 = (pre.length : Int) → qD vD suf v_5 = some e0 → ∀ (nx : Nat), I ⟨[(0, .list 2 (kI.map zg.pv)), (1, .list 2 (vD.map zg.pv)), (12, .int .i64 (kI.length : Int)), (13, .int .i64 v_5)], [], nx⟩ := by
        intro suf
        induction suf with
        | nil =>
          intro pre v_5 hsplit hidx hh nx
          rw [qD] at hh
          refine hI _ ?_
          have h10 := walk_nil hsplit hidx
          refine zb fun K kk hK => ?_
          simp only [go_sem]
          refine hK _ _ fun nx => ?_; clear hK K; try clear kk
          refine zk ?_
          refine zh (by first | exact congrArg PV.bool h10 | rfl) ?_
          refine qa ?_; refine nmx ?_
          refine kF ?_
          refine zH ?_
          refine ⟨(Option.some.inj hh), ?_⟩
          first | exact ⟨_, _, _, rfl⟩ | (simp only [pvE, lsE, zn]; exact ⟨_, _, _, rfl⟩) | (simp only [pvE, lsE, zn, h1, h10]; exact ⟨_, _, _, rfl⟩)
        | cons y_8 suf ih =>
          intro pre v_5 hsplit hidx hh nx
          rw [qD] at hh
          refine hI _ ?_
          obtain ⟨hl0a, hl0b, hl0d, hl0w, h10⟩ := qF (f := zg.pv) hsplit hidx hlen0
          refine zb fun K kk hK => ?_
          simp only [go_sem]
          refine hK _ _ fun nx => ?_; clear hK K; try clear kk
          refine zk ?_
          refine zm (by first | exact congrArg PV.bool h10 | rfl) ?_
          refine zx ?_; refine nmx ?_
          refine zk ?_
          refine zC ?_
          refine zb fun K kk hK => ?_
          simp only [go_sem, hl0a, hl0b, hl0d, hl0w]
          refine hK _ _ fun nx => ?_; clear hK K; try clear kk
          obtain ⟨x_9, h11, hh⟩ := ze hh
          obtain ⟨h11a, h11b, h11c⟩ := rd_some h11
          have h11d := vz (f := zg.pv) h11c
          have h11f := wY (f := zg.pv) h11c
          try simp only [Int.toNat_natCast, Int.reduceToNat] at h11d h11f
          refine zb fun K kk hK => ?_
          simp only [go_sem, h11a, h11b, h11d, h11f.1, h11f.2, hl0a, hl0b, hl0d, hl0w]
          (repeat refine sd ?_)
          refine hK _ _ fun nx => ?_; clear hK K; try clear kk
          by_cases h12 : ((((y_8.Name == x_9.Name) && (y_8.Value == x_9.Value)) != true)) = true
          · rw [if_pos h12] at hh
            refine zm (by first | exact congrArg PV.bool h12 | rfl) ?_
            refine zb fun K kk hK => ?_
            simp only [go_sem, hl0a, hl0b, hl0d, hl0w]
            refine hK _ _ fun nx => ?_; clear hK K; try clear kk
            refine zi ?_; refine nmx ?_
            refine Z8 ⟨_, (Option.some.inj hh), ?_⟩
            exact zy
          · rw [if_neg h12] at hh
            replace h12 := Bool.eq_false_iff.mpr h12
            refine zh (by first | exact congrArg PV.bool h12 | rfl) ?_
            refine zx ?_; refine nmx ?_
            refine zq fun K kk hK => ?_
            simp only [go_sem, hl0a, hl0b, hl0d, hl0w]
            refine hK _ _ fun nx => ?_; clear hK K; try clear kk
            refine nmx ?_
            have ih' := ih (pre ++ [y_8]) (v_5 + 1) (by rw [hsplit]; simp) (by simp [hidx]) hh nx
            refine zH ?_
            first | exact ih' | (simp only [pvE, lsE, zn] at ih' ⊢; exact ih') | (simp only [pvE, lsE, zn, h1, h10, h12] at ih' ⊢; exact ih')
      exact key kI [] _ rfl rfl f0 _
    · rintro s ⟨t, hless, rfl, QH, Wj, nx, rfl⟩
      try dsimp only at hh
      refine nmy ?_
      first | (refine wu hless ?_; try refine ko ?_) | refine qG hless ?_ | refine qI hless ?_
      refine zb fun K kk hK => ?_
      simp only [go_sem]
      refine hK _ _ fun nx => ?_; clear hK K; try clear kk
      refine zi ?_; refine nmx ?_
      obtain hR := Option.some.inj hh
      subst hR
      exact zy
    · intro i s h; exact h.elim
    · rintro s ⟨wG, rfl, hb⟩
      try dsimp only at hh
      obtain hR := Option.some.inj hh
      subst hR
      refine nmx ?_
      exact hb
end Go.Proofs.YtclohbgnaopjfaaDoor
