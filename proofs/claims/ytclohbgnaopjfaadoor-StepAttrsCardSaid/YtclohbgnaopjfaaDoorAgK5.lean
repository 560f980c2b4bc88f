/- Texts of the proof of stepAttrsCard -/
import Derived.Test.YtclohbgnaopjfaaDoorAgC
import Derived.Test.YtclohbgnaopjfaaDoorAgF
import Derived.Test.YtclohbgnaopjfaaDoorAgK0
import Derived.Test.YtclohbgnaopjfaaDoorAgK1
import Derived.Test.YtclohbgnaopjfaaDoorAgK2
import Derived.Test.YtclohbgnaopjfaaDoorAgK3
import Derived.Test.YtclohbgnaopjfaaDoorAgK4
import Derived.Test.YtclohbgnaopjfaaDoorAgL
import Derived.Test.YtclohbgnaopjfaaDoorAgSl
namespace Go.Proofs.YtclohbgnaopjfaaDoor
set_option linter.unusedSimpArgs false
set_option linter.unusedVariables false
open Go
set_option maxRecDepth 100000
theorem Qw (l_1 : (List za)) (zL : Int) (R : ((List za) × (List za) × Int)) (hh : ZL l_1 zL = some R) : PC Tryd.prog 73 [.list 5 (l_1.map za.pv), .int .i64 zL] (.tup [.list 5 (R.1.map za.pv), .list 5 (R.2.1.map za.pv), .int .i64 R.2.2]) := by
  rw [ZL] at hh
  refine abO rfl ?_
  refine zb fun K kk hK => ?_
  simp only [go_sem]
  refine hK _ _ fun nx => ?_; clear hK K; try clear kk
  refine zm ?_
  by_cases h1 : (decide (zL < (0 : Int))) = true
  · rw [if_pos h1] at hh
    refine zb fun K kk hK => ?_
    simp only [go_sem, h1, of_decide_eq_true h1]
    (repeat refine sd ?_)
    refine hK _ _ fun nx => ?_; clear hK K; try clear kk
    refine zk rfl ?_
    refine zb fun K kk hK => ?_
    simp only [go_sem]
    refine hK _ _ fun nx => ?_; clear hK K; try clear kk
    refine zi ?_; refine nmx ?_
    obtain hR := Option.some.inj hh
    subst hR
    exact zy
  · rw [if_neg h1] at hh
    replace h1 := Bool.eq_false_iff.mpr h1
    obtain ⟨Qt, h2, hh⟩ := ze hh
    refine zb fun K kk hK => ?_
    simp only [go_sem, h1, of_decide_eq_false h1]
    (repeat refine sd ?_)
    refine zg (jS _ _ h2) (by (try simp only [go_sem, h1, of_decide_eq_false h1]) <;> exact wkl) (by rfl) (by rfl) ?_
    simp only [go_sem, h1, of_decide_eq_false h1]
    (repeat refine sd ?_)
    refine hK _ _ fun nx => ?_; clear hK K; try clear kk
    by_cases h3 : (decide (zL > Qt)) = true
    · rw [if_pos h3] at hh
      refine zk (by first | exact congrArg PV.bool h3 | rfl) ?_
      refine zb fun K kk hK => ?_
      simp only [go_sem]
      refine hK _ _ fun nx => ?_; clear hK K; try clear kk
      refine zi ?_; refine nmx ?_
      obtain hR := Option.some.inj hh
      subst hR
      exact zy
    · rw [if_neg h3] at hh
      replace h3 := Bool.eq_false_iff.mpr h3
      refine zh (by first | exact congrArg PV.bool h3 | rfl) ?_
      refine zx ?_; refine nmx ?_
      refine zb fun K kk hK => ?_
      simp only [go_sem]
      refine hK _ _ fun nx => ?_; clear hK K; try clear kk
      refine zm ?_
      obtain ⟨e0, f0, hh⟩ := ze hh
      obtain ⟨hlen0, f0⟩ := zZ f0
      refine Jz (fun s => ∃ adZ, ∃ ame, (adZ, ame) = e0 ∧ ∃ (aj8 : Bool) (nx : Nat), s = ⟨[(0, .list 5 (l_1.map za.pv)), (1, .int .i64 adZ), (7, .int .i64 ame), (32, .bool aj8)], [], nx⟩)
        (fun i s => False)
        (fun s => False) ?_ ?_ ?_ ?_
      · refine zD ?_
        refine qi fun I hI => ?_
        have key : ∀ (suf pre : List za) (i_8 : Int) (agD : Int), l_1 = pre ++ suf → i_8 = (pre.length : Int) → yg suf i_8 agD = some e0 → ∀ (nx : Nat), I ⟨[(0, .list 5 (l_1.map za.pv)), (1, .int .i64 agD), (7, .int .i64 i_8)], [], nx⟩ := by
          intro suf
          induction suf with
          | nil =>
            intro pre i_8 agD hsplit hidx hh nx
            rw [yg] at hh
            refine hI _ ?_
            have h14 := walk_nil hsplit hidx
            refine zm ?_
            refine zb fun K kk hK => ?_
            simp only [go_sem, h14, of_decide_eq_false h14]
            (repeat refine sd ?_)
            refine hK _ _ fun nx => ?_; clear hK K; try clear kk
            refine zh rfl ?_
            refine qd ?_; refine nmx ?_
            refine kL ?_
            refine zH ?_
            refine ⟨_, _, (Option.some.inj hh), ?_⟩
            first | exact ⟨_, _, rfl⟩ | (simp only [pvE, lsE, zo]; exact ⟨_, _, rfl⟩) | (simp only [pvE, lsE, zo, h1, h14, h3]; exact ⟨_, _, rfl⟩)
          | cons akj suf ih =>
            intro pre i_8 agD hsplit hidx hh nx
            rw [yg] at hh
            refine hI _ ?_
            obtain ⟨hl0a, hl0b, hl0d, hl0w, h14⟩ := qD (f := za.pv) hsplit hidx hlen0
            refine zm ?_
            obtain ⟨ajR, h15, hh⟩ := ze hh
            refine zb fun K kk hK => ?_
            simp only [go_sem, h14, of_decide_eq_true h14, hl0a, hl0b, hl0d, hl0w]
            (repeat refine sd ?_)
            refine zg (Qi _ _ h15) (by (try simp only [go_sem, h14, of_decide_eq_true h14, hl0a, hl0b, hl0d, hl0w]) <;> exact wkl) (by rfl) (by rfl) ?_
            simp only [go_sem, h14, of_decide_eq_true h14, hl0a, hl0b, hl0d, hl0w]
            (repeat refine sd ?_)
            refine hK _ _ fun nx => ?_; clear hK K; try clear kk
            by_cases h16 : (decide (agD ≥ ajR)) = true
            · rw [if_pos h16] at hh
              refine zk (by first | exact congrArg PV.bool h16 | rfl) ?_
              refine zx ?_; refine nmx ?_
              refine zm ?_
              refine zD ?_
              obtain ⟨anz, h17, hh⟩ := ze hh
              refine zq fun K kk hK => ?_
              simp only [go_sem, hl0a, hl0b, hl0d, hl0w]
              refine zg (Qi _ _ h17) (by (try simp only [go_sem, hl0a, hl0b, hl0d, hl0w]) <;> exact wkl) (by rfl) (by rfl) ?_
              simp only [go_sem, hl0a, hl0b, hl0d, hl0w]
              refine hK _ _ fun nx => ?_; clear hK K; try clear kk
              refine nmx ?_
              refine zq fun K kk hK => ?_
              simp only [go_sem, hl0a, hl0b, hl0d, hl0w]
              refine hK _ _ fun nx => ?_; clear hK K; try clear kk
              refine nmx ?_
              have ih' := ih (pre ++ [akj]) (i_8 + 1) _ (by rw [hsplit]; simp) (by simp [hidx]) hh nx
              refine zH ?_
              first | exact ih' | (simp only [pvE, lsE, zo] at ih' ⊢; exact ih') | (simp only [pvE, lsE, zo, h1, h14, h16, h3] at ih' ⊢; exact ih')
            · rw [if_neg h16] at hh
              replace h16 := Bool.eq_false_iff.mpr h16
              refine zh (by first | exact congrArg PV.bool h16 | rfl) ?_
              refine qd ?_; refine nmx ?_
              refine kL ?_
              refine zH ?_
              refine ⟨_, _, (Option.some.inj hh), ?_⟩
              first | exact ⟨_, _, rfl⟩ | (simp only [pvE, lsE, zo]; exact ⟨_, _, rfl⟩) | (simp only [pvE, lsE, zo, h1, h14, h16, h3]; exact ⟨_, _, rfl⟩)
        exact key l_1 [] _ _ rfl rfl f0 _
      · rintro s ⟨adZ, ame, rfl, aj8, nx, rfl⟩
        try dsimp only at hh
        obtain ⟨aun, h18, hh⟩ := ze hh
        obtain ⟨h18a, h18c⟩ := Q7 h18
        have h18g := aam h18a
        have h18d := YJ (f := za.pv) h18c
        try simp only [Int.toNat_natCast, Int.reduceToNat, List.map_cons, List.map_nil, pvE] at h18d
        obtain ⟨aiT, h19, hh⟩ := ze hh
        obtain ⟨auy, h20, hh⟩ := ze hh
        obtain ⟨h20a, h20c⟩ := Q7 h20
        have h20g := aam h20a
        have h20d := ajO (f := za.pv) h20c
        try simp only [Int.toNat_natCast, Int.reduceToNat, List.map_cons, List.map_nil, pvE] at h20d
        obtain ⟨ae8, h21, hh⟩ := ze hh
        refine zb fun K kk hK => ?_
        simp only [go_sem, h18a.1, h18a.2.1, h18a.2.2, h18d, h18g, h20a.1, h20a.2.1, h20a.2.2, h20d, h20g]
        (repeat refine sd ?_)
        refine aaY [] (by decide) (by decide) (jQ _ _ h19) (by (try simp only [go_sem, h18a.1, h18a.2.1, h18a.2.2, h18d, h18g, h20a.1, h20a.2.1, h20a.2.2, h20d, h20g, h1, h3]) <;> exact wkb) (by rfl) (by rfl) ?_
        simp only [go_sem, h18a.1, h18a.2.1, h18a.2.2, h18d, h18g, h20a.1, h20a.2.1, h20a.2.2, h20d, h20g]
        (repeat refine sd ?_)
        refine aaY [] (by decide) (by decide) (jQ _ _ h21) (by (try simp only [go_sem, h18a.1, h18a.2.1, h18a.2.2, h18d, h18g, h20a.1, h20a.2.1, h20a.2.2, h20d, h20g, h1, h3]) <;> exact wkb) (by rfl) (by rfl) ?_
        simp only [go_sem, h18a.1, h18a.2.1, h18a.2.2, h18d, h18g, h20a.1, h20a.2.1, h20a.2.2, h20d, h20g]
        (repeat refine sd ?_)
        refine hK _ _ fun nx => ?_; clear hK K; try clear kk
        refine zm ?_
        refine zD ?_
        refine zb fun K kk hK => ?_
        simp only [go_sem]
        refine hK _ _ fun nx => ?_; clear hK K; try clear kk
        by_cases h22 : (adZ == (0 : Int)) = true
        · rw [if_pos h22] at hh
          refine zk (by first | exact congrArg PV.bool h22 | rfl) ?_
          refine zb fun K kk hK => ?_
          simp only [go_sem]
          refine hK _ _ fun nx => ?_; clear hK K; try clear kk
          refine zi ?_; refine nmx ?_
          obtain hR := Option.some.inj hh
          subst hR
          exact zy
        · rw [if_neg h22] at hh
          replace h22 := Bool.eq_false_iff.mpr h22
          refine zh (by first | exact congrArg PV.bool h22 | rfl) ?_
          obtain ⟨ami, h23, hh⟩ := ze hh
          obtain ⟨h23a, h23b, h23c⟩ := rd_some h23
          have h23d := kZ (f := za.pv) h23c
          have h23f := wO (f := za.pv) h23c
          try simp only [Int.toNat_natCast, Int.reduceToNat] at h23d h23f
          refine zb fun K kk hK => ?_
          simp only [go_sem, h23a, h23b, h23d, h23f.1, h23f.2]
          (repeat refine sd ?_)
          refine hK _ _ fun nx => ?_; clear hK K; try clear kk
          by_cases h24 : (!(ami.Kind == ([116, 101, 120, 116] : Str))) = true
          · rw [if_pos h24] at hh
            refine zk (by first | exact congrArg PV.bool h24 | rfl) ?_
            refine zb fun K kk hK => ?_
            simp only [go_sem]
            refine hK _ _ fun nx => ?_; clear hK K; try clear kk
            refine zi ?_; refine nmx ?_
            obtain hR := Option.some.inj hh
            subst hR
            exact zy
          · rw [if_neg h24] at hh
            replace h24 := Bool.eq_false_iff.mpr h24
            refine zh (by first | exact congrArg PV.bool h24 | rfl) ?_
            refine zx ?_; refine nmx ?_
            refine zb fun K kk hK => ?_
            simp only [go_sem, h23a, h23b, h23d, h23f.1, h23f.2]
            (repeat refine sd ?_)
            refine hK _ _ fun nx => ?_; clear hK K; try clear kk
            refine zb fun K kk hK => ?_
            simp only [go_sem, h23a, h23b, h23d, h23f.1, h23f.2]
            (repeat refine sd ?_)
            refine hK _ _ fun nx => ?_; clear hK K; try clear kk
            obtain ⟨auM, h25, hh⟩ := ze hh
            obtain ⟨h25a, h25c⟩ := Q7 h25
            have h25g := aam h25a
            have h25d := YJ (f := (PV.int .i32)) h25c
            try simp only [Int.toNat_natCast, Int.reduceToNat, List.map_cons, List.map_nil, pvE] at h25d
            obtain ⟨au3, h26, hh⟩ := ze hh
            obtain ⟨h26a, h26c⟩ := Q7 h26
            have h26g := aam h26a
            have h26d := ajO (f := (PV.int .i32)) h26c
            try simp only [Int.toNat_natCast, Int.reduceToNat, List.map_cons, List.map_nil, pvE] at h26d
            obtain ⟨auI, h27, hh⟩ := ze hh
            obtain ⟨h27a, h27b, h27c⟩ := rd_some h27
            have h27d := kZ (f := za.pv) h27c
            have h27f := wO (f := za.pv) h27c
            try simp only [Int.toNat_natCast, Int.reduceToNat] at h27d h27f
            obtain ⟨au1, h28, hh⟩ := ze hh
            obtain ⟨h28a, h28c⟩ := YC h28
            have h28d := adH (f := za.pv) h28c
            try simp only [Int.toNat_natCast, Int.reduceToNat, List.map_cons, List.map_nil, List.cons_append, List.nil_append, List.singleton_append, pvE] at h28d
            have h28e := adw h28c
            have h27b_h28 := h27b; rw [h28e] at h27b_h28
            have h27f1_h28 := h27f.1; rw [h28e] at h27f1_h28
            have h27a_h28 := h27a; try rw [h28e] at h27a_h28
            have h27d_h28 := h27d; try rw [h28e] at h27d_h28
            try rw [h28e] at h28d
            have h28bw := h28a.2; rw [h28e] at h28bw
            refine zb fun K kk hK => ?_
            simp only [go_sem, h25a.1, h25a.2.1, h25a.2.2, h25d, h25g, h26a.1, h26a.2.1, h26a.2.2, h26d, h26g, h27a, h27b, h27d, h27f.1, h27f.2, h28a.1, h28a.2, h28d, h28e, h27b_h28, h27f1_h28, h27a_h28, h27d_h28, h28bw]
            (repeat refine sd ?_)
            try simp only [go_sem, h25a.1, h25a.2.1, h25a.2.2, h25d, h25g, h26a.1, h26a.2.1, h26a.2.2, h26d, h26g, h27a, h27b, h27d, h27f.1, h27f.2, h28a.1, h28a.2, h28d, h28e, h27b_h28, h27f1_h28, h27a_h28, h27d_h28, h28bw]
            refine hK _ _ fun nx => ?_; clear hK K; try clear kk
            obtain ⟨auZ, h29, hh⟩ := ze hh
            obtain ⟨h29a, h29c⟩ := zX h29
            have h29d := qH (f := za.pv) h29c
            have h29e := qG h29c
            try simp only [List.length_cons, List.length_nil, Nat.zero_add, Nat.reduceAdd] at h29a h29e
            try simp only [h29e] at h29a
            try simp only [List.map_cons, List.map_nil, List.nil_append, List.append_nil, List.cons_append, List.singleton_append, zo, pvE] at h29d
            refine zb fun K kk hK => ?_
            simp only [go_sem, h29a, h29d, h29e]
            (repeat refine sd ?_)
            refine hK _ _ fun nx => ?_; clear hK K; try clear kk
            refine zi ?_; refine nmx ?_
            obtain hR := Option.some.inj hh
            subst hR
            exact zy
      · intro i s h; exact h.elim
      · intro s h; exact h.elim
theorem Vf (n : Int) (R : (List za)) (hh : xq n = some R) : PC Tryd.prog 105 [.kM, .int .i64 n] (.own 5 (R.map za.pv)) := by
 rw [xq] at hh
 obtain ⟨⟨h1, h2⟩, hR⟩ := zZ hh
 cases hR
 exact apH Tryd.arA ⟨by kernel_rfl, by kernel_rfl⟩ ⟨_, Tryd.func105, by kernel_rfl, by kernel_rfl⟩ auT rfl n h1 (by simpa using h2)
theorem Vm (kC : (List (List za))) (R : (List za)) (hh : xx kC = some R) : PC Tryd.prog 83 [.list 1 (kC.map (pvL 5 za.pv))] (.own 5 (R.map za.pv)) := by
  rw [xx] at hh
  refine WG rfl ?_
  refine zb fun K kk hK => ?_
  simp only [go_sem]
  refine hK _ _ fun nx => ?_; clear hK K; try clear kk
  refine zb fun K kk hK => ?_
  simp only [go_sem]
  refine hK _ _ fun nx => ?_; clear hK K; try clear kk
  refine zm ?_
  refine zb fun K kk hK => ?_
  simp only [go_sem]
  refine hK _ _ fun nx => ?_; clear hK K; try clear kk
  obtain ⟨e0, f0, hh⟩ := ze hh
  obtain ⟨hlen0, f0⟩ := zZ f0
  refine qy (wS (fun s => ∃ afz, afz = e0 ∧ ∃ (v_8 : Int) (v_9 : Bool) (nx : Nat), s = ⟨[(0, .list 1 (kC.map (pvL 5 za.pv))), (3, .int .i64 afz), (9, .list 1 (kC.map (pvL 5 za.pv))), (10, .int .i64 (kC.length : Int)), (11, .int .i64 v_8), (12, .bool v_9)], [], nx⟩))
    (fun i s => False)
    (fun s => False) ?_ ?_ ?_ ?_
  · refine zD ?_
    refine qi fun I hI => ?_
    have key : ∀ (suf pre : List (List za)) (v_4 : Int) (VN : Int), kC = pre ++ suf → v_4 = (pre.length : Int) → wV suf v_4 VN = some e0 → ∀ (nx : Nat), I ⟨[(0, .list 1 (kC.map (pvL 5 za.pv))), (3, .int .i64 VN), (9, .list 1 (kC.map (pvL 5 za.pv))), (10, .int .i64 (kC.length : Int)), (11, .int .i64 v_4)], [], nx⟩ := by
      intro suf
      induction suf with
      | nil =>
        intro pre v_4 VN hsplit hidx hh nx
        rw [wV] at hh
        refine hI _ ?_
        have h7 := walk_nil hsplit hidx
        refine zb fun K kk hK => ?_
        simp only [go_sem]
        refine hK _ _ fun nx => ?_; clear hK K; try clear kk
        refine zm ?_
        refine zh (by first | exact congrArg PV.bool h7 | rfl) ?_
        refine qd ?_; refine nmx ?_
        refine kL ?_
        refine zH ?_
        refine ⟨_, (Option.some.inj hh), ?_⟩
        first | exact ⟨_, _, _, rfl⟩ | (simp only [pvE, lsE, zo]; exact ⟨_, _, _, rfl⟩) | (simp only [pvE, lsE, zo, h7]; exact ⟨_, _, _, rfl⟩)
      | cons y_6 suf ih =>
        intro pre v_4 VN hsplit hidx hh nx
        rw [wV] at hh
        refine hI _ ?_
        obtain ⟨hl0a, hl0b, hl0d, hl0w, h7⟩ := qD (f := (pvL 5 za.pv)) hsplit hidx hlen0
        refine zb fun K kk hK => ?_
        simp only [go_sem]
        refine hK _ _ fun nx => ?_; clear hK K; try clear kk
        refine zm ?_
        refine zk (by first | exact congrArg PV.bool h7 | rfl) ?_
        refine zx ?_; refine nmx ?_
        refine zm ?_
        refine zD ?_
        refine zb fun K kk hK => ?_
        simp only [go_sem, hl0a, hl0b, hl0d, hl0w]
        refine hK _ _ fun nx => ?_; clear hK K; try clear kk
        refine zb fun K kk hK => ?_
        simp only [go_sem, hl0a, hl0b, hl0d, hl0w]
        refine hK _ _ fun nx => ?_; clear hK K; try clear kk
        refine zb fun K kk hK => ?_
        simp only [go_sem, hl0a, hl0b, hl0d, hl0w]
        refine hK _ _ fun nx => ?_; clear hK K; try clear kk
        by_cases h8 : (decide ((w64 (VN + (y_6.length : Int))) < (0 : Int))) = true
        · rw [if_pos h8] at hh
          refine zk (by first | exact congrArg PV.bool h8 | rfl) ?_
          cases hh
        · rw [if_neg h8] at hh
          replace h8 := Bool.eq_false_iff.mpr h8
          refine zh (by first | exact congrArg PV.bool h8 | rfl) ?_
          refine zx ?_; refine nmx ?_
          refine zq fun K kk hK => ?_
          simp only [go_sem, hl0a, hl0b, hl0d, hl0w]
          refine hK _ _ fun nx => ?_; clear hK K; try clear kk
          refine nmx ?_
          have ih' := ih (pre ++ [y_6]) (v_4 + 1) _ (by rw [hsplit]; simp) (by simp [hidx]) hh nx
          refine zH ?_
          first | exact ih' | (simp only [pvE, lsE, zo] at ih' ⊢; exact ih') | (simp only [pvE, lsE, zo, h7, h8] at ih' ⊢; exact ih')
    exact key kC [] _ _ rfl rfl f0 _
  · rintro s ⟨t, hless, afz, rfl, v_8, v_9, nx, rfl⟩
    try dsimp only at hh
    refine nmy ?_
    first | (refine wh hless ?_; try refine kg ?_) | refine qF hless ?_ | refine qE hless ?_
    obtain ⟨anM, h9, hh⟩ := ze hh
    refine zb fun K kk hK => ?_
    simp only [go_sem]
    refine zg (Vf _ _ h9) (by (try simp only [go_sem]) <;> exact wkl) (by rfl) (by rfl) ?_
    simp only [go_sem]
    refine hK _ _ fun nx => ?_; clear hK K; try clear kk
    refine zm ?_
    refine zb fun K kk hK => ?_
    simp only [go_sem]
    refine hK _ _ fun nx => ?_; clear hK K; try clear kk
    obtain ⟨e1, f1, hh⟩ := ze hh
    obtain ⟨hlen1, f1⟩ := zZ f1
    refine qy (wS (fun s => ∃ ZP, ZP = e1 ∧ ∃ (aud : Int) (apD : Bool) (nx : Nat) (g6 : Nat), s = ⟨[(6, .row 6 g6 ZP.length), (25, .list 1 (kC.map (pvL 5 za.pv))), (26, .int .i64 (kC.length : Int)), (27, .int .i64 aud), (28, .bool apD)], [(6, g6, .row false 5 (ZP.map za.pv))], nx⟩))
      (fun i s => False)
      (fun s => False) ?_ ?_ ?_ ?_
    · refine zD ?_
      refine qi fun I hI => ?_
      have key : ∀ (suf pre : List (List za)) (Xf : Int) (jK : (List za)), kC = pre ++ suf → Xf = (pre.length : Int) → wR suf Xf jK = some e1 → ∀ (nx : Nat) (g6 : Nat), I ⟨[(6, .row 6 g6 jK.length), (25, .list 1 (kC.map (pvL 5 za.pv))), (26, .int .i64 (kC.length : Int)), (27, .int .i64 Xf)], [(6, g6, .row false 5 (jK.map za.pv))], nx⟩ := by
        intro suf
        induction suf with
        | nil =>
          intro pre Xf jK hsplit hidx hh nx g6
          rw [wR] at hh
          refine hI _ ?_
          have h16 := walk_nil hsplit hidx
          refine zb fun K kk hK => ?_
          simp only [go_sem]
          refine hK _ _ fun nx => ?_; clear hK K; try clear kk
          refine zm ?_
          refine zh (by first | exact congrArg PV.bool h16 | rfl) ?_
          refine qd ?_; refine nmx ?_
          refine kL ?_
          refine zH ?_
          refine ⟨_, (Option.some.inj hh), ?_⟩
          first | exact ⟨_, _, _, _, rfl⟩ | (simp only [pvE, lsE, zo]; exact ⟨_, _, _, _, rfl⟩) | (simp only [pvE, lsE, zo, h16]; exact ⟨_, _, _, _, rfl⟩)
        | cons atO suf ih =>
          intro pre Xf jK hsplit hidx hh nx g6
          rw [wR] at hh
          refine hI _ ?_
          obtain ⟨hl1a, hl1b, hl1d, hl1w, h16⟩ := qD (f := (pvL 5 za.pv)) hsplit hidx hlen1
          refine zb fun K kk hK => ?_
          simp only [go_sem]
          refine hK _ _ fun nx => ?_; clear hK K; try clear kk
          refine zm ?_
          refine zk (by first | exact congrArg PV.bool h16 | rfl) ?_
          refine zx ?_; refine nmx ?_
          refine zm ?_
          refine zD ?_
          refine zb fun K kk hK => ?_
          simp only [go_sem, hl1a, hl1b, hl1d, hl1w]
          refine hK _ _ fun nx => ?_; clear hK K; try clear kk
          obtain ⟨aqR, h17, hh⟩ := ze hh
          obtain ⟨h17a, h17c⟩ := zX h17
          have h17d := qH (f := za.pv) h17c
          have h17e := qG h17c
          try simp only [List.length_cons, List.length_nil, Nat.zero_add, Nat.reduceAdd] at h17a h17e
          try simp only [h17e] at h17a
          try simp only [List.map_cons, List.map_nil, List.nil_append, List.append_nil, List.cons_append, List.singleton_append, zo, pvE] at h17d
          refine zq fun K kk hK => ?_
          simp only [go_sem, h17a, h17d, h17e, hl1a, hl1b, hl1d, hl1w]
          (repeat refine sd ?_)
          refine hK _ _ fun nx => ?_; clear hK K; try clear kk
          refine nmx ?_
          refine zq fun K kk hK => ?_
          simp only [go_sem, hl1a, hl1b, hl1d, hl1w]
          refine hK _ _ fun nx => ?_; clear hK K; try clear kk
          refine nmx ?_
          have ih' := ih (pre ++ [atO]) (Xf + 1) _ (by rw [hsplit]; simp) (by simp [hidx]) hh nx
          refine zH ?_
          first | exact ih' _ | (simp only [pvE, lsE, zo, h17e] at ih' ⊢; exact ih' _) | (simp only [pvE, lsE, zo, h17e, h16] at ih' ⊢; exact ih' _)
      exact key kC [] _ _ rfl rfl f1 _ _
    · rintro s ⟨t, hless, ZP, rfl, aud, apD, nx, g6, rfl⟩
      try dsimp only at hh
      refine nmy ?_
      first | (refine wh hless ?_; try refine kg ?_) | refine qF hless ?_ | refine qE hless ?_
      refine zb fun K kk hK => ?_
      simp only [go_sem]
      refine hK _ _ fun nx => ?_; clear hK K; try clear kk
      refine zi ?_; refine nmx ?_
      obtain hR := Option.some.inj hh
      subst hR
      exact Yy (by rfl) (by rfl) (by rfl) (by simp only [List.length_map, List.length_cons, List.length_nil, Nat.zero_add, Nat.reduceAdd]) (by first | rfl | (simp only [pvE, lsE, zo]; done) | (simp only [pvE, lsE, zo]; rfl))
    · intro i s h; exact h.elim
    · intro s h; exact h.elim
  · intro i s h; exact h.elim
  · intro s h; exact h.elim
theorem aiS (n_1 : za) (xI : Int) (Xk : Int) (l_4 : (List za)) (R : (za × Int)) (hh : YD n_1 xI Xk l_4 = some R) : PC Tryd.prog 49 [.agg [.str n_1.Kind, .str n_1.Text, .list 1 (n_1.Marks.map PV.str), .list 2 (n_1.zt.map zf.pv), .list 5 (n_1.Kids.map za.pv)], .int .i64 xI, .int .i64 Xk, .list 5 (l_4.map za.pv)] (.tup [.agg [.str R.1.Kind, .str R.1.Text, .list 1 (R.1.Marks.map PV.str), .list 2 (R.1.zt.map zf.pv), .list 5 (R.1.Kids.map za.pv)], .int .i64 R.2]) := by
  rw [YD] at hh
  refine aeV rfl ?_
  refine zb fun K kk hK => ?_
  simp only [go_sem]
  refine hK _ _ fun nx => ?_; clear hK K; try clear kk
  obtain ⟨⟨r_5, r_6⟩, h1, hh⟩ := ze hh
  dsimp only at hh
  refine zb fun K kk hK => ?_
  simp only [go_sem]
  refine zg (Ye _ _ _ _ h1) (by (try simp only [go_sem]) <;> exact wkl) (by rfl) (by rfl) ?_
  simp only [go_sem]
  refine hK _ _ fun nx => ?_; clear hK K; try clear kk
  refine zm ?_
  by_cases h2 : (r_6 == (2 : Int)) = true
  · rw [if_pos h2] at hh
    refine zb fun K kk hK => ?_
    simp only [go_sem, h2]
    (repeat refine sd ?_)
    refine hK _ _ fun nx => ?_; clear hK K; try clear kk
    refine zk rfl ?_
    refine zb fun K kk hK => ?_
    simp only [go_sem]
    refine hK _ _ fun nx => ?_; clear hK K; try clear kk
    refine zi ?_; refine nmx ?_
    obtain hR := Option.some.inj hh
    subst hR
    exact zy
  · rw [if_neg h2] at hh
    replace h2 := Bool.eq_false_iff.mpr h2
    obtain ⟨afP, h3, hh⟩ := ze hh
    obtain ⟨aiM, h4, hh⟩ := ze hh
    refine zb fun K kk hK => ?_
    simp only [go_sem, h2]
    (repeat refine sd ?_)
    refine zg (JA _ _ h3).list (by (try simp only [go_sem, h2]) <;> exact wkl) (by rfl) (by rfl) ?_
    simp only [go_sem, h2]
    (repeat refine sd ?_)
    refine zg (Q8 _ _ h4) (by (try simp only [go_sem, h2]) <;> exact wkl) (by rfl) (by rfl) ?_
    simp only [go_sem, h2]
    (repeat refine sd ?_)
    refine hK _ _ fun nx => ?_; clear hK K; try clear kk
    by_cases h5 : (aiM == (2 : Int)) = true
    · rw [if_pos h5] at hh
      refine zk (by first | exact congrArg PV.bool h5 | rfl) ?_
      refine zb fun K kk hK => ?_
      simp only [go_sem]
      refine hK _ _ fun nx => ?_; clear hK K; try clear kk
      refine zi ?_; refine nmx ?_
      obtain hR := Option.some.inj hh
      subst hR
      exact zy
    · rw [if_neg h5] at hh
      replace h5 := Bool.eq_false_iff.mpr h5
      refine zh (by first | exact congrArg PV.bool h5 | rfl) ?_
      refine zx ?_; refine nmx ?_
      refine zm ?_
      refine zb fun K kk hK => ?_
      simp only [go_sem]
      refine hK _ _ fun nx => ?_; clear hK K; try clear kk
      by_cases h6 : (r_6 != (0 : Int)) = true
      · rw [if_pos h6] at hh
        refine zk (by first | exact congrArg PV.bool h6 | rfl) ?_
        refine zb fun K kk hK => ?_
        simp only [go_sem]
        refine hK _ _ fun nx => ?_; clear hK K; try clear kk
        refine zi ?_; refine nmx ?_
        obtain hR := Option.some.inj hh
        subst hR
        exact zy
      · rw [if_neg h6] at hh
        replace h6 := Bool.eq_false_iff.mpr h6
        refine zh (by first | exact congrArg PV.bool h6 | rfl) ?_
        refine zx ?_; refine nmx ?_
        obtain ⟨⟨r_9, KR, VI⟩, h7, hh⟩ := ze hh
        dsimp only at hh
        refine zb fun K kk hK => ?_
        simp only [go_sem]
        refine zg (Qw _ _ _ h7) (by (try simp only [go_sem]) <;> exact wkl) (by rfl) (by rfl) ?_
        simp only [go_sem]
        refine hK _ _ fun nx => ?_; clear hK K; try clear kk
        obtain ⟨⟨Ke, Kl, aeO⟩, h8, hh⟩ := ze hh
        dsimp only at hh
        refine zb fun K kk hK => ?_
        simp only [go_sem]
        refine zg (Qw _ _ _ h8) (by (try simp only [go_sem]) <;> exact wkl) (by rfl) (by rfl) ?_
        simp only [go_sem]
        refine hK _ _ fun nx => ?_; clear hK K; try clear kk
        obtain ⟨amX, h9, hh⟩ := ze hh
        obtain ⟨ana, h10, hh⟩ := ze hh
        refine zb fun K kk hK => ?_
        simp only [go_sem]
        refine zg (Vm _ _ h9).list (by (try simp only [go_sem]) <;> exact wkl) (by rfl) (by rfl) ?_
        simp only [go_sem]
        refine zg (JA _ _ h10).list (by (try simp only [go_sem]) <;> exact wkl) (by rfl) (by rfl) ?_
        simp only [go_sem]
        refine hK _ _ fun nx => ?_; clear hK K; try clear kk
        obtain ⟨⟨aoB, aqm⟩, h11, hh⟩ := ze hh
        dsimp only at hh
        refine zb fun K kk hK => ?_
        simp only [go_sem]
        refine zg (aaf _ _ _ _ h11) (by (try simp only [go_sem]) <;> exact wkl) (by rfl) (by rfl) ?_
        simp only [go_sem]
        refine hK _ _ fun nx => ?_; clear hK K; try clear kk
        refine zm ?_
        obtain ⟨abZ, h12, hh⟩ := ze hh
        refine zb fun K kk hK => ?_
        simp only [go_sem]
        refine zg (Q8 _ _ h12) (by (try simp only [go_sem]) <;> exact wkl) (by rfl) (by rfl) ?_
        simp only [go_sem]
        refine hK _ _ fun nx => ?_; clear hK K; try clear kk
        refine zb fun K kk hK => ?_
        simp only [go_sem]
        refine hK _ _ fun nx => ?_; clear hK K; try clear kk
        by_cases h13 : (abZ != (0 : Int)) = true
        · rw [if_pos h13] at hh
          refine zk (by first | exact congrArg PV.bool h13 | rfl) ?_
          refine zb fun K kk hK => ?_
          simp only [go_sem]
          refine hK _ _ fun nx => ?_; clear hK K; try clear kk
          refine zi ?_; refine nmx ?_
          obtain hR := Option.some.inj hh
          subst hR
          exact zy
        · rw [if_neg h13] at hh
          replace h13 := Bool.eq_false_iff.mpr h13
          refine zh (by first | exact congrArg PV.bool h13 | rfl) ?_
          refine zx ?_; refine nmx ?_
          refine zb fun K kk hK => ?_
          simp only [go_sem]
          refine hK _ _ fun nx => ?_; clear hK K; try clear kk
          refine zi ?_; refine nmx ?_
          obtain hR := Option.some.inj hh
          subst hR
          exact zy
theorem xH (n_1 : za) (s_2 : zz) (R : (za × Int)) (hh : qP n_1 s_2 = some R) : PC Tryd.prog 17 [.agg [.str n_1.Kind, .str n_1.Text, .list 1 (n_1.Marks.map PV.str), .list 2 (n_1.zt.map zf.pv), .list 5 (n_1.Kids.map za.pv)], .agg [.int .u8 s_2.Kind, .int .i64 s_2.From, .int .i64 s_2.To, .list 5 (s_2.wC.map za.pv), .str s_2.Name, .str s_2.Value]] (.tup [.agg [.str R.1.Kind, .str R.1.Text, .list 1 (R.1.Marks.map PV.str), .list 2 (R.1.zt.map zf.pv), .list 5 (R.1.Kids.map za.pv)], .int .i64 R.2]) := by
  rw [qP] at hh
  refine adi rfl ?_
  refine zb fun K kk hK => ?_
  simp only [go_sem]
  refine hK _ _ fun nx => ?_; clear hK K; try clear kk
  refine zm ?_
  refine zD ?_
  obtain ⟨aiX, h1, hh⟩ := ze hh
  refine zb fun K kk hK => ?_
  simp only [go_sem]
  refine zg (ahf _ _ h1) (by (try simp only [go_sem]) <;> exact wkl) (by rfl) (by rfl) ?_
  simp only [go_sem]
  refine hK _ _ fun nx => ?_; clear hK K; try clear kk
  by_cases h2 : (!aiX) = true
  · rw [if_pos h2] at hh
    refine zk (by first | exact congrArg PV.bool h2 | rfl) ?_
    refine zb fun K kk hK => ?_
    simp only [go_sem]
    refine hK _ _ fun nx => ?_; clear hK K; try clear kk
    refine zi ?_; refine nmx ?_
    obtain hR := Option.some.inj hh
    subst hR
    exact zy
  · rw [if_neg h2] at hh
    replace h2 := Bool.eq_false_iff.mpr h2
    refine zh (by first | exact congrArg PV.bool h2 | rfl) ?_
    by_cases h3 : (n_1.Kind == ([116, 101, 120, 116] : Str)) = true
    · rw [if_pos h3] at hh
      refine zb fun K kk hK => ?_
      simp only [go_sem, h3]
      (repeat refine sd ?_)
      refine hK _ _ fun nx => ?_; clear hK K; try clear kk
      refine zk rfl ?_
      refine zb fun K kk hK => ?_
      simp only [go_sem]
      refine hK _ _ fun nx => ?_; clear hK K; try clear kk
      refine zi ?_; refine nmx ?_
      obtain hR := Option.some.inj hh
      subst hR
      exact zy
    · rw [if_neg h3] at hh
      replace h3 := Bool.eq_false_iff.mpr h3
      obtain ⟨ajB, h4, hh⟩ := ze hh
      refine zb fun K kk hK => ?_
      simp only [go_sem, h3]
      (repeat refine sd ?_)
      refine zg (Y5 _ _ h4) (by (try simp only [go_sem, h3]) <;> exact wkl) (by rfl) (by rfl) ?_
      simp only [go_sem, h3]
      (repeat refine sd ?_)
      refine hK _ _ fun nx => ?_; clear hK K; try clear kk
      by_cases h5 : (!ajB) = true
      · rw [if_pos h5] at hh
        refine zk (by first | exact congrArg PV.bool h5 | rfl) ?_
        refine zb fun K kk hK => ?_
        simp only [go_sem]
        refine hK _ _ fun nx => ?_; clear hK K; try clear kk
        refine zi ?_; refine nmx ?_
        obtain hR := Option.some.inj hh
        subst hR
        exact zy
      · rw [if_neg h5] at hh
        replace h5 := Bool.eq_false_iff.mpr h5
        refine zh (by first | exact congrArg PV.bool h5 | rfl) ?_
        refine zb fun K kk hK => ?_
        simp only [go_sem]
        refine hK _ _ fun nx => ?_; clear hK K; try clear kk
        by_cases h6 : (s_2.Kind == (114 : Int)) = true
        · rw [if_pos h6] at hh
          refine zk (by first | exact congrArg PV.bool h6 | rfl) ?_
          obtain ⟨⟨r_5, r_6⟩, h7, hh⟩ := ze hh
          dsimp only at hh
          refine zb fun K kk hK => ?_
          simp only [go_sem]
          refine zg (aiS _ _ _ _ _ h7) (by (try simp only [go_sem]) <;> exact wkl) (by rfl) (by rfl) ?_
          simp only [go_sem]
          refine hK _ _ fun nx => ?_; clear hK K; try clear kk
          refine zi ?_; refine nmx ?_
          obtain hR := Option.some.inj hh
          subst hR
          exact zy
        · rw [if_neg h6] at hh
          replace h6 := Bool.eq_false_iff.mpr h6
          refine zh (by first | exact congrArg PV.bool h6 | rfl) ?_
          refine zb fun K kk hK => ?_
          simp only [go_sem]
          refine hK _ _ fun nx => ?_; clear hK K; try clear kk
          by_cases h8 : (s_2.Kind == (97 : Int)) = true
          · rw [if_pos h8] at hh
            refine zk (by first | exact congrArg PV.bool h8 | rfl) ?_
            obtain ⟨⟨r_7, r_8, r_9⟩, h9, hh⟩ := ze hh
            dsimp only at hh
            refine zb fun K kk hK => ?_
            simp only [go_sem]
            refine zg (aet _ _ _ h9) (by (try simp only [go_sem]) <;> exact wkl) (by rfl) (by rfl) ?_
            simp only [go_sem]
            refine hK _ _ fun nx => ?_; clear hK K; try clear kk
            refine zb fun K kk hK => ?_
            simp only [go_sem]
            refine hK _ _ fun nx => ?_; clear hK K; try clear kk
            refine zi ?_; refine nmx ?_
            obtain hR := Option.some.inj hh
            subst hR
            exact zy
          · rw [if_neg h8] at hh
            replace h8 := Bool.eq_false_iff.mpr h8
            refine zh (by first | exact congrArg PV.bool h8 | rfl) ?_
            refine zx ?_; refine nmx ?_
            obtain ⟨⟨KR, VI, Ke⟩, h10, hh⟩ := ze hh
            dsimp only at hh
            refine zb fun K kk hK => ?_
            simp only [go_sem]
            refine zg (aal _ _ _ h10) (by (try simp only [go_sem]) <;> exact wkl) (by rfl) (by rfl) ?_
            simp only [go_sem]
            refine hK _ _ fun nx => ?_; clear hK K; try clear kk
            refine zb fun K kk hK => ?_
            simp only [go_sem]
            refine hK _ _ fun nx => ?_; clear hK K; try clear kk
            refine zi ?_; refine nmx ?_
            obtain hR := Option.some.inj hh
            subst hR
            exact zy
theorem X3 (n_1 : za) (l_2 : (List zz)) (R : (za × Int)) (hh : Qv n_1 l_2 = some R) : PC Tryd.prog 14 [.agg [.str n_1.Kind, .str n_1.Text, .list 1 (n_1.Marks.map PV.str), .list 2 (n_1.zt.map zf.pv), .list 5 (n_1.Kids.map za.pv)], .list 6 (l_2.map zz.pv)] (.tup [.agg [.str R.1.Kind, .str R.1.Text, .list 1 (R.1.Marks.map PV.str), .list 2 (R.1.zt.map zf.pv), .list 5 (R.1.Kids.map za.pv)], .int .i64 R.2]) := by
  rw [Qv] at hh
  refine af3 rfl ?_
  refine zb fun K kk hK => ?_
  simp only [go_sem]
  refine hK _ _ fun nx => ?_; clear hK K; try clear kk
  refine zb fun K kk hK => ?_
  simp only [go_sem]
  refine hK _ _ fun nx => ?_; clear hK K; try clear kk
  refine zm ?_
  refine zb fun K kk hK => ?_
  simp only [go_sem]
  refine hK _ _ fun nx => ?_; clear hK K; try clear kk
  obtain ⟨e0, f0, hh⟩ := ze hh
  obtain ⟨hlen0, f0⟩ := zZ f0
  refine qy (wS (fun s => ∃ ajM, .inr ajM = e0 ∧ ∃ (agd : Int) (JX : Bool) (nx : Nat) (g2 : Nat) (g4 : Nat), s = ⟨[(2, .box 2 g2 0), (4, .box 4 g4 0), (9, .list 6 (l_2.map zz.pv)), (10, .int .i64 (l_2.length : Int)), (11, .int .i64 agd), (12, .bool JX)], [(2, g2, .var 28 [.str ajM.Kind, .str ajM.Text, .list 1 (ajM.Marks.map PV.str), .list 2 (ajM.zt.map zf.pv), .list 5 (ajM.Kids.map za.pv)]), (4, g4, .var 28 [.str ([] : Str), .str ([] : Str), .list 1 ([].map PV.str), .list 2 ([].map zf.pv), .list 5 ([].map za.pv)])], nx⟩))
    (fun i s => False)
    (fun s => ∃ VG, .inl VG = e0 ∧ zR Tryd.prog [.cell 4 28, .tmp 5] (.tup [.agg [.str VG.1.Kind, .str VG.1.Text, .list 1 (VG.1.Marks.map PV.str), .list 2 (VG.1.zt.map zf.pv), .list 5 (VG.1.Kids.map za.pv)], .int .i64 VG.2]) [] .ret s) ?_ ?_ ?_ ?_
  · refine zD ?_
    refine qi fun I hI => ?_
    have key : ∀ (suf pre : List zz) (v_7 : Int) (n_6 : za), l_2 = pre ++ suf → v_7 = (pre.length : Int) → xQ suf v_7 n_6 = some e0 → ∀ (nx : Nat) (g2 : Nat) (g4 : Nat), I ⟨[(2, .box 2 g2 0), (4, .box 4 g4 0), (9, .list 6 (l_2.map zz.pv)), (10, .int .i64 (l_2.length : Int)), (11, .int .i64 v_7)], [(2, g2, .var 28 [.str n_6.Kind, .str n_6.Text, .list 1 (n_6.Marks.map PV.str), .list 2 (n_6.zt.map zf.pv), .list 5 (n_6.Kids.map za.pv)]), (4, g4, .var 28 [.str ([] : Str), .str ([] : Str), .list 1 ([].map PV.str), .list 2 ([].map zf.pv), .list 5 ([].map za.pv)])], nx⟩ := by
      intro suf
      induction suf with
      | nil =>
        intro pre v_7 n_6 hsplit hidx hh nx g2 g4
        rw [xQ] at hh
        refine hI _ ?_
        have h9 := walk_nil hsplit hidx
        refine zb fun K kk hK => ?_
        simp only [go_sem]
        refine hK _ _ fun nx => ?_; clear hK K; try clear kk
        refine zm ?_
        refine zh (by first | exact congrArg PV.bool h9 | rfl) ?_
        refine qd ?_; refine nmx ?_
        refine kL ?_
        refine zH ?_
        refine ⟨_, (Option.some.inj hh), ?_⟩
        first | exact ⟨_, _, _, _, _, rfl⟩ | (simp only [pvE, lsE, zo]; exact ⟨_, _, _, _, _, rfl⟩) | (simp only [pvE, lsE, zo, h9]; exact ⟨_, _, _, _, _, rfl⟩)
      | cons atS suf ih =>
        intro pre v_7 n_6 hsplit hidx hh nx g2 g4
        rw [xQ] at hh
        refine hI _ ?_
        obtain ⟨hl0a, hl0b, hl0d, hl0w, h9⟩ := qD (f := zz.pv) hsplit hidx hlen0
        refine zb fun K kk hK => ?_
        simp only [go_sem]
        refine hK _ _ fun nx => ?_; clear hK K; try clear kk
        refine zm ?_
        refine zk (by first | exact congrArg PV.bool h9 | rfl) ?_
        refine zx ?_; refine nmx ?_
        refine zm ?_
        refine zD ?_
        refine zb fun K kk hK => ?_
        simp only [go_sem, hl0a, hl0b, hl0d, hl0w]
        refine hK _ _ fun nx => ?_; clear hK K; try clear kk
        obtain ⟨⟨Ke, Kl⟩, h10, hh⟩ := ze hh
        dsimp only at hh
        refine zb fun K kk hK => ?_
        simp only [go_sem, hl0a, hl0b, hl0d, hl0w]
        refine zg (xH _ _ _ h10) (by (try simp only [go_sem, hl0a, hl0b, hl0d, hl0w]) <;> exact wkl) (by rfl) (by rfl) ?_
        simp only [go_sem, hl0a, hl0b, hl0d, hl0w]
        refine hK _ _ fun nx => ?_; clear hK K; try clear kk
        refine zb fun K kk hK => ?_
        simp only [go_sem, hl0a, hl0b, hl0d, hl0w]
        refine hK _ _ fun nx => ?_; clear hK K; try clear kk
        by_cases h11 : (Kl != (0 : Int)) = true
        · rw [if_pos h11] at hh
          refine zk (by first | exact congrArg PV.bool h11 | rfl) ?_
          refine zb fun K kk hK => ?_
          simp only [go_sem, hl0a, hl0b, hl0d, hl0w]
          refine hK _ _ fun nx => ?_; clear hK K; try clear kk
          refine zi ?_; refine nmx ?_
          refine Z9 ⟨_, (Option.some.inj hh), ?_⟩
          exact zy
        · rw [if_neg h11] at hh
          replace h11 := Bool.eq_false_iff.mpr h11
          refine zh (by first | exact congrArg PV.bool h11 | rfl) ?_
          refine zx ?_; refine nmx ?_
          refine zq fun K kk hK => ?_
          simp only [go_sem, hl0a, hl0b, hl0d, hl0w]
          refine hK _ _ fun nx => ?_; clear hK K; try clear kk
          refine nmx ?_
          have ih' := ih (pre ++ [atS]) (v_7 + 1) _ (by rw [hsplit]; simp) (by simp [hidx]) hh nx
          refine zH ?_
          first | exact ih' _ _ | (simp only [pvE, lsE, zo] at ih' ⊢; exact ih' _ _) | (simp only [pvE, lsE, zo, h11, h9] at ih' ⊢; exact ih' _ _)
    exact key l_2 [] _ _ rfl rfl f0 _ _ _
  · rintro s ⟨t, hless, ajM, rfl, agd, JX, nx, g2, g4, rfl⟩
    try dsimp only at hh
    refine nmy ?_
    first | (refine wh hless ?_; try refine kg ?_) | refine qF hless ?_ | refine qE hless ?_
    refine zb fun K kk hK => ?_
    simp only [go_sem]
    refine hK _ _ fun nx => ?_; clear hK K; try clear kk
    refine zi ?_; refine nmx ?_
    obtain hR := Option.some.inj hh
    subst hR
    exact zy
  · intro i s h; exact h.elim
  · rintro s ⟨VG, rfl, hb⟩
    try dsimp only at hh
    obtain hR := Option.some.inj hh
    subst hR
    refine nmx ?_
    exact hb
theorem yR (kU : (List zf)) (vI : (List zf)) (R : Bool) (hh : kX kU vI = some R) : PC Tryd.prog 43 [.list 2 (kU.map zf.pv), .list 2 (vI.map zf.pv)] (.bool R) := by
  rw [kX] at hh
  refine Km rfl ?_
  refine zb fun K kk hK => ?_
  simp only [go_sem]
  refine hK _ _ fun nx => ?_; clear hK K; try clear kk
  refine zm ?_
  refine zb fun K kk hK => ?_
  simp only [go_sem]
  refine hK _ _ fun nx => ?_; clear hK K; try clear kk
  by_cases h1 : ((kU.length : Int) != (vI.length : Int)) = true
  · rw [if_pos h1] at hh
    refine zk (by first | exact congrArg PV.bool h1 | rfl) ?_
    refine zb fun K kk hK => ?_
    simp only [go_sem]
    refine hK _ _ fun nx => ?_; clear hK K; try clear kk
    refine zi ?_; refine nmx ?_
    obtain hR := Option.some.inj hh
    subst hR
    exact zy
  · rw [if_neg h1] at hh
    replace h1 := Bool.eq_false_iff.mpr h1
    refine zh (by first | exact congrArg PV.bool h1 | rfl) ?_
    refine zx ?_; refine nmx ?_
    refine zm ?_
    refine zb fun K kk hK => ?_
    simp only [go_sem]
    refine hK _ _ fun nx => ?_; clear hK K; try clear kk
    obtain ⟨e0, f0, hh⟩ := ze hh
    obtain ⟨hlen0, f0⟩ := zZ f0
    refine qy (wS (fun s => .inr () = e0 ∧ ∃ (Q4 : Int) (Wo : Bool) (nx : Nat), s = ⟨[(0, .list 2 (kU.map zf.pv)), (1, .list 2 (vI.map zf.pv)), (12, .int .i64 (kU.length : Int)), (13, .int .i64 Q4), (14, .bool Wo)], [], nx⟩))
      (fun i s => False)
      (fun s => ∃ wK, .inl wK = e0 ∧ zR Tryd.prog [.tmp 4] (.bool wK) [] .ret s) ?_ ?_ ?_ ?_
    · refine zD ?_
      refine qi fun I hI => ?_
      have key : ∀ (suf pre : List zf) (v_5 : Int), kU = pre ++ suf → v_5 = (pre.length : Int) → qK vI suf v_5 = some e0 → ∀ (nx : Nat), I ⟨[(0, .list 2 (kU.map zf.pv)), (1, .list 2 (vI.map zf.pv)), (12, .int .i64 (kU.length : Int)), (13, .int .i64 v_5)], [], nx⟩ := by
        intro suf
        induction suf with
        | nil =>
          intro pre v_5 hsplit hidx hh nx
          rw [qK] at hh
          refine hI _ ?_
          have h10 := walk_nil hsplit hidx
          refine zb fun K kk hK => ?_
          simp only [go_sem]
          refine hK _ _ fun nx => ?_; clear hK K; try clear kk
          refine zm ?_
          refine zh (by first | exact congrArg PV.bool h10 | rfl) ?_
          refine qd ?_; refine nmx ?_
          refine kL ?_
          refine zH ?_
          refine ⟨(Option.some.inj hh), ?_⟩
          first | exact ⟨_, _, _, rfl⟩ | (simp only [pvE, lsE, zo]; exact ⟨_, _, _, rfl⟩) | (simp only [pvE, lsE, zo, h1, h10]; exact ⟨_, _, _, rfl⟩)
        | cons y_8 suf ih =>
          intro pre v_5 hsplit hidx hh nx
          rw [qK] at hh
          refine hI _ ?_
          obtain ⟨hl0a, hl0b, hl0d, hl0w, h10⟩ := qD (f := zf.pv) hsplit hidx hlen0
          refine zb fun K kk hK => ?_
          simp only [go_sem]
          refine hK _ _ fun nx => ?_; clear hK K; try clear kk
          refine zm ?_
          refine zk (by first | exact congrArg PV.bool h10 | rfl) ?_
          refine zx ?_; refine nmx ?_
          refine zm ?_
          refine zD ?_
          refine zb fun K kk hK => ?_
          simp only [go_sem, hl0a, hl0b, hl0d, hl0w]
          refine hK _ _ fun nx => ?_; clear hK K; try clear kk
          obtain ⟨x_9, h11, hh⟩ := ze hh
          obtain ⟨h11a, h11b, h11c⟩ := rd_some h11
          have h11d := kZ (f := zf.pv) h11c
          have h11f := wO (f := zf.pv) h11c
          try simp only [Int.toNat_natCast, Int.reduceToNat] at h11d h11f
          refine zb fun K kk hK => ?_
          simp only [go_sem, h11a, h11b, h11d, h11f.1, h11f.2, hl0a, hl0b, hl0d, hl0w]
          (repeat refine sd ?_)
          refine hK _ _ fun nx => ?_; clear hK K; try clear kk
          by_cases h12 : ((((y_8.Name == x_9.Name) && (y_8.Value == x_9.Value)) != true)) = true
          · rw [if_pos h12] at hh
            refine zk (by first | exact congrArg PV.bool h12 | rfl) ?_
            refine zb fun K kk hK => ?_
            simp only [go_sem, hl0a, hl0b, hl0d, hl0w]
            refine hK _ _ fun nx => ?_; clear hK K; try clear kk
            refine zi ?_; refine nmx ?_
            refine Z9 ⟨_, (Option.some.inj hh), ?_⟩
            exact zy
          · rw [if_neg h12] at hh
            replace h12 := Bool.eq_false_iff.mpr h12
            refine zh (by first | exact congrArg PV.bool h12 | rfl) ?_
            refine zx ?_; refine nmx ?_
            refine zq fun K kk hK => ?_
            simp only [go_sem, hl0a, hl0b, hl0d, hl0w]
            refine hK _ _ fun nx => ?_; clear hK K; try clear kk
            refine nmx ?_
            have ih' := ih (pre ++ [y_8]) (v_5 + 1) (by rw [hsplit]; simp) (by simp [hidx]) hh nx
            refine zH ?_
            first | exact ih' | (simp only [pvE, lsE, zo] at ih' ⊢; exact ih') | (simp only [pvE, lsE, zo, h1, h10, h12] at ih' ⊢; exact ih')
      exact key kU [] _ rfl rfl f0 _
    · rintro s ⟨t, hless, rfl, Q4, Wo, nx, rfl⟩
      try dsimp only at hh
      refine nmy ?_
      first | (refine wh hless ?_; try refine kg ?_) | refine qF hless ?_ | refine qE hless ?_
      refine zb fun K kk hK => ?_
      simp only [go_sem]
      refine hK _ _ fun nx => ?_; clear hK K; try clear kk
      refine zi ?_; refine nmx ?_
      obtain hR := Option.some.inj hh
      subst hR
      exact zy
    · intro i s h; exact h.elim
    · rintro s ⟨wK, rfl, hb⟩
      try dsimp only at hh
      obtain hR := Option.some.inj hh
      subst hR
      refine nmx ?_
      exact hb
end Go.Proofs.YtclohbgnaopjfaaDoor
