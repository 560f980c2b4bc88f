/- Texts of the proof of stepTokensCard -/
import Derived.Test.YtclohbgnaopjfaaGreatDoorAgC
import Derived.Test.YtclohbgnaopjfaaGreatDoorAgF
import Derived.Test.YtclohbgnaopjfaaGreatDoorAgK0
import Derived.Test.YtclohbgnaopjfaaGreatDoorAgK1
import Derived.Test.YtclohbgnaopjfaaGreatDoorAgK6
import Derived.Test.YtclohbgnaopjfaaGreatDoorAgK8
namespace Go.Proofs.YtclohbgnaopjfaaGreatDoor
set_option linter.unusedSimpArgs false
set_option linter.unusedVariables false
open Go
set_option maxRecDepth 100000
theorem YP (n_1 : za) (K8 : Int) (Xn : Int) (ajX : Int) (l_5 : (List zu)) (R : zG) (hh : jN n_1 K8 Xn ajX l_5 = some R) : PC Tryz.prog 8 [.agg [.str n_1.Kind, .str n_1.Text, .list 1 (n_1.Marks.map PV.str), .list 2 (n_1.zq.map zf.pv), .list 5 (n_1.Kids.map za.pv)], .int .i64 K8, .int .i64 Xn, .int .i64 ajX, .list 4 (l_5.map zu.pv)] (.agg [.int .u8 R.Kind, .int .i64 R.From, .int .i64 R.To, .list 5 (R.wJ.map za.pv), .str R.Name, .str R.Value]) := by
 rw [jN] at hh
 refine Jt rfl ?_
 refine zb fun K kk hK => ?_
 simp only [go_sem]
 refine hK _ _ fun nx => ?_; clear hK K; try clear kk
 obtain ⟨aky, h1, hh⟩ := ze hh
 refine zb fun K kk hK => ?_
 simp only [go_sem]
 refine zg (xM _ _ h1) (by (try simp only [go_sem]) <;> exact wkl) (by rfl) (by rfl) ?_
 simp only [go_sem]
 refine hK _ _ fun nx => ?_; clear hK K; try clear kk
 obtain ⟨kI, h2, hh⟩ := ze hh
 refine zb fun K kk hK => ?_
 simp only [go_sem]
 refine zg (qj _ _ _ h2) (by (try simp only [go_sem]) <;> exact wkl) (by rfl) (by rfl) ?_
 simp only [go_sem]
 refine hK _ _ fun nx => ?_; clear hK K; try clear kk
 obtain ⟨kN, h3, hh⟩ := ze hh
 refine zb fun K kk hK => ?_
 simp only [go_sem]
 refine zg (qj _ _ _ h3) (by (try simp only [go_sem]) <;> exact wkl) (by rfl) (by rfl) ?_
 simp only [go_sem]
 refine hK _ _ fun nx => ?_; clear hK K; try clear kk
 refine zb fun K kk hK => ?_
 simp only [go_sem]
 refine hK _ _ fun nx => ?_; clear hK K; try clear kk
 refine zm ?_
 obtain ⟨abQ, h4, hh⟩ := ze hh
 refine zb fun K kk hK => ?_
 simp only [go_sem]
 refine zg (qj _ _ _ h4) (by (try simp only [go_sem]) <;> exact wkl) (by rfl) (by rfl) ?_
 simp only [go_sem]
 refine hK _ _ fun nx => ?_; clear hK K; try clear kk
 refine zC ?_
 refine zb fun K kk hK => ?_
 simp only [go_sem]
 refine hK _ _ fun nx => ?_; clear hK K; try clear kk
 by_cases h5 : (abQ == (0 : Int)) = true
 ·rw [if_pos h5] at hh
  refine zk (by first | exact congrArg PV.bool h5 | rfl) ?_
  obtain ⟨Ja, h6, hh⟩ := ze hh
  refine zb fun K kk hK => ?_
  simp only [go_sem]
  refine zg (Kb _ _ h6) (by (try simp only [go_sem]) <;> exact wkl) (by rfl) (by rfl) ?_
  simp only [go_sem]
  refine hK _ _ fun nx => ?_; clear hK K; try clear kk
  obtain ⟨⟨afn, akE⟩, h7, hh⟩ := ze hh
  dsimp only at hh
  refine zb fun K kk hK => ?_
  simp only [go_sem]
  refine zg (Q7 _ _ _ h7) (by (try simp only [go_sem]) <;> exact wkl) (by rfl) (by rfl) ?_
  simp only [go_sem]
  refine hK _ _ fun nx => ?_; clear hK K; try clear kk
  refine zm ?_
  obtain ⟨e0, f0, hh⟩ := ze hh
  refine Qg (fun s => ∃ ama, ama = e0 ∧ ∃ (arA : Bool) (nx : Nat) (g5 : Nat) (g10 : Nat) (g15 : Nat), s = ⟨[(5, .box 5 g5 0), (10, .box 10 g10 0), (15, .box 15 g15 0), (58, .bool arA)], [(5, g5, .var 28 [.str n_1.Kind, .str n_1.Text, .list 1 (n_1.Marks.map PV.str), .list 2 (n_1.zq.map zf.pv), .list 5 (n_1.Kids.map za.pv)]), (10, g10, .var 31 [.int .u8 (0 : Int), .int .i64 (0 : Int), .int .i64 (0 : Int), .list 5 ([].map za.pv), .str ([] : Str), .str ([] : Str)]), (15, g15, .var 31 [.int .u8 (114 : Int), .int .i64 (if kN < kI then kN else kI), .int .i64 ama, .list 5 (Ja.Kids.map za.pv), .str ([] : Str), .str ([] : Str)])], nx⟩)
   (fun i s => False)
   (fun s => False) ?_ ?_ ?_ ?_
  ·refine zC ?_
   refine qi fun I hI => ?_
   obtain ⟨k, f0⟩ := jL f0
   have key : ∀ (k : Nat) (an6 : Int) (ahw : Int), qO n_1 kI kN Ja k an6 ahw = some e0 → ∀ (nx : Nat) (g5 : Nat) (g10 : Nat) (g15 : Nat), I ⟨[(5, .box 5 g5 0), (10, .box 10 g10 0), (15, .box 15 g15 0), (17, .int .i64 an6)], [(5, g5, .var 28 [.str n_1.Kind, .str n_1.Text, .list 1 (n_1.Marks.map PV.str), .list 2 (n_1.zq.map zf.pv), .list 5 (n_1.Kids.map za.pv)]), (10, g10, .var 31 [.int .u8 (0 : Int), .int .i64 (0 : Int), .int .i64 (0 : Int), .list 5 ([].map za.pv), .str ([] : Str), .str ([] : Str)]), (15, g15, .var 31 [.int .u8 (114 : Int), .int .i64 (if kN < kI then kN else kI), .int .i64 ahw, .list 5 (Ja.Kids.map za.pv), .str ([] : Str), .str ([] : Str)])], nx⟩ := by
    intro k
    induction k with
    | zero => intro an6 ahw hh; rw [qO] at hh; cases hh
    | succ k ih =>
     intro an6 ahw hh nx g5 g10 g15
     rw [qO] at hh
     refine hI _ ?_
     refine zm ?_
     by_cases h11 : (decide (ahw > (if kN < kI then kN else kI))) = true
     ·rw [if_pos h11] at hh
      refine zb fun K kk hK => ?_
      simp only [go_sem, h11, of_decide_eq_true h11]
      (repeat refine sd ?_)
      refine hK _ _ fun nx => ?_; clear hK K; try clear kk
      by_cases h12 : (an6 != (0 : Int)) = true
      ·rw [if_pos h12] at hh
       refine zk (by first | exact congrArg PV.bool h12 | rfl) ?_
       refine zy ?_; refine nmx ?_
       refine zC ?_
       refine zb fun K kk hK => ?_
       simp only [go_sem]
       refine hK _ _ fun nx => ?_; clear hK K; try clear kk
       obtain ⟨⟨asx, atT⟩, h13, hh⟩ := ze hh
       dsimp only at hh
       refine zt fun K kk hK => ?_
       simp only [go_sem]
       refine zg (Q7 _ _ _ h13) (by (try simp only [go_sem]) <;> exact wkl) (by rfl) (by rfl) ?_
       simp only [go_sem]
       refine hK _ _ fun nx => ?_; clear hK K; try clear kk
       refine nmx ?_
       have ih' := ih _ _ hh nx
       refine zH ?_
       first | exact ih' _ _ _ | (simp only [pvE, lsE, zo] at ih' ⊢; exact ih' _ _ _) | (simp only [pvE, lsE, zo, h11, h12, h5] at ih' ⊢; exact ih' _ _ _)
      ·rw [if_neg h12] at hh
       replace h12 := Bool.eq_false_iff.mpr h12
       refine zh (by first | exact congrArg PV.bool h12 | rfl) ?_
       refine zV ?_; refine nmx ?_
       refine wU ?_
       refine zH ?_
       refine ⟨_, (Option.some.inj hh), ?_⟩
       first | exact ⟨_, _, _, _, _, rfl⟩ | (simp only [pvE, lsE, zo]; exact ⟨_, _, _, _, _, rfl⟩) | (simp only [pvE, lsE, zo, h11, h12, h5]; exact ⟨_, _, _, _, _, rfl⟩)
     ·rw [if_neg h11] at hh
      replace h11 := Bool.eq_false_iff.mpr h11
      refine zb fun K kk hK => ?_
      simp only [go_sem, h11, of_decide_eq_false h11]
      (repeat refine sd ?_)
      refine hK _ _ fun nx => ?_; clear hK K; try clear kk
      refine zh rfl ?_
      refine zV ?_; refine nmx ?_
      refine wU ?_
      refine zH ?_
      refine ⟨_, (Option.some.inj hh), ?_⟩
      first | exact ⟨_, _, _, _, _, rfl⟩ | (simp only [pvE, lsE, zo]; exact ⟨_, _, _, _, _, rfl⟩) | (simp only [pvE, lsE, zo, h11, h5]; exact ⟨_, _, _, _, _, rfl⟩)
   exact key _ _ _ f0 _ _ _ _
  ·rintro s ⟨ama, rfl, arA, nx, g5, g10, g15, rfl⟩
   try dsimp only at hh
   refine zb fun K kk hK => ?_
   simp only [go_sem]
   refine hK _ _ fun nx => ?_; clear hK K; try clear kk
   refine zn ?_; refine nmx ?_
   obtain hR := Option.some.inj hh
   subst hR
   exact zz
  ·intro i s h; exact h.elim
  ·intro s h; exact h.elim
 ·rw [if_neg h5] at hh
  replace h5 := Bool.eq_false_iff.mpr h5
  refine zh (by first | exact congrArg PV.bool h5 | rfl) ?_
  refine zb fun K kk hK => ?_
  simp only [go_sem]
  refine hK _ _ fun nx => ?_; clear hK K; try clear kk
  by_cases h14 : (abQ == (1 : Int)) = true
  ·rw [if_pos h14] at hh
   refine zk (by first | exact congrArg PV.bool h14 | rfl) ?_
   refine zb fun K kk hK => ?_
   simp only [go_sem]
   refine hK _ _ fun nx => ?_; clear hK K; try clear kk
   refine zn ?_; refine nmx ?_
   obtain hR := Option.some.inj hh
   subst hR
   exact zz
  ·rw [if_neg h14] at hh
   replace h14 := Bool.eq_false_iff.mpr h14
   refine zh (by first | exact congrArg PV.bool h14 | rfl) ?_
   refine zb fun K kk hK => ?_
   simp only [go_sem]
   refine hK _ _ fun nx => ?_; clear hK K; try clear kk
   by_cases h15 : (abQ == (2 : Int)) = true
   ·rw [if_pos h15] at hh
    refine zk (by first | exact congrArg PV.bool h15 | rfl) ?_
    obtain ⟨aos, h16, hh⟩ := ze hh
    obtain ⟨aim, h17, hh⟩ := ze hh
    obtain ⟨h17a, h17b, h17c⟩ := rd_some h17
    have h17d := kR (f := PV.str) h17c
    have h17f := wL (f := PV.str) h17c
    try simp only [Int.toNat_natCast, Int.reduceToNat] at h17d h17f
    simp only [List.length_cons, List.length_nil, List.map_cons, List.map_nil, Nat.zero_add, Nat.reduceAdd, reduceCtorEq, not_false_eq_true, and_true, pvE] at h17b h17d h17f
    refine zb fun K kk hK => ?_
    simp only [go_sem, h17a, h17b, h17d, h17f]
    (repeat refine sd ?_)
    refine zg (qj _ _ _ h16) (by (try simp only [go_sem, h17a, h17b, h17d, h17f]) <;> exact wkl) (by rfl) (by rfl) ?_
    simp only [go_sem, h17a, h17b, h17d, h17f]
    (repeat refine sd ?_)
    refine hK _ _ fun nx => ?_; clear hK K; try clear kk
    refine zn ?_; refine nmx ?_
    obtain hR := Option.some.inj hh
    subst hR
    exact zz
   ·rw [if_neg h15] at hh
    replace h15 := Bool.eq_false_iff.mpr h15
    refine zh (by first | exact congrArg PV.bool h15 | rfl) ?_
    refine zy ?_; refine nmx ?_
    obtain ⟨ao7, h18, hh⟩ := ze hh
    obtain ⟨awE, h19, hh⟩ := ze hh
    obtain ⟨h19a, h19b, h19c⟩ := rd_some h19
    have h19d := kR (f := PV.str) h19c
    have h19f := wL (f := PV.str) h19c
    try simp only [Int.toNat_natCast, Int.reduceToNat] at h19d h19f
    simp only [List.length_cons, List.length_nil, List.map_cons, List.map_nil, Nat.zero_add, Nat.reduceAdd, reduceCtorEq, not_false_eq_true, and_true, pvE] at h19b h19d h19f
    refine zb fun K kk hK => ?_
    simp only [go_sem, h19a, h19b, h19d, h19f]
    (repeat refine sd ?_)
    refine zg (qj _ _ _ h18) (by (try simp only [go_sem, h19a, h19b, h19d, h19f]) <;> exact wkl) (by rfl) (by rfl) ?_
    simp only [go_sem, h19a, h19b, h19d, h19f]
    (repeat refine sd ?_)
    refine hK _ _ fun nx => ?_; clear hK K; try clear kk
    refine zn ?_; refine nmx ?_
    obtain hR := Option.some.inj hh
    subst hR
    exact zz
theorem KS (l_1 : (List zu)) (K8 : Int) (Xn : Int) (ajX : Int) (k_5 : (List zu)) (R : Bool) (hh : vL l_1 K8 Xn ajX k_5 = some R) : PC Tryz.prog 3 [.list 4 (l_1.map zu.pv), .int .i64 K8, .int .i64 Xn, .int .i64 ajX, .list 4 (k_5.map zu.pv)] (.bool R) := by
 rw [vL] at hh
 refine Wv rfl ?_
 refine zb fun K kk hK => ?_
 simp only [go_sem]
 refine hK _ _ fun nx => ?_; clear hK K; try clear kk
 obtain ⟨acr, h1, hh⟩ := ze hh
 refine zb fun K kk hK => ?_
 simp only [go_sem]
 refine zg (XP _ h1) (by (try simp only [go_sem]) <;> exact wkl) (by rfl) (by rfl) ?_
 simp only [go_sem]
 refine hK _ _ fun nx => ?_; clear hK K; try clear kk
 refine zm ?_
 by_cases h2 : (!acr) = true
 ·rw [if_pos h2] at hh
  refine zb fun K kk hK => ?_
  simp only [go_sem, h2]
  (repeat refine sd ?_)
  refine hK _ _ fun nx => ?_; clear hK K; try clear kk
  refine zk rfl ?_
  refine zb fun K kk hK => ?_
  simp only [go_sem]
  refine hK _ _ fun nx => ?_; clear hK K; try clear kk
  refine zn ?_; refine nmx ?_
  obtain hR := Option.some.inj hh
  subst hR
  exact zz
 ·rw [if_neg h2] at hh
  replace h2 := Bool.eq_false_iff.mpr h2
  refine zb fun K kk hK => ?_
  simp only [go_sem, h2]
  (repeat refine sd ?_)
  refine hK _ _ fun nx => ?_; clear hK K; try clear kk
  by_cases h3 : (decide ((k_5.length : Int) > (20 : Int))) = true
  ·rw [if_pos h3] at hh
   refine zk (by first | exact congrArg PV.bool h3 | rfl) ?_
   refine zb fun K kk hK => ?_
   simp only [go_sem]
   refine hK _ _ fun nx => ?_; clear hK K; try clear kk
   refine zn ?_; refine nmx ?_
   obtain hR := Option.some.inj hh
   subst hR
   exact zz
  ·rw [if_neg h3] at hh
   replace h3 := Bool.eq_false_iff.mpr h3
   refine zh (by first | exact congrArg PV.bool h3 | rfl) ?_
   refine zy ?_; refine nmx ?_
   obtain ⟨aot, h4, hh⟩ := ze hh
   refine zb fun K kk hK => ?_
   simp only [go_sem]
   refine zg (Kb _ _ h4) (by (try simp only [go_sem]) <;> exact wkl) (by rfl) (by rfl) ?_
   simp only [go_sem]
   refine hK _ _ fun nx => ?_; clear hK K; try clear kk
   obtain ⟨zW, h5, hh⟩ := ze hh
   refine zb fun K kk hK => ?_
   simp only [go_sem]
   refine zg (YP _ _ _ _ _ _ h5) (by (try simp only [go_sem]) <;> exact wkl) (by rfl) (by rfl) ?_
   simp only [go_sem]
   refine hK _ _ fun nx => ?_; clear hK K; try clear kk
   obtain ⟨⟨r_9, Jm⟩, h6, hh⟩ := ze hh
   dsimp only at hh
   refine zb fun K kk hK => ?_
   simp only [go_sem]
   refine zg (Q7 _ _ _ h6) (by (try simp only [go_sem]) <;> exact wkl) (by rfl) (by rfl) ?_
   simp only [go_sem]
   refine hK _ _ fun nx => ?_; clear hK K; try clear kk
   refine zm ?_
   by_cases h7 : (Jm != (0 : Int)) = true
   ·rw [if_pos h7] at hh
    refine zb fun K kk hK => ?_
    simp only [go_sem, h7]
    (repeat refine sd ?_)
    refine hK _ _ fun nx => ?_; clear hK K; try clear kk
    refine zk rfl ?_
    refine zb fun K kk hK => ?_
    simp only [go_sem]
    refine hK _ _ fun nx => ?_; clear hK K; try clear kk
    refine zn ?_; refine nmx ?_
    obtain hR := Option.some.inj hh
    subst hR
    exact zz
   ·rw [if_neg h7] at hh
    replace h7 := Bool.eq_false_iff.mpr h7
    refine zb fun K kk hK => ?_
    simp only [go_sem, h7]
    (repeat refine sd ?_)
    refine hK _ _ fun nx => ?_; clear hK K; try clear kk
    by_cases h8 : (zW.Kind == (97 : Int)) = true
    ·rw [if_pos h8] at hh
     refine zk (by first | exact congrArg PV.bool h8 | rfl) ?_
     refine zb fun K kk hK => ?_
     simp only [go_sem]
     refine hK _ _ fun nx => ?_; clear hK K; try clear kk
     refine zn ?_; refine nmx ?_
     obtain hR := Option.some.inj hh
     subst hR
     exact zz
    ·rw [if_neg h8] at hh
     replace h8 := Bool.eq_false_iff.mpr h8
     refine zh (by first | exact congrArg PV.bool h8 | rfl) ?_
     refine zy ?_; refine nmx ?_
     obtain ⟨WL, h9, hh⟩ := ze hh
     refine zb fun K kk hK => ?_
     simp only [go_sem]
     refine zg (aeQ _ _ h9).list (by (try simp only [go_sem]) <;> exact wkl) (by rfl) (by rfl) ?_
     simp only [go_sem]
     refine hK _ _ fun nx => ?_; clear hK K; try clear kk
     obtain ⟨yK, h10, hh⟩ := ze hh
     refine zb fun K kk hK => ?_
     simp only [go_sem]
     refine zg (aeQ _ _ h10).list (by (try simp only [go_sem]) <;> exact wkl) (by rfl) (by rfl) ?_
     simp only [go_sem]
     refine hK _ _ fun nx => ?_; clear hK K; try clear kk
     obtain ⟨yj, h11, hh⟩ := ze hh
     refine zb fun K kk hK => ?_
     simp only [go_sem]
     refine zg (ah6 _ _ h11) (by (try simp only [go_sem]) <;> exact wkl) (by rfl) (by rfl) ?_
     simp only [go_sem]
     refine hK _ _ fun nx => ?_; clear hK K; try clear kk
     refine zm ?_
     refine zb fun K kk hK => ?_
     simp only [go_sem]
     refine hK _ _ fun nx => ?_; clear hK K; try clear kk
     obtain ⟨e0, f0, hh⟩ := ze hh
     obtain ⟨hlen0, f0⟩ := zR f0
     refine qz (w9 (fun s => .inr () = e0 ∧ ∃ (awL : Int) (abW : Bool) (nx : Nat) (g13 : Nat), s = ⟨[(13, .box 13 g13 0), (16, .list 3 (WL.map zx.pv)), (17, .list 3 (yK.map zx.pv)), (18, .list 3 (yj.map zi.pv)), (19, .int .i64 awL), (64, .bool abW)], [(13, g13, .var 31 [.int .u8 zW.Kind, .int .i64 zW.From, .int .i64 zW.To, .list 5 (zW.wJ.map za.pv), .str zW.Name, .str zW.Value])], nx⟩))
      (fun i s => False)
      (fun s => ∃ ahN, .inl ahN = e0 ∧ zZ Tryz.prog [.tmp 10] (.bool ahN) [] .ret s) ?_ ?_ ?_ ?_
     ·refine zC ?_
      refine qi fun I hI => ?_
      have key : ∀ (suf pre : List zx) (Jq : Int), WL = pre ++ suf → Jq = (pre.length : Int) → qa zW yK yj suf Jq = some e0 → ∀ (nx : Nat) (g13 : Nat), I ⟨[(13, .box 13 g13 0), (16, .list 3 (WL.map zx.pv)), (17, .list 3 (yK.map zx.pv)), (18, .list 3 (yj.map zi.pv)), (19, .int .i64 Jq)], [(13, g13, .var 31 [.int .u8 zW.Kind, .int .i64 zW.From, .int .i64 zW.To, .list 5 (zW.wJ.map za.pv), .str zW.Name, .str zW.Value])], nx⟩ := by
       intro suf
       induction suf with
       | nil =>
        intro pre Jq hsplit hidx hh nx g13
        rw [qa] at hh
        refine hI _ ?_
        have h30 := walk_nil hsplit hidx
        refine zm ?_
        refine zb fun K kk hK => ?_
        simp only [go_sem]
        refine hK _ _ fun nx => ?_; clear hK K; try clear kk
        refine zh (by first | exact congrArg PV.bool h30 | rfl) ?_
        refine zV ?_; refine nmx ?_
        refine wU ?_
        refine zH ?_
        refine ⟨(Option.some.inj hh), ?_⟩
        first | exact ⟨_, _, _, _, rfl⟩ | (simp only [pvE, lsE, zo]; exact ⟨_, _, _, _, rfl⟩) | (simp only [pvE, lsE, zo, h2, h3, h30, h7, h8]; exact ⟨_, _, _, _, rfl⟩)
       | cons akJ suf ih =>
        intro pre Jq hsplit hidx hh nx g13
        rw [qa] at hh
        refine hI _ ?_
        obtain ⟨hl0a, hl0b, hl0d, hl0w, h30⟩ := qV (f := zx.pv) hsplit hidx hlen0
        refine zm ?_
        refine zb fun K kk hK => ?_
        simp only [go_sem]
        refine hK _ _ fun nx => ?_; clear hK K; try clear kk
        refine zk (by first | exact congrArg PV.bool h30 | rfl) ?_
        refine zy ?_; refine nmx ?_
        refine zm ?_
        refine zC ?_
        refine zm ?_
        obtain ⟨e3, f3, hh⟩ := ze hh
        refine Qg (fun s => .inr () = e3 ∧ ∃ (Jn : Bool) (nx : Nat) (g13 : Nat), s = ⟨[(13, .box 13 g13 0), (16, .list 3 (WL.map zx.pv)), (17, .list 3 (yK.map zx.pv)), (18, .list 3 (yj.map zi.pv)), (19, .int .i64 Jq), (76, .bool Jn)], [(13, g13, .var 31 [.int .u8 zW.Kind, .int .i64 zW.From, .int .i64 zW.To, .list 5 (zW.wJ.map za.pv), .str zW.Name, .str zW.Value])], nx⟩)
         (fun i s => (i = 1 ∧ .inl () = e3 ∧ ∃ (nx : Nat) (g13 : Nat), s = ⟨[(13, .box 13 g13 0), (16, .list 3 (WL.map zx.pv)), (17, .list 3 (yK.map zx.pv)), (18, .list 3 (yj.map zi.pv)), (19, .int .i64 Jq), (76, .bool (decide (Jq < zW.To)))], [(13, g13, .var 31 [.int .u8 zW.Kind, .int .i64 zW.From, .int .i64 zW.To, .list 5 (zW.wJ.map za.pv), .str zW.Name, .str zW.Value])], nx⟩))
         (fun s => False) ?_ ?_ ?_ ?_
        ·have hh := f3
         by_cases h31 : (decide (Jq ≥ zW.From)) = true
         ·rw [if_pos h31] at hh
          refine zb fun K kk hK => ?_
          simp only [go_sem, h31, of_decide_eq_true h31, hl0a, hl0b, hl0d, hl0w]
          (repeat refine sd ?_)
          refine hK _ _ fun nx => ?_; clear hK K; try clear kk
          by_cases h32 : (decide (Jq < zW.To)) = true
          ·rw [if_pos h32] at hh
           refine zk (by first | exact congrArg PV.bool h32 | rfl) ?_
           refine zV ?_; refine nmx ?_
           refine al1 ⟨rfl, (Option.some.inj hh), ?_⟩
           first | exact ⟨_, _, rfl⟩ | (simp only [pvE, lsE, zo]; exact ⟨_, _, rfl⟩) | (simp only [pvE, lsE, zo, h2, h3, h30, h31, h32, h7, h8]; exact ⟨_, _, rfl⟩)
          ·rw [if_neg h32] at hh
           replace h32 := Bool.eq_false_iff.mpr h32
           refine zh (by first | exact congrArg PV.bool h32 | rfl) ?_
           refine zy ?_; refine nmx ?_
           refine wU ?_
           refine zH ?_
           refine ⟨(Option.some.inj hh), ?_⟩
           first | exact ⟨_, _, _, rfl⟩ | (simp only [pvE, lsE, zo]; exact ⟨_, _, _, rfl⟩) | (simp only [pvE, lsE, zo, h2, h3, h30, h31, h32, h7, h8]; exact ⟨_, _, _, rfl⟩)
         ·rw [if_neg h31] at hh
          replace h31 := Bool.eq_false_iff.mpr h31
          refine zb fun K kk hK => ?_
          simp only [go_sem, h31, of_decide_eq_false h31, hl0a, hl0b, hl0d, hl0w]
          (repeat refine sd ?_)
          refine hK _ _ fun nx => ?_; clear hK K; try clear kk
          refine zh rfl ?_
          refine zy ?_; refine nmx ?_
          refine wU ?_
          refine zH ?_
          refine ⟨(Option.some.inj hh), ?_⟩
          first | exact ⟨_, _, _, rfl⟩ | (simp only [pvE, lsE, zo]; exact ⟨_, _, _, rfl⟩) | (simp only [pvE, lsE, zo, h2, h3, h30, h31, h7, h8]; exact ⟨_, _, _, rfl⟩)
        ·rintro s ⟨rfl, Jn, nx, g13, rfl⟩
         try dsimp only at hh
         obtain ⟨aiM, h33, hh⟩ := ze hh
         refine zb fun K kk hK => ?_
         simp only [go_sem, hl0a, hl0b, hl0d, hl0w]
         refine zg (ang _ _ _ _ h33) (by (try simp only [go_sem, hl0a, hl0b, hl0d, hl0w]) <;> exact wkl) (by rfl) (by rfl) ?_
         simp only [go_sem, hl0a, hl0b, hl0d, hl0w]
         refine hK _ _ fun nx => ?_; clear hK K; try clear kk
         by_cases h34 : (decide (aiM < (0 : Int))) = true
         ·rw [if_pos h34] at hh
          refine zb fun K kk hK => ?_
          simp only [go_sem, h34, of_decide_eq_true h34, hl0a, hl0b, hl0d, hl0w]
          (repeat refine sd ?_)
          refine hK _ _ fun nx => ?_; clear hK K; try clear kk
          refine zk rfl ?_
          refine zb fun K kk hK => ?_
          simp only [go_sem, hl0a, hl0b, hl0d, hl0w]
          refine hK _ _ fun nx => ?_; clear hK K; try clear kk
          refine zn ?_; refine nmx ?_
          refine xI ⟨_, (Option.some.inj hh), ?_⟩
          exact zz
         ·rw [if_neg h34] at hh
          replace h34 := Bool.eq_false_iff.mpr h34
          by_cases h35 : (decide (aiM ≥ (yK.length : Int))) = true
          ·rw [if_pos h35] at hh
           refine zb fun K kk hK => ?_
           simp only [go_sem, h34, of_decide_eq_false h34, h35, of_decide_eq_true h35, hl0a, hl0b, hl0d, hl0w]
           (repeat refine sd ?_)
           refine hK _ _ fun nx => ?_; clear hK K; try clear kk
           refine zk rfl ?_
           refine zb fun K kk hK => ?_
           simp only [go_sem, hl0a, hl0b, hl0d, hl0w]
           refine hK _ _ fun nx => ?_; clear hK K; try clear kk
           refine zn ?_; refine nmx ?_
           refine xI ⟨_, (Option.some.inj hh), ?_⟩
           exact zz
          ·rw [if_neg h35] at hh
           replace h35 := Bool.eq_false_iff.mpr h35
           obtain ⟨anq, h36, hh⟩ := ze hh
           obtain ⟨h36a, h36b, h36c⟩ := rd_some h36
           have h36d := kR (f := zx.pv) h36c
           have h36f := wL (f := zx.pv) h36c
           try simp only [Int.toNat_natCast, Int.reduceToNat] at h36d h36f
           refine zb fun K kk hK => ?_
           simp only [go_sem, h34, of_decide_eq_false h34, h35, of_decide_eq_false h35, h36a, h36b, h36d, h36f.1, h36f.2, hl0a, hl0b, hl0d, hl0w]
           (repeat refine sd ?_)
           refine hK _ _ fun nx => ?_; clear hK K; try clear kk
           by_cases h37 : ((((akJ.Kind == anq.Kind) && ((akJ.Text == anq.Text) && (akJ.Head == anq.Head))) != true)) = true
           ·rw [if_pos h37] at hh
            refine zk (by first | exact congrArg PV.bool h37 | rfl) ?_
            refine zb fun K kk hK => ?_
            simp only [go_sem, hl0a, hl0b, hl0d, hl0w]
            refine hK _ _ fun nx => ?_; clear hK K; try clear kk
            refine zn ?_; refine nmx ?_
            refine xI ⟨_, (Option.some.inj hh), ?_⟩
            exact zz
           ·rw [if_neg h37] at hh
            replace h37 := Bool.eq_false_iff.mpr h37
            refine zh (by first | exact congrArg PV.bool h37 | rfl) ?_
            refine zy ?_; refine nmx ?_
            refine zt fun K kk hK => ?_
            simp only [go_sem, hl0a, hl0b, hl0d, hl0w]
            refine hK _ _ fun nx => ?_; clear hK K; try clear kk
            refine nmx ?_
            have ih' := ih (pre ++ [akJ]) (Jq + 1) (by rw [hsplit]; simp) (by simp [hidx]) hh nx
            refine zH ?_
            first | exact ih' _ | (simp only [pvE, lsE, zo] at ih' ⊢; exact ih' _) | (simp only [pvE, lsE, zo, h2, h3, h30, h34, h35, h37, h7, h8] at ih' ⊢; exact ih' _)
        ·intro i s h
         obtain ⟨rfl, rfl, nx, g13, rfl⟩ := h
         try dsimp only at hh
         refine nmx ?_
         refine zt fun K kk hK => ?_
         simp only [go_sem, hl0a, hl0b, hl0d, hl0w]
         refine hK _ _ fun nx => ?_; clear hK K; try clear kk
         refine nmx ?_
         have ih' := ih (pre ++ [akJ]) (Jq + 1) (by rw [hsplit]; simp) (by simp [hidx]) hh nx
         refine zH ?_
         first | exact ih' _ | (simp only [pvE, lsE, zo] at ih' ⊢; exact ih' _) | (simp only [pvE, lsE, zo, h2, h3, h30, h7, h8] at ih' ⊢; exact ih' _)
        ·intro s h; exact h.elim
      exact key WL [] _ rfl rfl f0 _ _
     ·rintro s ⟨t, hless, rfl, awL, abW, nx, g13, rfl⟩
      try dsimp only at hh
      refine nmy ?_
      first | (refine qW hless ?_; try refine wY ?_) | refine qC hless ?_ | refine qD hless ?_
      refine zm ?_
      refine zb fun K kk hK => ?_
      simp only [go_sem]
      refine hK _ _ fun nx => ?_; clear hK K; try clear kk
      obtain ⟨e4, f4, hh⟩ := ze hh
      refine qz (w9 (fun s => .inr () = e4 ∧ ∃ (avZ : Int) (ami : Bool) (nx : Nat) (g13 : Nat), s = ⟨[(13, .box 13 g13 0), (16, .list 3 (WL.map zx.pv)), (17, .list 3 (yK.map zx.pv)), (21, .int .i64 avZ), (113, .bool ami)], [(13, g13, .var 31 [.int .u8 zW.Kind, .int .i64 zW.From, .int .i64 zW.To, .list 5 (zW.wJ.map za.pv), .str zW.Name, .str zW.Value])], nx⟩))
       (fun i s => False)
       (fun s => ∃ ahK, .inl ahK = e4 ∧ zZ Tryz.prog [.tmp 10] (.bool ahK) [] .ret s) ?_ ?_ ?_ ?_
      ·refine zC ?_
       refine qi fun I hI => ?_
       obtain ⟨k, f4⟩ := jL f4
       have key : ∀ (k : Nat) (afz : Int), zU zW WL yK k afz = some e4 → ∀ (nx : Nat) (g13 : Nat), I ⟨[(13, .box 13 g13 0), (16, .list 3 (WL.map zx.pv)), (17, .list 3 (yK.map zx.pv)), (21, .int .i64 afz)], [(13, g13, .var 31 [.int .u8 zW.Kind, .int .i64 zW.From, .int .i64 zW.To, .list 5 (zW.wJ.map za.pv), .str zW.Name, .str zW.Value])], nx⟩ := by
        intro k
        induction k with
        | zero => intro afz hh; rw [zU] at hh; cases hh
        | succ k ih =>
         intro afz hh nx g13
         rw [zU] at hh
         refine hI _ ?_
         refine zm ?_
         by_cases h48 : (decide (afz < zW.To)) = true
         ·rw [if_pos h48] at hh
          refine zb fun K kk hK => ?_
          simp only [go_sem, h48, of_decide_eq_true h48]
          (repeat refine sd ?_)
          refine hK _ _ fun nx => ?_; clear hK K; try clear kk
          by_cases h49 : (zW.Kind != (114 : Int)) = true
          ·rw [if_pos h49] at hh
           refine zk (by first | exact congrArg PV.bool h49 | rfl) ?_
           refine zy ?_; refine nmx ?_
           refine zm ?_
           refine zC ?_
           refine zm ?_
           obtain ⟨aan, h50, hh⟩ := ze hh
           obtain ⟨h50a, h50b, h50c⟩ := rd_some h50
           have h50d := kR (f := zx.pv) h50c
           have h50f := wL (f := zx.pv) h50c
           try simp only [Int.toNat_natCast, Int.reduceToNat] at h50d h50f
           refine zb fun K kk hK => ?_
           simp only [go_sem, h50a, h50b, h50d, h50f.1, h50f.2]
           (repeat refine sd ?_)
           refine hK _ _ fun nx => ?_; clear hK K; try clear kk
           by_cases h51 : (aan.Kind != (116 : Int)) = true
           ·rw [if_pos h51] at hh
            refine zk (by first | exact congrArg PV.bool h51 | rfl) ?_
            refine zm ?_
            obtain ⟨an4, h52, hh⟩ := ze hh
            obtain ⟨h52a, h52b, h52c⟩ := rd_some h52
            have h52d := kR (f := zx.pv) h52c
            have h52f := wL (f := zx.pv) h52c
            try simp only [Int.toNat_natCast, Int.reduceToNat] at h52d h52f
            refine zb fun K kk hK => ?_
            simp only [go_sem, h50a, h50b, h50d, h50f.1, h50f.2, h52a, h52b, h52d, h52f.1, h52f.2]
            (repeat refine sd ?_)
            refine hK _ _ fun nx => ?_; clear hK K; try clear kk
            by_cases h53 : ((((aan.Kind == an4.Kind) && ((aan.Text == an4.Text) && (aan.Head == an4.Head))) != true)) = true
            ·rw [if_pos h53] at hh
             refine zk (by first | exact congrArg PV.bool h53 | rfl) ?_
             refine zb fun K kk hK => ?_
             simp only [go_sem]
             refine hK _ _ fun nx => ?_; clear hK K; try clear kk
             refine zn ?_; refine nmx ?_
             refine xI ⟨_, (Option.some.inj hh), ?_⟩
             exact zz
            ·rw [if_neg h53] at hh
             replace h53 := Bool.eq_false_iff.mpr h53
             refine zh (by first | exact congrArg PV.bool h53 | rfl) ?_
             refine zy ?_; refine nmx ?_
             refine zV ?_; refine nmx ?_
             refine zt fun K kk hK => ?_
             simp only [go_sem]
             refine hK _ _ fun nx => ?_; clear hK K; try clear kk
             refine nmx ?_
             have ih' := ih _ hh nx
             refine zH ?_
             first | exact ih' _ | (simp only [pvE, lsE, zo] at ih' ⊢; exact ih' _) | (simp only [pvE, lsE, zo, h2, h3, h48, h49, h51, h53, h7, h8] at ih' ⊢; exact ih' _)
           ·rw [if_neg h51] at hh
            replace h51 := Bool.eq_false_iff.mpr h51
            refine zh (by first | exact congrArg PV.bool h51 | rfl) ?_
            refine zy ?_; refine nmx ?_
            obtain ⟨atO, h54, hh⟩ := ze hh
            obtain ⟨h54a, h54b, h54c⟩ := rd_some h54
            have h54d := kR (f := zx.pv) h54c
            have h54f := wL (f := zx.pv) h54c
            try simp only [Int.toNat_natCast, Int.reduceToNat] at h54d h54f
            refine zb fun K kk hK => ?_
            simp only [go_sem, h54a, h54b, h54d, h54f.1, h54f.2]
            (repeat refine sd ?_)
            refine hK _ _ fun nx => ?_; clear hK K; try clear kk
            by_cases h55 : (!(atO.Text == aan.Text)) = true
            ·rw [if_pos h55] at hh
             refine zb fun K kk hK => ?_
             simp only [go_sem, h50a, h50b, h50d, h50f.1, h50f.2, h55]
             (repeat refine sd ?_)
             refine hK _ _ fun nx => ?_; clear hK K; try clear kk
             refine zk rfl ?_
             refine zb fun K kk hK => ?_
             simp only [go_sem]
             refine hK _ _ fun nx => ?_; clear hK K; try clear kk
             refine zn ?_; refine nmx ?_
             refine xI ⟨_, (Option.some.inj hh), ?_⟩
             exact zz
            ·rw [if_neg h55] at hh
             replace h55 := Bool.eq_false_iff.mpr h55
             obtain ⟨an7, h56, hh⟩ := ze hh
             refine zb fun K kk hK => ?_
             simp only [go_sem, h50a, h50b, h50d, h50f.1, h50f.2, h55]
             (repeat refine sd ?_)
             refine zg (aaq _ _ _ h56) (by (try simp only [go_sem, h50a, h50b, h50d, h50f.1, h50f.2, h55]) <;> exact wkl) (by rfl) (by rfl) ?_
             simp only [go_sem, h50a, h50b, h50d, h50f.1, h50f.2, h55]
             (repeat refine sd ?_)
             refine hK _ _ fun nx => ?_; clear hK K; try clear kk
             by_cases h57 : (((an7 == (zW.Kind == (109 : Int))) != true)) = true
             ·rw [if_pos h57] at hh
              refine zk (by first | exact congrArg PV.bool h57 | rfl) ?_
              refine zb fun K kk hK => ?_
              simp only [go_sem]
              refine hK _ _ fun nx => ?_; clear hK K; try clear kk
              refine zn ?_; refine nmx ?_
              refine xI ⟨_, (Option.some.inj hh), ?_⟩
              exact zz
             ·rw [if_neg h57] at hh
              replace h57 := Bool.eq_false_iff.mpr h57
              refine zh (by first | exact congrArg PV.bool h57 | rfl) ?_
              refine zy ?_; refine nmx ?_
              refine zt fun K kk hK => ?_
              simp only [go_sem]
              refine hK _ _ fun nx => ?_; clear hK K; try clear kk
              refine nmx ?_
              have ih' := ih _ hh nx
              refine zH ?_
              first | exact ih' _ | (simp only [pvE, lsE, zo] at ih' ⊢; exact ih' _) | (simp only [pvE, lsE, zo, h2, h3, h48, h49, h51, h55, h57, h7, h8] at ih' ⊢; exact ih' _)
          ·rw [if_neg h49] at hh
           replace h49 := Bool.eq_false_iff.mpr h49
           refine zh (by first | exact congrArg PV.bool h49 | rfl) ?_
           refine zV ?_; refine nmx ?_
           refine wU ?_
           refine zH ?_
           refine ⟨(Option.some.inj hh), ?_⟩
           first | exact ⟨_, _, _, _, rfl⟩ | (simp only [pvE, lsE, zo]; exact ⟨_, _, _, _, rfl⟩) | (simp only [pvE, lsE, zo, h2, h3, h48, h49, h7, h8]; exact ⟨_, _, _, _, rfl⟩)
         ·rw [if_neg h48] at hh
          replace h48 := Bool.eq_false_iff.mpr h48
          refine zb fun K kk hK => ?_
          simp only [go_sem, h48, of_decide_eq_false h48]
          (repeat refine sd ?_)
          refine hK _ _ fun nx => ?_; clear hK K; try clear kk
          refine zh rfl ?_
          refine zV ?_; refine nmx ?_
          refine wU ?_
          refine zH ?_
          refine ⟨(Option.some.inj hh), ?_⟩
          first | exact ⟨_, _, _, _, rfl⟩ | (simp only [pvE, lsE, zo]; exact ⟨_, _, _, _, rfl⟩) | (simp only [pvE, lsE, zo, h2, h3, h48, h7, h8]; exact ⟨_, _, _, _, rfl⟩)
       exact key _ _ f4 _ _
      ·rintro s ⟨t, hless, rfl, avZ, ami, nx, g13, rfl⟩
       try dsimp only at hh
       refine nmy ?_
       first | (refine qW hless ?_; try refine wY ?_) | refine qC hless ?_ | refine qD hless ?_
       refine zb fun K kk hK => ?_
       simp only [go_sem]
       refine hK _ _ fun nx => ?_; clear hK K; try clear kk
       refine zn ?_; refine nmx ?_
       obtain hR := Option.some.inj hh
       subst hR
       exact zz
      ·intro i s h; exact h.elim
      ·rintro s ⟨ahK, rfl, hb⟩
       try dsimp only at hh
       obtain hR := Option.some.inj hh
       subst hR
       refine nmx ?_
       exact hb
     ·intro i s h; exact h.elim
     ·rintro s ⟨ahN, rfl, hb⟩
      try dsimp only at hh
      obtain hR := Option.some.inj hh
      subst hR
      refine nmx ?_
      exact hb
end Go.Proofs.YtclohbgnaopjfaaGreatDoor
