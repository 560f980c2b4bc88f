/- Texts of the proof of stepBackCard -/
import Derived.Test.YtclohbgnaopjfaaDoorAgC
import Derived.Test.YtclohbgnaopjfaaDoorAgF
import Derived.Test.YtclohbgnaopjfaaDoorAgK0
import Derived.Test.YtclohbgnaopjfaaDoorAgK2
import Derived.Test.YtclohbgnaopjfaaDoorAgK3
import Derived.Test.YtclohbgnaopjfaaDoorAgK4
import Derived.Test.YtclohbgnaopjfaaDoorAgK5
namespace Go.Proofs.YtclohbgnaopjfaaDoor
set_option linter.unusedSimpArgs false
set_option linter.unusedVariables false
open Go
set_option maxRecDepth 100000
theorem yB : ∀ kr : Nat, (∀ (vB : (List za)) (vU : (List za)) (R : Bool), qi kr vB vU = some R → PC Tryd.prog 44 [.list 5 (vB.map za.pv), .list 5 (vU.map za.pv), .fn 15 []] (.bool R)) ∧
  (∀ (a_1 : za) (b_2 : za) (R : Bool), xq kr a_1 b_2 = some R → PC Tryd.prog 15 [.agg [.str a_1.Kind, .str a_1.Text, .list 1 (a_1.Marks.map PV.str), .list 2 (a_1.zo.map zg.pv), .list 5 (a_1.Kids.map za.pv)], .agg [.str b_2.Kind, .str b_2.Text, .list 1 (b_2.Marks.map PV.str), .list 2 (b_2.zo.map zg.pv), .list 5 (b_2.Kids.map za.pv)]] (.bool R)) := by
 intro kr
 induction kr with
 | zero => exact ⟨(by intro vB vU R hh; rw [qi] at hh; cases hh), (by intro a_1 b_2 R hh; rw [xq] at hh; cases hh)⟩
 | succ kr ih =>
  obtain ⟨ih_slices_EqualFunc_api_Node_node_Same, ih_node_Same⟩ := ih
  refine ⟨?_, ?_⟩
  ·intro vB vU R hh
   rw [qi] at hh
   refine x8 rfl ?_
   refine zb fun K kk hK => ?_
   simp only [go_sem]
   refine hK _ _ fun nx => ?_; clear hK K; try clear kk
   refine zm ?_
   refine zb fun K kk hK => ?_
   simp only [go_sem]
   refine hK _ _ fun nx => ?_; clear hK K; try clear kk
   by_cases h1 : ((vB.length : Int) != (vU.length : Int)) = true
   ·rw [if_pos h1] at hh
    refine zn (by first | exact congrArg PV.bool h1 | rfl) ?_
    refine zb fun K kk hK => ?_
    simp only [go_sem]
    refine hK _ _ fun nx => ?_; clear hK K; try clear kk
    refine zi ?_; refine nmx ?_
    obtain hR := Option.some.inj hh
    subst hR
    exact zy
   ·rw [if_neg h1] at hh
    replace h1 := Bool.eq_false_iff.mpr h1
    refine zh (by first | exact congrArg PV.bool h1 | rfl) ?_
    refine zx ?_; refine nmx ?_
    refine zm ?_
    refine zb fun K kk hK => ?_
    simp only [go_sem]
    refine hK _ _ fun nx => ?_; clear hK K; try clear kk
    obtain ⟨e0, f0, hh⟩ := zf hh
    obtain ⟨hlen0, f0⟩ := z8 f0
    refine qz (kv (fun s => .inr () = e0 ∧ ∃ (Qk : Int) (aiB : Bool) (nx : Nat), s = ⟨[(1, .list 5 (vU.map za.pv)), (2, .fn 15 []), (15, .list 5 (vB.map za.pv)), (16, .int .i64 (vB.length : Int)), (17, .int .i64 Qk), (18, .bool aiB)], [], nx⟩))
     (fun i s => False)
     (fun s => ∃ air, .inl air = e0 ∧ zS Tryd.prog [.tmp 6] (.bool air) [] .ret s) ?_ ?_ ?_ ?_
    ·refine zC ?_
     refine qh fun I hI => ?_
     have key : ∀ (suf pre : List za) (v_6 : Int), vB = pre ++ suf → v_6 = (pre.length : Int) → zP vU (xq kr) suf v_6 = some e0 → ∀ (nx : Nat), I ⟨[(1, .list 5 (vU.map za.pv)), (2, .fn 15 []), (15, .list 5 (vB.map za.pv)), (16, .int .i64 (vB.length : Int)), (17, .int .i64 v_6)], [], nx⟩ := by
      intro suf
      induction suf with
      | nil =>
       intro pre v_6 hsplit hidx hh nx
       rw [zP] at hh
       refine hI _ ?_
       have h12 := walk_nil hsplit hidx
       refine zb fun K kk hK => ?_
       simp only [go_sem]
       refine hK _ _ fun nx => ?_; clear hK K; try clear kk
       refine zm ?_
       refine zh (by first | exact congrArg PV.bool h12 | rfl) ?_
       refine zZ ?_; refine nmx ?_
       refine kN ?_
       refine zJ ?_
       refine ⟨(Option.some.inj hh), ?_⟩
       first | exact ⟨_, _, _, rfl⟩ | (simp only [pvE, lsE, zq]; exact ⟨_, _, _, rfl⟩) | (simp only [pvE, lsE, zq, h1, h12]; exact ⟨_, _, _, rfl⟩)
      | cons avi suf ih =>
       intro pre v_6 hsplit hidx hh nx
       rw [zP] at hh
       refine hI _ ?_
       obtain ⟨hl0a, hl0b, hl0d, hl0w, h12⟩ := qI (f := za.pv) hsplit hidx hlen0
       refine zb fun K kk hK => ?_
       simp only [go_sem]
       refine hK _ _ fun nx => ?_; clear hK K; try clear kk
       refine zm ?_
       refine zn (by first | exact congrArg PV.bool h12 | rfl) ?_
       refine zx ?_; refine nmx ?_
       refine zm ?_
       refine zC ?_
       refine zb fun K kk hK => ?_
       simp only [go_sem, hl0a, hl0b, hl0d, hl0w]
       refine hK _ _ fun nx => ?_; clear hK K; try clear kk
       obtain ⟨agX, h13, hh⟩ := zf hh
       obtain ⟨h13a, h13b, h13c⟩ := rd_some h13
       have h13d := vz (f := za.pv) h13c
       have h13f := wX (f := za.pv) h13c
       try simp only [Int.toNat_natCast, Int.reduceToNat] at h13d h13f
       refine zb fun K kk hK => ?_
       simp only [go_sem, h13a, h13b, h13d, h13f.1, h13f.2, hl0a, hl0b, hl0d, hl0w]
       (repeat refine sd ?_)
       refine hK _ _ fun nx => ?_; clear hK K; try clear kk
       obtain ⟨akR, h14, hh⟩ := zf hh
       refine zb fun K kk hK => ?_
       simp only [go_sem, hl0a, hl0b, hl0d, hl0w]
       refine ze (ih_node_Same _ _ _ h14) (by (try simp only [go_sem, hl0a, hl0b, hl0d, hl0w]) <;> exact wkl) (by rfl) (by rfl) ?_
       simp only [go_sem, hl0a, hl0b, hl0d, hl0w]
       refine hK _ _ fun nx => ?_; clear hK K; try clear kk
       by_cases h15 : (!akR) = true
       ·rw [if_pos h15] at hh
        refine zn (by first | exact congrArg PV.bool h15 | rfl) ?_
        refine zb fun K kk hK => ?_
        simp only [go_sem, hl0a, hl0b, hl0d, hl0w]
        refine hK _ _ fun nx => ?_; clear hK K; try clear kk
        refine zi ?_; refine nmx ?_
        refine QD ⟨_, (Option.some.inj hh), ?_⟩
        exact zy
       ·rw [if_neg h15] at hh
        replace h15 := Bool.eq_false_iff.mpr h15
        refine zh (by first | exact congrArg PV.bool h15 | rfl) ?_
        refine zx ?_; refine nmx ?_
        refine zu fun K kk hK => ?_
        simp only [go_sem, hl0a, hl0b, hl0d, hl0w]
        refine hK _ _ fun nx => ?_; clear hK K; try clear kk
        refine nmx ?_
        have ih' := ih (pre ++ [avi]) (v_6 + 1) (by rw [hsplit]; simp) (by simp [hidx]) hh nx
        refine zJ ?_
        first | exact ih' | (simp only [pvE, lsE, zq] at ih' ⊢; exact ih') | (simp only [pvE, lsE, zq, h1, h12, h15] at ih' ⊢; exact ih')
     exact key vB [] _ rfl rfl f0 _
    ·rintro s ⟨t, hless, rfl, Qk, aiB, nx, rfl⟩
     try dsimp only at hh
     refine nmy ?_
     first | (refine wm hless ?_; try refine kz ?_) | refine qH hless ?_ | refine qG hless ?_
     refine zb fun K kk hK => ?_
     simp only [go_sem]
     refine hK _ _ fun nx => ?_; clear hK K; try clear kk
     refine zi ?_; refine nmx ?_
     obtain hR := Option.some.inj hh
     subst hR
     exact zy
    ·intro i s h; exact h.elim
    ·rintro s ⟨air, rfl, hb⟩
     try dsimp only at hh
     obtain hR := Option.some.inj hh
     subst hR
     refine nmx ?_
     exact hb
  ·intro a_1 b_2 R hh
   rw [xq] at hh
   refine agh rfl ?_
   refine zb fun K kk hK => ?_
   simp only [go_sem]
   refine hK _ _ fun nx => ?_; clear hK K; try clear kk
   by_cases h1 : (a_1.Kind == b_2.Kind) = true
   ·rw [if_pos h1] at hh
    by_cases h2 : (a_1.Text == b_2.Text) = true
    ·rw [if_pos h2] at hh
     obtain ⟨aiD, h3, hh⟩ := zf hh
     by_cases h4 : (aiD) = true
     ·rw [if_pos h4] at hh
      obtain ⟨aoo, h5, hh⟩ := zf hh
      by_cases h6 : (aoo) = true
      ·rw [if_pos h6] at hh
       obtain ⟨ar7, h7, hh⟩ := zf hh
       refine zb fun K kk hK => ?_
       simp only [go_sem, h1, h2, h4, h6]
       (repeat refine sd ?_)
       refine ze (jy _ _ _ h3) (by (try simp only [go_sem, h1, h2, h4, h6]) <;> exact wkl) (by rfl) (by rfl) ?_
       simp only [go_sem, h1, h2, h4, h6]
       (repeat refine sd ?_)
       refine ze (Zp _ _ _ h5) (by (try simp only [go_sem, h1, h2, h4, h6]) <;> exact wkl) (by rfl) (by rfl) ?_
       simp only [go_sem, h1, h2, h4, h6]
       (repeat refine sd ?_)
       refine ze (ih_slices_EqualFunc_api_Node_node_Same _ _ _ h7) (by (try simp only [go_sem, h1, h2, h4, h6]) <;> exact wkl) (by rfl) (by rfl) ?_
       simp only [go_sem, h1, h2, h4, h6]
       (repeat refine sd ?_)
       refine hK _ _ fun nx => ?_; clear hK K; try clear kk
       refine zi ?_; refine nmx ?_
       obtain hR := Option.some.inj hh
       subst hR
       exact zy
      ·rw [if_neg h6] at hh
       replace h6 := Bool.eq_false_iff.mpr h6
       refine zb fun K kk hK => ?_
       simp only [go_sem, h1, h2, h4, h6]
       (repeat refine sd ?_)
       refine ze (jy _ _ _ h3) (by (try simp only [go_sem, h1, h2, h4, h6]) <;> exact wkl) (by rfl) (by rfl) ?_
       simp only [go_sem, h1, h2, h4, h6]
       (repeat refine sd ?_)
       refine ze (Zp _ _ _ h5) (by (try simp only [go_sem, h1, h2, h4, h6]) <;> exact wkl) (by rfl) (by rfl) ?_
       simp only [go_sem, h1, h2, h4, h6]
       (repeat refine sd ?_)
       refine hK _ _ fun nx => ?_; clear hK K; try clear kk
       refine zi ?_; refine nmx ?_
       obtain hR := Option.some.inj hh
       subst hR
       exact zy
     ·rw [if_neg h4] at hh
      replace h4 := Bool.eq_false_iff.mpr h4
      refine zb fun K kk hK => ?_
      simp only [go_sem, h1, h2, h4]
      (repeat refine sd ?_)
      refine ze (jy _ _ _ h3) (by (try simp only [go_sem, h1, h2, h4]) <;> exact wkl) (by rfl) (by rfl) ?_
      simp only [go_sem, h1, h2, h4]
      (repeat refine sd ?_)
      refine hK _ _ fun nx => ?_; clear hK K; try clear kk
      refine zi ?_; refine nmx ?_
      obtain hR := Option.some.inj hh
      subst hR
      exact zy
    ·rw [if_neg h2] at hh
     replace h2 := Bool.eq_false_iff.mpr h2
     refine zb fun K kk hK => ?_
     simp only [go_sem, h1, h2]
     (repeat refine sd ?_)
     refine hK _ _ fun nx => ?_; clear hK K; try clear kk
     refine zi ?_; refine nmx ?_
     obtain hR := Option.some.inj hh
     subst hR
     exact zy
   ·rw [if_neg h1] at hh
    replace h1 := Bool.eq_false_iff.mpr h1
    refine zb fun K kk hK => ?_
    simp only [go_sem, h1]
    (repeat refine sd ?_)
    refine hK _ _ fun nx => ?_; clear hK K; try clear kk
    refine zi ?_; refine nmx ?_
    obtain hR := Option.some.inj hh
    subst hR
    exact zy
theorem Qt (a_1 : za) (b_2 : za) (R : Bool) (hh : Vf a_1 b_2 = some R) : PC Tryd.prog 15 [.agg [.str a_1.Kind, .str a_1.Text, .list 1 (a_1.Marks.map PV.str), .list 2 (a_1.zo.map zg.pv), .list 5 (a_1.Kids.map za.pv)], .agg [.str b_2.Kind, .str b_2.Text, .list 1 (b_2.Marks.map PV.str), .list 2 (b_2.zo.map zg.pv), .list 5 (b_2.Kids.map za.pv)]] (.bool R) := by
 rw [Vf] at hh
 obtain ⟨kr, hh⟩ := xZ hh
 exact (yB kr).2 _ _ _ hh
theorem akH (n_1 : za) (ym : Int) (Yi : Int) (R : ((List za) × Int)) (hh : Wl n_1 ym Yi = some R) : PC Tryd.prog 45 [.agg [.str n_1.Kind, .str n_1.Text, .list 1 (n_1.Marks.map PV.str), .list 2 (n_1.zo.map zg.pv), .list 5 (n_1.Kids.map za.pv)], .int .i64 ym, .int .i64 Yi] (.tup [.list 5 (R.1.map za.pv), .int .i64 R.2]) := by
 rw [Wl] at hh
 refine agl rfl ?_
 refine zb fun K kk hK => ?_
 simp only [go_sem]
 refine hK _ _ fun nx => ?_; clear hK K; try clear kk
 obtain ⟨⟨r_4, r_5⟩, h1, hh⟩ := zf hh
 dsimp only at hh
 refine zb fun K kk hK => ?_
 simp only [go_sem]
 refine ze (YC _ _ _ _ h1) (by (try simp only [go_sem]) <;> exact wkl) (by rfl) (by rfl) ?_
 simp only [go_sem]
 refine hK _ _ fun nx => ?_; clear hK K; try clear kk
 refine zm ?_
 refine zb fun K kk hK => ?_
 simp only [go_sem]
 refine hK _ _ fun nx => ?_; clear hK K; try clear kk
 by_cases h2 : (r_5 != (0 : Int)) = true
 ·rw [if_pos h2] at hh
  refine zn (by first | exact congrArg PV.bool h2 | rfl) ?_
  refine zb fun K kk hK => ?_
  simp only [go_sem]
  refine hK _ _ fun nx => ?_; clear hK K; try clear kk
  refine zi ?_; refine nmx ?_
  obtain hR := Option.some.inj hh
  subst hR
  exact zy
 ·rw [if_neg h2] at hh
  replace h2 := Bool.eq_false_iff.mpr h2
  refine zh (by first | exact congrArg PV.bool h2 | rfl) ?_
  refine zx ?_; refine nmx ?_
  obtain ⟨⟨r_6, r_7, r_8⟩, h3, hh⟩ := zf hh
  dsimp only at hh
  refine zb fun K kk hK => ?_
  simp only [go_sem]
  refine ze (Qr _ _ _ h3) (by (try simp only [go_sem]) <;> exact wkl) (by rfl) (by rfl) ?_
  simp only [go_sem]
  refine hK _ _ fun nx => ?_; clear hK K; try clear kk
  obtain ⟨⟨r_9, QU, Js⟩, h4, hh⟩ := zf hh
  dsimp only at hh
  refine zb fun K kk hK => ?_
  simp only [go_sem]
  refine ze (Qr _ _ _ h4) (by (try simp only [go_sem]) <;> exact wkl) (by rfl) (by rfl) ?_
  simp only [go_sem]
  refine hK _ _ fun nx => ?_; clear hK K; try clear kk
  refine zb fun K kk hK => ?_
  simp only [go_sem]
  refine hK _ _ fun nx => ?_; clear hK K; try clear kk
  refine zi ?_; refine nmx ?_
  obtain hR := Option.some.inj hh
  subst hR
  exact zy
theorem aki (n_1 : za) (s_2 : zz) (R : ((List zz) × Int)) (hh : jb n_1 s_2 = some R) : PC Tryd.prog 16 [.agg [.str n_1.Kind, .str n_1.Text, .list 1 (n_1.Marks.map PV.str), .list 2 (n_1.zo.map zg.pv), .list 5 (n_1.Kids.map za.pv)], .agg [.int .u8 s_2.Kind, .int .i64 s_2.From, .int .i64 s_2.To, .list 5 (s_2.wC.map za.pv), .str s_2.Name, .str s_2.Value]] (.tup [.list 6 (R.1.map zz.pv), .int .i64 R.2]) := by
 rw [jb] at hh
 refine af3 rfl ?_
 refine zb fun K kk hK => ?_
 simp only [go_sem]
 refine hK _ _ fun nx => ?_; clear hK K; try clear kk
 refine zm ?_
 obtain ⟨⟨r_3, r_4⟩, h1, hh⟩ := zf hh
 dsimp only at hh
 refine zb fun K kk hK => ?_
 simp only [go_sem]
 refine ze (yl _ _ _ h1) (by (try simp only [go_sem]) <;> exact wkl) (by rfl) (by rfl) ?_
 simp only [go_sem]
 refine hK _ _ fun nx => ?_; clear hK K; try clear kk
 refine zb fun K kk hK => ?_
 simp only [go_sem]
 refine hK _ _ fun nx => ?_; clear hK K; try clear kk
 by_cases h2 : (r_4 != (0 : Int)) = true
 ·rw [if_pos h2] at hh
  refine zn (by first | exact congrArg PV.bool h2 | rfl) ?_
  refine zb fun K kk hK => ?_
  simp only [go_sem]
  refine hK _ _ fun nx => ?_; clear hK K; try clear kk
  refine zi ?_; refine nmx ?_
  obtain hR := Option.some.inj hh
  subst hR
  exact zy
 ·rw [if_neg h2] at hh
  replace h2 := Bool.eq_false_iff.mpr h2
  refine zh (by first | exact congrArg PV.bool h2 | rfl) ?_
  refine zx ?_; refine nmx ?_
  refine zm ?_
  refine zb fun K kk hK => ?_
  simp only [go_sem]
  refine hK _ _ fun nx => ?_; clear hK K; try clear kk
  refine zC ?_
  refine zb fun K kk hK => ?_
  simp only [go_sem]
  refine hK _ _ fun nx => ?_; clear hK K; try clear kk
  by_cases h3 : (s_2.Kind == (114 : Int)) = true
  ·rw [if_pos h3] at hh
   refine zn (by first | exact congrArg PV.bool h3 | rfl) ?_
   obtain ⟨⟨r_5, r_6⟩, h4, hh⟩ := zf hh
   dsimp only at hh
   refine zb fun K kk hK => ?_
   simp only [go_sem]
   refine ze (akH _ _ _ _ h4) (by (try simp only [go_sem]) <;> exact wkl) (by rfl) (by rfl) ?_
   simp only [go_sem]
   refine hK _ _ fun nx => ?_; clear hK K; try clear kk
   obtain ⟨apP, h5, hh⟩ := zf hh
   refine zb fun K kk hK => ?_
   simp only [go_sem]
   refine ze (xw _ _ h5) (by (try simp only [go_sem]) <;> exact wkl) (by rfl) (by rfl) ?_
   simp only [go_sem]
   refine hK _ _ fun nx => ?_; clear hK K; try clear kk
   refine zi ?_; refine nmx ?_
   obtain hR := Option.some.inj hh
   subst hR
   exact zy
  ·rw [if_neg h3] at hh
   replace h3 := Bool.eq_false_iff.mpr h3
   refine zh (by first | exact congrArg PV.bool h3 | rfl) ?_
   refine zb fun K kk hK => ?_
   simp only [go_sem]
   refine hK _ _ fun nx => ?_; clear hK K; try clear kk
   by_cases h6 : (s_2.Kind == (97 : Int)) = true
   ·rw [if_pos h6] at hh
    refine zn (by first | exact congrArg PV.bool h6 | rfl) ?_
    obtain ⟨⟨r_8, r_9, QU⟩, h7, hh⟩ := zf hh
    dsimp only at hh
    refine zb fun K kk hK => ?_
    simp only [go_sem]
    refine ze (afs _ _ _ h7) (by (try simp only [go_sem]) <;> exact wkl) (by rfl) (by rfl) ?_
    simp only [go_sem]
    refine hK _ _ fun nx => ?_; clear hK K; try clear kk
    refine zb fun K kk hK => ?_
    simp only [go_sem]
    refine hK _ _ fun nx => ?_; clear hK K; try clear kk
    refine zi ?_; refine nmx ?_
    obtain hR := Option.some.inj hh
    subst hR
    exact zy
   ·rw [if_neg h6] at hh
    replace h6 := Bool.eq_false_iff.mpr h6
    refine zh (by first | exact congrArg PV.bool h6 | rfl) ?_
    refine zx ?_; refine nmx ?_
    refine zb fun K kk hK => ?_
    simp only [go_sem]
    refine hK _ _ fun nx => ?_; clear hK K; try clear kk
    obtain ⟨⟨Js, QX, JL⟩, h8, hh⟩ := zf hh
    dsimp only at hh
    refine zb fun K kk hK => ?_
    simp only [go_sem]
    refine ze (abI _ _ _ h8) (by (try simp only [go_sem]) <;> exact wkl) (by rfl) (by rfl) ?_
    simp only [go_sem]
    refine hK _ _ fun nx => ?_; clear hK K; try clear kk
    refine zb fun K kk hK => ?_
    simp only [go_sem]
    refine hK _ _ fun nx => ?_; clear hK K; try clear kk
    refine zm ?_
    refine zb fun K kk hK => ?_
    simp only [go_sem]
    refine hK _ _ fun nx => ?_; clear hK K; try clear kk
    obtain ⟨e0, f0, hh⟩ := zf hh
    obtain ⟨hlen0, f0⟩ := z8 f0
    refine qz (kv (fun s => ∃ aeF, aeF = e0 ∧ ∃ (asK : Int) (awu : Bool) (nx : Nat) (g3 : Nat) (g17 : Nat), s = ⟨[(3, .box 3 g3 0), (13, .int .u8 (IntKind.wrap .u8 ((226 : Int) - s_2.Kind))), (16, .int .i64 JL), (17, .row 17 g17 aeF.length), (81, .list 3 (QX.map zk.pv)), (82, .int .i64 (QX.length : Int)), (83, .int .i64 asK), (84, .bool awu)], [(3, g3, .var 39 [.int .u8 s_2.Kind, .int .i64 s_2.From, .int .i64 s_2.To, .list 5 (s_2.wC.map za.pv), .str s_2.Name, .str s_2.Value]), (17, g17, .row false 6 (aeF.map zz.pv))], nx⟩))
     (fun i s => False)
     (fun s => False) ?_ ?_ ?_ ?_
    ·refine zC ?_
     refine qh fun I hI => ?_
     have key : ∀ (suf pre : List zk) (Xx : Int) (XQ : (List zz)), QX = pre ++ suf → Xx = (pre.length : Int) → jZ s_2 suf Xx XQ = some e0 → ∀ (nx : Nat) (g3 : Nat) (g17 : Nat), I ⟨[(3, .box 3 g3 0), (13, .int .u8 (IntKind.wrap .u8 ((226 : Int) - s_2.Kind))), (16, .int .i64 JL), (17, .row 17 g17 XQ.length), (81, .list 3 (QX.map zk.pv)), (82, .int .i64 (QX.length : Int)), (83, .int .i64 Xx)], [(3, g3, .var 39 [.int .u8 s_2.Kind, .int .i64 s_2.From, .int .i64 s_2.To, .list 5 (s_2.wC.map za.pv), .str s_2.Name, .str s_2.Value]), (17, g17, .row false 6 (XQ.map zz.pv))], nx⟩ := by
      intro suf
      induction suf with
      | nil =>
       intro pre Xx XQ hsplit hidx hh nx g3 g17
       rw [jZ] at hh
       refine hI _ ?_
       have h15 := walk_nil hsplit hidx
       refine zb fun K kk hK => ?_
       simp only [go_sem]
       refine hK _ _ fun nx => ?_; clear hK K; try clear kk
       refine zm ?_
       refine zh (by first | exact congrArg PV.bool h15 | rfl) ?_
       refine zZ ?_; refine nmx ?_
       refine kN ?_
       refine zJ ?_
       refine ⟨_, (Option.some.inj hh), ?_⟩
       first | exact ⟨_, _, _, _, _, rfl⟩ | (simp only [pvE, lsE, zq]; exact ⟨_, _, _, _, _, rfl⟩) | (simp only [pvE, lsE, zq, h15, h2, h3, h6]; exact ⟨_, _, _, _, _, rfl⟩)
      | cons as0 suf ih =>
       intro pre Xx XQ hsplit hidx hh nx g3 g17
       rw [jZ] at hh
       refine hI _ ?_
       obtain ⟨hl0a, hl0b, hl0d, hl0w, h15⟩ := qI (f := zk.pv) hsplit hidx hlen0
       refine zb fun K kk hK => ?_
       simp only [go_sem]
       refine hK _ _ fun nx => ?_; clear hK K; try clear kk
       refine zm ?_
       refine zn (by first | exact congrArg PV.bool h15 | rfl) ?_
       refine zx ?_; refine nmx ?_
       refine zm ?_
       refine zC ?_
       refine zb fun K kk hK => ?_
       simp only [go_sem, hl0a, hl0b, hl0d, hl0w]
       refine hK _ _ fun nx => ?_; clear hK K; try clear kk
       obtain ⟨awl, h16, hh⟩ := zf hh
       obtain ⟨h16a, h16c⟩ := zX h16
       have h16d := qP (f := zz.pv) h16c
       have h16e := qQ h16c
       try simp only [List.length_cons, List.length_nil, Nat.zero_add, Nat.reduceAdd] at h16a h16e
       try simp only [h16e] at h16a
       try simp only [List.map_cons, List.map_nil, List.nil_append, List.append_nil, List.cons_append, List.singleton_append, zq, pvE] at h16d
       refine zu fun K kk hK => ?_
       simp only [go_sem, h16a, h16d, h16e, hl0a, hl0b, hl0d, hl0w]
       (repeat refine sd ?_)
       refine hK _ _ fun nx => ?_; clear hK K; try clear kk
       refine nmx ?_
       refine zu fun K kk hK => ?_
       simp only [go_sem, hl0a, hl0b, hl0d, hl0w]
       refine hK _ _ fun nx => ?_; clear hK K; try clear kk
       refine nmx ?_
       have ih' := ih (pre ++ [as0]) (Xx + 1) _ (by rw [hsplit]; simp) (by simp [hidx]) hh nx
       refine zJ ?_
       first | exact ih' _ _ | (simp only [pvE, lsE, zq, h16e] at ih' ⊢; exact ih' _ _) | (simp only [pvE, lsE, zq, h16e, h15, h2, h3, h6] at ih' ⊢; exact ih' _ _)
     exact key QX [] _ _ rfl rfl f0 _ _ _
    ·rintro s ⟨t, hless, aeF, rfl, asK, awu, nx, g3, g17, rfl⟩
     try dsimp only at hh
     refine nmy ?_
     first | (refine wm hless ?_; try refine kz ?_) | refine qH hless ?_ | refine qG hless ?_
     refine zb fun K kk hK => ?_
     simp only [go_sem]
     refine hK _ _ fun nx => ?_; clear hK K; try clear kk
     refine zi ?_; refine nmx ?_
     obtain hR := Option.some.inj hh
     subst hR
     exact zy
    ·intro i s h; exact h.elim
    ·intro s h; exact h.elim
theorem Yf (R : Bool) (hh : jN = some R) : PC Tryd.prog 24 [] (.bool R) := by
 rw [jN] at hh
 refine JE rfl ?_
 refine zb fun K kk hK => ?_
 simp only [go_sem]
 refine hK _ _ fun nx => ?_; clear hK K; try clear kk
 refine zb fun K kk hK => ?_
 simp only [go_sem]
 refine hK _ _ fun nx => ?_; clear hK K; try clear kk
 obtain ⟨⟨r_1, r_2⟩, h1, hh⟩ := zf hh
 dsimp only at hh
 refine zb fun K kk hK => ?_
 simp only [go_sem]
 refine ze (yl _ _ _ h1) (by (try simp only [go_sem]) <;> exact wkl) (by rfl) (by rfl) ?_
 simp only [go_sem]
 refine hK _ _ fun nx => ?_; clear hK K; try clear kk
 by_cases h2 : (r_2 == (0 : Int)) = true
 ·rw [if_pos h2] at hh
  by_cases h3 : ((r_1.Kids.length : Int) == (1 : Int)) = true
  ·rw [if_pos h3] at hh
   obtain ⟨x_3, h4, hh⟩ := zf hh
   obtain ⟨h4a, h4b, h4c⟩ := rd_some h4
   have h4d := vz (f := za.pv) h4c
   have h4f := wX (f := za.pv) h4c
   try simp only [Int.toNat_natCast, Int.reduceToNat] at h4d h4f
   by_cases h5 : ((x_3.Kids.length : Int) == (2 : Int)) = true
   ·rw [if_pos h5] at hh
    obtain ⟨x_4, h6, hh⟩ := zf hh
    obtain ⟨h6a, h6b, h6c⟩ := rd_some h6
    have h6d := vz (f := za.pv) h6c
    have h6f := wX (f := za.pv) h6c
    try simp only [Int.toNat_natCast, Int.reduceToNat] at h6d h6f
    by_cases h7 : (x_4.Text == ([105] : Str)) = true
    ·rw [if_pos h7] at hh
     refine zb fun K kk hK => ?_
     simp only [go_sem, h2, h3, h4a, h4b, h4d, h4f.1, h4f.2, h5, h6a, h6b, h6d, h6f.1, h6f.2, h7]
     (repeat refine sd ?_)
     refine hK _ _ fun nx => ?_; clear hK K; try clear kk
     refine zi ?_; refine nmx ?_
     obtain hR := Option.some.inj hh
     subst hR
     exact zy
    ·rw [if_neg h7] at hh
     replace h7 := Bool.eq_false_iff.mpr h7
     refine zb fun K kk hK => ?_
     simp only [go_sem, h2, h3, h4a, h4b, h4d, h4f.1, h4f.2, h5, h6a, h6b, h6d, h6f.1, h6f.2, h7]
     (repeat refine sd ?_)
     refine hK _ _ fun nx => ?_; clear hK K; try clear kk
     refine zi ?_; refine nmx ?_
     obtain hR := Option.some.inj hh
     subst hR
     exact zy
   ·rw [if_neg h5] at hh
    replace h5 := Bool.eq_false_iff.mpr h5
    refine zb fun K kk hK => ?_
    simp only [go_sem, h2, h3, h4a, h4b, h4d, h4f.1, h4f.2, h5]
    (repeat refine sd ?_)
    refine hK _ _ fun nx => ?_; clear hK K; try clear kk
    refine zi ?_; refine nmx ?_
    obtain hR := Option.some.inj hh
    subst hR
    exact zy
  ·rw [if_neg h3] at hh
   replace h3 := Bool.eq_false_iff.mpr h3
   refine zb fun K kk hK => ?_
   simp only [go_sem, h2, h3]
   (repeat refine sd ?_)
   refine hK _ _ fun nx => ?_; clear hK K; try clear kk
   refine zi ?_; refine nmx ?_
   obtain hR := Option.some.inj hh
   subst hR
   exact zy
 ·rw [if_neg h2] at hh
  replace h2 := Bool.eq_false_iff.mpr h2
  refine zb fun K kk hK => ?_
  simp only [go_sem, h2]
  (repeat refine sd ?_)
  refine hK _ _ fun nx => ?_; clear hK K; try clear kk
  refine zi ?_; refine nmx ?_
  obtain hR := Option.some.inj hh
  subst hR
  exact zy
theorem qg (c_1 : Int) (n_2 : Int) (R : Int) (hh : zQ c_1 n_2 = some R) : PC Tryd.prog 26 [.int .i64 c_1, .int .i64 n_2] (.int .i64 R) := by
 rw [zQ] at hh
 refine J4 rfl ?_
 refine zb fun K kk hK => ?_
 simp only [go_sem]
 refine hK _ _ fun nx => ?_; clear hK K; try clear kk
 refine zm ?_
 refine zb fun K kk hK => ?_
 simp only [go_sem]
 refine hK _ _ fun nx => ?_; clear hK K; try clear kk
 by_cases h1 : (decide (c_1 < (0 : Int))) = true
 ·rw [if_pos h1] at hh
  refine zn (by first | exact congrArg PV.bool h1 | rfl) ?_
  refine zu fun K kk hK => ?_
  simp only [go_sem]
  refine hK _ _ fun nx => ?_; clear hK K; try clear kk
  refine nmx ?_
  obtain ⟨h2, hh⟩ := z8 hh
  refine zb fun K kk hK => ?_
  simp only [go_sem, h2]
  (repeat refine sd ?_)
  refine hK _ _ fun nx => ?_; clear hK K; try clear kk
  refine zi ?_; refine nmx ?_
  obtain hR := Option.some.inj hh
  subst hR
  exact zy
 ·rw [if_neg h1] at hh
  replace h1 := Bool.eq_false_iff.mpr h1
  refine zh (by first | exact congrArg PV.bool h1 | rfl) ?_
  refine zx ?_; refine nmx ?_
  obtain ⟨h3, hh⟩ := z8 hh
  refine zb fun K kk hK => ?_
  simp only [go_sem, h3]
  (repeat refine sd ?_)
  refine hK _ _ fun nx => ?_; clear hK K; try clear kk
  refine zi ?_; refine nmx ?_
  obtain hR := Option.some.inj hh
  subst hR
  exact zy
theorem X9 : ∀ kr : Nat, (∀ (n_1 : za) (R : Int), qJ kr n_1 = some R → PC Tryd.prog 38 [.agg [.str n_1.Kind, .str n_1.Text, .list 1 (n_1.Marks.map PV.str), .list 2 (n_1.zo.map zg.pv), .list 5 (n_1.Kids.map za.pv)]] (.int .i64 R)) := by
 intro kr
 induction kr with
 | zero => exact (by intro n_1 R hh; rw [qJ] at hh; cases hh)
 | succ kr ih =>
  have ih_diptychref1_Depth := ih
  clear ih
  intro n_1 R hh
  rw [qJ] at hh
  refine JV rfl ?_
  refine zb fun K kk hK => ?_
  simp only [go_sem]
  refine hK _ _ fun nx => ?_; clear hK K; try clear kk
  refine zm ?_
  refine zb fun K kk hK => ?_
  simp only [go_sem]
  refine hK _ _ fun nx => ?_; clear hK K; try clear kk
  by_cases h1 : (n_1.Kind == ([116, 101, 120, 116] : Str)) = true
  ·rw [if_pos h1] at hh
   refine zn (by first | exact congrArg PV.bool h1 | rfl) ?_
   refine zb fun K kk hK => ?_
   simp only [go_sem]
   refine hK _ _ fun nx => ?_; clear hK K; try clear kk
   refine zi ?_; refine nmx ?_
   obtain hR := Option.some.inj hh
   subst hR
   exact zy
  ·rw [if_neg h1] at hh
   replace h1 := Bool.eq_false_iff.mpr h1
   refine zh (by first | exact congrArg PV.bool h1 | rfl) ?_
   refine zx ?_; refine nmx ?_
   refine zb fun K kk hK => ?_
   simp only [go_sem]
   refine hK _ _ fun nx => ?_; clear hK K; try clear kk
   refine zm ?_
   refine zb fun K kk hK => ?_
   simp only [go_sem]
   refine hK _ _ fun nx => ?_; clear hK K; try clear kk
   obtain ⟨e0, f0, hh⟩ := zf hh
   obtain ⟨hlen0, f0⟩ := z8 f0
   refine qz (kv (fun s => ∃ as5, as5 = e0 ∧ ∃ (atc : Int) (Kq : Bool) (nx : Nat) (g1 : Nat), s = ⟨[(1, .box 1 g1 0), (3, .int .i64 as5), (4, .int .i64 atc), (12, .bool Kq)], [(1, g1, .var 28 [.str n_1.Kind, .str n_1.Text, .list 1 (n_1.Marks.map PV.str), .list 2 (n_1.zo.map zg.pv), .list 5 (n_1.Kids.map za.pv)])], nx⟩))
    (fun i s => False)
    (fun s => False) ?_ ?_ ?_ ?_
   ·refine zC ?_
    refine qh fun I hI => ?_
    have key : ∀ (suf pre : List za) (i_5 : Int) (d_4 : Int), n_1.Kids = pre ++ suf → i_5 = (pre.length : Int) → qO (qJ kr) suf i_5 d_4 = some e0 → ∀ (nx : Nat) (g1 : Nat), I ⟨[(1, .box 1 g1 0), (3, .int .i64 d_4), (4, .int .i64 i_5)], [(1, g1, .var 28 [.str n_1.Kind, .str n_1.Text, .list 1 (n_1.Marks.map PV.str), .list 2 (n_1.zo.map zg.pv), .list 5 (n_1.Kids.map za.pv)])], nx⟩ := by
     intro suf
     induction suf with
     | nil =>
      intro pre i_5 d_4 hsplit hidx hh nx g1
      rw [qO] at hh
      refine hI _ ?_
      have h8 := walk_nil hsplit hidx
      refine zm ?_
      refine zb fun K kk hK => ?_
      simp only [go_sem]
      refine hK _ _ fun nx => ?_; clear hK K; try clear kk
      refine zh (by first | exact congrArg PV.bool h8 | rfl) ?_
      refine zZ ?_; refine nmx ?_
      refine kN ?_
      refine zJ ?_
      refine ⟨_, (Option.some.inj hh), ?_⟩
      first | exact ⟨_, _, _, _, rfl⟩ | (simp only [pvE, lsE, zq]; exact ⟨_, _, _, _, rfl⟩) | (simp only [pvE, lsE, zq, h1, h8]; exact ⟨_, _, _, _, rfl⟩)
     | cons y_8 suf ih =>
      intro pre i_5 d_4 hsplit hidx hh nx g1
      rw [qO] at hh
      refine hI _ ?_
      obtain ⟨hl0a, hl0b, hl0d, hl0w, h8⟩ := qI (f := za.pv) hsplit hidx hlen0
      refine zm ?_
      refine zb fun K kk hK => ?_
      simp only [go_sem]
      refine hK _ _ fun nx => ?_; clear hK K; try clear kk
      refine zn (by first | exact congrArg PV.bool h8 | rfl) ?_
      refine zx ?_; refine nmx ?_
      refine zm ?_
      refine zC ?_
      obtain ⟨alB, h9, hh⟩ := zf hh
      refine zu fun K kk hK => ?_
      simp only [go_sem, hl0a, hl0b, hl0d, hl0w]
      refine ze (ih_diptychref1_Depth _ _ h9) (by (try simp only [go_sem, hl0a, hl0b, hl0d, hl0w]) <;> exact wkl) (by rfl) (by rfl) ?_
      simp only [go_sem, hl0a, hl0b, hl0d, hl0w]
      refine hK _ _ fun nx => ?_; clear hK K; try clear kk
      refine nmx ?_
      refine zu fun K kk hK => ?_
      simp only [go_sem, hl0a, hl0b, hl0d, hl0w]
      refine hK _ _ fun nx => ?_; clear hK K; try clear kk
      refine nmx ?_
      have ih' := ih (pre ++ [y_8]) (i_5 + 1) _ (by rw [hsplit]; simp) (by simp [hidx]) hh nx
      refine zJ ?_
      first | exact ih' _ | (simp only [pvE, lsE, zq] at ih' ⊢; exact ih' _) | (simp only [pvE, lsE, zq, h1, h8] at ih' ⊢; exact ih' _)
    exact key n_1.Kids [] _ _ rfl rfl f0 _ _
   ·rintro s ⟨t, hless, as5, rfl, atc, Kq, nx, g1, rfl⟩
    try dsimp only at hh
    refine nmy ?_
    first | (refine wm hless ?_; try refine kz ?_) | refine qH hless ?_ | refine qG hless ?_
    refine zb fun K kk hK => ?_
    simp only [go_sem]
    refine hK _ _ fun nx => ?_; clear hK K; try clear kk
    refine zi ?_; refine nmx ?_
    obtain hR := Option.some.inj hh
    subst hR
    exact zy
   ·intro i s h; exact h.elim
   ·intro s h; exact h.elim
theorem YB (n_1 : za) (R : Int) (hh : jg n_1 = some R) : PC Tryd.prog 38 [.agg [.str n_1.Kind, .str n_1.Text, .list 1 (n_1.Marks.map PV.str), .list 2 (n_1.zo.map zg.pv), .list 5 (n_1.Kids.map za.pv)]] (.int .i64 R) := by
 rw [jg] at hh
 obtain ⟨kr, hh⟩ := xZ hh
 exact (X9 kr) _ _ hh
theorem JG (a_1 : (List Str)) (b_2 : (List Str)) (R : Bool) (hh : vE a_1 b_2 = some R) : PC Tryd.prog 95 [.list 1 (a_1.map PV.str), .list 1 (b_2.map PV.str)] (.bool R) := by
 rw [vE] at hh
 refine Va rfl ?_
 refine zb fun K kk hK => ?_
 simp only [go_sem]
 refine hK _ _ fun nx => ?_; clear hK K; try clear kk
 refine zm ?_
 refine zb fun K kk hK => ?_
 simp only [go_sem]
 refine hK _ _ fun nx => ?_; clear hK K; try clear kk
 by_cases h1 : ((a_1.length : Int) != (b_2.length : Int)) = true
 ·rw [if_pos h1] at hh
  refine zn (by first | exact congrArg PV.bool h1 | rfl) ?_
  refine zb fun K kk hK => ?_
  simp only [go_sem]
  refine hK _ _ fun nx => ?_; clear hK K; try clear kk
  refine zi ?_; refine nmx ?_
  obtain hR := Option.some.inj hh
  subst hR
  exact zy
 ·rw [if_neg h1] at hh
  replace h1 := Bool.eq_false_iff.mpr h1
  refine zh (by first | exact congrArg PV.bool h1 | rfl) ?_
  refine zx ?_; refine nmx ?_
  refine zm ?_
  refine zb fun K kk hK => ?_
  simp only [go_sem]
  refine hK _ _ fun nx => ?_; clear hK K; try clear kk
  obtain ⟨e0, f0, hh⟩ := zf hh
  obtain ⟨hlen0, f0⟩ := z8 f0
  refine qz (kv (fun s => .inr () = e0 ∧ ∃ (atc : Int) (Kq : Bool) (nx : Nat), s = ⟨[(0, .list 1 (a_1.map PV.str)), (1, .list 1 (b_2.map PV.str)), (5, .int .i64 atc), (14, .bool Kq)], [], nx⟩))
   (fun i s => False)
   (fun s => ∃ wZ, .inl wZ = e0 ∧ zS Tryd.prog [.tmp 4] (.bool wZ) [] .ret s) ?_ ?_ ?_ ?_
  ·refine zC ?_
   refine qh fun I hI => ?_
   have key : ∀ (suf pre : List Str) (i_5 : Int), a_1 = pre ++ suf → i_5 = (pre.length : Int) → qy b_2 suf i_5 = some e0 → ∀ (nx : Nat), I ⟨[(0, .list 1 (a_1.map PV.str)), (1, .list 1 (b_2.map PV.str)), (5, .int .i64 i_5)], [], nx⟩ := by
    intro suf
    induction suf with
    | nil =>
     intro pre i_5 hsplit hidx hh nx
     rw [qy] at hh
     refine hI _ ?_
     have h10 := walk_nil hsplit hidx
     refine zm ?_
     refine zb fun K kk hK => ?_
     simp only [go_sem]
     refine hK _ _ fun nx => ?_; clear hK K; try clear kk
     refine zh (by first | exact congrArg PV.bool h10 | rfl) ?_
     refine zZ ?_; refine nmx ?_
     refine kN ?_
     refine zJ ?_
     refine ⟨(Option.some.inj hh), ?_⟩
     first | exact ⟨_, _, _, rfl⟩ | (simp only [pvE, lsE, zq]; exact ⟨_, _, _, rfl⟩) | (simp only [pvE, lsE, zq, h1, h10]; exact ⟨_, _, _, rfl⟩)
    | cons y_8 suf ih =>
     intro pre i_5 hsplit hidx hh nx
     rw [qy] at hh
     refine hI _ ?_
     obtain ⟨hl0a, hl0b, hl0d, hl0w, h10⟩ := qI (f := PV.str) hsplit hidx hlen0
     refine zm ?_
     refine zb fun K kk hK => ?_
     simp only [go_sem]
     refine hK _ _ fun nx => ?_; clear hK K; try clear kk
     refine zn (by first | exact congrArg PV.bool h10 | rfl) ?_
     refine zx ?_; refine nmx ?_
     refine zm ?_
     refine zC ?_
     obtain ⟨x_9, h11, hh⟩ := zf hh
     obtain ⟨h11a, h11b, h11c⟩ := rd_some h11
     have h11d := vz (f := PV.str) h11c
     have h11f := wX (f := PV.str) h11c
     try simp only [Int.toNat_natCast, Int.reduceToNat] at h11d h11f
     refine zb fun K kk hK => ?_
     simp only [go_sem, h11a, h11b, h11d, h11f.1, h11f.2, hl0a, hl0b, hl0d, hl0w]
     (repeat refine sd ?_)
     refine hK _ _ fun nx => ?_; clear hK K; try clear kk
     by_cases h12 : (!(y_8 == x_9)) = true
     ·rw [if_pos h12] at hh
      refine zn (by first | exact congrArg PV.bool h12 | rfl) ?_
      refine zb fun K kk hK => ?_
      simp only [go_sem, hl0a, hl0b, hl0d, hl0w]
      refine hK _ _ fun nx => ?_; clear hK K; try clear kk
      refine zi ?_; refine nmx ?_
      refine QD ⟨_, (Option.some.inj hh), ?_⟩
      exact zy
     ·rw [if_neg h12] at hh
      replace h12 := Bool.eq_false_iff.mpr h12
      refine zh (by first | exact congrArg PV.bool h12 | rfl) ?_
      refine zx ?_; refine nmx ?_
      refine zu fun K kk hK => ?_
      simp only [go_sem, hl0a, hl0b, hl0d, hl0w]
      refine hK _ _ fun nx => ?_; clear hK K; try clear kk
      refine nmx ?_
      have ih' := ih (pre ++ [y_8]) (i_5 + 1) (by rw [hsplit]; simp) (by simp [hidx]) hh nx
      refine zJ ?_
      first | exact ih' | (simp only [pvE, lsE, zq] at ih' ⊢; exact ih') | (simp only [pvE, lsE, zq, h1, h10, h12] at ih' ⊢; exact ih')
   exact key a_1 [] _ rfl rfl f0 _
  ·rintro s ⟨t, hless, rfl, atc, Kq, nx, rfl⟩
   try dsimp only at hh
   refine nmy ?_
   first | (refine wm hless ?_; try refine kz ?_) | refine qH hless ?_ | refine qG hless ?_
   refine zb fun K kk hK => ?_
   simp only [go_sem]
   refine hK _ _ fun nx => ?_; clear hK K; try clear kk
   refine zi ?_; refine nmx ?_
   obtain hR := Option.some.inj hh
   subst hR
   exact zy
  ·intro i s h; exact h.elim
  ·rintro s ⟨wZ, rfl, hb⟩
   try dsimp only at hh
   obtain hR := Option.some.inj hh
   subst hR
   refine nmx ?_
   exact hb
end Go.Proofs.YtclohbgnaopjfaaDoor
