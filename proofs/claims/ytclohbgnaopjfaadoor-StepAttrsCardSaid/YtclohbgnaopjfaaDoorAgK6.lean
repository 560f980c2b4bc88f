/- Texts of the proof of stepAttrsCard -/
import Derived.Test.YtclohbgnaopjfaaDoorAgC
import Derived.Test.YtclohbgnaopjfaaDoorAgF
import Derived.Test.YtclohbgnaopjfaaDoorAgK0
import Derived.Test.YtclohbgnaopjfaaDoorAgK2
import Derived.Test.YtclohbgnaopjfaaDoorAgK3
import Derived.Test.YtclohbgnaopjfaaDoorAgK4
import Derived.Test.YtclohbgnaopjfaaDoorAgK5
namespace Go.Proofs.YtclohbgnaopjfaaDoor
set_option linter.unusedSimpArgs false
set_option linter.unusedVariables false
open Go
set_option maxRecDepth 100000
theorem xP : ∀ kr : Nat, (∀ (kU : (List za)) (vI : (List za)) (R : Bool), qb kr kU vI = some R → PC Tryd.prog 44 [.list 5 (kU.map za.pv), .list 5 (vI.map za.pv), .fn 15 []] (.bool R)) ∧
    (∀ (a_1 : za) (b_2 : za) (R : Bool), jH kr a_1 b_2 = some R → PC Tryd.prog 15 [.agg [.str a_1.Kind, .str a_1.Text, .list 1 (a_1.Marks.map PV.str), .list 2 (a_1.zt.map zf.pv), .list 5 (a_1.Kids.map za.pv)], .agg [.str b_2.Kind, .str b_2.Text, .list 1 (b_2.Marks.map PV.str), .list 2 (b_2.zt.map zf.pv), .list 5 (b_2.Kids.map za.pv)]] (.bool R)) := by
  intro kr
  induction kr with
  | zero => exact ⟨(by intro kU vI R hh; rw [qb] at hh; cases hh), (by intro a_1 b_2 R hh; rw [jH] at hh; cases hh)⟩
  | succ kr ih =>
    obtain ⟨ih_slices_EqualFunc_api_Node_node_Same, ih_node_Same⟩ := ih
    refine ⟨?_, ?_⟩
    · intro kU vI R hh
      rw [qb] at hh
      refine xA rfl ?_
      refine zb fun K kk hK => ?_
      simp only [go_sem]
      refine hK _ _ fun nx => ?_; clear hK K; try clear kk
      refine zm ?_
      refine zb fun K kk hK => ?_
      simp only [go_sem]
      refine hK _ _ fun nx => ?_; clear hK K; try clear kk
      by_cases h1 : ((kU.length : Int) != (vI.length : Int)) = true
      · rw [if_pos h1] at hh
        refine zk (by first | exact congrArg PV.bool h1 | rfl) ?_
        refine zb fun K kk hK => ?_
        simp only [go_sem]
        refine hK _ _ fun nx => ?_; clear hK K; try clear kk
        refine zi ?_; refine nmx ?_
        obtain hR := Option.some.inj hh
        subst hR
        exact zy
      · rw [if_neg h1] at hh
        replace h1 := Bool.eq_false_iff.mpr h1
        refine zh (by first | exact congrArg PV.bool h1 | rfl) ?_
        refine zx ?_; refine nmx ?_
        refine zm ?_
        refine zb fun K kk hK => ?_
        simp only [go_sem]
        refine hK _ _ fun nx => ?_; clear hK K; try clear kk
        obtain ⟨e0, f0, hh⟩ := ze hh
        obtain ⟨hlen0, f0⟩ := zZ f0
        refine qy (wS (fun s => .inr () = e0 ∧ ∃ (ZV : Int) (agd : Bool) (nx : Nat), s = ⟨[(1, .list 5 (vI.map za.pv)), (2, .fn 15 []), (15, .list 5 (kU.map za.pv)), (16, .int .i64 (kU.length : Int)), (17, .int .i64 ZV), (18, .bool agd)], [], nx⟩))
          (fun i s => False)
          (fun s => ∃ agQ, .inl agQ = e0 ∧ zR Tryd.prog [.tmp 6] (.bool agQ) [] .ret s) ?_ ?_ ?_ ?_
        · refine zD ?_
          refine qi fun I hI => ?_
          have key : ∀ (suf pre : List za) (v_6 : Int), kU = pre ++ suf → v_6 = (pre.length : Int) → zM vI (jH kr) suf v_6 = some e0 → ∀ (nx : Nat), I ⟨[(1, .list 5 (vI.map za.pv)), (2, .fn 15 []), (15, .list 5 (kU.map za.pv)), (16, .int .i64 (kU.length : Int)), (17, .int .i64 v_6)], [], nx⟩ := by
            intro suf
            induction suf with
            | nil =>
              intro pre v_6 hsplit hidx hh nx
              rw [zM] at hh
              refine hI _ ?_
              have h12 := walk_nil hsplit hidx
              refine zb fun K kk hK => ?_
              simp only [go_sem]
              refine hK _ _ fun nx => ?_; clear hK K; try clear kk
              refine zm ?_
              refine zh (by first | exact congrArg PV.bool h12 | rfl) ?_
              refine qd ?_; refine nmx ?_
              refine kL ?_
              refine zH ?_
              refine ⟨(Option.some.inj hh), ?_⟩
              first | exact ⟨_, _, _, rfl⟩ | (simp only [pvE, lsE, zo]; exact ⟨_, _, _, rfl⟩) | (simp only [pvE, lsE, zo, h1, h12]; exact ⟨_, _, _, rfl⟩)
            | cons atQ suf ih =>
              intro pre v_6 hsplit hidx hh nx
              rw [zM] at hh
              refine hI _ ?_
              obtain ⟨hl0a, hl0b, hl0d, hl0w, h12⟩ := qD (f := za.pv) hsplit hidx hlen0
              refine zb fun K kk hK => ?_
              simp only [go_sem]
              refine hK _ _ fun nx => ?_; clear hK K; try clear kk
              refine zm ?_
              refine zk (by first | exact congrArg PV.bool h12 | rfl) ?_
              refine zx ?_; refine nmx ?_
              refine zm ?_
              refine zD ?_
              refine zb fun K kk hK => ?_
              simp only [go_sem, hl0a, hl0b, hl0d, hl0w]
              refine hK _ _ fun nx => ?_; clear hK K; try clear kk
              obtain ⟨ag1, h13, hh⟩ := ze hh
              obtain ⟨h13a, h13b, h13c⟩ := rd_some h13
              have h13d := kZ (f := za.pv) h13c
              have h13f := wO (f := za.pv) h13c
              try simp only [Int.toNat_natCast, Int.reduceToNat] at h13d h13f
              refine zb fun K kk hK => ?_
              simp only [go_sem, h13a, h13b, h13d, h13f.1, h13f.2, hl0a, hl0b, hl0d, hl0w]
              (repeat refine sd ?_)
              refine hK _ _ fun nx => ?_; clear hK K; try clear kk
              obtain ⟨ajk, h14, hh⟩ := ze hh
              refine zb fun K kk hK => ?_
              simp only [go_sem, hl0a, hl0b, hl0d, hl0w]
              refine zg (ih_node_Same _ _ _ h14) (by (try simp only [go_sem, hl0a, hl0b, hl0d, hl0w]) <;> exact wkl) (by rfl) (by rfl) ?_
              simp only [go_sem, hl0a, hl0b, hl0d, hl0w]
              refine hK _ _ fun nx => ?_; clear hK K; try clear kk
              by_cases h15 : (!ajk) = true
              · rw [if_pos h15] at hh
                refine zk (by first | exact congrArg PV.bool h15 | rfl) ?_
                refine zb fun K kk hK => ?_
                simp only [go_sem, hl0a, hl0b, hl0d, hl0w]
                refine hK _ _ fun nx => ?_; clear hK K; try clear kk
                refine zi ?_; refine nmx ?_
                refine Z9 ⟨_, (Option.some.inj hh), ?_⟩
                exact zy
              · rw [if_neg h15] at hh
                replace h15 := Bool.eq_false_iff.mpr h15
                refine zh (by first | exact congrArg PV.bool h15 | rfl) ?_
                refine zx ?_; refine nmx ?_
                refine zq fun K kk hK => ?_
                simp only [go_sem, hl0a, hl0b, hl0d, hl0w]
                refine hK _ _ fun nx => ?_; clear hK K; try clear kk
                refine nmx ?_
                have ih' := ih (pre ++ [atQ]) (v_6 + 1) (by rw [hsplit]; simp) (by simp [hidx]) hh nx
                refine zH ?_
                first | exact ih' | (simp only [pvE, lsE, zo] at ih' ⊢; exact ih') | (simp only [pvE, lsE, zo, h1, h12, h15] at ih' ⊢; exact ih')
          exact key kU [] _ rfl rfl f0 _
        · rintro s ⟨t, hless, rfl, ZV, agd, nx, rfl⟩
          try dsimp only at hh
          refine nmy ?_
          first | (refine wh hless ?_; try refine kg ?_) | refine qF hless ?_ | refine qE hless ?_
          refine zb fun K kk hK => ?_
          simp only [go_sem]
          refine hK _ _ fun nx => ?_; clear hK K; try clear kk
          refine zi ?_; refine nmx ?_
          obtain hR := Option.some.inj hh
          subst hR
          exact zy
        · intro i s h; exact h.elim
        · rintro s ⟨agQ, rfl, hb⟩
          try dsimp only at hh
          obtain hR := Option.some.inj hh
          subst hR
          refine nmx ?_
          exact hb
    · intro a_1 b_2 R hh
      rw [jH] at hh
      refine aeJ rfl ?_
      refine zb fun K kk hK => ?_
      simp only [go_sem]
      refine hK _ _ fun nx => ?_; clear hK K; try clear kk
      by_cases h1 : (a_1.Kind == b_2.Kind) = true
      · rw [if_pos h1] at hh
        by_cases h2 : (a_1.Text == b_2.Text) = true
        · rw [if_pos h2] at hh
          obtain ⟨afl, h3, hh⟩ := ze hh
          by_cases h4 : (afl) = true
          · rw [if_pos h4] at hh
            obtain ⟨amW, h5, hh⟩ := ze hh
            by_cases h6 : (amW) = true
            · rw [if_pos h6] at hh
              obtain ⟨apt, h7, hh⟩ := ze hh
              refine zb fun K kk hK => ?_
              simp only [go_sem, h1, h2, h4, h6]
              (repeat refine sd ?_)
              refine zg (vZ _ _ _ h3) (by (try simp only [go_sem, h1, h2, h4, h6]) <;> exact wkl) (by rfl) (by rfl) ?_
              simp only [go_sem, h1, h2, h4, h6]
              (repeat refine sd ?_)
              refine zg (yR _ _ _ h5) (by (try simp only [go_sem, h1, h2, h4, h6]) <;> exact wkl) (by rfl) (by rfl) ?_
              simp only [go_sem, h1, h2, h4, h6]
              (repeat refine sd ?_)
              refine zg (ih_slices_EqualFunc_api_Node_node_Same _ _ _ h7) (by (try simp only [go_sem, h1, h2, h4, h6]) <;> exact wkl) (by rfl) (by rfl) ?_
              simp only [go_sem, h1, h2, h4, h6]
              (repeat refine sd ?_)
              refine hK _ _ fun nx => ?_; clear hK K; try clear kk
              refine zi ?_; refine nmx ?_
              obtain hR := Option.some.inj hh
              subst hR
              exact zy
            · rw [if_neg h6] at hh
              replace h6 := Bool.eq_false_iff.mpr h6
              refine zb fun K kk hK => ?_
              simp only [go_sem, h1, h2, h4, h6]
              (repeat refine sd ?_)
              refine zg (vZ _ _ _ h3) (by (try simp only [go_sem, h1, h2, h4, h6]) <;> exact wkl) (by rfl) (by rfl) ?_
              simp only [go_sem, h1, h2, h4, h6]
              (repeat refine sd ?_)
              refine zg (yR _ _ _ h5) (by (try simp only [go_sem, h1, h2, h4, h6]) <;> exact wkl) (by rfl) (by rfl) ?_
              simp only [go_sem, h1, h2, h4, h6]
              (repeat refine sd ?_)
              refine hK _ _ fun nx => ?_; clear hK K; try clear kk
              refine zi ?_; refine nmx ?_
              obtain hR := Option.some.inj hh
              subst hR
              exact zy
          · rw [if_neg h4] at hh
            replace h4 := Bool.eq_false_iff.mpr h4
            refine zb fun K kk hK => ?_
            simp only [go_sem, h1, h2, h4]
            (repeat refine sd ?_)
            refine zg (vZ _ _ _ h3) (by (try simp only [go_sem, h1, h2, h4]) <;> exact wkl) (by rfl) (by rfl) ?_
            simp only [go_sem, h1, h2, h4]
            (repeat refine sd ?_)
            refine hK _ _ fun nx => ?_; clear hK K; try clear kk
            refine zi ?_; refine nmx ?_
            obtain hR := Option.some.inj hh
            subst hR
            exact zy
        · rw [if_neg h2] at hh
          replace h2 := Bool.eq_false_iff.mpr h2
          refine zb fun K kk hK => ?_
          simp only [go_sem, h1, h2]
          (repeat refine sd ?_)
          refine hK _ _ fun nx => ?_; clear hK K; try clear kk
          refine zi ?_; refine nmx ?_
          obtain hR := Option.some.inj hh
          subst hR
          exact zy
      · rw [if_neg h1] at hh
        replace h1 := Bool.eq_false_iff.mpr h1
        refine zb fun K kk hK => ?_
        simp only [go_sem, h1]
        (repeat refine sd ?_)
        refine hK _ _ fun nx => ?_; clear hK K; try clear kk
        refine zi ?_; refine nmx ?_
        obtain hR := Option.some.inj hh
        subst hR
        exact zy
theorem vC (a_1 : za) (b_2 : za) (R : Bool) (hh : ZJ a_1 b_2 = some R) : PC Tryd.prog 15 [.agg [.str a_1.Kind, .str a_1.Text, .list 1 (a_1.Marks.map PV.str), .list 2 (a_1.zt.map zf.pv), .list 5 (a_1.Kids.map za.pv)], .agg [.str b_2.Kind, .str b_2.Text, .list 1 (b_2.Marks.map PV.str), .list 2 (b_2.zt.map zf.pv), .list 5 (b_2.Kids.map za.pv)]] (.bool R) := by
 rw [ZJ] at hh
 obtain ⟨kr, hh⟩ := xV hh
 exact (xP kr).2 _ _ _ hh
theorem aiZ (n_1 : za) (xI : Int) (Xk : Int) (R : ((List za) × Int)) (hh : adG n_1 xI Xk = some R) : PC Tryd.prog 45 [.agg [.str n_1.Kind, .str n_1.Text, .list 1 (n_1.Marks.map PV.str), .list 2 (n_1.zt.map zf.pv), .list 5 (n_1.Kids.map za.pv)], .int .i64 xI, .int .i64 Xk] (.tup [.list 5 (R.1.map za.pv), .int .i64 R.2]) := by
  rw [adG] at hh
  refine aeY rfl ?_
  refine zb fun K kk hK => ?_
  simp only [go_sem]
  refine hK _ _ fun nx => ?_; clear hK K; try clear kk
  obtain ⟨⟨r_4, r_5⟩, h1, hh⟩ := ze hh
  dsimp only at hh
  refine zb fun K kk hK => ?_
  simp only [go_sem]
  refine zg (Ye _ _ _ _ h1) (by (try simp only [go_sem]) <;> exact wkl) (by rfl) (by rfl) ?_
  simp only [go_sem]
  refine hK _ _ fun nx => ?_; clear hK K; try clear kk
  refine zm ?_
  refine zb fun K kk hK => ?_
  simp only [go_sem]
  refine hK _ _ fun nx => ?_; clear hK K; try clear kk
  by_cases h2 : (r_5 != (0 : Int)) = true
  · rw [if_pos h2] at hh
    refine zk (by first | exact congrArg PV.bool h2 | rfl) ?_
    refine zb fun K kk hK => ?_
    simp only [go_sem]
    refine hK _ _ fun nx => ?_; clear hK K; try clear kk
    refine zi ?_; refine nmx ?_
    obtain hR := Option.some.inj hh
    subst hR
    exact zy
  · rw [if_neg h2] at hh
    replace h2 := Bool.eq_false_iff.mpr h2
    refine zh (by first | exact congrArg PV.bool h2 | rfl) ?_
    refine zx ?_; refine nmx ?_
    obtain ⟨⟨r_6, r_7, r_8⟩, h3, hh⟩ := ze hh
    dsimp only at hh
    refine zb fun K kk hK => ?_
    simp only [go_sem]
    refine zg (Qw _ _ _ h3) (by (try simp only [go_sem]) <;> exact wkl) (by rfl) (by rfl) ?_
    simp only [go_sem]
    refine hK _ _ fun nx => ?_; clear hK K; try clear kk
    obtain ⟨⟨r_9, KR, VI⟩, h4, hh⟩ := ze hh
    dsimp only at hh
    refine zb fun K kk hK => ?_
    simp only [go_sem]
    refine zg (Qw _ _ _ h4) (by (try simp only [go_sem]) <;> exact wkl) (by rfl) (by rfl) ?_
    simp only [go_sem]
    refine hK _ _ fun nx => ?_; clear hK K; try clear kk
    refine zb fun K kk hK => ?_
    simp only [go_sem]
    refine hK _ _ fun nx => ?_; clear hK K; try clear kk
    refine zi ?_; refine nmx ?_
    obtain hR := Option.some.inj hh
    subst hR
    exact zy
theorem ai3 (n_1 : za) (s_2 : zz) (R : ((List zz) × Int)) (hh : QX n_1 s_2 = some R) : PC Tryd.prog 16 [.agg [.str n_1.Kind, .str n_1.Text, .list 1 (n_1.Marks.map PV.str), .list 2 (n_1.zt.map zf.pv), .list 5 (n_1.Kids.map za.pv)], .agg [.int .u8 s_2.Kind, .int .i64 s_2.From, .int .i64 s_2.To, .list 5 (s_2.wC.map za.pv), .str s_2.Name, .str s_2.Value]] (.tup [.list 6 (R.1.map zz.pv), .int .i64 R.2]) := by
  rw [QX] at hh
  refine aeG rfl ?_
  refine zb fun K kk hK => ?_
  simp only [go_sem]
  refine hK _ _ fun nx => ?_; clear hK K; try clear kk
  refine zm ?_
  obtain ⟨⟨r_3, r_4⟩, h1, hh⟩ := ze hh
  dsimp only at hh
  refine zb fun K kk hK => ?_
  simp only [go_sem]
  refine zg (xH _ _ _ h1) (by (try simp only [go_sem]) <;> exact wkl) (by rfl) (by rfl) ?_
  simp only [go_sem]
  refine hK _ _ fun nx => ?_; clear hK K; try clear kk
  refine zb fun K kk hK => ?_
  simp only [go_sem]
  refine hK _ _ fun nx => ?_; clear hK K; try clear kk
  by_cases h2 : (r_4 != (0 : Int)) = true
  · rw [if_pos h2] at hh
    refine zk (by first | exact congrArg PV.bool h2 | rfl) ?_
    refine zb fun K kk hK => ?_
    simp only [go_sem]
    refine hK _ _ fun nx => ?_; clear hK K; try clear kk
    refine zi ?_; refine nmx ?_
    obtain hR := Option.some.inj hh
    subst hR
    exact zy
  · rw [if_neg h2] at hh
    replace h2 := Bool.eq_false_iff.mpr h2
    refine zh (by first | exact congrArg PV.bool h2 | rfl) ?_
    refine zx ?_; refine nmx ?_
    refine zm ?_
    refine zb fun K kk hK => ?_
    simp only [go_sem]
    refine hK _ _ fun nx => ?_; clear hK K; try clear kk
    refine zD ?_
    refine zb fun K kk hK => ?_
    simp only [go_sem]
    refine hK _ _ fun nx => ?_; clear hK K; try clear kk
    by_cases h3 : (s_2.Kind == (114 : Int)) = true
    · rw [if_pos h3] at hh
      refine zk (by first | exact congrArg PV.bool h3 | rfl) ?_
      obtain ⟨⟨r_5, r_6⟩, h4, hh⟩ := ze hh
      dsimp only at hh
      refine zb fun K kk hK => ?_
      simp only [go_sem]
      refine zg (aiZ _ _ _ _ h4) (by (try simp only [go_sem]) <;> exact wkl) (by rfl) (by rfl) ?_
      simp only [go_sem]
      refine hK _ _ fun nx => ?_; clear hK K; try clear kk
      obtain ⟨abH, h5, hh⟩ := ze hh
      refine zb fun K kk hK => ?_
      simp only [go_sem]
      refine zg (jS _ _ h5) (by (try simp only [go_sem]) <;> exact wkl) (by rfl) (by rfl) ?_
      simp only [go_sem]
      refine hK _ _ fun nx => ?_; clear hK K; try clear kk
      refine zi ?_; refine nmx ?_
      obtain hR := Option.some.inj hh
      subst hR
      exact zy
    · rw [if_neg h3] at hh
      replace h3 := Bool.eq_false_iff.mpr h3
      refine zh (by first | exact congrArg PV.bool h3 | rfl) ?_
      refine zb fun K kk hK => ?_
      simp only [go_sem]
      refine hK _ _ fun nx => ?_; clear hK K; try clear kk
      by_cases h6 : (s_2.Kind == (97 : Int)) = true
      · rw [if_pos h6] at hh
        refine zk (by first | exact congrArg PV.bool h6 | rfl) ?_
        obtain ⟨⟨r_8, r_9, KR⟩, h7, hh⟩ := ze hh
        dsimp only at hh
        refine zb fun K kk hK => ?_
        simp only [go_sem]
        refine zg (aet _ _ _ h7) (by (try simp only [go_sem]) <;> exact wkl) (by rfl) (by rfl) ?_
        simp only [go_sem]
        refine hK _ _ fun nx => ?_; clear hK K; try clear kk
        refine zb fun K kk hK => ?_
        simp only [go_sem]
        refine hK _ _ fun nx => ?_; clear hK K; try clear kk
        refine zi ?_; refine nmx ?_
        obtain hR := Option.some.inj hh
        subst hR
        exact zy
      · rw [if_neg h6] at hh
        replace h6 := Bool.eq_false_iff.mpr h6
        refine zh (by first | exact congrArg PV.bool h6 | rfl) ?_
        refine zx ?_; refine nmx ?_
        refine zb fun K kk hK => ?_
        simp only [go_sem]
        refine hK _ _ fun nx => ?_; clear hK K; try clear kk
        obtain ⟨⟨VI, Ke, Kl⟩, h8, hh⟩ := ze hh
        dsimp only at hh
        refine zb fun K kk hK => ?_
        simp only [go_sem]
        refine zg (aal _ _ _ h8) (by (try simp only [go_sem]) <;> exact wkl) (by rfl) (by rfl) ?_
        simp only [go_sem]
        refine hK _ _ fun nx => ?_; clear hK K; try clear kk
        refine zb fun K kk hK => ?_
        simp only [go_sem]
        refine hK _ _ fun nx => ?_; clear hK K; try clear kk
        refine zm ?_
        refine zb fun K kk hK => ?_
        simp only [go_sem]
        refine hK _ _ fun nx => ?_; clear hK K; try clear kk
        obtain ⟨e0, f0, hh⟩ := ze hh
        obtain ⟨hlen0, f0⟩ := zZ f0
        refine qy (wS (fun s => ∃ adu, adu = e0 ∧ ∃ (aq4 : Int) (auE : Bool) (nx : Nat) (g3 : Nat) (g17 : Nat), s = ⟨[(3, .box 3 g3 0), (13, .int .u8 (IntKind.wrap .u8 ((226 : Int) - s_2.Kind))), (16, .int .i64 Kl), (17, .row 17 g17 adu.length), (81, .list 3 (Ke.map zn.pv)), (82, .int .i64 (Ke.length : Int)), (83, .int .i64 aq4), (84, .bool auE)], [(3, g3, .var 39 [.int .u8 s_2.Kind, .int .i64 s_2.From, .int .i64 s_2.To, .list 5 (s_2.wC.map za.pv), .str s_2.Name, .str s_2.Value]), (17, g17, .row false 6 (adu.map zz.pv))], nx⟩))
          (fun i s => False)
          (fun s => False) ?_ ?_ ?_ ?_
        · refine zD ?_
          refine qi fun I hI => ?_
          have key : ∀ (suf pre : List zn) (JX : Int) (JF : (List zz)), Ke = pre ++ suf → JX = (pre.length : Int) → Qm s_2 suf JX JF = some e0 → ∀ (nx : Nat) (g3 : Nat) (g17 : Nat), I ⟨[(3, .box 3 g3 0), (13, .int .u8 (IntKind.wrap .u8 ((226 : Int) - s_2.Kind))), (16, .int .i64 Kl), (17, .row 17 g17 JF.length), (81, .list 3 (Ke.map zn.pv)), (82, .int .i64 (Ke.length : Int)), (83, .int .i64 JX)], [(3, g3, .var 39 [.int .u8 s_2.Kind, .int .i64 s_2.From, .int .i64 s_2.To, .list 5 (s_2.wC.map za.pv), .str s_2.Name, .str s_2.Value]), (17, g17, .row false 6 (JF.map zz.pv))], nx⟩ := by
            intro suf
            induction suf with
            | nil =>
              intro pre JX JF hsplit hidx hh nx g3 g17
              rw [Qm] at hh
              refine hI _ ?_
              have h15 := walk_nil hsplit hidx
              refine zb fun K kk hK => ?_
              simp only [go_sem]
              refine hK _ _ fun nx => ?_; clear hK K; try clear kk
              refine zm ?_
              refine zh (by first | exact congrArg PV.bool h15 | rfl) ?_
              refine qd ?_; refine nmx ?_
              refine kL ?_
              refine zH ?_
              refine ⟨_, (Option.some.inj hh), ?_⟩
              first | exact ⟨_, _, _, _, _, rfl⟩ | (simp only [pvE, lsE, zo]; exact ⟨_, _, _, _, _, rfl⟩) | (simp only [pvE, lsE, zo, h15, h2, h3, h6]; exact ⟨_, _, _, _, _, rfl⟩)
            | cons ap9 suf ih =>
              intro pre JX JF hsplit hidx hh nx g3 g17
              rw [Qm] at hh
              refine hI _ ?_
              obtain ⟨hl0a, hl0b, hl0d, hl0w, h15⟩ := qD (f := zn.pv) hsplit hidx hlen0
              refine zb fun K kk hK => ?_
              simp only [go_sem]
              refine hK _ _ fun nx => ?_; clear hK K; try clear kk
              refine zm ?_
              refine zk (by first | exact congrArg PV.bool h15 | rfl) ?_
              refine zx ?_; refine nmx ?_
              refine zm ?_
              refine zD ?_
              refine zb fun K kk hK => ?_
              simp only [go_sem, hl0a, hl0b, hl0d, hl0w]
              refine hK _ _ fun nx => ?_; clear hK K; try clear kk
              obtain ⟨auR, h16, hh⟩ := ze hh
              obtain ⟨h16a, h16c⟩ := zX h16
              have h16d := qH (f := zz.pv) h16c
              have h16e := qG h16c
              try simp only [List.length_cons, List.length_nil, Nat.zero_add, Nat.reduceAdd] at h16a h16e
              try simp only [h16e] at h16a
              try simp only [List.map_cons, List.map_nil, List.nil_append, List.append_nil, List.cons_append, List.singleton_append, zo, pvE] at h16d
              refine zq fun K kk hK => ?_
              simp only [go_sem, h16a, h16d, h16e, hl0a, hl0b, hl0d, hl0w]
              (repeat refine sd ?_)
              refine hK _ _ fun nx => ?_; clear hK K; try clear kk
              refine nmx ?_
              refine zq fun K kk hK => ?_
              simp only [go_sem, hl0a, hl0b, hl0d, hl0w]
              refine hK _ _ fun nx => ?_; clear hK K; try clear kk
              refine nmx ?_
              have ih' := ih (pre ++ [ap9]) (JX + 1) _ (by rw [hsplit]; simp) (by simp [hidx]) hh nx
              refine zH ?_
              first | exact ih' _ _ | (simp only [pvE, lsE, zo, h16e] at ih' ⊢; exact ih' _ _) | (simp only [pvE, lsE, zo, h16e, h15, h2, h3, h6] at ih' ⊢; exact ih' _ _)
          exact key Ke [] _ _ rfl rfl f0 _ _ _
        · rintro s ⟨t, hless, adu, rfl, aq4, auE, nx, g3, g17, rfl⟩
          try dsimp only at hh
          refine nmy ?_
          first | (refine wh hless ?_; try refine kg ?_) | refine qF hless ?_ | refine qE hless ?_
          refine zb fun K kk hK => ?_
          simp only [go_sem]
          refine hK _ _ fun nx => ?_; clear hK K; try clear kk
          refine zi ?_; refine nmx ?_
          obtain hR := Option.some.inj hh
          subst hR
          exact zy
        · intro i s h; exact h.elim
        · intro s h; exact h.elim
theorem Xi (R : Bool) (hh : jo = some R) : PC Tryd.prog 24 [] (.bool R) := by
  rw [jo] at hh
  refine VX rfl ?_
  refine zb fun K kk hK => ?_
  simp only [go_sem]
  refine hK _ _ fun nx => ?_; clear hK K; try clear kk
  refine zb fun K kk hK => ?_
  simp only [go_sem]
  refine hK _ _ fun nx => ?_; clear hK K; try clear kk
  obtain ⟨⟨r_1, r_2⟩, h1, hh⟩ := ze hh
  dsimp only at hh
  refine zb fun K kk hK => ?_
  simp only [go_sem]
  refine zg (xH _ _ _ h1) (by (try simp only [go_sem]) <;> exact wkl) (by rfl) (by rfl) ?_
  simp only [go_sem]
  refine hK _ _ fun nx => ?_; clear hK K; try clear kk
  by_cases h2 : (r_2 == (0 : Int)) = true
  · rw [if_pos h2] at hh
    by_cases h3 : ((r_1.Kids.length : Int) == (1 : Int)) = true
    · rw [if_pos h3] at hh
      obtain ⟨x_3, h4, hh⟩ := ze hh
      obtain ⟨h4a, h4b, h4c⟩ := rd_some h4
      have h4d := kZ (f := za.pv) h4c
      have h4f := wO (f := za.pv) h4c
      try simp only [Int.toNat_natCast, Int.reduceToNat] at h4d h4f
      by_cases h5 : ((x_3.Kids.length : Int) == (2 : Int)) = true
      · rw [if_pos h5] at hh
        obtain ⟨x_4, h6, hh⟩ := ze hh
        obtain ⟨h6a, h6b, h6c⟩ := rd_some h6
        have h6d := kZ (f := za.pv) h6c
        have h6f := wO (f := za.pv) h6c
        try simp only [Int.toNat_natCast, Int.reduceToNat] at h6d h6f
        by_cases h7 : (x_4.Text == ([105] : Str)) = true
        · rw [if_pos h7] at hh
          refine zb fun K kk hK => ?_
          simp only [go_sem, h2, h3, h4a, h4b, h4d, h4f.1, h4f.2, h5, h6a, h6b, h6d, h6f.1, h6f.2, h7]
          (repeat refine sd ?_)
          refine hK _ _ fun nx => ?_; clear hK K; try clear kk
          refine zi ?_; refine nmx ?_
          obtain hR := Option.some.inj hh
          subst hR
          exact zy
        · rw [if_neg h7] at hh
          replace h7 := Bool.eq_false_iff.mpr h7
          refine zb fun K kk hK => ?_
          simp only [go_sem, h2, h3, h4a, h4b, h4d, h4f.1, h4f.2, h5, h6a, h6b, h6d, h6f.1, h6f.2, h7]
          (repeat refine sd ?_)
          refine hK _ _ fun nx => ?_; clear hK K; try clear kk
          refine zi ?_; refine nmx ?_
          obtain hR := Option.some.inj hh
          subst hR
          exact zy
      · rw [if_neg h5] at hh
        replace h5 := Bool.eq_false_iff.mpr h5
        refine zb fun K kk hK => ?_
        simp only [go_sem, h2, h3, h4a, h4b, h4d, h4f.1, h4f.2, h5]
        (repeat refine sd ?_)
        refine hK _ _ fun nx => ?_; clear hK K; try clear kk
        refine zi ?_; refine nmx ?_
        obtain hR := Option.some.inj hh
        subst hR
        exact zy
    · rw [if_neg h3] at hh
      replace h3 := Bool.eq_false_iff.mpr h3
      refine zb fun K kk hK => ?_
      simp only [go_sem, h2, h3]
      (repeat refine sd ?_)
      refine hK _ _ fun nx => ?_; clear hK K; try clear kk
      refine zi ?_; refine nmx ?_
      obtain hR := Option.some.inj hh
      subst hR
      exact zy
  · rw [if_neg h2] at hh
    replace h2 := Bool.eq_false_iff.mpr h2
    refine zb fun K kk hK => ?_
    simp only [go_sem, h2]
    (repeat refine sd ?_)
    refine hK _ _ fun nx => ?_; clear hK K; try clear kk
    refine zi ?_; refine nmx ?_
    obtain hR := Option.some.inj hh
    subst hR
    exact zy
theorem qZ (c_1 : Int) (n_2 : Int) (R : Int) (hh : zV c_1 n_2 = some R) : PC Tryd.prog 26 [.int .i64 c_1, .int .i64 n_2] (.int .i64 R) := by
  rw [zV] at hh
  refine V9 rfl ?_
  refine zb fun K kk hK => ?_
  simp only [go_sem]
  refine hK _ _ fun nx => ?_; clear hK K; try clear kk
  refine zm ?_
  refine zb fun K kk hK => ?_
  simp only [go_sem]
  refine hK _ _ fun nx => ?_; clear hK K; try clear kk
  by_cases h1 : (decide (c_1 < (0 : Int))) = true
  · rw [if_pos h1] at hh
    refine zk (by first | exact congrArg PV.bool h1 | rfl) ?_
    refine zq fun K kk hK => ?_
    simp only [go_sem]
    refine hK _ _ fun nx => ?_; clear hK K; try clear kk
    refine nmx ?_
    obtain ⟨h2, hh⟩ := zZ hh
    refine zb fun K kk hK => ?_
    simp only [go_sem, h2]
    (repeat refine sd ?_)
    refine hK _ _ fun nx => ?_; clear hK K; try clear kk
    refine zi ?_; refine nmx ?_
    obtain hR := Option.some.inj hh
    subst hR
    exact zy
  · rw [if_neg h1] at hh
    replace h1 := Bool.eq_false_iff.mpr h1
    refine zh (by first | exact congrArg PV.bool h1 | rfl) ?_
    refine zx ?_; refine nmx ?_
    obtain ⟨h3, hh⟩ := zZ hh
    refine zb fun K kk hK => ?_
    simp only [go_sem, h3]
    (repeat refine sd ?_)
    refine hK _ _ fun nx => ?_; clear hK K; try clear kk
    refine zi ?_; refine nmx ?_
    obtain hR := Option.some.inj hh
    subst hR
    exact zy
theorem Xm : ∀ kr : Nat, (∀ (n_1 : za) (R : Int), qz kr n_1 = some R → PC Tryd.prog 38 [.agg [.str n_1.Kind, .str n_1.Text, .list 1 (n_1.Marks.map PV.str), .list 2 (n_1.zt.map zf.pv), .list 5 (n_1.Kids.map za.pv)]] (.int .i64 R)) := by
  intro kr
  induction kr with
  | zero => exact (by intro n_1 R hh; rw [qz] at hh; cases hh)
  | succ kr ih =>
    have ih_diptychref1_Depth := ih
    clear ih
    intro n_1 R hh
    rw [qz] at hh
    refine Jp rfl ?_
    refine zb fun K kk hK => ?_
    simp only [go_sem]
    refine hK _ _ fun nx => ?_; clear hK K; try clear kk
    refine zm ?_
    refine zb fun K kk hK => ?_
    simp only [go_sem]
    refine hK _ _ fun nx => ?_; clear hK K; try clear kk
    by_cases h1 : (n_1.Kind == ([116, 101, 120, 116] : Str)) = true
    · rw [if_pos h1] at hh
      refine zk (by first | exact congrArg PV.bool h1 | rfl) ?_
      refine zb fun K kk hK => ?_
      simp only [go_sem]
      refine hK _ _ fun nx => ?_; clear hK K; try clear kk
      refine zi ?_; refine nmx ?_
      obtain hR := Option.some.inj hh
      subst hR
      exact zy
    · rw [if_neg h1] at hh
      replace h1 := Bool.eq_false_iff.mpr h1
      refine zh (by first | exact congrArg PV.bool h1 | rfl) ?_
      refine zx ?_; refine nmx ?_
      refine zb fun K kk hK => ?_
      simp only [go_sem]
      refine hK _ _ fun nx => ?_; clear hK K; try clear kk
      refine zm ?_
      refine zb fun K kk hK => ?_
      simp only [go_sem]
      refine hK _ _ fun nx => ?_; clear hK K; try clear kk
      obtain ⟨e0, f0, hh⟩ := ze hh
      obtain ⟨hlen0, f0⟩ := zZ f0
      refine qy (wS (fun s => ∃ apR, apR = e0 ∧ ∃ (aq1 : Int) (Wo : Bool) (nx : Nat) (g1 : Nat), s = ⟨[(1, .box 1 g1 0), (3, .int .i64 apR), (4, .int .i64 aq1), (12, .bool Wo)], [(1, g1, .var 28 [.str n_1.Kind, .str n_1.Text, .list 1 (n_1.Marks.map PV.str), .list 2 (n_1.zt.map zf.pv), .list 5 (n_1.Kids.map za.pv)])], nx⟩))
        (fun i s => False)
        (fun s => False) ?_ ?_ ?_ ?_
      · refine zD ?_
        refine qi fun I hI => ?_
        have key : ∀ (suf pre : List za) (i_5 : Int) (d_4 : Int), n_1.Kids = pre ++ suf → i_5 = (pre.length : Int) → qI (qz kr) suf i_5 d_4 = some e0 → ∀ (nx : Nat) (g1 : Nat), I ⟨[(1, .box 1 g1 0), (3, .int .i64 d_4), (4, .int .i64 i_5)], [(1, g1, .var 28 [.str n_1.Kind, .str n_1.Text, .list 1 (n_1.Marks.map PV.str), .list 2 (n_1.zt.map zf.pv), .list 5 (n_1.Kids.map za.pv)])], nx⟩ := by
          intro suf
          induction suf with
          | nil =>
            intro pre i_5 d_4 hsplit hidx hh nx g1
            rw [qI] at hh
            refine hI _ ?_
            have h8 := walk_nil hsplit hidx
            refine zm ?_
            refine zb fun K kk hK => ?_
            simp only [go_sem]
            refine hK _ _ fun nx => ?_; clear hK K; try clear kk
            refine zh (by first | exact congrArg PV.bool h8 | rfl) ?_
            refine qd ?_; refine nmx ?_
            refine kL ?_
            refine zH ?_
            refine ⟨_, (Option.some.inj hh), ?_⟩
            first | exact ⟨_, _, _, _, rfl⟩ | (simp only [pvE, lsE, zo]; exact ⟨_, _, _, _, rfl⟩) | (simp only [pvE, lsE, zo, h1, h8]; exact ⟨_, _, _, _, rfl⟩)
          | cons y_8 suf ih =>
            intro pre i_5 d_4 hsplit hidx hh nx g1
            rw [qI] at hh
            refine hI _ ?_
            obtain ⟨hl0a, hl0b, hl0d, hl0w, h8⟩ := qD (f := za.pv) hsplit hidx hlen0
            refine zm ?_
            refine zb fun K kk hK => ?_
            simp only [go_sem]
            refine hK _ _ fun nx => ?_; clear hK K; try clear kk
            refine zk (by first | exact congrArg PV.bool h8 | rfl) ?_
            refine zx ?_; refine nmx ?_
            refine zm ?_
            refine zD ?_
            obtain ⟨ajs, h9, hh⟩ := ze hh
            refine zq fun K kk hK => ?_
            simp only [go_sem, hl0a, hl0b, hl0d, hl0w]
            refine zg (ih_diptychref1_Depth _ _ h9) (by (try simp only [go_sem, hl0a, hl0b, hl0d, hl0w]) <;> exact wkl) (by rfl) (by rfl) ?_
            simp only [go_sem, hl0a, hl0b, hl0d, hl0w]
            refine hK _ _ fun nx => ?_; clear hK K; try clear kk
            refine nmx ?_
            refine zq fun K kk hK => ?_
            simp only [go_sem, hl0a, hl0b, hl0d, hl0w]
            refine hK _ _ fun nx => ?_; clear hK K; try clear kk
            refine nmx ?_
            have ih' := ih (pre ++ [y_8]) (i_5 + 1) _ (by rw [hsplit]; simp) (by simp [hidx]) hh nx
            refine zH ?_
            first | exact ih' _ | (simp only [pvE, lsE, zo] at ih' ⊢; exact ih' _) | (simp only [pvE, lsE, zo, h1, h8] at ih' ⊢; exact ih' _)
        exact key n_1.Kids [] _ _ rfl rfl f0 _ _
      · rintro s ⟨t, hless, apR, rfl, aq1, Wo, nx, g1, rfl⟩
        try dsimp only at hh
        refine nmy ?_
        first | (refine wh hless ?_; try refine kg ?_) | refine qF hless ?_ | refine qE hless ?_
        refine zb fun K kk hK => ?_
        simp only [go_sem]
        refine hK _ _ fun nx => ?_; clear hK K; try clear kk
        refine zi ?_; refine nmx ?_
        obtain hR := Option.some.inj hh
        subst hR
        exact zy
      · intro i s h; exact h.elim
      · intro s h; exact h.elim
theorem X4 (n_1 : za) (R : Int) (hh : vM n_1 = some R) : PC Tryd.prog 38 [.agg [.str n_1.Kind, .str n_1.Text, .list 1 (n_1.Marks.map PV.str), .list 2 (n_1.zt.map zf.pv), .list 5 (n_1.Kids.map za.pv)]] (.int .i64 R) := by
 rw [vM] at hh
 obtain ⟨kr, hh⟩ := xV hh
 exact (Xm kr) _ _ hh
theorem VP (a_1 : (List Str)) (b_2 : (List Str)) (R : Bool) (hh : kV a_1 b_2 = some R) : PC Tryd.prog 95 [.list 1 (a_1.map PV.str), .list 1 (b_2.map PV.str)] (.bool R) := by
  rw [kV] at hh
  refine Kr rfl ?_
  refine zb fun K kk hK => ?_
  simp only [go_sem]
  refine hK _ _ fun nx => ?_; clear hK K; try clear kk
  refine zm ?_
  refine zb fun K kk hK => ?_
  simp only [go_sem]
  refine hK _ _ fun nx => ?_; clear hK K; try clear kk
  by_cases h1 : ((a_1.length : Int) != (b_2.length : Int)) = true
  · rw [if_pos h1] at hh
    refine zk (by first | exact congrArg PV.bool h1 | rfl) ?_
    refine zb fun K kk hK => ?_
    simp only [go_sem]
    refine hK _ _ fun nx => ?_; clear hK K; try clear kk
    refine zi ?_; refine nmx ?_
    obtain hR := Option.some.inj hh
    subst hR
    exact zy
  · rw [if_neg h1] at hh
    replace h1 := Bool.eq_false_iff.mpr h1
    refine zh (by first | exact congrArg PV.bool h1 | rfl) ?_
    refine zx ?_; refine nmx ?_
    refine zm ?_
    refine zb fun K kk hK => ?_
    simp only [go_sem]
    refine hK _ _ fun nx => ?_; clear hK K; try clear kk
    obtain ⟨e0, f0, hh⟩ := ze hh
    obtain ⟨hlen0, f0⟩ := zZ f0
    refine qy (wS (fun s => .inr () = e0 ∧ ∃ (aq1 : Int) (Wo : Bool) (nx : Nat), s = ⟨[(0, .list 1 (a_1.map PV.str)), (1, .list 1 (b_2.map PV.str)), (5, .int .i64 aq1), (14, .bool Wo)], [], nx⟩))
      (fun i s => False)
      (fun s => ∃ wK, .inl wK = e0 ∧ zR Tryd.prog [.tmp 4] (.bool wK) [] .ret s) ?_ ?_ ?_ ?_
    · refine zD ?_
      refine qi fun I hI => ?_
      have key : ∀ (suf pre : List Str) (i_5 : Int), a_1 = pre ++ suf → i_5 = (pre.length : Int) → qh b_2 suf i_5 = some e0 → ∀ (nx : Nat), I ⟨[(0, .list 1 (a_1.map PV.str)), (1, .list 1 (b_2.map PV.str)), (5, .int .i64 i_5)], [], nx⟩ := by
        intro suf
        induction suf with
        | nil =>
          intro pre i_5 hsplit hidx hh nx
          rw [qh] at hh
          refine hI _ ?_
          have h10 := walk_nil hsplit hidx
          refine zm ?_
          refine zb fun K kk hK => ?_
          simp only [go_sem]
          refine hK _ _ fun nx => ?_; clear hK K; try clear kk
          refine zh (by first | exact congrArg PV.bool h10 | rfl) ?_
          refine qd ?_; refine nmx ?_
          refine kL ?_
          refine zH ?_
          refine ⟨(Option.some.inj hh), ?_⟩
          first | exact ⟨_, _, _, rfl⟩ | (simp only [pvE, lsE, zo]; exact ⟨_, _, _, rfl⟩) | (simp only [pvE, lsE, zo, h1, h10]; exact ⟨_, _, _, rfl⟩)
        | cons y_8 suf ih =>
          intro pre i_5 hsplit hidx hh nx
          rw [qh] at hh
          refine hI _ ?_
          obtain ⟨hl0a, hl0b, hl0d, hl0w, h10⟩ := qD (f := PV.str) hsplit hidx hlen0
          refine zm ?_
          refine zb fun K kk hK => ?_
          simp only [go_sem]
          refine hK _ _ fun nx => ?_; clear hK K; try clear kk
          refine zk (by first | exact congrArg PV.bool h10 | rfl) ?_
          refine zx ?_; refine nmx ?_
          refine zm ?_
          refine zD ?_
          obtain ⟨x_9, h11, hh⟩ := ze hh
          obtain ⟨h11a, h11b, h11c⟩ := rd_some h11
          have h11d := kZ (f := PV.str) h11c
          have h11f := wO (f := PV.str) h11c
          try simp only [Int.toNat_natCast, Int.reduceToNat] at h11d h11f
          refine zb fun K kk hK => ?_
          simp only [go_sem, h11a, h11b, h11d, h11f.1, h11f.2, hl0a, hl0b, hl0d, hl0w]
          (repeat refine sd ?_)
          refine hK _ _ fun nx => ?_; clear hK K; try clear kk
          by_cases h12 : (!(y_8 == x_9)) = true
          · rw [if_pos h12] at hh
            refine zk (by first | exact congrArg PV.bool h12 | rfl) ?_
            refine zb fun K kk hK => ?_
            simp only [go_sem, hl0a, hl0b, hl0d, hl0w]
            refine hK _ _ fun nx => ?_; clear hK K; try clear kk
            refine zi ?_; refine nmx ?_
            refine Z9 ⟨_, (Option.some.inj hh), ?_⟩
            exact zy
          · rw [if_neg h12] at hh
            replace h12 := Bool.eq_false_iff.mpr h12
            refine zh (by first | exact congrArg PV.bool h12 | rfl) ?_
            refine zx ?_; refine nmx ?_
            refine zq fun K kk hK => ?_
            simp only [go_sem, hl0a, hl0b, hl0d, hl0w]
            refine hK _ _ fun nx => ?_; clear hK K; try clear kk
            refine nmx ?_
            have ih' := ih (pre ++ [y_8]) (i_5 + 1) (by rw [hsplit]; simp) (by simp [hidx]) hh nx
            refine zH ?_
            first | exact ih' | (simp only [pvE, lsE, zo] at ih' ⊢; exact ih') | (simp only [pvE, lsE, zo, h1, h10, h12] at ih' ⊢; exact ih')
      exact key a_1 [] _ rfl rfl f0 _
    · rintro s ⟨t, hless, rfl, aq1, Wo, nx, rfl⟩
      try dsimp only at hh
      refine nmy ?_
      first | (refine wh hless ?_; try refine kg ?_) | refine qF hless ?_ | refine qE hless ?_
      refine zb fun K kk hK => ?_
      simp only [go_sem]
      refine hK _ _ fun nx => ?_; clear hK K; try clear kk
      refine zi ?_; refine nmx ?_
      obtain hR := Option.some.inj hh
      subst hR
      exact zy
    · intro i s h; exact h.elim
    · rintro s ⟨wK, rfl, hb⟩
      try dsimp only at hh
      obtain hR := Option.some.inj hh
      subst hR
      refine nmx ?_
      exact hb
end Go.Proofs.YtclohbgnaopjfaaDoor
