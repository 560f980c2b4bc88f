/- Texts of the proof of stepBackCard -/
import Derived.Test.YtclohbgnaopjfaaDoorAgC
import Derived.Test.YtclohbgnaopjfaaDoorAgF
import Derived.Test.YtclohbgnaopjfaaDoorAgK0
import Derived.Test.YtclohbgnaopjfaaDoorAgK1
import Derived.Test.YtclohbgnaopjfaaDoorAgK5
import Derived.Test.YtclohbgnaopjfaaDoorAgK6
import Derived.Test.YtclohbgnaopjfaaDoorAgK8
namespace Go.Proofs.YtclohbgnaopjfaaDoor
set_option linter.unusedSimpArgs false
set_option linter.unusedVariables false
open Go
set_option maxRecDepth 100000
theorem aca : ∀ kr : Nat, (∀ (n_1 : za) (l_2 : (List UInt8)) (R : (List UInt8)), kD kr n_1 l_2 = some R → BC Tryd.prog 57 [.agg [.str n_1.Kind, .str n_1.Text, .list 1 (n_1.Marks.map PV.str), .list 2 (n_1.zo.map zg.pv), .list 5 (n_1.Kids.map za.pv)], .box 1000 0 0, .box 1002 0 0] [.var 101 [.wF 1000 0, .row 1001 0 l_2.length], .bytes 5 l_2, .var 110 [.fn 57 [.box 1000 0 0, .box 1002 0 0]]] (.tup []) [.var 101 [.wF 1000 0, .row 1001 0 R.length], .Kv 5 R, .var 110 [.fn 57 [.box 1000 0 0, .box 1002 0 0]]]) := by
 intro kr
 induction kr with
 | zero => exact (by intro n_1 l_2 R hh; rw [kD] at hh; cases hh)
 | succ kr ih =>
  have ih_node_Words_1_x := ih
  clear ih
  intro n_1 l_2 R hh
  rw [kD] at hh
  refine aaa rfl rfl rfl ?_
  refine zb fun K kk hK => ?_
  simp only [go_sem]
  refine hK _ _ fun nx => ?_; clear hK K; try clear kk
  refine zm ?_
  obtain ⟨Vw, h1, hh⟩ := zf hh
  refine zb fun K kk hK => ?_
  simp only [go_sem]
  refine ze (wY _ _ h1) (by (try simp only [go_sem]) <;> exact wkl) (by rfl) (by rfl) ?_
  simp only [go_sem]
  refine hK _ _ fun nx => ?_; clear hK K; try clear kk
  by_cases h2 : (Vw) = true
  ·rw [if_pos h2] at hh
   refine zn (by first | exact congrArg PV.bool h2 | rfl) ?_
   obtain ⟨⟨r_4, l_5⟩, h3, hh⟩ := zf hh
   dsimp only at hh
   refine zb fun K kk hK => ?_
   simp only [go_sem]
   refine jK [1000, 1001] (by decide) (QG _ _ _ h3) (by (try simp only [go_sem, h2]) <;> exact wkb) (by rfl) ?_
   simp only [go_sem]
   refine hK _ _ fun nx => ?_; clear hK K; try clear kk
   refine zi ?_; refine nmx ?_
   obtain hR := Option.some.inj hh
   subst hR
   refine vo ?_ (by rfl) ?_
   ·simp only [go_sem, wJ, jU, kH, vH, Zd, List.map_cons, List.map_append, List.head?_cons, h2]
    all_goals exact wkw
   ·(try simp only [go_sem, h2]); (try simp only [List.length_append, List.map_append]); all_goals exact wkb
  ·rw [if_neg h2] at hh
   replace h2 := Bool.eq_false_iff.mpr h2
   refine zh (by first | exact congrArg PV.bool h2 | rfl) ?_
   refine zx ?_; refine nmx ?_
   refine zb fun K kk hK => ?_
   simp only [go_sem]
   refine hK _ _ fun nx => ?_; clear hK K; try clear kk
   obtain ⟨e0, f0, hh⟩ := zf hh
   obtain ⟨hlen0, f0⟩ := z8 f0
   refine qz (kv (fun s => ∃ Xx, Xx = e0 ∧ ∃ (Qk : Int) (aiB : Bool) (nx : Nat) (g1001 : Nat), s = ⟨[(2, .box 1002 0 0), (12, .list 5 (n_1.Kids.map za.pv)), (13, .int .i64 (n_1.Kids.length : Int)), (14, .int .i64 Qk), (15, .bool aiB)], [(1000, 0, .var 101 [.wF 1000 0, .row 1001 g1001 Xx.length]), (1001, g1001, .bytes 5 Xx), (1002, 0, .var 110 [.fn 57 [.box 1000 0 0, .box 1002 0 0]])], nx⟩))
    (fun i s => False)
    (fun s => False) ?_ ?_ ?_ ?_
   ·refine zC ?_
    refine qh fun I hI => ?_
    have key : ∀ (suf pre : List za) (v_8 : Int) (v_9 : (List UInt8)), n_1.Kids = pre ++ suf → v_8 = (pre.length : Int) → kI (kD kr) suf v_8 v_9 = some e0 → ∀ (nx : Nat) (g1001 : Nat), I ⟨[(2, .box 1002 0 0), (12, .list 5 (n_1.Kids.map za.pv)), (13, .int .i64 (n_1.Kids.length : Int)), (14, .int .i64 v_8)], [(1000, 0, .var 101 [.wF 1000 0, .row 1001 g1001 v_9.length]), (1001, g1001, .bytes 5 v_9), (1002, 0, .var 110 [.fn 57 [.box 1000 0 0, .box 1002 0 0]])], nx⟩ := by
     intro suf
     induction suf with
     | nil =>
      intro pre v_8 v_9 hsplit hidx hh nx g1001
      rw [kI] at hh
      refine hI _ ?_
      have h10 := walk_nil hsplit hidx
      refine zb fun K kk hK => ?_
      simp only [go_sem]
      refine hK _ _ fun nx => ?_; clear hK K; try clear kk
      refine zm ?_
      refine zh (by first | exact congrArg PV.bool h10 | rfl) ?_
      refine zZ ?_; refine nmx ?_
      refine kN ?_
      refine zJ ?_
      refine ⟨_, (Option.some.inj hh), ?_⟩
      first | exact ⟨_, _, _, _, rfl⟩ | (simp only [pvE, lsE, zq]; exact ⟨_, _, _, _, rfl⟩) | (simp only [pvE, lsE, zq, h10, h2]; exact ⟨_, _, _, _, rfl⟩)
     | cons alU suf ih =>
      intro pre v_8 v_9 hsplit hidx hh nx g1001
      rw [kI] at hh
      refine hI _ ?_
      obtain ⟨hl0a, hl0b, hl0d, hl0w, h10⟩ := qI (f := za.pv) hsplit hidx hlen0
      refine zb fun K kk hK => ?_
      simp only [go_sem]
      refine hK _ _ fun nx => ?_; clear hK K; try clear kk
      refine zm ?_
      refine zn (by first | exact congrArg PV.bool h10 | rfl) ?_
      refine zx ?_; refine nmx ?_
      refine zm ?_
      refine zC ?_
      refine zb fun K kk hK => ?_
      simp only [go_sem, hl0a, hl0b, hl0d, hl0w]
      refine hK _ _ fun nx => ?_; clear hK K; try clear kk
      obtain ⟨asN, h11, hh⟩ := zf hh
      refine zu fun K kk hK => ?_
      simp only [go_sem, hl0a, hl0b, hl0d, hl0w]
      refine jK [1000, 1001, 1002] (by decide) (ih_node_Words_1_x _ _ _ h11) (by (try simp only [go_sem, hl0a, hl0b, hl0d, hl0w, h10, h2]) <;> exact wkb) (by rfl) ?_
      simp only [go_sem, hl0a, hl0b, hl0d, hl0w]
      refine hK _ _ fun nx => ?_; clear hK K; try clear kk
      refine nmx ?_
      refine zu fun K kk hK => ?_
      simp only [go_sem, hl0a, hl0b, hl0d, hl0w]
      refine hK _ _ fun nx => ?_; clear hK K; try clear kk
      refine nmx ?_
      have ih' := ih (pre ++ [alU]) (v_8 + 1) _ (by rw [hsplit]; simp) (by simp [hidx]) hh nx
      refine zJ ?_
      first | exact ih' _ | (simp only [pvE, lsE, zq] at ih' ⊢; exact ih' _) | (simp only [pvE, lsE, zq, h10, h2] at ih' ⊢; exact ih' _)
    exact key n_1.Kids [] _ _ rfl rfl f0 _ _
   ·rintro s ⟨t, hless, Xx, rfl, Qk, aiB, nx, g1001, rfl⟩
    try dsimp only at hh
    refine nmy ?_
    first | (refine wm hless ?_; try refine kz ?_) | refine qH hless ?_ | refine qG hless ?_
    obtain hR := Option.some.inj hh
    subst hR
    refine YT ?_
    refine vo ?_ (by rfl) ?_
    ·simp only [go_sem, wJ, jU, kH, vH, Zd, List.map_cons, List.map_append, List.head?_cons, h2]
     all_goals exact wkw
    ·(try simp only [go_sem, h2]); (try simp only [List.length_append, List.map_append]); all_goals exact wkb
   ·intro i s h; exact h.elim
   ·intro s h; exact h.elim
theorem acG (n_1 : za) (l_2 : (List UInt8)) (R : (List UInt8)) (hh : yD n_1 l_2 = some R) : BC Tryd.prog 57 [.agg [.str n_1.Kind, .str n_1.Text, .list 1 (n_1.Marks.map PV.str), .list 2 (n_1.zo.map zg.pv), .list 5 (n_1.Kids.map za.pv)], .box 1000 0 0, .box 1002 0 0] [.var 101 [.wF 1000 0, .row 1001 0 l_2.length], .bytes 5 l_2, .var 110 [.fn 57 [.box 1000 0 0, .box 1002 0 0]]] (.tup []) [.var 101 [.wF 1000 0, .row 1001 0 R.length], .Kv 5 R, .var 110 [.fn 57 [.box 1000 0 0, .box 1002 0 0]]] := by
 rw [yD] at hh
 obtain ⟨kr, hh⟩ := xZ hh
 exact (aca kr) _ _ _ hh
theorem WL (n_1 : za) (R : Str) (hh : ZL n_1 = some R) : PC Tryd.prog 28 [.agg [.str n_1.Kind, .str n_1.Text, .list 1 (n_1.Marks.map PV.str), .list 2 (n_1.zo.map zg.pv), .list 5 (n_1.Kids.map za.pv)]] (.str R) := by
 rw [ZL] at hh
 refine aei rfl ?_
 refine zb fun K kk hK => ?_
 simp only [go_sem]
 refine hK _ _ fun nx => ?_; clear hK K; try clear kk
 refine zb fun K kk hK => ?_
 simp only [go_sem]
 refine hK _ _ fun nx => ?_; clear hK K; try clear kk
 refine zb fun K kk hK => ?_
 simp only [go_sem]
 refine hK _ _ fun nx => ?_; clear hK K; try clear kk
 refine zb fun K kk hK => ?_
 simp only [go_sem]
 refine hK _ _ fun nx => ?_; clear hK K; try clear kk
 obtain ⟨l_2, h1, hh⟩ := zf hh
 refine zb fun K kk hK => ?_
 simp only [go_sem]
 refine jK [3, 322, 4] (by decide) (acG _ _ _ h1) (by (try simp only [go_sem]) <;> exact wkb) (by rfl) ?_
 simp only [go_sem]
 refine hK _ _ fun nx => ?_; clear hK K; try clear kk
 obtain ⟨⟨r_3, l_4⟩, h2, hh⟩ := zf hh
 dsimp only at hh
 refine zb fun K kk hK => ?_
 simp only [go_sem]
 refine jK [3, 322] (by decide) (K3 _ _ h2) (by (try simp only [go_sem]) <;> exact wkb) (by rfl) ?_
 simp only [go_sem]
 refine hK _ _ fun nx => ?_; clear hK K; try clear kk
 refine zi ?_; refine nmx ?_
 obtain hR := Option.some.inj hh
 subst hR
 exact zy
theorem WQ (s_1 : zz) (R : (List zk)) (hh : yF s_1 = some R) : PC Tryd.prog 32 [.agg [.int .u8 s_1.Kind, .int .i64 s_1.From, .int .i64 s_1.To, .list 5 (s_1.wC.map za.pv), .str s_1.Name, .str s_1.Value]] (.list 3 (R.map zk.pv)) := by
 rw [yF] at hh
 refine ae9 rfl ?_
 refine zb fun K kk hK => ?_
 simp only [go_sem]
 refine hK _ _ fun nx => ?_; clear hK K; try clear kk
 obtain ⟨adP, h1, hh⟩ := zf hh
 refine zb fun K kk hK => ?_
 simp only [go_sem]
 refine ze (xw _ _ h1) (by (try simp only [go_sem]) <;> exact wkl) (by rfl) (by rfl) ?_
 simp only [go_sem]
 refine hK _ _ fun nx => ?_; clear hK K; try clear kk
 refine zm ?_
 by_cases h2 : (s_1.Kind != (114 : Int)) = true
 ·rw [if_pos h2] at hh
  refine zb fun K kk hK => ?_
  simp only [go_sem, h2]
  (repeat refine sd ?_)
  refine hK _ _ fun nx => ?_; clear hK K; try clear kk
  refine zn rfl ?_
  refine zb fun K kk hK => ?_
  simp only [go_sem]
  refine hK _ _ fun nx => ?_; clear hK K; try clear kk
  refine zi ?_; refine nmx ?_
  obtain hR := Option.some.inj hh
  subst hR
  exact zy
 ·rw [if_neg h2] at hh
  replace h2 := Bool.eq_false_iff.mpr h2
  by_cases h3 : (s_1.From == s_1.To) = true
  ·rw [if_pos h3] at hh
   refine zb fun K kk hK => ?_
   simp only [go_sem, h2, h3]
   (repeat refine sd ?_)
   refine hK _ _ fun nx => ?_; clear hK K; try clear kk
   by_cases h4 : (adP == (0 : Int)) = true
   ·rw [if_pos h4] at hh
    refine zn (by first | exact congrArg PV.bool h4 | rfl) ?_
    refine zb fun K kk hK => ?_
    simp only [go_sem]
    refine hK _ _ fun nx => ?_; clear hK K; try clear kk
    refine zi ?_; refine nmx ?_
    obtain hR := Option.some.inj hh
    subst hR
    exact zy
   ·rw [if_neg h4] at hh
    replace h4 := Bool.eq_false_iff.mpr h4
    refine zh (by first | exact congrArg PV.bool h4 | rfl) ?_
    refine zx ?_; refine nmx ?_
    refine zb fun K kk hK => ?_
    simp only [go_sem]
    refine hK _ _ fun nx => ?_; clear hK K; try clear kk
    refine zi ?_; refine nmx ?_
    obtain hR := Option.some.inj hh
    subst hR
    exact zy
  ·rw [if_neg h3] at hh
   replace h3 := Bool.eq_false_iff.mpr h3
   refine zb fun K kk hK => ?_
   simp only [go_sem, h2, h3]
   (repeat refine sd ?_)
   refine hK _ _ fun nx => ?_; clear hK K; try clear kk
   refine zh rfl ?_
   refine zx ?_; refine nmx ?_
   refine zb fun K kk hK => ?_
   simp only [go_sem]
   refine hK _ _ fun nx => ?_; clear hK K; try clear kk
   refine zi ?_; refine nmx ?_
   obtain hR := Option.some.inj hh
   subst hR
   exact zy
theorem aab (n_1 : za) (Vz : Int) (Xo : Int) (ak2 : Int) (l_5 : (List zt)) (R : zz) (hh : xn n_1 Vz Xo ak2 l_5 = some R) : PC Tryd.prog 33 [.agg [.str n_1.Kind, .str n_1.Text, .list 1 (n_1.Marks.map PV.str), .list 2 (n_1.zo.map zg.pv), .list 5 (n_1.Kids.map za.pv)], .int .i64 Vz, .int .i64 Xo, .int .i64 ak2, .list 4 (l_5.map zt.pv)] (.agg [.int .u8 R.Kind, .int .i64 R.From, .int .i64 R.To, .list 5 (R.wC.map za.pv), .str R.Name, .str R.Value]) := by
 rw [xn] at hh
 refine JS rfl ?_
 refine zb fun K kk hK => ?_
 simp only [go_sem]
 refine hK _ _ fun nx => ?_; clear hK K; try clear kk
 obtain ⟨ak0, h1, hh⟩ := zf hh
 refine zb fun K kk hK => ?_
 simp only [go_sem]
 refine ze (xw _ _ h1) (by (try simp only [go_sem]) <;> exact wkl) (by rfl) (by rfl) ?_
 simp only [go_sem]
 refine hK _ _ fun nx => ?_; clear hK K; try clear kk
 obtain ⟨kQ, h2, hh⟩ := zf hh
 refine zb fun K kk hK => ?_
 simp only [go_sem]
 refine ze (qg _ _ _ h2) (by (try simp only [go_sem]) <;> exact wkl) (by rfl) (by rfl) ?_
 simp only [go_sem]
 refine hK _ _ fun nx => ?_; clear hK K; try clear kk
 obtain ⟨kU, h3, hh⟩ := zf hh
 refine zb fun K kk hK => ?_
 simp only [go_sem]
 refine ze (qg _ _ _ h3) (by (try simp only [go_sem]) <;> exact wkl) (by rfl) (by rfl) ?_
 simp only [go_sem]
 refine hK _ _ fun nx => ?_; clear hK K; try clear kk
 refine zb fun K kk hK => ?_
 simp only [go_sem]
 refine hK _ _ fun nx => ?_; clear hK K; try clear kk
 refine zm ?_
 obtain ⟨abZ, h4, hh⟩ := zf hh
 refine zb fun K kk hK => ?_
 simp only [go_sem]
 refine ze (qg _ _ _ h4) (by (try simp only [go_sem]) <;> exact wkl) (by rfl) (by rfl) ?_
 simp only [go_sem]
 refine hK _ _ fun nx => ?_; clear hK K; try clear kk
 refine zC ?_
 refine zb fun K kk hK => ?_
 simp only [go_sem]
 refine hK _ _ fun nx => ?_; clear hK K; try clear kk
 by_cases h5 : (abZ == (0 : Int)) = true
 ·rw [if_pos h5] at hh
  refine zn (by first | exact congrArg PV.bool h5 | rfl) ?_
  obtain ⟨JJ, h6, hh⟩ := zf hh
  refine zb fun K kk hK => ?_
  simp only [go_sem]
  refine ze (KE _ _ h6) (by (try simp only [go_sem]) <;> exact wkl) (by rfl) (by rfl) ?_
  simp only [go_sem]
  refine hK _ _ fun nx => ?_; clear hK K; try clear kk
  obtain ⟨⟨Js, QX⟩, h7, hh⟩ := zf hh
  dsimp only at hh
  refine zb fun K kk hK => ?_
  simp only [go_sem]
  refine ze (yl _ _ _ h7) (by (try simp only [go_sem]) <;> exact wkl) (by rfl) (by rfl) ?_
  simp only [go_sem]
  refine hK _ _ fun nx => ?_; clear hK K; try clear kk
  refine zm ?_
  obtain ⟨e0, f0, hh⟩ := zf hh
  refine VI (fun s => ∃ anu, anu = e0 ∧ ∃ (arY : Bool) (nx : Nat) (g5 : Nat) (g10 : Nat) (g15 : Nat), s = ⟨[(5, .box 5 g5 0), (10, .box 10 g10 0), (15, .box 15 g15 0), (58, .bool arY)], [(5, g5, .var 28 [.str n_1.Kind, .str n_1.Text, .list 1 (n_1.Marks.map PV.str), .list 2 (n_1.zo.map zg.pv), .list 5 (n_1.Kids.map za.pv)]), (10, g10, .var 39 [.int .u8 (0 : Int), .int .i64 (0 : Int), .int .i64 (0 : Int), .list 5 ([].map za.pv), .str ([] : Str), .str ([] : Str)]), (15, g15, .var 39 [.int .u8 (114 : Int), .int .i64 (if kU < kQ then kU else kQ), .int .i64 anu, .list 5 (JJ.Kids.map za.pv), .str ([] : Str), .str ([] : Str)])], nx⟩)
   (fun i s => False)
   (fun s => False) ?_ ?_ ?_ ?_
  ·refine zC ?_
   refine qh fun I hI => ?_
   obtain ⟨k, f0⟩ := xZ f0
   have key : ∀ (k : Nat) (aou : Int) (ahy : Int), qR n_1 kQ kU JJ k aou ahy = some e0 → ∀ (nx : Nat) (g5 : Nat) (g10 : Nat) (g15 : Nat), I ⟨[(5, .box 5 g5 0), (10, .box 10 g10 0), (15, .box 15 g15 0), (17, .int .i64 aou)], [(5, g5, .var 28 [.str n_1.Kind, .str n_1.Text, .list 1 (n_1.Marks.map PV.str), .list 2 (n_1.zo.map zg.pv), .list 5 (n_1.Kids.map za.pv)]), (10, g10, .var 39 [.int .u8 (0 : Int), .int .i64 (0 : Int), .int .i64 (0 : Int), .list 5 ([].map za.pv), .str ([] : Str), .str ([] : Str)]), (15, g15, .var 39 [.int .u8 (114 : Int), .int .i64 (if kU < kQ then kU else kQ), .int .i64 ahy, .list 5 (JJ.Kids.map za.pv), .str ([] : Str), .str ([] : Str)])], nx⟩ := by
    intro k
    induction k with
    | zero => intro aou ahy hh; rw [qR] at hh; cases hh
    | succ k ih =>
     intro aou ahy hh nx g5 g10 g15
     rw [qR] at hh
     refine hI _ ?_
     refine zm ?_
     by_cases h11 : (decide (ahy > (if kU < kQ then kU else kQ))) = true
     ·rw [if_pos h11] at hh
      refine zb fun K kk hK => ?_
      simp only [go_sem, h11, of_decide_eq_true h11]
      (repeat refine sd ?_)
      refine hK _ _ fun nx => ?_; clear hK K; try clear kk
      by_cases h12 : (aou != (0 : Int)) = true
      ·rw [if_pos h12] at hh
       refine zn (by first | exact congrArg PV.bool h12 | rfl) ?_
       refine zx ?_; refine nmx ?_
       refine zC ?_
       refine zb fun K kk hK => ?_
       simp only [go_sem]
       refine hK _ _ fun nx => ?_; clear hK K; try clear kk
       obtain ⟨⟨asM, auL⟩, h13, hh⟩ := zf hh
       dsimp only at hh
       refine zu fun K kk hK => ?_
       simp only [go_sem]
       refine ze (yl _ _ _ h13) (by (try simp only [go_sem]) <;> exact wkl) (by rfl) (by rfl) ?_
       simp only [go_sem]
       refine hK _ _ fun nx => ?_; clear hK K; try clear kk
       refine nmx ?_
       have ih' := ih _ _ hh nx
       refine zJ ?_
       first | exact ih' _ _ _ | (simp only [pvE, lsE, zq] at ih' ⊢; exact ih' _ _ _) | (simp only [pvE, lsE, zq, h11, h12, h5] at ih' ⊢; exact ih' _ _ _)
      ·rw [if_neg h12] at hh
       replace h12 := Bool.eq_false_iff.mpr h12
       refine zh (by first | exact congrArg PV.bool h12 | rfl) ?_
       refine zZ ?_; refine nmx ?_
       refine kN ?_
       refine zJ ?_
       refine ⟨_, (Option.some.inj hh), ?_⟩
       first | exact ⟨_, _, _, _, _, rfl⟩ | (simp only [pvE, lsE, zq]; exact ⟨_, _, _, _, _, rfl⟩) | (simp only [pvE, lsE, zq, h11, h12, h5]; exact ⟨_, _, _, _, _, rfl⟩)
     ·rw [if_neg h11] at hh
      replace h11 := Bool.eq_false_iff.mpr h11
      refine zb fun K kk hK => ?_
      simp only [go_sem, h11, of_decide_eq_false h11]
      (repeat refine sd ?_)
      refine hK _ _ fun nx => ?_; clear hK K; try clear kk
      refine zh rfl ?_
      refine zZ ?_; refine nmx ?_
      refine kN ?_
      refine zJ ?_
      refine ⟨_, (Option.some.inj hh), ?_⟩
      first | exact ⟨_, _, _, _, _, rfl⟩ | (simp only [pvE, lsE, zq]; exact ⟨_, _, _, _, _, rfl⟩) | (simp only [pvE, lsE, zq, h11, h5]; exact ⟨_, _, _, _, _, rfl⟩)
   exact key _ _ _ f0 _ _ _ _
  ·rintro s ⟨anu, rfl, arY, nx, g5, g10, g15, rfl⟩
   try dsimp only at hh
   refine zb fun K kk hK => ?_
   simp only [go_sem]
   refine hK _ _ fun nx => ?_; clear hK K; try clear kk
   refine zi ?_; refine nmx ?_
   obtain hR := Option.some.inj hh
   subst hR
   exact zy
  ·intro i s h; exact h.elim
  ·intro s h; exact h.elim
 ·rw [if_neg h5] at hh
  replace h5 := Bool.eq_false_iff.mpr h5
  refine zh (by first | exact congrArg PV.bool h5 | rfl) ?_
  refine zb fun K kk hK => ?_
  simp only [go_sem]
  refine hK _ _ fun nx => ?_; clear hK K; try clear kk
  by_cases h14 : (abZ == (1 : Int)) = true
  ·rw [if_pos h14] at hh
   refine zn (by first | exact congrArg PV.bool h14 | rfl) ?_
   refine zb fun K kk hK => ?_
   simp only [go_sem]
   refine hK _ _ fun nx => ?_; clear hK K; try clear kk
   refine zi ?_; refine nmx ?_
   obtain hR := Option.some.inj hh
   subst hR
   exact zy
  ·rw [if_neg h14] at hh
   replace h14 := Bool.eq_false_iff.mpr h14
   refine zh (by first | exact congrArg PV.bool h14 | rfl) ?_
   refine zb fun K kk hK => ?_
   simp only [go_sem]
   refine hK _ _ fun nx => ?_; clear hK K; try clear kk
   by_cases h15 : (abZ == (2 : Int)) = true
   ·rw [if_pos h15] at hh
    refine zn (by first | exact congrArg PV.bool h15 | rfl) ?_
    obtain ⟨ao7, h16, hh⟩ := zf hh
    obtain ⟨aiO, h17, hh⟩ := zf hh
    obtain ⟨h17a, h17b, h17c⟩ := rd_some h17
    have h17d := vz (f := PV.str) h17c
    have h17f := wX (f := PV.str) h17c
    try simp only [Int.toNat_natCast, Int.reduceToNat] at h17d h17f
    simp only [List.length_cons, List.length_nil, List.map_cons, List.map_nil, Nat.zero_add, Nat.reduceAdd, reduceCtorEq, not_false_eq_true, and_true, pvE] at h17b h17d h17f
    refine zb fun K kk hK => ?_
    simp only [go_sem, h17a, h17b, h17d, h17f]
    (repeat refine sd ?_)
    refine ze (qg _ _ _ h16) (by (try simp only [go_sem, h17a, h17b, h17d, h17f]) <;> exact wkl) (by rfl) (by rfl) ?_
    simp only [go_sem, h17a, h17b, h17d, h17f]
    (repeat refine sd ?_)
    refine hK _ _ fun nx => ?_; clear hK K; try clear kk
    refine zi ?_; refine nmx ?_
    obtain hR := Option.some.inj hh
    subst hR
    exact zy
   ·rw [if_neg h15] at hh
    replace h15 := Bool.eq_false_iff.mpr h15
    refine zh (by first | exact congrArg PV.bool h15 | rfl) ?_
    refine zx ?_; refine nmx ?_
    obtain ⟨aoQ, h18, hh⟩ := zf hh
    obtain ⟨aw0, h19, hh⟩ := zf hh
    obtain ⟨h19a, h19b, h19c⟩ := rd_some h19
    have h19d := vz (f := PV.str) h19c
    have h19f := wX (f := PV.str) h19c
    try simp only [Int.toNat_natCast, Int.reduceToNat] at h19d h19f
    simp only [List.length_cons, List.length_nil, List.map_cons, List.map_nil, Nat.zero_add, Nat.reduceAdd, reduceCtorEq, not_false_eq_true, and_true, pvE] at h19b h19d h19f
    refine zb fun K kk hK => ?_
    simp only [go_sem, h19a, h19b, h19d, h19f]
    (repeat refine sd ?_)
    refine ze (qg _ _ _ h18) (by (try simp only [go_sem, h19a, h19b, h19d, h19f]) <;> exact wkl) (by rfl) (by rfl) ?_
    simp only [go_sem, h19a, h19b, h19d, h19f]
    (repeat refine sd ?_)
    refine hK _ _ fun nx => ?_; clear hK K; try clear kk
    refine zi ?_; refine nmx ?_
    obtain hR := Option.some.inj hh
    subst hR
    exact zy
theorem WO (m_1 : (List zk)) (R : Int) (hh : xX m_1 = some R) : PC Tryd.prog 35 [.list 3 (m_1.map zk.pv)] (.int .i64 R) := by
 rw [xX] at hh
 refine aeu rfl ?_
 refine zb fun K kk hK => ?_
 simp only [go_sem]
 refine hK _ _ fun nx => ?_; clear hK K; try clear kk
 refine zb fun K kk hK => ?_
 simp only [go_sem]
 refine hK _ _ fun nx => ?_; clear hK K; try clear kk
 refine zm ?_
 refine zb fun K kk hK => ?_
 simp only [go_sem]
 refine hK _ _ fun nx => ?_; clear hK K; try clear kk
 obtain ⟨e0, f0, hh⟩ := zf hh
 obtain ⟨hlen0, f0⟩ := z8 f0
 refine qz (kv (fun s => ∃ n_7, n_7 = e0 ∧ ∃ (v_8 : Int) (v_9 : Bool) (nx : Nat), s = ⟨[(3, .int .i64 n_7), (6, .list 3 (m_1.map zk.pv)), (7, .int .i64 (m_1.length : Int)), (8, .int .i64 v_8), (9, .bool v_9)], [], nx⟩))
  (fun i s => False)
  (fun s => False) ?_ ?_ ?_ ?_
 ·refine zC ?_
  refine qh fun I hI => ?_
  have key : ∀ (suf pre : List zk) (v_4 : Int) (n_3 : Int), m_1 = pre ++ suf → v_4 = (pre.length : Int) → xy suf v_4 n_3 = some e0 → ∀ (nx : Nat), I ⟨[(3, .int .i64 n_3), (6, .list 3 (m_1.map zk.pv)), (7, .int .i64 (m_1.length : Int)), (8, .int .i64 v_4)], [], nx⟩ := by
   intro suf
   induction suf with
   | nil =>
    intro pre v_4 n_3 hsplit hidx hh nx
    rw [xy] at hh
    refine hI _ ?_
    have h5 := walk_nil hsplit hidx
    refine zb fun K kk hK => ?_
    simp only [go_sem]
    refine hK _ _ fun nx => ?_; clear hK K; try clear kk
    refine zm ?_
    refine zh (by first | exact congrArg PV.bool h5 | rfl) ?_
    refine zZ ?_; refine nmx ?_
    refine kN ?_
    refine zJ ?_
    refine ⟨_, (Option.some.inj hh), ?_⟩
    first | exact ⟨_, _, _, rfl⟩ | (simp only [pvE, lsE, zq]; exact ⟨_, _, _, rfl⟩) | (simp only [pvE, lsE, zq, h5]; exact ⟨_, _, _, rfl⟩)
   | cons y_6 suf ih =>
    intro pre v_4 n_3 hsplit hidx hh nx
    rw [xy] at hh
    refine hI _ ?_
    obtain ⟨hl0a, hl0b, hl0d, hl0w, h5⟩ := qI (f := zk.pv) hsplit hidx hlen0
    refine zb fun K kk hK => ?_
    simp only [go_sem]
    refine hK _ _ fun nx => ?_; clear hK K; try clear kk
    refine zm ?_
    refine zn (by first | exact congrArg PV.bool h5 | rfl) ?_
    refine zx ?_; refine nmx ?_
    refine zm ?_
    refine zC ?_
    refine zb fun K kk hK => ?_
    simp only [go_sem, hl0a, hl0b, hl0d, hl0w]
    refine hK _ _ fun nx => ?_; clear hK K; try clear kk
    refine zu fun K kk hK => ?_
    simp only [go_sem, hl0a, hl0b, hl0d, hl0w]
    refine hK _ _ fun nx => ?_; clear hK K; try clear kk
    refine nmx ?_
    refine zu fun K kk hK => ?_
    simp only [go_sem, hl0a, hl0b, hl0d, hl0w]
    refine hK _ _ fun nx => ?_; clear hK K; try clear kk
    refine nmx ?_
    have ih' := ih (pre ++ [y_6]) (v_4 + 1) _ (by rw [hsplit]; simp) (by simp [hidx]) hh nx
    refine zJ ?_
    first | exact ih' | (simp only [pvE, lsE, zq] at ih' ⊢; exact ih') | (simp only [pvE, lsE, zq, h5] at ih' ⊢; exact ih')
  exact key m_1 [] _ _ rfl rfl f0 _
 ·rintro s ⟨t, hless, n_7, rfl, v_8, v_9, nx, rfl⟩
  try dsimp only at hh
  refine nmy ?_
  first | (refine wm hless ?_; try refine kz ?_) | refine qH hless ?_ | refine qG hless ?_
  refine zb fun K kk hK => ?_
  simp only [go_sem]
  refine hK _ _ fun nx => ?_; clear hK K; try clear kk
  refine zi ?_; refine nmx ?_
  obtain hR := Option.some.inj hh
  subst hR
  exact zy
 ·intro i s h; exact h.elim
 ·intro s h; exact h.elim
theorem Ju (l_1 : (List zt)) (Vz : Int) (Xo : Int) (ak2 : Int) (k_5 : (List zt)) (R : Bool) (hh : jP l_1 Vz Xo ak2 k_5 = some R) : PC Tryd.prog 10 [.list 4 (l_1.map zt.pv), .int .i64 Vz, .int .i64 Xo, .int .i64 ak2, .list 4 (k_5.map zt.pv)] (.bool R) := by
 rw [jP] at hh
 refine Ve rfl ?_
 refine zb fun K kk hK => ?_
 simp only [go_sem]
 refine hK _ _ fun nx => ?_; clear hK K; try clear kk
 obtain ⟨adq, h1, hh⟩ := zf hh
 refine zb fun K kk hK => ?_
 simp only [go_sem]
 refine ze (Yf _ h1) (by (try simp only [go_sem]) <;> exact wkl) (by rfl) (by rfl) ?_
 simp only [go_sem]
 refine hK _ _ fun nx => ?_; clear hK K; try clear kk
 refine zm ?_
 by_cases h2 : (!adq) = true
 ·rw [if_pos h2] at hh
  refine zb fun K kk hK => ?_
  simp only [go_sem, h2]
  (repeat refine sd ?_)
  refine hK _ _ fun nx => ?_; clear hK K; try clear kk
  refine zn rfl ?_
  refine zb fun K kk hK => ?_
  simp only [go_sem]
  refine hK _ _ fun nx => ?_; clear hK K; try clear kk
  refine zi ?_; refine nmx ?_
  obtain hR := Option.some.inj hh
  subst hR
  exact zy
 ·rw [if_neg h2] at hh
  replace h2 := Bool.eq_false_iff.mpr h2
  refine zb fun K kk hK => ?_
  simp only [go_sem, h2]
  (repeat refine sd ?_)
  refine hK _ _ fun nx => ?_; clear hK K; try clear kk
  by_cases h3 : (decide ((k_5.length : Int) > (20 : Int))) = true
  ·rw [if_pos h3] at hh
   refine zn (by first | exact congrArg PV.bool h3 | rfl) ?_
   refine zb fun K kk hK => ?_
   simp only [go_sem]
   refine hK _ _ fun nx => ?_; clear hK K; try clear kk
   refine zi ?_; refine nmx ?_
   obtain hR := Option.some.inj hh
   subst hR
   exact zy
  ·rw [if_neg h3] at hh
   replace h3 := Bool.eq_false_iff.mpr h3
   refine zh (by first | exact congrArg PV.bool h3 | rfl) ?_
   refine zx ?_; refine nmx ?_
   obtain ⟨agS, h4, hh⟩ := zf hh
   refine zb fun K kk hK => ?_
   simp only [go_sem]
   refine ze (KE _ _ h4) (by (try simp only [go_sem]) <;> exact wkl) (by rfl) (by rfl) ?_
   simp only [go_sem]
   refine hK _ _ fun nx => ?_; clear hK K; try clear kk
   obtain ⟨aeA, h5, hh⟩ := zf hh
   refine zb fun K kk hK => ?_
   simp only [go_sem]
   refine ze (aab _ _ _ _ _ _ h5) (by (try simp only [go_sem]) <;> exact wkl) (by rfl) (by rfl) ?_
   simp only [go_sem]
   refine hK _ _ fun nx => ?_; clear hK K; try clear kk
   obtain ⟨⟨r_9, QU⟩, h6, hh⟩ := zf hh
   dsimp only at hh
   refine zb fun K kk hK => ?_
   simp only [go_sem]
   refine ze (yl _ _ _ h6) (by (try simp only [go_sem]) <;> exact wkl) (by rfl) (by rfl) ?_
   simp only [go_sem]
   refine hK _ _ fun nx => ?_; clear hK K; try clear kk
   obtain ⟨⟨Js, QX⟩, h7, hh⟩ := zf hh
   dsimp only at hh
   refine zb fun K kk hK => ?_
   simp only [go_sem]
   refine ze (aki _ _ _ h7) (by (try simp only [go_sem]) <;> exact wkl) (by rfl) (by rfl) ?_
   simp only [go_sem]
   refine hK _ _ fun nx => ?_; clear hK K; try clear kk
   refine zm ?_
   refine zb fun K kk hK => ?_
   simp only [go_sem]
   refine hK _ _ fun nx => ?_; clear hK K; try clear kk
   by_cases h8 : (QU != (0 : Int)) = true
   ·rw [if_pos h8] at hh
    refine zn (by first | exact congrArg PV.bool h8 | rfl) ?_
    by_cases h9 : (QU == QX) = true
    ·rw [if_pos h9] at hh
     by_cases h10 : (r_9.Kind == ([] : Str)) = true
     ·rw [if_pos h10] at hh
      refine zb fun K kk hK => ?_
      simp only [go_sem, h9, h10]
      (repeat refine sd ?_)
      refine hK _ _ fun nx => ?_; clear hK K; try clear kk
      refine zi ?_; refine nmx ?_
      obtain hR := Option.some.inj hh
      subst hR
      exact zy
     ·rw [if_neg h10] at hh
      replace h10 := Bool.eq_false_iff.mpr h10
      refine zb fun K kk hK => ?_
      simp only [go_sem, h9, h10]
      (repeat refine sd ?_)
      refine hK _ _ fun nx => ?_; clear hK K; try clear kk
      refine zi ?_; refine nmx ?_
      obtain hR := Option.some.inj hh
      subst hR
      exact zy
    ·rw [if_neg h9] at hh
     replace h9 := Bool.eq_false_iff.mpr h9
     refine zb fun K kk hK => ?_
     simp only [go_sem, h9]
     (repeat refine sd ?_)
     refine hK _ _ fun nx => ?_; clear hK K; try clear kk
     refine zi ?_; refine nmx ?_
     obtain hR := Option.some.inj hh
     subst hR
     exact zy
   ·rw [if_neg h8] at hh
    replace h8 := Bool.eq_false_iff.mpr h8
    refine zh (by first | exact congrArg PV.bool h8 | rfl) ?_
    refine zx ?_; refine nmx ?_
    obtain ⟨⟨JL, aeI⟩, h11, hh⟩ := zf hh
    dsimp only at hh
    refine zb fun K kk hK => ?_
    simp only [go_sem]
    refine ze (ama _ _ _ h11) (by (try simp only [go_sem]) <;> exact wkl) (by rfl) (by rfl) ?_
    simp only [go_sem]
    refine hK _ _ fun nx => ?_; clear hK K; try clear kk
    by_cases h12 : (QX == (0 : Int)) = true
    ·rw [if_pos h12] at hh
     by_cases h13 : (aeI == (0 : Int)) = true
     ·rw [if_pos h13] at hh
      obtain ⟨alg, h14, hh⟩ := zf hh
      by_cases h15 : (alg) = true
      ·rw [if_pos h15] at hh
       obtain ⟨ali, h16, hh⟩ := zf hh
       obtain ⟨aly, h17, hh⟩ := zf hh
       obtain ⟨aml, h18, hh⟩ := zf hh
       obtain ⟨aih, h19, hh⟩ := zf hh
       by_cases h20 : (ali == (w64 (aly + aih))) = true
       ·rw [if_pos h20] at hh
        by_cases h21 : (aeA.Kind == (114 : Int)) = true
        ·rw [if_pos h21] at hh
         obtain ⟨anc, h22, hh⟩ := zf hh
         refine zb fun K kk hK => ?_
         simp only [go_sem, h12, h13, h15, h20, h21]
         (repeat refine sd ?_)
         refine ze (Qt _ _ _ h14) (by (try simp only [go_sem, h12, h13, h15, h20, h21]) <;> exact wkl) (by rfl) (by rfl) ?_
         simp only [go_sem, h12, h13, h15, h20, h21]
         (repeat refine sd ?_)
         refine ze (ky _ _ h16) (by (try simp only [go_sem, h12, h13, h15, h20, h21]) <;> exact wkl) (by rfl) (by rfl) ?_
         simp only [go_sem, h12, h13, h15, h20, h21]
         (repeat refine sd ?_)
         refine ze (ky _ _ h17) (by (try simp only [go_sem, h12, h13, h15, h20, h21]) <;> exact wkl) (by rfl) (by rfl) ?_
         simp only [go_sem, h12, h13, h15, h20, h21]
         (repeat refine sd ?_)
         refine ze (WQ _ _ h18) (by (try simp only [go_sem, h12, h13, h15, h20, h21]) <;> exact wkl) (by rfl) (by rfl) ?_
         simp only [go_sem, h12, h13, h15, h20, h21]
         (repeat refine sd ?_)
         refine ze (WO _ _ h19) (by (try simp only [go_sem, h12, h13, h15, h20, h21]) <;> exact wkl) (by rfl) (by rfl) ?_
         simp only [go_sem, h12, h13, h15, h20, h21]
         (repeat refine sd ?_)
         refine ze (WJ _ _ h22) (by (try simp only [go_sem, h12, h13, h15, h20, h21]) <;> exact wkl) (by rfl) (by rfl) ?_
         simp only [go_sem, h12, h13, h15, h20, h21]
         (repeat refine sd ?_)
         refine hK _ _ fun nx => ?_; clear hK K; try clear kk
         refine zi ?_; refine nmx ?_
         obtain hR := Option.some.inj hh
         subst hR
         exact zy
        ·rw [if_neg h21] at hh
         replace h21 := Bool.eq_false_iff.mpr h21
         obtain ⟨agF, h23, hh⟩ := zf hh
         obtain ⟨ahh, h24, hh⟩ := zf hh
         by_cases h25 : (agF == ahh) = true
         ·rw [if_pos h25] at hh
          obtain ⟨amo, h26, hh⟩ := zf hh
          refine zb fun K kk hK => ?_
          simp only [go_sem, h12, h13, h15, h20, h21, h25]
          (repeat refine sd ?_)
          refine ze (Qt _ _ _ h14) (by (try simp only [go_sem, h12, h13, h15, h20, h21, h25]) <;> exact wkl) (by rfl) (by rfl) ?_
          simp only [go_sem, h12, h13, h15, h20, h21, h25]
          (repeat refine sd ?_)
          refine ze (ky _ _ h16) (by (try simp only [go_sem, h12, h13, h15, h20, h21, h25]) <;> exact wkl) (by rfl) (by rfl) ?_
          simp only [go_sem, h12, h13, h15, h20, h21, h25]
          (repeat refine sd ?_)
          refine ze (ky _ _ h17) (by (try simp only [go_sem, h12, h13, h15, h20, h21, h25]) <;> exact wkl) (by rfl) (by rfl) ?_
          simp only [go_sem, h12, h13, h15, h20, h21, h25]
          (repeat refine sd ?_)
          refine ze (WQ _ _ h18) (by (try simp only [go_sem, h12, h13, h15, h20, h21, h25]) <;> exact wkl) (by rfl) (by rfl) ?_
          simp only [go_sem, h12, h13, h15, h20, h21, h25]
          (repeat refine sd ?_)
          refine ze (WO _ _ h19) (by (try simp only [go_sem, h12, h13, h15, h20, h21, h25]) <;> exact wkl) (by rfl) (by rfl) ?_
          simp only [go_sem, h12, h13, h15, h20, h21, h25]
          (repeat refine sd ?_)
          refine ze (WL _ _ h23) (by (try simp only [go_sem, h12, h13, h15, h20, h21, h25]) <;> exact wkl) (by rfl) (by rfl) ?_
          simp only [go_sem, h12, h13, h15, h20, h21, h25]
          (repeat refine sd ?_)
          refine ze (WL _ _ h24) (by (try simp only [go_sem, h12, h13, h15, h20, h21, h25]) <;> exact wkl) (by rfl) (by rfl) ?_
          simp only [go_sem, h12, h13, h15, h20, h21, h25]
          (repeat refine sd ?_)
          refine ze (WJ _ _ h26) (by (try simp only [go_sem, h12, h13, h15, h20, h21, h25]) <;> exact wkl) (by rfl) (by rfl) ?_
          simp only [go_sem, h12, h13, h15, h20, h21, h25]
          (repeat refine sd ?_)
          refine hK _ _ fun nx => ?_; clear hK K; try clear kk
          refine zi ?_; refine nmx ?_
          obtain hR := Option.some.inj hh
          subst hR
          exact zy
         ·rw [if_neg h25] at hh
          replace h25 := Bool.eq_false_iff.mpr h25
          refine zb fun K kk hK => ?_
          simp only [go_sem, h12, h13, h15, h20, h21, h25]
          (repeat refine sd ?_)
          refine ze (Qt _ _ _ h14) (by (try simp only [go_sem, h12, h13, h15, h20, h21, h25]) <;> exact wkl) (by rfl) (by rfl) ?_
          simp only [go_sem, h12, h13, h15, h20, h21, h25]
          (repeat refine sd ?_)
          refine ze (ky _ _ h16) (by (try simp only [go_sem, h12, h13, h15, h20, h21, h25]) <;> exact wkl) (by rfl) (by rfl) ?_
          simp only [go_sem, h12, h13, h15, h20, h21, h25]
          (repeat refine sd ?_)
          refine ze (ky _ _ h17) (by (try simp only [go_sem, h12, h13, h15, h20, h21, h25]) <;> exact wkl) (by rfl) (by rfl) ?_
          simp only [go_sem, h12, h13, h15, h20, h21, h25]
          (repeat refine sd ?_)
          refine ze (WQ _ _ h18) (by (try simp only [go_sem, h12, h13, h15, h20, h21, h25]) <;> exact wkl) (by rfl) (by rfl) ?_
          simp only [go_sem, h12, h13, h15, h20, h21, h25]
          (repeat refine sd ?_)
          refine ze (WO _ _ h19) (by (try simp only [go_sem, h12, h13, h15, h20, h21, h25]) <;> exact wkl) (by rfl) (by rfl) ?_
          simp only [go_sem, h12, h13, h15, h20, h21, h25]
          (repeat refine sd ?_)
          refine ze (WL _ _ h23) (by (try simp only [go_sem, h12, h13, h15, h20, h21, h25]) <;> exact wkl) (by rfl) (by rfl) ?_
          simp only [go_sem, h12, h13, h15, h20, h21, h25]
          (repeat refine sd ?_)
          refine ze (WL _ _ h24) (by (try simp only [go_sem, h12, h13, h15, h20, h21, h25]) <;> exact wkl) (by rfl) (by rfl) ?_
          simp only [go_sem, h12, h13, h15, h20, h21, h25]
          (repeat refine sd ?_)
          refine hK _ _ fun nx => ?_; clear hK K; try clear kk
          refine zi ?_; refine nmx ?_
          obtain hR := Option.some.inj hh
          subst hR
          exact zy
       ·rw [if_neg h20] at hh
        replace h20 := Bool.eq_false_iff.mpr h20
        refine zb fun K kk hK => ?_
        simp only [go_sem, h12, h13, h15, h20]
        (repeat refine sd ?_)
        refine ze (Qt _ _ _ h14) (by (try simp only [go_sem, h12, h13, h15, h20]) <;> exact wkl) (by rfl) (by rfl) ?_
        simp only [go_sem, h12, h13, h15, h20]
        (repeat refine sd ?_)
        refine ze (ky _ _ h16) (by (try simp only [go_sem, h12, h13, h15, h20]) <;> exact wkl) (by rfl) (by rfl) ?_
        simp only [go_sem, h12, h13, h15, h20]
        (repeat refine sd ?_)
        refine ze (ky _ _ h17) (by (try simp only [go_sem, h12, h13, h15, h20]) <;> exact wkl) (by rfl) (by rfl) ?_
        simp only [go_sem, h12, h13, h15, h20]
        (repeat refine sd ?_)
        refine ze (WQ _ _ h18) (by (try simp only [go_sem, h12, h13, h15, h20]) <;> exact wkl) (by rfl) (by rfl) ?_
        simp only [go_sem, h12, h13, h15, h20]
        (repeat refine sd ?_)
        refine ze (WO _ _ h19) (by (try simp only [go_sem, h12, h13, h15, h20]) <;> exact wkl) (by rfl) (by rfl) ?_
        simp only [go_sem, h12, h13, h15, h20]
        (repeat refine sd ?_)
        refine hK _ _ fun nx => ?_; clear hK K; try clear kk
        refine zi ?_; refine nmx ?_
        obtain hR := Option.some.inj hh
        subst hR
        exact zy
      ·rw [if_neg h15] at hh
       replace h15 := Bool.eq_false_iff.mpr h15
       refine zb fun K kk hK => ?_
       simp only [go_sem, h12, h13, h15]
       (repeat refine sd ?_)
       refine ze (Qt _ _ _ h14) (by (try simp only [go_sem, h12, h13, h15]) <;> exact wkl) (by rfl) (by rfl) ?_
       simp only [go_sem, h12, h13, h15]
       (repeat refine sd ?_)
       refine hK _ _ fun nx => ?_; clear hK K; try clear kk
       refine zi ?_; refine nmx ?_
       obtain hR := Option.some.inj hh
       subst hR
       exact zy
     ·rw [if_neg h13] at hh
      replace h13 := Bool.eq_false_iff.mpr h13
      refine zb fun K kk hK => ?_
      simp only [go_sem, h12, h13]
      (repeat refine sd ?_)
      refine hK _ _ fun nx => ?_; clear hK K; try clear kk
      refine zi ?_; refine nmx ?_
      obtain hR := Option.some.inj hh
      subst hR
      exact zy
    ·rw [if_neg h12] at hh
     replace h12 := Bool.eq_false_iff.mpr h12
     refine zb fun K kk hK => ?_
     simp only [go_sem, h12]
     (repeat refine sd ?_)
     refine hK _ _ fun nx => ?_; clear hK K; try clear kk
     refine zi ?_; refine nmx ?_
     obtain hR := Option.some.inj hh
     subst hR
     exact zy
end Go.Proofs.YtclohbgnaopjfaaDoor
