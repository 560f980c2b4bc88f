/- Texts of the proof of stepThroughCard -/
import Derived.Test.YtclohbgnaopjfaaDoorAgC
import Derived.Test.YtclohbgnaopjfaaDoorAgF
import Derived.Test.YtclohbgnaopjfaaDoorAgK0
import Derived.Test.YtclohbgnaopjfaaDoorAgK5
import Derived.Test.YtclohbgnaopjfaaDoorAgK6
import Derived.Test.YtclohbgnaopjfaaDoorAgK7
namespace Go.Proofs.YtclohbgnaopjfaaDoor
set_option linter.unusedSimpArgs false
set_option linter.unusedVariables false
open Go
set_option maxRecDepth 100000
theorem Qw (s_1 : (List zg)) (zH : zz) (R : (Int × zz)) (hh : vC s_1 zH = some R) : BC Tryd.prog 90 [.list 3 (s_1.map zg.pv), .fn 59 [.box 1000 0 0]] [.var 39 [.int .u8 zH.Kind, .int .i64 zH.From, .int .i64 zH.To, .list 5 (zH.qK.map za.pv), .str zH.Name, .str zH.Value]] (.int .i64 R.1) [.var 39 [.int .u8 R.2.Kind, .int .i64 R.2.From, .int .i64 R.2.To, .list 5 (R.2.qK.map za.pv), .str R.2.Name, .str R.2.Value]] := by
  rw [vC] at hh
  refine Zb rfl rfl rfl ?_
  refine zb fun K kk hK => ?_
  simp only [go_sem]
  refine hK _ _ fun nx => ?_; clear hK K; try clear kk
  refine zm ?_
  refine zb fun K kk hK => ?_
  simp only [go_sem]
  refine hK _ _ fun nx => ?_; clear hK K; try clear kk
  obtain ⟨e0, f0, hh⟩ := ze hh
  obtain ⟨hlen0, f0⟩ := qa f0
  refine qx (wS (fun s => .inr () = e0 ∧ ∃ (yY : Int) (Zx : Bool) (nx : Nat), s = ⟨[(0, .list 3 (s_1.map zg.pv)), (1, .fn 59 [.box 1000 0 0]), (7, .int .i64 (s_1.length : Int)), (8, .int .i64 yY), (9, .bool Zx)], [(1000, 0, .var 39 [.int .u8 zH.Kind, .int .i64 zH.From, .int .i64 zH.To, .list 5 (zH.qK.map za.pv), .str zH.Name, .str zH.Value])], nx⟩))
    (fun i s => False)
    (fun s => ∃ qf, .inl qf = e0 ∧ zS Tryd.prog [.tmp 4] (.int .i64 qf.1) [.var 39 [.int .u8 qf.2.Kind, .int .i64 qf.2.From, .int .i64 qf.2.To, .list 5 (qf.2.qK.map za.pv), .str qf.2.Name, .str qf.2.Value]] .ret s) ?_ ?_ ?_ ?_
  · refine zC ?_
    refine qo fun I hI => ?_
    have key : ∀ (suf pre : List zg) (v_5 : Int), s_1 = pre ++ suf → v_5 = (pre.length : Int) → qJ zH suf v_5 = some e0 → ∀ (nx : Nat), I ⟨[(0, .list 3 (s_1.map zg.pv)), (1, .fn 59 [.box 1000 0 0]), (7, .int .i64 (s_1.length : Int)), (8, .int .i64 v_5)], [(1000, 0, .var 39 [.int .u8 zH.Kind, .int .i64 zH.From, .int .i64 zH.To, .list 5 (zH.qK.map za.pv), .str zH.Name, .str zH.Value])], nx⟩ := by
      intro suf
      induction suf with
      | nil =>
        intro pre v_5 hsplit hidx hh nx
        rw [qJ] at hh
        refine hI _ ?_
        have h9 := walk_nil hsplit hidx
        refine zb fun K kk hK => ?_
        simp only [go_sem]
        refine hK _ _ fun nx => ?_; clear hK K; try clear kk
        refine zm ?_
        refine zi (by first | exact congrArg PV.bool h9 | rfl) ?_
        refine zZ ?_; refine nmx ?_
        refine kg ?_
        refine zJ ?_
        refine ⟨(Option.some.inj hh), ?_⟩
        first | exact ⟨_, _, _, rfl⟩ | (simp only [pvE, lsE, zo]; exact ⟨_, _, _, rfl⟩) | (simp only [pvE, lsE, zo, h9]; exact ⟨_, _, _, rfl⟩)
      | cons y_8 suf ih =>
        intro pre v_5 hsplit hidx hh nx
        rw [qJ] at hh
        refine hI _ ?_
        obtain ⟨hl0a, hl0b, hl0d, hl0w, h9⟩ := qD (f := zg.pv) hsplit hidx hlen0
        refine zb fun K kk hK => ?_
        simp only [go_sem]
        refine hK _ _ fun nx => ?_; clear hK K; try clear kk
        refine zm ?_
        refine zn (by first | exact congrArg PV.bool h9 | rfl) ?_
        refine zt ?_; refine nmx ?_
        refine zm ?_
        refine zC ?_
        refine zb fun K kk hK => ?_
        simp only [go_sem, hl0a, hl0b, hl0d, hl0w]
        refine hK _ _ fun nx => ?_; clear hK K; try clear kk
        obtain ⟨ams, h10, hh⟩ := ze hh
        refine zb fun K kk hK => ?_
        simp only [go_sem, hl0a, hl0b, hl0d, hl0w]
        refine xc [1000] (by decide) (aab _ _ _ h10) (by (try simp only [go_sem, hl0a, hl0b, hl0d, hl0w, h9]) <;> exact wkb) (by rfl) ?_
        simp only [go_sem, hl0a, hl0b, hl0d, hl0w]
        refine hK _ _ fun nx => ?_; clear hK K; try clear kk
        by_cases h11 : (ams) = true
        · rw [if_pos h11] at hh
          refine zn (by first | exact congrArg PV.bool h11 | rfl) ?_
          refine zb fun K kk hK => ?_
          simp only [go_sem, hl0a, hl0b, hl0d, hl0w]
          refine hK _ _ fun nx => ?_; clear hK K; try clear kk
          refine zk ?_; refine nmx ?_
          refine xZ ⟨_, (Option.some.inj hh), ?_⟩
          refine ku ?_ (by rfl) ?_
          · simp only [go_sem, qV, jf, wP, kM, yl, List.map_cons, List.map_append, List.head?_cons, h11, h9]
            all_goals exact wkw
          · (try simp only [go_sem, h11, h9]); (try simp only [List.length_append, List.map_append]); all_goals exact wkb
        · rw [if_neg h11] at hh
          replace h11 := Bool.eq_false_iff.mpr h11
          refine zi (by first | exact congrArg PV.bool h11 | rfl) ?_
          refine zt ?_; refine nmx ?_
          refine zq fun K kk hK => ?_
          simp only [go_sem, hl0a, hl0b, hl0d, hl0w]
          refine hK _ _ fun nx => ?_; clear hK K; try clear kk
          refine nmx ?_
          have ih' := ih (pre ++ [y_8]) (v_5 + 1) (by rw [hsplit]; simp) (by simp [hidx]) hh nx
          refine zJ ?_
          first | exact ih' | (simp only [pvE, lsE, zo] at ih' ⊢; exact ih') | (simp only [pvE, lsE, zo, h11, h9] at ih' ⊢; exact ih')
    exact key s_1 [] _ rfl rfl f0 _
  · rintro s ⟨t, hless, rfl, yY, Zx, nx, rfl⟩
    try dsimp only at hh
    refine nmy ?_
    first | (refine qR hless ?_; try refine wT ?_) | refine qC hless ?_ | refine qE hless ?_
    refine zb fun K kk hK => ?_
    simp only [go_sem]
    refine hK _ _ fun nx => ?_; clear hK K; try clear kk
    refine zk ?_; refine nmx ?_
    obtain hR := Option.some.inj hh
    subst hR
    refine ku ?_ (by rfl) ?_
    · simp only [go_sem, qV, jf, wP, kM, yl, List.map_cons, List.map_append, List.head?_cons]
      all_goals exact wkw
    · (try simp only [go_sem]); (try simp only [List.length_append, List.map_append]); all_goals exact wkb
  · intro i s h; exact h.elim
  · rintro s ⟨qf, rfl, hb⟩
    try dsimp only at hh
    obtain hR := Option.some.inj hh
    subst hR
    refine nmx ?_
    exact hb
theorem je (s_1 : (List zg)) (zH : zz) (R : (Bool × zz)) (hh : kI s_1 zH = some R) : BC Tryd.prog 60 [.list 3 (s_1.map zg.pv), .fn 59 [.box 1000 0 0]] [.var 39 [.int .u8 zH.Kind, .int .i64 zH.From, .int .i64 zH.To, .list 5 (zH.qK.map za.pv), .str zH.Name, .str zH.Value]] (.bool R.1) [.var 39 [.int .u8 R.2.Kind, .int .i64 R.2.From, .int .i64 R.2.To, .list 5 (R.2.qK.map za.pv), .str R.2.Name, .str R.2.Value]] := by
  rw [kI] at hh
  refine yx rfl rfl rfl ?_
  refine zb fun K kk hK => ?_
  simp only [go_sem]
  refine hK _ _ fun nx => ?_; clear hK K; try clear kk
  obtain ⟨⟨r_3, aql⟩, h1, hh⟩ := ze hh
  dsimp only at hh
  refine zb fun K kk hK => ?_
  simp only [go_sem]
  refine xc [1000] (by decide) (Qw _ _ _ h1) (by (try simp only [go_sem]) <;> exact wkb) (by rfl) ?_
  simp only [go_sem]
  refine hK _ _ fun nx => ?_; clear hK K; try clear kk
  refine zk ?_; refine nmx ?_
  obtain hR := Option.some.inj hh
  subst hR
  refine ku ?_ (by rfl) ?_
  · simp only [go_sem, qV, jf, wP, kM, yl, List.map_cons, List.map_append, List.head?_cons]
    all_goals exact wkw
  · (try simp only [go_sem]); (try simp only [List.length_append, List.map_append]); all_goals exact wkb
theorem Qx (r_1 : zg) (R : Int) (hh : jy r_1 = some R) : PC Tryd.prog 91 [.agg [.int .i64 r_1.Pos, .int .i64 r_1.Old, .int .i64 r_1.New]] (.int .i64 R) := by
 rw [jy] at hh
 refine Ye rfl ?_
 refine zb fun K kk hK => ?_
 simp only [go_sem]
 refine hK _ _ fun nx => ?_; clear hK K; try clear kk
 refine zb fun K kk hK => ?_
 simp only [go_sem]
 refine hK _ _ fun nx => ?_; clear hK K; try clear kk
 refine zk ?_; refine nmx ?_
 obtain hR := Option.some.inj hh
 subst hR
 exact zy
theorem ajN (m_1 : (List zg)) (wC : Int) (R : Bool) (hh : adQ m_1 wC = some R) : PC Tryd.prog 61 [.list 3 (m_1.map zg.pv), .int .i64 wC] (.bool R) := by
  rw [adQ] at hh
  refine ae6 rfl ?_
  refine zb fun K kk hK => ?_
  simp only [go_sem]
  refine hK _ _ fun nx => ?_; clear hK K; try clear kk
  refine zm ?_
  refine zb fun K kk hK => ?_
  simp only [go_sem]
  refine hK _ _ fun nx => ?_; clear hK K; try clear kk
  obtain ⟨e0, f0, hh⟩ := ze hh
  obtain ⟨hlen0, f0⟩ := qa f0
  refine qx (wS (fun s => .inr () = e0 ∧ ∃ (yY : Int) (Zx : Bool) (nx : Nat), s = ⟨[(1, .int .i64 wC), (7, .list 3 (m_1.map zg.pv)), (8, .int .i64 (m_1.length : Int)), (9, .int .i64 yY), (10, .bool Zx)], [], nx⟩))
    (fun i s => False)
    (fun s => ∃ qf, .inl qf = e0 ∧ zS Tryd.prog [.tmp 4] (.bool qf) [] .ret s) ?_ ?_ ?_ ?_
  · refine zC ?_
    refine qo fun I hI => ?_
    have key : ∀ (suf pre : List zg) (v_5 : Int), m_1 = pre ++ suf → v_5 = (pre.length : Int) → yE wC suf v_5 = some e0 → ∀ (nx : Nat), I ⟨[(1, .int .i64 wC), (7, .list 3 (m_1.map zg.pv)), (8, .int .i64 (m_1.length : Int)), (9, .int .i64 v_5)], [], nx⟩ := by
      intro suf
      induction suf with
      | nil =>
        intro pre v_5 hsplit hidx hh nx
        rw [yE] at hh
        refine hI _ ?_
        have h11 := walk_nil hsplit hidx
        refine zb fun K kk hK => ?_
        simp only [go_sem]
        refine hK _ _ fun nx => ?_; clear hK K; try clear kk
        refine zm ?_
        refine zi (by first | exact congrArg PV.bool h11 | rfl) ?_
        refine zZ ?_; refine nmx ?_
        refine kg ?_
        refine zJ ?_
        refine ⟨(Option.some.inj hh), ?_⟩
        first | exact ⟨_, _, _, rfl⟩ | (simp only [pvE, lsE, zo]; exact ⟨_, _, _, rfl⟩) | (simp only [pvE, lsE, zo, h11]; exact ⟨_, _, _, rfl⟩)
      | cons y_8 suf ih =>
        intro pre v_5 hsplit hidx hh nx
        rw [yE] at hh
        refine hI _ ?_
        obtain ⟨hl0a, hl0b, hl0d, hl0w, h11⟩ := qD (f := zg.pv) hsplit hidx hlen0
        refine zb fun K kk hK => ?_
        simp only [go_sem]
        refine hK _ _ fun nx => ?_; clear hK K; try clear kk
        refine zm ?_
        refine zn (by first | exact congrArg PV.bool h11 | rfl) ?_
        refine zt ?_; refine nmx ?_
        refine zm ?_
        refine zC ?_
        refine zb fun K kk hK => ?_
        simp only [go_sem, hl0a, hl0b, hl0d, hl0w]
        refine hK _ _ fun nx => ?_; clear hK K; try clear kk
        by_cases h12 : (decide (y_8.Pos < wC)) = true
        · rw [if_pos h12] at hh
          obtain ⟨ap1, h13, hh⟩ := ze hh
          refine zb fun K kk hK => ?_
          simp only [go_sem, h12, of_decide_eq_true h12, hl0a, hl0b, hl0d, hl0w]
          (repeat refine sd ?_)
          refine zf (Qx _ _ h13) (by (try simp only [go_sem, h12, of_decide_eq_true h12, hl0a, hl0b, hl0d, hl0w]) <;> exact wkl) (by rfl) (by rfl) ?_
          simp only [go_sem, h12, of_decide_eq_true h12, hl0a, hl0b, hl0d, hl0w]
          (repeat refine sd ?_)
          refine hK _ _ fun nx => ?_; clear hK K; try clear kk
          by_cases h14 : (decide (wC < ap1)) = true
          · rw [if_pos h14] at hh
            refine zn (by first | exact congrArg PV.bool h14 | rfl) ?_
            refine zb fun K kk hK => ?_
            simp only [go_sem, hl0a, hl0b, hl0d, hl0w]
            refine hK _ _ fun nx => ?_; clear hK K; try clear kk
            refine zk ?_; refine nmx ?_
            refine xZ ⟨_, (Option.some.inj hh), ?_⟩
            exact zy
          · rw [if_neg h14] at hh
            replace h14 := Bool.eq_false_iff.mpr h14
            refine zi (by first | exact congrArg PV.bool h14 | rfl) ?_
            refine zt ?_; refine nmx ?_
            refine zq fun K kk hK => ?_
            simp only [go_sem, hl0a, hl0b, hl0d, hl0w]
            refine hK _ _ fun nx => ?_; clear hK K; try clear kk
            refine nmx ?_
            have ih' := ih (pre ++ [y_8]) (v_5 + 1) (by rw [hsplit]; simp) (by simp [hidx]) hh nx
            refine zJ ?_
            first | exact ih' | (simp only [pvE, lsE, zo] at ih' ⊢; exact ih') | (simp only [pvE, lsE, zo, h11, h12, h14] at ih' ⊢; exact ih')
        · rw [if_neg h12] at hh
          replace h12 := Bool.eq_false_iff.mpr h12
          refine zb fun K kk hK => ?_
          simp only [go_sem, h12, of_decide_eq_false h12, hl0a, hl0b, hl0d, hl0w]
          (repeat refine sd ?_)
          refine hK _ _ fun nx => ?_; clear hK K; try clear kk
          refine zi rfl ?_
          refine zt ?_; refine nmx ?_
          refine zq fun K kk hK => ?_
          simp only [go_sem, hl0a, hl0b, hl0d, hl0w]
          refine hK _ _ fun nx => ?_; clear hK K; try clear kk
          refine nmx ?_
          have ih' := ih (pre ++ [y_8]) (v_5 + 1) (by rw [hsplit]; simp) (by simp [hidx]) hh nx
          refine zJ ?_
          first | exact ih' | (simp only [pvE, lsE, zo] at ih' ⊢; exact ih') | (simp only [pvE, lsE, zo, h11, h12] at ih' ⊢; exact ih')
    exact key m_1 [] _ rfl rfl f0 _
  · rintro s ⟨t, hless, rfl, yY, Zx, nx, rfl⟩
    try dsimp only at hh
    refine nmy ?_
    first | (refine qR hless ?_; try refine wT ?_) | refine qC hless ?_ | refine qE hless ?_
    refine zb fun K kk hK => ?_
    simp only [go_sem]
    refine hK _ _ fun nx => ?_; clear hK K; try clear kk
    refine zk ?_; refine nmx ?_
    obtain hR := Option.some.inj hh
    subst hR
    exact zy
  · intro i s h; exact h.elim
  · rintro s ⟨qf, rfl, hb⟩
    try dsimp only at hh
    obtain hR := Option.some.inj hh
    subst hR
    refine nmx ?_
    exact hb
theorem abl (r_1 : zg) (wC : Int) (vg : Bool) (R : Bool) (hh : WM r_1 wC vg = some R) : PC Tryd.prog 92 [.agg [.int .i64 r_1.Pos, .int .i64 r_1.Old, .int .i64 r_1.New], .int .i64 wC, .bool vg] (.bool R) := by
  rw [WM] at hh
  refine XC rfl ?_
  refine zb fun K kk hK => ?_
  simp only [go_sem]
  refine hK _ _ fun nx => ?_; clear hK K; try clear kk
  refine zm ?_
  refine zC ?_
  refine zb fun K kk hK => ?_
  simp only [go_sem]
  refine hK _ _ fun nx => ?_; clear hK K; try clear kk
  by_cases h1 : (r_1.Old == (0 : Int)) = true
  · rw [if_pos h1] at hh
    refine zn (by first | exact congrArg PV.bool h1 | rfl) ?_
    refine zb fun K kk hK => ?_
    simp only [go_sem]
    refine hK _ _ fun nx => ?_; clear hK K; try clear kk
    refine zk ?_; refine nmx ?_
    obtain hR := Option.some.inj hh
    subst hR
    exact zy
  · rw [if_neg h1] at hh
    replace h1 := Bool.eq_false_iff.mpr h1
    refine zi (by first | exact congrArg PV.bool h1 | rfl) ?_
    refine zb fun K kk hK => ?_
    simp only [go_sem]
    refine hK _ _ fun nx => ?_; clear hK K; try clear kk
    by_cases h2 : (wC == r_1.Pos) = true
    · rw [if_pos h2] at hh
      refine zn (by first | exact congrArg PV.bool h2 | rfl) ?_
      refine zb fun K kk hK => ?_
      simp only [go_sem]
      refine hK _ _ fun nx => ?_; clear hK K; try clear kk
      refine zk ?_; refine nmx ?_
      obtain hR := Option.some.inj hh
      subst hR
      exact zy
    · rw [if_neg h2] at hh
      replace h2 := Bool.eq_false_iff.mpr h2
      refine zi (by first | exact congrArg PV.bool h2 | rfl) ?_
      refine zt ?_; refine nmx ?_
      by_cases h3 : (vg) = true
      · rw [if_pos h3] at hh
        refine zb fun K kk hK => ?_
        simp only [go_sem, h3]
        (repeat refine sd ?_)
        refine hK _ _ fun nx => ?_; clear hK K; try clear kk
        refine zk ?_; refine nmx ?_
        obtain hR := Option.some.inj hh
        subst hR
        exact zy
      · rw [if_neg h3] at hh
        replace h3 := Bool.eq_false_iff.mpr h3
        obtain ⟨as4, h4, hh⟩ := ze hh
        refine zb fun K kk hK => ?_
        simp only [go_sem, h3]
        (repeat refine sd ?_)
        refine zf (Qx _ _ h4) (by (try simp only [go_sem, h3]) <;> exact wkl) (by rfl) (by rfl) ?_
        simp only [go_sem, h3]
        (repeat refine sd ?_)
        refine hK _ _ fun nx => ?_; clear hK K; try clear kk
        refine zk ?_; refine nmx ?_
        obtain hR := Option.some.inj hh
        subst hR
        exact zy
theorem abB (m_1 : (List zg)) (wC : Int) (vg : Bool) (R : Int) (hh : J4 m_1 wC vg = some R) : PC Tryd.prog 62 [.list 3 (m_1.map zg.pv), .int .i64 wC, .bool vg] (.int .i64 R) := by
  rw [J4] at hh
  refine ahQ rfl ?_
  refine zb fun K kk hK => ?_
  simp only [go_sem]
  refine hK _ _ fun nx => ?_; clear hK K; try clear kk
  refine aie ?_
  refine zb fun K kk hK => ?_
  simp only [go_sem]
  refine hK _ _ fun nx => ?_; clear hK K; try clear kk
  refine zm ?_
  refine aiR ?_; refine nmx ?_
  refine zm ?_
  refine zb fun K kk hK => ?_
  simp only [go_sem]
  refine hK _ _ fun nx => ?_; clear hK K; try clear kk
  obtain ⟨e0, f0, hh⟩ := ze hh
  obtain ⟨hlen0, f0⟩ := qa f0
  refine qx (wS (fun s => ∃ YF, .inr YF = e0 ∧ ∃ (nx : Nat), s = ⟨[(1, .int .i64 wC), (2, .bool vg), (7, .int .i64 YF)], [], nx⟩))
    (fun i s => False)
    (fun s => ∃ ahj, .inl ahj = e0 ∧ zS Tryd.prog [.tmp 6] (.int .i64 ahj) [] .ret s) ?_ ?_ ?_ ?_
  · refine zC ?_
    refine qo fun I hI => ?_
    have key : ∀ (suf pre : List zg) (v_8 : Int) (Qb : Int), m_1 = pre ++ suf → v_8 = (pre.length : Int) → ZA wC vg suf v_8 Qb = some e0 → ∀ (nx : Nat), I ⟨[(1, .int .i64 wC), (2, .bool vg), (7, .int .i64 Qb), (10, .list 3 (m_1.map zg.pv)), (11, .int .i64 (m_1.length : Int)), (12, .int .i64 v_8)], [], nx⟩ := by
      intro suf
      induction suf with
      | nil =>
        intro pre v_8 Qb hsplit hidx hh nx
        rw [ZA] at hh
        refine hI _ ?_
        have h15 := walk_nil hsplit hidx
        refine zb fun K kk hK => ?_
        simp only [go_sem]
        refine hK _ _ fun nx => ?_; clear hK K; try clear kk
        refine zm ?_
        refine zi (by first | exact congrArg PV.bool h15 | rfl) ?_
        refine zZ ?_; refine nmx ?_
        refine kg ?_
        refine akj (acu _ [1, 2, 7] []) ?_
        refine ⟨_, (Option.some.inj hh), ?_⟩
        first | exact ⟨_, rfl⟩ | (simp only [pvE, lsE, zo]; exact ⟨_, rfl⟩) | (simp only [pvE, lsE, zo, h15]; exact ⟨_, rfl⟩)
      | cons aaa suf ih =>
        intro pre v_8 Qb hsplit hidx hh nx
        rw [ZA] at hh
        refine hI _ ?_
        obtain ⟨hl0a, hl0b, hl0d, hl0w, h15⟩ := qD (f := zg.pv) hsplit hidx hlen0
        refine zb fun K kk hK => ?_
        simp only [go_sem]
        refine hK _ _ fun nx => ?_; clear hK K; try clear kk
        refine zm ?_
        refine zn (by first | exact congrArg PV.bool h15 | rfl) ?_
        refine zt ?_; refine nmx ?_
        refine zm ?_
        refine zC ?_
        refine zb fun K kk hK => ?_
        simp only [go_sem, hl0a, hl0b, hl0d, hl0w]
        refine hK _ _ fun nx => ?_; clear hK K; try clear kk
        refine zC ?_
        obtain ⟨ami, h16, hh⟩ := ze hh
        refine zb fun K kk hK => ?_
        simp only [go_sem, hl0a, hl0b, hl0d, hl0w]
        refine zf (Qx _ _ h16) (by (try simp only [go_sem, hl0a, hl0b, hl0d, hl0w]) <;> exact wkl) (by rfl) (by rfl) ?_
        simp only [go_sem, hl0a, hl0b, hl0d, hl0w]
        refine hK _ _ fun nx => ?_; clear hK K; try clear kk
        by_cases h17 : (decide (ami < wC)) = true
        · rw [if_pos h17] at hh
          refine zn (by first | exact congrArg PV.bool h17 | rfl) ?_
          refine zq fun K kk hK => ?_
          simp only [go_sem, hl0a, hl0b, hl0d, hl0w]
          refine hK _ _ fun nx => ?_; clear hK K; try clear kk
          refine nmx ?_
          refine zq fun K kk hK => ?_
          simp only [go_sem, hl0a, hl0b, hl0d, hl0w]
          refine hK _ _ fun nx => ?_; clear hK K; try clear kk
          refine nmx ?_
          have ih' := ih (pre ++ [aaa]) (v_8 + 1) _ (by rw [hsplit]; simp) (by simp [hidx]) hh nx
          refine zJ ?_
          first | exact ih' | (simp only [pvE, lsE, zo] at ih' ⊢; exact ih') | (simp only [pvE, lsE, zo, h15, h17] at ih' ⊢; exact ih')
        · rw [if_neg h17] at hh
          replace h17 := Bool.eq_false_iff.mpr h17
          refine zi (by first | exact congrArg PV.bool h17 | rfl) ?_
          refine zb fun K kk hK => ?_
          simp only [go_sem, hl0a, hl0b, hl0d, hl0w]
          refine hK _ _ fun nx => ?_; clear hK K; try clear kk
          by_cases h18 : (decide (aaa.Pos > wC)) = true
          · rw [if_pos h18] at hh
            refine zn (by first | exact congrArg PV.bool h18 | rfl) ?_
            refine zZ ?_; refine nmx ?_
            refine kg ?_
            refine akj (acu _ [1, 2, 7] []) ?_
            refine ⟨_, (Option.some.inj hh), ?_⟩
            first | exact ⟨_, rfl⟩ | (simp only [pvE, lsE, zo]; exact ⟨_, rfl⟩) | (simp only [pvE, lsE, zo, h15, h17, h18]; exact ⟨_, rfl⟩)
          · rw [if_neg h18] at hh
            replace h18 := Bool.eq_false_iff.mpr h18
            refine zi (by first | exact congrArg PV.bool h18 | rfl) ?_
            obtain ⟨akm, h19, hh⟩ := ze hh
            refine zb fun K kk hK => ?_
            simp only [go_sem, hl0a, hl0b, hl0d, hl0w]
            refine zf (abl _ _ _ _ h19) (by (try simp only [go_sem, hl0a, hl0b, hl0d, hl0w]) <;> exact wkl) (by rfl) (by rfl) ?_
            simp only [go_sem, hl0a, hl0b, hl0d, hl0w]
            refine hK _ _ fun nx => ?_; clear hK K; try clear kk
            by_cases h20 : (akm) = true
            · rw [if_pos h20] at hh
              refine zn (by first | exact congrArg PV.bool h20 | rfl) ?_
              refine zb fun K kk hK => ?_
              simp only [go_sem, hl0a, hl0b, hl0d, hl0w]
              refine hK _ _ fun nx => ?_; clear hK K; try clear kk
              refine zk ?_; refine nmx ?_
              refine xZ ⟨_, (Option.some.inj hh), ?_⟩
              exact zy
            · rw [if_neg h20] at hh
              replace h20 := Bool.eq_false_iff.mpr h20
              refine zi (by first | exact congrArg PV.bool h20 | rfl) ?_
              refine zb fun K kk hK => ?_
              simp only [go_sem, hl0a, hl0b, hl0d, hl0w]
              refine hK _ _ fun nx => ?_; clear hK K; try clear kk
              refine zk ?_; refine nmx ?_
              refine xZ ⟨_, (Option.some.inj hh), ?_⟩
              exact zy
    exact key m_1 [] _ _ rfl rfl f0 _
  · rintro s ⟨t, hless, YF, rfl, nx, rfl⟩
    try dsimp only at hh
    refine nmy ?_
    first | (refine qR hless ?_; try refine wT ?_) | refine qC hless ?_ | refine qE hless ?_
    refine zb fun K kk hK => ?_
    simp only [go_sem]
    refine hK _ _ fun nx => ?_; clear hK K; try clear kk
    refine zk ?_; refine nmx ?_
    obtain hR := Option.some.inj hh
    subst hR
    exact zy
  · intro i s h; exact h.elim
  · rintro s ⟨ahj, rfl, hb⟩
    try dsimp only at hh
    obtain hR := Option.some.inj hh
    subst hR
    refine nmx ?_
    exact hb
theorem Xm (s_1 : zz) (m_2 : (List zg)) (R : (zz × Bool)) (hh : yQ s_1 m_2 = some R) : PC Tryd.prog 31 [.agg [.int .u8 s_1.Kind, .int .i64 s_1.From, .int .i64 s_1.To, .list 5 (s_1.qK.map za.pv), .str s_1.Name, .str s_1.Value], .list 3 (m_2.map zg.pv)] (.tup [.agg [.int .u8 R.1.Kind, .int .i64 R.1.From, .int .i64 R.1.To, .list 5 (R.1.qK.map za.pv), .str R.1.Name, .str R.1.Value], .bool R.2]) := by
  rw [yQ] at hh
  refine abw rfl ?_
  refine zb fun K kk hK => ?_
  simp only [go_sem]
  refine hK _ _ fun nx => ?_; clear hK K; try clear kk
  refine zm ?_
  obtain ⟨e0, f0, hh⟩ := ze hh
  refine Vd (fun s => .inr () = e0 ∧ ∃ (v_4 : Bool) (nx : Nat) (g2 : Nat) (g4 : Nat), s = ⟨[(1, .list 3 (m_2.map zg.pv)), (2, .box 2 g2 0), (4, .box 4 g4 0), (14, .bool v_4)], [(2, g2, .var 39 [.int .u8 s_1.Kind, .int .i64 s_1.From, .int .i64 s_1.To, .list 5 (s_1.qK.map za.pv), .str s_1.Name, .str s_1.Value]), (4, g4, .var 39 [.int .u8 (0 : Int), .int .i64 (0 : Int), .int .i64 (0 : Int), .list 5 ([].map za.pv), .str ([] : Str), .str ([] : Str)])], nx⟩)
    (fun i s => False)
    (fun s => ∃ Yz, .inl Yz = e0 ∧ zS Tryd.prog [.cell 4 39, .tmp 5] (.tup [.agg [.int .u8 Yz.1.Kind, .int .i64 Yz.1.From, .int .i64 Yz.1.To, .list 5 (Yz.1.qK.map za.pv), .str Yz.1.Name, .str Yz.1.Value], .bool Yz.2]) [] .ret s) ?_ ?_ ?_ ?_
  · have hh := f0
    by_cases h1 : (s_1.Kind == (97 : Int)) = true
    · rw [if_pos h1] at hh
      refine zb fun K kk hK => ?_
      simp only [go_sem, h1]
      (repeat refine sd ?_)
      refine hK _ _ fun nx => ?_; clear hK K; try clear kk
      by_cases h2 : (s_1.From == (-1 : Int)) = true
      · rw [if_pos h2] at hh
        refine zn (by first | exact congrArg PV.bool h2 | rfl) ?_
        refine zb fun K kk hK => ?_
        simp only [go_sem]
        refine hK _ _ fun nx => ?_; clear hK K; try clear kk
        refine zk ?_; refine nmx ?_
        refine xZ ⟨_, (Option.some.inj hh), ?_⟩
        exact zy
      · rw [if_neg h2] at hh
        replace h2 := Bool.eq_false_iff.mpr h2
        refine zi (by first | exact congrArg PV.bool h2 | rfl) ?_
        refine zt ?_; refine nmx ?_
        refine kg ?_
        refine zJ ?_
        refine ⟨(Option.some.inj hh), ?_⟩
        first | exact ⟨_, _, _, _, rfl⟩ | (simp only [pvE, lsE, zo]; exact ⟨_, _, _, _, rfl⟩) | (simp only [pvE, lsE, zo, h1, h2]; exact ⟨_, _, _, _, rfl⟩)
    · rw [if_neg h1] at hh
      replace h1 := Bool.eq_false_iff.mpr h1
      refine zb fun K kk hK => ?_
      simp only [go_sem, h1]
      (repeat refine sd ?_)
      refine hK _ _ fun nx => ?_; clear hK K; try clear kk
      refine zi rfl ?_
      refine zt ?_; refine nmx ?_
      refine kg ?_
      refine zJ ?_
      refine ⟨(Option.some.inj hh), ?_⟩
      first | exact ⟨_, _, _, _, rfl⟩ | (simp only [pvE, lsE, zo]; exact ⟨_, _, _, _, rfl⟩) | (simp only [pvE, lsE, zo, h1]; exact ⟨_, _, _, _, rfl⟩)
  · rintro s ⟨rfl, v_4, nx, g2, g4, rfl⟩
    try dsimp only at hh
    refine zm ?_
    refine zb fun K kk hK => ?_
    simp only [go_sem]
    refine hK _ _ fun nx => ?_; clear hK K; try clear kk
    by_cases h3 : (s_1.Kind == (97 : Int)) = true
    · rw [if_pos h3] at hh
      refine zn (by first | exact congrArg PV.bool h3 | rfl) ?_
      refine zb fun K kk hK => ?_
      simp only [go_sem]
      refine hK _ _ fun nx => ?_; clear hK K; try clear kk
      refine zm ?_
      obtain ⟨⟨r_5, ajV⟩, h4, hh⟩ := ze hh
      dsimp only at hh
      by_cases h5 : (r_5) = true
      · rw [if_pos h5] at hh
        refine zb fun K kk hK => ?_
        simp only [go_sem, h5]
        (repeat refine sd ?_)
        refine xc [2] (by decide) (je _ _ _ h4) (by (try simp only [go_sem, h5, h3]) <;> exact wkb) (by rfl) ?_
        simp only [go_sem, h5]
        (repeat refine sd ?_)
        refine hK _ _ fun nx => ?_; clear hK K; try clear kk
        refine zn rfl ?_
        refine zb fun K kk hK => ?_
        simp only [go_sem]
        refine hK _ _ fun nx => ?_; clear hK K; try clear kk
        refine zk ?_; refine nmx ?_
        obtain hR := Option.some.inj hh
        subst hR
        exact zy
      · rw [if_neg h5] at hh
        replace h5 := Bool.eq_false_iff.mpr h5
        obtain ⟨ane, h6, hh⟩ := ze hh
        refine zb fun K kk hK => ?_
        simp only [go_sem, h5]
        (repeat refine sd ?_)
        refine xc [2] (by decide) (je _ _ _ h4) (by (try simp only [go_sem, h5, h3]) <;> exact wkb) (by rfl) ?_
        simp only [go_sem, h5]
        (repeat refine sd ?_)
        refine zf (ajN _ _ _ h6) (by (try simp only [go_sem, h5]) <;> exact wkl) (by rfl) (by rfl) ?_
        simp only [go_sem, h5]
        (repeat refine sd ?_)
        refine hK _ _ fun nx => ?_; clear hK K; try clear kk
        by_cases h7 : (ane) = true
        · rw [if_pos h7] at hh
          refine zn (by first | exact congrArg PV.bool h7 | rfl) ?_
          refine zb fun K kk hK => ?_
          simp only [go_sem]
          refine hK _ _ fun nx => ?_; clear hK K; try clear kk
          refine zk ?_; refine nmx ?_
          obtain hR := Option.some.inj hh
          subst hR
          exact zy
        · rw [if_neg h7] at hh
          replace h7 := Bool.eq_false_iff.mpr h7
          refine zi (by first | exact congrArg PV.bool h7 | rfl) ?_
          refine zt ?_; refine nmx ?_
          obtain ⟨auC, h8, hh⟩ := ze hh
          refine zb fun K kk hK => ?_
          simp only [go_sem]
          refine zf (abB _ _ _ _ h8) (by (try simp only [go_sem]) <;> exact wkl) (by rfl) (by rfl) ?_
          simp only [go_sem]
          refine hK _ _ fun nx => ?_; clear hK K; try clear kk
          refine zb fun K kk hK => ?_
          simp only [go_sem]
          refine hK _ _ fun nx => ?_; clear hK K; try clear kk
          refine zk ?_; refine nmx ?_
          obtain hR := Option.some.inj hh
          subst hR
          exact zy
    · rw [if_neg h3] at hh
      replace h3 := Bool.eq_false_iff.mpr h3
      refine zi (by first | exact congrArg PV.bool h3 | rfl) ?_
      refine zt ?_; refine nmx ?_
      obtain ⟨asY, h9, hh⟩ := ze hh
      obtain ⟨aqm, h10, hh⟩ := ze hh
      refine zb fun K kk hK => ?_
      simp only [go_sem]
      refine zf (abB _ _ _ _ h9) (by (try simp only [go_sem]) <;> exact wkl) (by rfl) (by rfl) ?_
      simp only [go_sem]
      refine zf (abB _ _ _ _ h10) (by (try simp only [go_sem]) <;> exact wkl) (by rfl) (by rfl) ?_
      simp only [go_sem]
      refine hK _ _ fun nx => ?_; clear hK K; try clear kk
      refine zb fun K kk hK => ?_
      simp only [go_sem]
      refine hK _ _ fun nx => ?_; clear hK K; try clear kk
      refine zb fun K kk hK => ?_
      simp only [go_sem]
      refine hK _ _ fun nx => ?_; clear hK K; try clear kk
      refine zk ?_; refine nmx ?_
      obtain hR := Option.some.inj hh
      subst hR
      exact zy
  · intro i s h; exact h.elim
  · rintro s ⟨Yz, rfl, hb⟩
    try dsimp only at hh
    obtain hR := Option.some.inj hh
    subst hR
    refine nmx ?_
    exact hb
theorem aa4 (s_1 : zz) (R : (List zg)) (hh : QU s_1 = some R) : PC Tryd.prog 32 [.agg [.int .u8 s_1.Kind, .int .i64 s_1.From, .int .i64 s_1.To, .list 5 (s_1.qK.map za.pv), .str s_1.Name, .str s_1.Value]] (.list 3 (R.map zg.pv)) := by
  rw [QU] at hh
  refine adN rfl ?_
  refine zb fun K kk hK => ?_
  simp only [go_sem]
  refine hK _ _ fun nx => ?_; clear hK K; try clear kk
  obtain ⟨abL, h1, hh⟩ := ze hh
  refine zb fun K kk hK => ?_
  simp only [go_sem]
  refine zf (j6 _ _ h1) (by (try simp only [go_sem]) <;> exact wkl) (by rfl) (by rfl) ?_
  simp only [go_sem]
  refine hK _ _ fun nx => ?_; clear hK K; try clear kk
  refine zm ?_
  by_cases h2 : (s_1.Kind != (114 : Int)) = true
  · rw [if_pos h2] at hh
    refine zb fun K kk hK => ?_
    simp only [go_sem, h2]
    (repeat refine sd ?_)
    refine hK _ _ fun nx => ?_; clear hK K; try clear kk
    refine zn rfl ?_
    refine zb fun K kk hK => ?_
    simp only [go_sem]
    refine hK _ _ fun nx => ?_; clear hK K; try clear kk
    refine zk ?_; refine nmx ?_
    obtain hR := Option.some.inj hh
    subst hR
    exact zy
  · rw [if_neg h2] at hh
    replace h2 := Bool.eq_false_iff.mpr h2
    by_cases h3 : (s_1.From == s_1.To) = true
    · rw [if_pos h3] at hh
      refine zb fun K kk hK => ?_
      simp only [go_sem, h2, h3]
      (repeat refine sd ?_)
      refine hK _ _ fun nx => ?_; clear hK K; try clear kk
      by_cases h4 : (abL == (0 : Int)) = true
      · rw [if_pos h4] at hh
        refine zn (by first | exact congrArg PV.bool h4 | rfl) ?_
        refine zb fun K kk hK => ?_
        simp only [go_sem]
        refine hK _ _ fun nx => ?_; clear hK K; try clear kk
        refine zk ?_; refine nmx ?_
        obtain hR := Option.some.inj hh
        subst hR
        exact zy
      · rw [if_neg h4] at hh
        replace h4 := Bool.eq_false_iff.mpr h4
        refine zi (by first | exact congrArg PV.bool h4 | rfl) ?_
        refine zt ?_; refine nmx ?_
        refine zb fun K kk hK => ?_
        simp only [go_sem]
        refine hK _ _ fun nx => ?_; clear hK K; try clear kk
        refine zk ?_; refine nmx ?_
        obtain hR := Option.some.inj hh
        subst hR
        exact zy
    · rw [if_neg h3] at hh
      replace h3 := Bool.eq_false_iff.mpr h3
      refine zb fun K kk hK => ?_
      simp only [go_sem, h2, h3]
      (repeat refine sd ?_)
      refine hK _ _ fun nx => ?_; clear hK K; try clear kk
      refine zi rfl ?_
      refine zt ?_; refine nmx ?_
      refine zb fun K kk hK => ?_
      simp only [go_sem]
      refine hK _ _ fun nx => ?_; clear hK K; try clear kk
      refine zk ?_; refine nmx ?_
      obtain hR := Option.some.inj hh
      subst hR
      exact zy
theorem KC (l_1 : (List zx)) (xU : Int) (XB : Int) (R : Bool) (hh : kW l_1 xU XB = some R) : PC Tryd.prog 8 [.list 4 (l_1.map zx.pv), .int .i64 xU, .int .i64 XB] (.bool R) := by
  rw [kW] at hh
  refine Wd rfl ?_
  refine zb fun K kk hK => ?_
  simp only [go_sem]
  refine hK _ _ fun nx => ?_; clear hK K; try clear kk
  obtain ⟨ajO, h1, hh⟩ := ze hh
  refine zb fun K kk hK => ?_
  simp only [go_sem]
  refine zf (Xy _ h1) (by (try simp only [go_sem]) <;> exact wkl) (by rfl) (by rfl) ?_
  simp only [go_sem]
  refine hK _ _ fun nx => ?_; clear hK K; try clear kk
  refine zm ?_
  refine zb fun K kk hK => ?_
  simp only [go_sem]
  refine hK _ _ fun nx => ?_; clear hK K; try clear kk
  by_cases h2 : (!ajO) = true
  · rw [if_pos h2] at hh
    refine zn (by first | exact congrArg PV.bool h2 | rfl) ?_
    refine zb fun K kk hK => ?_
    simp only [go_sem]
    refine hK _ _ fun nx => ?_; clear hK K; try clear kk
    refine zk ?_; refine nmx ?_
    obtain hR := Option.some.inj hh
    subst hR
    exact zy
  · rw [if_neg h2] at hh
    replace h2 := Bool.eq_false_iff.mpr h2
    refine zi (by first | exact congrArg PV.bool h2 | rfl) ?_
    refine zt ?_; refine nmx ?_
    obtain ⟨alM, h3, hh⟩ := ze hh
    refine zb fun K kk hK => ?_
    simp only [go_sem]
    refine zf (Y4 _ _ h3) (by (try simp only [go_sem]) <;> exact wkl) (by rfl) (by rfl) ?_
    simp only [go_sem]
    refine hK _ _ fun nx => ?_; clear hK K; try clear kk
    obtain ⟨anB, h4, hh⟩ := ze hh
    obtain ⟨JZ, h5, hh⟩ := ze hh
    refine zb fun K kk hK => ?_
    simp only [go_sem]
    refine zf (j6 _ _ h4) (by (try simp only [go_sem]) <;> exact wkl) (by rfl) (by rfl) ?_
    simp only [go_sem]
    refine zf (wB _ _ _ h5) (by (try simp only [go_sem]) <;> exact wkl) (by rfl) (by rfl) ?_
    simp only [go_sem]
    refine hK _ _ fun nx => ?_; clear hK K; try clear kk
    obtain ⟨anA, h6, hh⟩ := ze hh
    obtain ⟨JX, h7, hh⟩ := ze hh
    refine zb fun K kk hK => ?_
    simp only [go_sem]
    refine zf (j6 _ _ h6) (by (try simp only [go_sem]) <;> exact wkl) (by rfl) (by rfl) ?_
    simp only [go_sem]
    refine zf (wB _ _ _ h7) (by (try simp only [go_sem]) <;> exact wkl) (by rfl) (by rfl) ?_
    simp only [go_sem]
    refine hK _ _ fun nx => ?_; clear hK K; try clear kk
    refine zm ?_
    refine zb fun K kk hK => ?_
    simp only [go_sem]
    refine hK _ _ fun nx => ?_; clear hK K; try clear kk
    by_cases h8 : (JZ == JX) = true
    · rw [if_pos h8] at hh
      refine zn (by first | exact congrArg PV.bool h8 | rfl) ?_
      refine zb fun K kk hK => ?_
      simp only [go_sem]
      refine hK _ _ fun nx => ?_; clear hK K; try clear kk
      refine zk ?_; refine nmx ?_
      obtain hR := Option.some.inj hh
      subst hR
      exact zy
    · rw [if_neg h8] at hh
      replace h8 := Bool.eq_false_iff.mpr h8
      refine zi (by first | exact congrArg PV.bool h8 | rfl) ?_
      refine zt ?_; refine nmx ?_
      refine zb fun K kk hK => ?_
      simp only [go_sem]
      refine hK _ _ fun nx => ?_; clear hK K; try clear kk
      refine zb fun K kk hK => ?_
      simp only [go_sem]
      refine hK _ _ fun nx => ?_; clear hK K; try clear kk
      obtain ⟨akw, h9, hh⟩ := ze hh
      obtain ⟨⟨adp, aeh⟩, h10, hh⟩ := ze hh
      dsimp only at hh
      refine zb fun K kk hK => ?_
      simp only [go_sem]
      refine zf (aa4 _ _ h9) (by (try simp only [go_sem]) <;> exact wkl) (by rfl) (by rfl) ?_
      simp only [go_sem]
      refine zf (Xm _ _ _ h10) (by (try simp only [go_sem]) <;> exact wkl) (by rfl) (by rfl) ?_
      simp only [go_sem]
      refine hK _ _ fun nx => ?_; clear hK K; try clear kk
      obtain ⟨ak0, h11, hh⟩ := ze hh
      obtain ⟨⟨ae0, atK⟩, h12, hh⟩ := ze hh
      dsimp only at hh
      refine zb fun K kk hK => ?_
      simp only [go_sem]
      refine zf (aa4 _ _ h11) (by (try simp only [go_sem]) <;> exact wkl) (by rfl) (by rfl) ?_
      simp only [go_sem]
      refine zf (Xm _ _ _ h12) (by (try simp only [go_sem]) <;> exact wkl) (by rfl) (by rfl) ?_
      simp only [go_sem]
      refine hK _ _ fun nx => ?_; clear hK K; try clear kk
      obtain ⟨⟨au2, amU⟩, h13, hh⟩ := ze hh
      dsimp only at hh
      refine zb fun K kk hK => ?_
      simp only [go_sem]
      refine zf (aeO _ _ _ h13) (by (try simp only [go_sem]) <;> exact wkl) (by rfl) (by rfl) ?_
      simp only [go_sem]
      refine hK _ _ fun nx => ?_; clear hK K; try clear kk
      obtain ⟨⟨asx, auc⟩, h14, hh⟩ := ze hh
      dsimp only at hh
      refine zb fun K kk hK => ?_
      simp only [go_sem]
      refine zf (aeO _ _ _ h14) (by (try simp only [go_sem]) <;> exact wkl) (by rfl) (by rfl) ?_
      simp only [go_sem]
      refine hK _ _ fun nx => ?_; clear hK K; try clear kk
      by_cases h15 : (aeh) = true
      · rw [if_pos h15] at hh
        by_cases h16 : (atK) = true
        · rw [if_pos h16] at hh
          by_cases h17 : (amU == (0 : Int)) = true
          · rw [if_pos h17] at hh
            by_cases h18 : (auc == (0 : Int)) = true
            · rw [if_pos h18] at hh
              obtain ⟨aol, h19, hh⟩ := ze hh
              refine zb fun K kk hK => ?_
              simp only [go_sem, h15, h16, h17, h18]
              (repeat refine sd ?_)
              refine zf (ajy _ _ _ h19) (by (try simp only [go_sem, h15, h16, h17, h18]) <;> exact wkl) (by rfl) (by rfl) ?_
              simp only [go_sem, h15, h16, h17, h18]
              (repeat refine sd ?_)
              refine hK _ _ fun nx => ?_; clear hK K; try clear kk
              refine zk ?_; refine nmx ?_
              obtain hR := Option.some.inj hh
              subst hR
              exact zy
            · rw [if_neg h18] at hh
              replace h18 := Bool.eq_false_iff.mpr h18
              refine zb fun K kk hK => ?_
              simp only [go_sem, h15, h16, h17, h18]
              (repeat refine sd ?_)
              refine hK _ _ fun nx => ?_; clear hK K; try clear kk
              refine zk ?_; refine nmx ?_
              obtain hR := Option.some.inj hh
              subst hR
              exact zy
          · rw [if_neg h17] at hh
            replace h17 := Bool.eq_false_iff.mpr h17
            refine zb fun K kk hK => ?_
            simp only [go_sem, h15, h16, h17]
            (repeat refine sd ?_)
            refine hK _ _ fun nx => ?_; clear hK K; try clear kk
            refine zk ?_; refine nmx ?_
            obtain hR := Option.some.inj hh
            subst hR
            exact zy
        · rw [if_neg h16] at hh
          replace h16 := Bool.eq_false_iff.mpr h16
          refine zb fun K kk hK => ?_
          simp only [go_sem, h15, h16]
          (repeat refine sd ?_)
          refine hK _ _ fun nx => ?_; clear hK K; try clear kk
          refine zk ?_; refine nmx ?_
          obtain hR := Option.some.inj hh
          subst hR
          exact zy
      · rw [if_neg h15] at hh
        replace h15 := Bool.eq_false_iff.mpr h15
        refine zb fun K kk hK => ?_
        simp only [go_sem, h15]
        (repeat refine sd ?_)
        refine hK _ _ fun nx => ?_; clear hK K; try clear kk
        refine zk ?_; refine nmx ?_
        obtain hR := Option.some.inj hh
        subst hR
        exact zy
end Go.Proofs.YtclohbgnaopjfaaDoor
