/- Texts of the proof of stepTokensCard -/
import Derived.Test.YtclohbgnaopjfaaGreatDoorAgC
import Derived.Test.YtclohbgnaopjfaaGreatDoorAgF
import Derived.Test.YtclohbgnaopjfaaGreatDoorAgK0
import Derived.Test.YtclohbgnaopjfaaGreatDoorAgK2
import Derived.Test.YtclohbgnaopjfaaGreatDoorAgK4
import Derived.Test.YtclohbgnaopjfaaGreatDoorAgK5
namespace Go.Proofs.YtclohbgnaopjfaaGreatDoor
set_option linter.unusedSimpArgs false
set_option linter.unusedVariables false
open Go
set_option maxRecDepth 100000
theorem JI : ∀ kr : Nat, (∀ (l_1 : (List za)) (zP : Int) (vH : Int) (zA : Int) (jw : Int) (kF : (List za)) (vG : Str) (kC : Str) (l_9 : (List zi)) (R : ((List za) × Int × Int × Int × (List za) × Str × Str × (List zi))), qL kr l_1 zP vH zA jw kF vG kC l_9 = some R → BC Tryz.prog 79 [.box 1000 0 0, .list 5 (l_1.map za.pv), .int .i64 zP] [.var 130 [.int .u8 vH, .int .i64 zA, .int .i64 jw, .list 5 (kF.map za.pv), .str vG, .str kC, .row 1001 0 l_9.length], .row false 3 (l_9.map zi.pv)] (.list 5 (R.1.map za.pv)) [.var 130 [.int .u8 R.2.1, .int .i64 R.2.2.1, .int .i64 R.2.2.2.1, .list 5 (R.2.2.2.2.1.map za.pv), .str R.2.2.2.2.2.1, .str R.2.2.2.2.2.2.1, .row 1001 0 R.2.2.2.2.2.2.2.length], .moved 3 (R.2.2.2.2.2.2.2.map zi.pv)]) := by
 intro kr
 induction kr with
 | zero => exact (by intro l_1 zP vH zA jw kF vG kC l_9 R hh; rw [qL] at hh; cases hh)
 | succ kr ih =>
  have ih_step_painter_kids_x := ih
  clear ih
  intro l_1 zP vH zA jw kF vG kC l_9 R hh
  rw [qL] at hh
  refine Vu rfl rfl rfl ?_
  refine zb fun K kk hK => ?_
  simp only [go_sem]
  refine hK _ _ fun nx => ?_; clear hK K; try clear kk
  refine zb fun K kk hK => ?_
  simp only [go_sem]
  refine hK _ _ fun nx => ?_; clear hK K; try clear kk
  refine zm ?_
  refine zb fun K kk hK => ?_
  simp only [go_sem]
  refine hK _ _ fun nx => ?_; clear hK K; try clear kk
  obtain ⟨e0, f0, hh⟩ := ze hh
  obtain ⟨hlen0, f0⟩ := zR f0
  refine qz (w9 (fun s => ∃ ad1, ∃ asa, ∃ aq8, ∃ asj, ∃ aqL, ∃ ast, ∃ ark, ∃ ap8, (ad1, asa, aq8, asj, aqL, ast, ark, ap8) = e0 ∧ ∃ (auu : Int) (awc : Int) (awz : Bool) (nx : Nat) (g7 : Nat) (g1001 : Nat), s = ⟨[(0, .box 1000 0 0), (2, .int .i64 auu), (7, .row 7 g7 ad1.length), (11, .list 5 (l_1.map za.pv)), (12, .int .i64 (l_1.length : Int)), (13, .int .i64 awc), (14, .bool awz)], [(7, g7, .row false 5 (ad1.map za.pv)), (1000, 0, .var 130 [.int .u8 asa, .int .i64 aq8, .int .i64 asj, .list 5 (aqL.map za.pv), .str ast, .str ark, .row 1001 g1001 ap8.length]), (1001, g1001, .row false 3 (ap8.map zi.pv))], nx⟩))
   (fun i s => False)
   (fun s => False) ?_ ?_ ?_ ?_
  ·refine zC ?_
   refine qi fun I hI => ?_
   have key : ∀ (suf pre : List za) (agZ : Int) (aa5 : Int) (Jg : (List za)) (ajG : Int) (akm : Int) (akf : Int) (akL : (List za)) (ajT : Str) (aka : Str) (XY : (List zi)), l_1 = pre ++ suf → agZ = (pre.length : Int) → qg (qL kr) suf agZ aa5 Jg ajG akm akf akL ajT aka XY = some e0 → ∀ (nx : Nat) (g7 : Nat) (g1001 : Nat), I ⟨[(0, .box 1000 0 0), (2, .int .i64 aa5), (7, .row 7 g7 Jg.length), (11, .list 5 (l_1.map za.pv)), (12, .int .i64 (l_1.length : Int)), (13, .int .i64 agZ)], [(7, g7, .row false 5 (Jg.map za.pv)), (1000, 0, .var 130 [.int .u8 ajG, .int .i64 akm, .int .i64 akf, .list 5 (akL.map za.pv), .str ajT, .str aka, .row 1001 g1001 XY.length]), (1001, g1001, .row false 3 (XY.map zi.pv))], nx⟩ := by
    intro suf
    induction suf with
    | nil =>
     intro pre agZ aa5 Jg ajG akm akf akL ajT aka XY hsplit hidx hh nx g7 g1001
     rw [qg] at hh
     refine hI _ ?_
     have h17 := walk_nil hsplit hidx
     refine zb fun K kk hK => ?_
     simp only [go_sem]
     refine hK _ _ fun nx => ?_; clear hK K; try clear kk
     refine zm ?_
     refine zh (by first | exact congrArg PV.bool h17 | rfl) ?_
     refine zV ?_; refine nmx ?_
     refine wU ?_
     refine zH ?_
     refine ⟨_, _, _, _, _, _, _, _, (Option.some.inj hh), ?_⟩
     first | exact ⟨_, _, _, _, _, _, rfl⟩ | (simp only [pvE, lsE, zo]; exact ⟨_, _, _, _, _, _, rfl⟩) | (simp only [pvE, lsE, zo, h17]; exact ⟨_, _, _, _, _, _, rfl⟩)
    | cons ajU suf ih =>
     intro pre agZ aa5 Jg ajG akm akf akL ajT aka XY hsplit hidx hh nx g7 g1001
     rw [qg] at hh
     refine hI _ ?_
     obtain ⟨hl0a, hl0b, hl0d, hl0w, h17⟩ := qV (f := za.pv) hsplit hidx hlen0
     refine zb fun K kk hK => ?_
     simp only [go_sem]
     refine hK _ _ fun nx => ?_; clear hK K; try clear kk
     refine zm ?_
     refine zk (by first | exact congrArg PV.bool h17 | rfl) ?_
     refine zy ?_; refine nmx ?_
     refine zm ?_
     refine zC ?_
     refine zb fun K kk hK => ?_
     simp only [go_sem, hl0a, hl0b, hl0d, hl0w]
     refine hK _ _ fun nx => ?_; clear hK K; try clear kk
     obtain ⟨akG, h18, hh⟩ := ze hh
     refine zb fun K kk hK => ?_
     simp only [go_sem, hl0a, hl0b, hl0d, hl0w]
     refine zg (ZT _ _ h18) (by (try simp only [go_sem, hl0a, hl0b, hl0d, hl0w]) <;> exact wkl) (by rfl) (by rfl) ?_
     simp only [go_sem, hl0a, hl0b, hl0d, hl0w]
     refine hK _ _ fun nx => ?_; clear hK K; try clear kk
     refine zm ?_
     refine zb fun K kk hK => ?_
     simp only [go_sem, hl0a, hl0b, hl0d, hl0w]
     refine hK _ _ fun nx => ?_; clear hK K; try clear kk
     by_cases h19 : (ajU.Kind == ([116, 101, 120, 116] : Str)) = true
     ·rw [if_pos h19] at hh
      refine zk (by first | exact congrArg PV.bool h19 | rfl) ?_
      obtain ⟨⟨avW, ao0, aoE, auq, alX, aom, amb, aoe⟩, h20, hh⟩ := ze hh
      dsimp only at hh
      obtain ⟨av8, h21, hh⟩ := ze hh
      obtain ⟨h21a, h21c⟩ := zX h21
      have h21d := qF (f := za.pv) h21c
      have h21e := qE h21c
      try simp only [List.length_cons, List.length_nil, Nat.zero_add, Nat.reduceAdd] at h21a h21e
      try simp only [h21e] at h21a
      try simp only [List.map_cons, List.map_nil, List.nil_append, List.append_nil, List.cons_append, List.singleton_append, zo, pvE] at h21d
      refine zt fun K kk hK => ?_
      simp only [go_sem, h21a, h21d, h21e, hl0a, hl0b, hl0d, hl0w]
      (repeat refine sd ?_)
      refine Q4 [1000, 1001] (by decide) (J6 _ _ _ _ _ _ _ _ _ _ h20) (by (try simp only [go_sem, h21a, h21d, h21e, hl0a, hl0b, hl0d, hl0w, h17, h19]) <;> exact wkb) (by rfl) ?_
      simp only [go_sem, h21a, h21d, h21e, hl0a, hl0b, hl0d, hl0w]
      (repeat refine sd ?_)
      refine hK _ _ fun nx => ?_; clear hK K; try clear kk
      refine nmx ?_
      refine zt fun K kk hK => ?_
      simp only [go_sem, hl0a, hl0b, hl0d, hl0w]
      refine hK _ _ fun nx => ?_; clear hK K; try clear kk
      refine nmx ?_
      refine zt fun K kk hK => ?_
      simp only [go_sem, hl0a, hl0b, hl0d, hl0w]
      refine hK _ _ fun nx => ?_; clear hK K; try clear kk
      refine nmx ?_
      have ih' := ih (pre ++ [ajU]) (agZ + 1) _ _ _ _ _ _ _ _ _ (by rw [hsplit]; simp) (by simp [hidx]) hh nx
      refine zH ?_
      first | exact ih' _ _ | (simp only [pvE, lsE, zo, h21e] at ih' ⊢; exact ih' _ _) | (simp only [pvE, lsE, zo, h21e, h17, h19] at ih' ⊢; exact ih' _ _)
     ·rw [if_neg h19] at hh
      replace h19 := Bool.eq_false_iff.mpr h19
      refine zh (by first | exact congrArg PV.bool h19 | rfl) ?_
      obtain ⟨⟨awy, aof, aph, auz, ak8, aoW, amO, avQ⟩, h22, hh⟩ := ze hh
      dsimp only at hh
      refine zb fun K kk hK => ?_
      simp only [go_sem, hl0a, hl0b, hl0d, hl0w]
      refine Q4 [1000, 1001] (by decide) (ih_step_painter_kids_x _ _ _ _ _ _ _ _ _ _ h22) (by (try simp only [go_sem, hl0a, hl0b, hl0d, hl0w, h17, h19]) <;> exact wkb) (by rfl) ?_
      simp only [go_sem, hl0a, hl0b, hl0d, hl0w]
      refine hK _ _ fun nx => ?_; clear hK K; try clear kk
      obtain ⟨anm, h23, hh⟩ := ze hh
      obtain ⟨h23a, h23c⟩ := zX h23
      have h23d := qF (f := za.pv) h23c
      have h23e := qE h23c
      try simp only [List.length_cons, List.length_nil, Nat.zero_add, Nat.reduceAdd] at h23a h23e
      try simp only [h23e] at h23a
      try simp only [List.map_cons, List.map_nil, List.nil_append, List.append_nil, List.cons_append, List.singleton_append, zo, pvE] at h23d
      refine zt fun K kk hK => ?_
      simp only [go_sem, h23a, h23d, h23e, hl0a, hl0b, hl0d, hl0w]
      (repeat refine sd ?_)
      refine hK _ _ fun nx => ?_; clear hK K; try clear kk
      refine nmx ?_
      refine zt fun K kk hK => ?_
      simp only [go_sem, hl0a, hl0b, hl0d, hl0w]
      refine hK _ _ fun nx => ?_; clear hK K; try clear kk
      refine nmx ?_
      refine zt fun K kk hK => ?_
      simp only [go_sem, hl0a, hl0b, hl0d, hl0w]
      refine hK _ _ fun nx => ?_; clear hK K; try clear kk
      refine nmx ?_
      have ih' := ih (pre ++ [ajU]) (agZ + 1) _ _ _ _ _ _ _ _ _ (by rw [hsplit]; simp) (by simp [hidx]) hh nx
      refine zH ?_
      first | exact ih' _ _ | (simp only [pvE, lsE, zo, h23e] at ih' ⊢; exact ih' _ _) | (simp only [pvE, lsE, zo, h23e, h17, h19] at ih' ⊢; exact ih' _ _)
   exact key l_1 [] _ _ _ _ _ _ _ _ _ _ rfl rfl f0 _ _ _
  ·rintro s ⟨t, hless, ad1, asa, aq8, asj, aqL, ast, ark, ap8, rfl, auu, awc, awz, nx, g7, g1001, rfl⟩
   try dsimp only at hh
   refine nmy ?_
   first | (refine qW hless ?_; try refine wY ?_) | refine qC hless ?_ | refine qD hless ?_
   obtain ⟨aoF, h24, hh⟩ := ze hh
   refine zb fun K kk hK => ?_
   simp only [go_sem]
   refine zg (J8 _ _ h24).list (by (try simp only [go_sem]) <;> exact wkl) (by rfl) (by rfl) ?_
   simp only [go_sem]
   refine hK _ _ fun nx => ?_; clear hK K; try clear kk
   refine zn ?_; refine nmx ?_
   obtain hR := Option.some.inj hh
   subst hR
   refine ji ?_ (by rfl) ?_
   ·simp only [go_sem, wX, j6, kW, vY, ZM, List.map_cons, List.map_append, List.head?_cons]
    all_goals exact wkw
   ·(try simp only [go_sem]); (try simp only [List.length_append, List.map_append]); all_goals exact wkb
  ·intro i s h; exact h.elim
  ·intro s h; exact h.elim
theorem Xd (l_1 : (List za)) (zP : Int) (vH : Int) (zA : Int) (jw : Int) (kF : (List za)) (vG : Str) (kC : Str) (l_9 : (List zi)) (R : ((List za) × Int × Int × Int × (List za) × Str × Str × (List zi))) (hh : vT l_1 zP vH zA jw kF vG kC l_9 = some R) : BC Tryz.prog 79 [.box 1000 0 0, .list 5 (l_1.map za.pv), .int .i64 zP] [.var 130 [.int .u8 vH, .int .i64 zA, .int .i64 jw, .list 5 (kF.map za.pv), .str vG, .str kC, .row 1001 0 l_9.length], .row false 3 (l_9.map zi.pv)] (.list 5 (R.1.map za.pv)) [.var 130 [.int .u8 R.2.1, .int .i64 R.2.2.1, .int .i64 R.2.2.2.1, .list 5 (R.2.2.2.2.1.map za.pv), .str R.2.2.2.2.2.1, .str R.2.2.2.2.2.2.1, .row 1001 0 R.2.2.2.2.2.2.2.length], .moved 3 (R.2.2.2.2.2.2.2.map zi.pv)] := by
 rw [vT] at hh
 obtain ⟨kr, hh⟩ := jL hh
 exact (JI kr) _ _ _ _ _ _ _ _ _ _ hh
theorem ah9 (n_1 : za) (s_2 : zG) (R : (za × (List zi) × Int)) (hh : Zn n_1 s_2 = some R) : PC Tryz.prog 38 [.agg [.str n_1.Kind, .str n_1.Text, .list 1 (n_1.Marks.map PV.str), .list 2 (n_1.zq.map zf.pv), .list 5 (n_1.Kids.map za.pv)], .agg [.int .u8 s_2.Kind, .int .i64 s_2.From, .int .i64 s_2.To, .list 5 (s_2.wJ.map za.pv), .str s_2.Name, .str s_2.Value]] (.tup [.agg [.str R.1.Kind, .str R.1.Text, .list 1 (R.1.Marks.map PV.str), .list 2 (R.1.zq.map zf.pv), .list 5 (R.1.Kids.map za.pv)], .list 3 (R.2.1.map zi.pv), .int .i64 R.2.2]) := by
 rw [Zn] at hh
 refine ad4 rfl ?_
 refine zb fun K kk hK => ?_
 simp only [go_sem]
 refine hK _ _ fun nx => ?_; clear hK K; try clear kk
 refine zm ?_
 obtain ⟨Qn, h1, hh⟩ := ze hh
 refine zb fun K kk hK => ?_
 simp only [go_sem]
 refine zg (xM _ _ h1) (by (try simp only [go_sem]) <;> exact wkl) (by rfl) (by rfl) ?_
 simp only [go_sem]
 refine hK _ _ fun nx => ?_; clear hK K; try clear kk
 by_cases h2 : (decide (s_2.To > Qn)) = true
 ·rw [if_pos h2] at hh
  refine zk (by first | exact congrArg PV.bool h2 | rfl) ?_
  refine zb fun K kk hK => ?_
  simp only [go_sem]
  refine hK _ _ fun nx => ?_; clear hK K; try clear kk
  refine zn ?_; refine nmx ?_
  obtain hR := Option.some.inj hh
  subst hR
  exact zz
 ·rw [if_neg h2] at hh
  replace h2 := Bool.eq_false_iff.mpr h2
  refine zh (by first | exact congrArg PV.bool h2 | rfl) ?_
  refine zy ?_; refine nmx ?_
  refine zb fun K kk hK => ?_
  simp only [go_sem]
  refine hK _ _ fun nx => ?_; clear hK K; try clear kk
  obtain ⟨⟨r_4, avv, auW, aw3, atA, auL, ar4, aq5⟩, h3, hh⟩ := ze hh
  dsimp only at hh
  refine zb fun K kk hK => ?_
  simp only [go_sem]
  refine Q4 [17, 425] (by decide) (Xd _ _ _ _ _ _ _ _ _ _ h3) (by (try simp only [go_sem, h2]) <;> exact wkb) (by rfl) ?_
  simp only [go_sem]
  refine hK _ _ fun nx => ?_; clear hK K; try clear kk
  refine zb fun K kk hK => ?_
  simp only [go_sem]
  refine hK _ _ fun nx => ?_; clear hK K; try clear kk
  refine zn ?_; refine nmx ?_
  obtain hR := Option.some.inj hh
  subst hR
  exact zz
theorem Q7 (n_1 : za) (s_2 : zG) (R : (za × Int)) (hh : wP n_1 s_2 = some R) : PC Tryz.prog 9 [.agg [.str n_1.Kind, .str n_1.Text, .list 1 (n_1.Marks.map PV.str), .list 2 (n_1.zq.map zf.pv), .list 5 (n_1.Kids.map za.pv)], .agg [.int .u8 s_2.Kind, .int .i64 s_2.From, .int .i64 s_2.To, .list 5 (s_2.wJ.map za.pv), .str s_2.Name, .str s_2.Value]] (.tup [.agg [.str R.1.Kind, .str R.1.Text, .list 1 (R.1.Marks.map PV.str), .list 2 (R.1.zq.map zf.pv), .list 5 (R.1.Kids.map za.pv)], .int .i64 R.2]) := by
 rw [wP] at hh
 refine adJ rfl ?_
 refine zb fun K kk hK => ?_
 simp only [go_sem]
 refine hK _ _ fun nx => ?_; clear hK K; try clear kk
 refine zm ?_
 refine zC ?_
 obtain ⟨vz, h1, hh⟩ := ze hh
 refine zb fun K kk hK => ?_
 simp only [go_sem]
 refine zg (aiw _ _ h1) (by (try simp only [go_sem]) <;> exact wkl) (by rfl) (by rfl) ?_
 simp only [go_sem]
 refine hK _ _ fun nx => ?_; clear hK K; try clear kk
 by_cases h2 : (!vz) = true
 ·rw [if_pos h2] at hh
  refine zk (by first | exact congrArg PV.bool h2 | rfl) ?_
  refine zb fun K kk hK => ?_
  simp only [go_sem]
  refine hK _ _ fun nx => ?_; clear hK K; try clear kk
  refine zn ?_; refine nmx ?_
  obtain hR := Option.some.inj hh
  subst hR
  exact zz
 ·rw [if_neg h2] at hh
  replace h2 := Bool.eq_false_iff.mpr h2
  refine zh (by first | exact congrArg PV.bool h2 | rfl) ?_
  by_cases h3 : (n_1.Kind == ([116, 101, 120, 116] : Str)) = true
  ·rw [if_pos h3] at hh
   refine zb fun K kk hK => ?_
   simp only [go_sem, h3]
   (repeat refine sd ?_)
   refine hK _ _ fun nx => ?_; clear hK K; try clear kk
   refine zk rfl ?_
   refine zb fun K kk hK => ?_
   simp only [go_sem]
   refine hK _ _ fun nx => ?_; clear hK K; try clear kk
   refine zn ?_; refine nmx ?_
   obtain hR := Option.some.inj hh
   subst hR
   exact zz
  ·rw [if_neg h3] at hh
   replace h3 := Bool.eq_false_iff.mpr h3
   obtain ⟨ajP, h4, hh⟩ := ze hh
   refine zb fun K kk hK => ?_
   simp only [go_sem, h3]
   (repeat refine sd ?_)
   refine zg (abg _ _ h4) (by (try simp only [go_sem, h3]) <;> exact wkl) (by rfl) (by rfl) ?_
   simp only [go_sem, h3]
   (repeat refine sd ?_)
   refine hK _ _ fun nx => ?_; clear hK K; try clear kk
   by_cases h5 : (!ajP) = true
   ·rw [if_pos h5] at hh
    refine zk (by first | exact congrArg PV.bool h5 | rfl) ?_
    refine zb fun K kk hK => ?_
    simp only [go_sem]
    refine hK _ _ fun nx => ?_; clear hK K; try clear kk
    refine zn ?_; refine nmx ?_
    obtain hR := Option.some.inj hh
    subst hR
    exact zz
   ·rw [if_neg h5] at hh
    replace h5 := Bool.eq_false_iff.mpr h5
    refine zh (by first | exact congrArg PV.bool h5 | rfl) ?_
    refine zb fun K kk hK => ?_
    simp only [go_sem]
    refine hK _ _ fun nx => ?_; clear hK K; try clear kk
    by_cases h6 : (s_2.Kind == (114 : Int)) = true
    ·rw [if_pos h6] at hh
     refine zk (by first | exact congrArg PV.bool h6 | rfl) ?_
     obtain ⟨⟨r_5, r_6⟩, h7, hh⟩ := ze hh
     dsimp only at hh
     refine zb fun K kk hK => ?_
     simp only [go_sem]
     refine zg (akd _ _ _ _ _ h7) (by (try simp only [go_sem]) <;> exact wkl) (by rfl) (by rfl) ?_
     simp only [go_sem]
     refine hK _ _ fun nx => ?_; clear hK K; try clear kk
     refine zn ?_; refine nmx ?_
     obtain hR := Option.some.inj hh
     subst hR
     exact zz
    ·rw [if_neg h6] at hh
     replace h6 := Bool.eq_false_iff.mpr h6
     refine zh (by first | exact congrArg PV.bool h6 | rfl) ?_
     refine zb fun K kk hK => ?_
     simp only [go_sem]
     refine hK _ _ fun nx => ?_; clear hK K; try clear kk
     by_cases h8 : (s_2.Kind == (97 : Int)) = true
     ·rw [if_pos h8] at hh
      refine zk (by first | exact congrArg PV.bool h8 | rfl) ?_
      obtain ⟨⟨r_7, r_8, r_9⟩, h9, hh⟩ := ze hh
      dsimp only at hh
      refine zb fun K kk hK => ?_
      simp only [go_sem]
      refine zg (ak6 _ _ _ h9) (by (try simp only [go_sem]) <;> exact wkl) (by rfl) (by rfl) ?_
      simp only [go_sem]
      refine hK _ _ fun nx => ?_; clear hK K; try clear kk
      refine zb fun K kk hK => ?_
      simp only [go_sem]
      refine hK _ _ fun nx => ?_; clear hK K; try clear kk
      refine zn ?_; refine nmx ?_
      obtain hR := Option.some.inj hh
      subst hR
      exact zz
     ·rw [if_neg h8] at hh
      replace h8 := Bool.eq_false_iff.mpr h8
      refine zh (by first | exact congrArg PV.bool h8 | rfl) ?_
      refine zy ?_; refine nmx ?_
      obtain ⟨⟨Jm, afn, akE⟩, h10, hh⟩ := ze hh
      dsimp only at hh
      refine zb fun K kk hK => ?_
      simp only [go_sem]
      refine zg (ah9 _ _ _ h10) (by (try simp only [go_sem]) <;> exact wkl) (by rfl) (by rfl) ?_
      simp only [go_sem]
      refine hK _ _ fun nx => ?_; clear hK K; try clear kk
      refine zb fun K kk hK => ?_
      simp only [go_sem]
      refine hK _ _ fun nx => ?_; clear hK K; try clear kk
      refine zn ?_; refine nmx ?_
      obtain hR := Option.some.inj hh
      subst hR
      exact zz
theorem XP (R : Bool) (hh : jo = some R) : PC Tryz.prog 6 [] (.bool R) := by
 rw [jo] at hh
 refine V8 rfl ?_
 refine zb fun K kk hK => ?_
 simp only [go_sem]
 refine hK _ _ fun nx => ?_; clear hK K; try clear kk
 refine zb fun K kk hK => ?_
 simp only [go_sem]
 refine hK _ _ fun nx => ?_; clear hK K; try clear kk
 obtain ⟨⟨r_1, r_2⟩, h1, hh⟩ := ze hh
 dsimp only at hh
 refine zb fun K kk hK => ?_
 simp only [go_sem]
 refine zg (Q7 _ _ _ h1) (by (try simp only [go_sem]) <;> exact wkl) (by rfl) (by rfl) ?_
 simp only [go_sem]
 refine hK _ _ fun nx => ?_; clear hK K; try clear kk
 by_cases h2 : (r_2 == (0 : Int)) = true
 ·rw [if_pos h2] at hh
  by_cases h3 : ((r_1.Kids.length : Int) == (1 : Int)) = true
  ·rw [if_pos h3] at hh
   obtain ⟨x_3, h4, hh⟩ := ze hh
   obtain ⟨h4a, h4b, h4c⟩ := rd_some h4
   have h4d := kR (f := za.pv) h4c
   have h4f := wL (f := za.pv) h4c
   try simp only [Int.toNat_natCast, Int.reduceToNat] at h4d h4f
   by_cases h5 : ((x_3.Kids.length : Int) == (2 : Int)) = true
   ·rw [if_pos h5] at hh
    obtain ⟨x_4, h6, hh⟩ := ze hh
    obtain ⟨h6a, h6b, h6c⟩ := rd_some h6
    have h6d := kR (f := za.pv) h6c
    have h6f := wL (f := za.pv) h6c
    try simp only [Int.toNat_natCast, Int.reduceToNat] at h6d h6f
    by_cases h7 : (x_4.Text == ([105] : Str)) = true
    ·rw [if_pos h7] at hh
     refine zb fun K kk hK => ?_
     simp only [go_sem, h2, h3, h4a, h4b, h4d, h4f.1, h4f.2, h5, h6a, h6b, h6d, h6f.1, h6f.2, h7]
     (repeat refine sd ?_)
     refine hK _ _ fun nx => ?_; clear hK K; try clear kk
     refine zn ?_; refine nmx ?_
     obtain hR := Option.some.inj hh
     subst hR
     exact zz
    ·rw [if_neg h7] at hh
     replace h7 := Bool.eq_false_iff.mpr h7
     refine zb fun K kk hK => ?_
     simp only [go_sem, h2, h3, h4a, h4b, h4d, h4f.1, h4f.2, h5, h6a, h6b, h6d, h6f.1, h6f.2, h7]
     (repeat refine sd ?_)
     refine hK _ _ fun nx => ?_; clear hK K; try clear kk
     refine zn ?_; refine nmx ?_
     obtain hR := Option.some.inj hh
     subst hR
     exact zz
   ·rw [if_neg h5] at hh
    replace h5 := Bool.eq_false_iff.mpr h5
    refine zb fun K kk hK => ?_
    simp only [go_sem, h2, h3, h4a, h4b, h4d, h4f.1, h4f.2, h5]
    (repeat refine sd ?_)
    refine hK _ _ fun nx => ?_; clear hK K; try clear kk
    refine zn ?_; refine nmx ?_
    obtain hR := Option.some.inj hh
    subst hR
    exact zz
  ·rw [if_neg h3] at hh
   replace h3 := Bool.eq_false_iff.mpr h3
   refine zb fun K kk hK => ?_
   simp only [go_sem, h2, h3]
   (repeat refine sd ?_)
   refine hK _ _ fun nx => ?_; clear hK K; try clear kk
   refine zn ?_; refine nmx ?_
   obtain hR := Option.some.inj hh
   subst hR
   exact zz
 ·rw [if_neg h2] at hh
  replace h2 := Bool.eq_false_iff.mpr h2
  refine zb fun K kk hK => ?_
  simp only [go_sem, h2]
  (repeat refine sd ?_)
  refine hK _ _ fun nx => ?_; clear hK K; try clear kk
  refine zn ?_; refine nmx ?_
  obtain hR := Option.some.inj hh
  subst hR
  exact zz
theorem qj (c_1 : Int) (n_2 : Int) (R : Int) (hh : zQ c_1 n_2 = some R) : PC Tryz.prog 31 [.int .i64 c_1, .int .i64 n_2] (.int .i64 R) := by
 rw [zQ] at hh
 refine JR rfl ?_
 refine zb fun K kk hK => ?_
 simp only [go_sem]
 refine hK _ _ fun nx => ?_; clear hK K; try clear kk
 refine zm ?_
 refine zb fun K kk hK => ?_
 simp only [go_sem]
 refine hK _ _ fun nx => ?_; clear hK K; try clear kk
 by_cases h1 : (decide (c_1 < (0 : Int))) = true
 ·rw [if_pos h1] at hh
  refine zk (by first | exact congrArg PV.bool h1 | rfl) ?_
  refine zt fun K kk hK => ?_
  simp only [go_sem]
  refine hK _ _ fun nx => ?_; clear hK K; try clear kk
  refine nmx ?_
  obtain ⟨h2, hh⟩ := zR hh
  refine zb fun K kk hK => ?_
  simp only [go_sem, h2]
  (repeat refine sd ?_)
  refine hK _ _ fun nx => ?_; clear hK K; try clear kk
  refine zn ?_; refine nmx ?_
  obtain hR := Option.some.inj hh
  subst hR
  exact zz
 ·rw [if_neg h1] at hh
  replace h1 := Bool.eq_false_iff.mpr h1
  refine zh (by first | exact congrArg PV.bool h1 | rfl) ?_
  refine zy ?_; refine nmx ?_
  obtain ⟨h3, hh⟩ := zR hh
  refine zb fun K kk hK => ?_
  simp only [go_sem, h3]
  (repeat refine sd ?_)
  refine hK _ _ fun nx => ?_; clear hK K; try clear kk
  refine zn ?_; refine nmx ?_
  obtain hR := Option.some.inj hh
  subst hR
  exact zz
theorem Jk (a_1 : (List Str)) (b_2 : (List Str)) (R : Bool) (hh : vk a_1 b_2 = some R) : PC Tryz.prog 59 [.list 1 (a_1.map PV.str), .list 1 (b_2.map PV.str)] (.bool R) := by
 rw [vk] at hh
 refine Kz rfl ?_
 refine zb fun K kk hK => ?_
 simp only [go_sem]
 refine hK _ _ fun nx => ?_; clear hK K; try clear kk
 refine zm ?_
 refine zb fun K kk hK => ?_
 simp only [go_sem]
 refine hK _ _ fun nx => ?_; clear hK K; try clear kk
 by_cases h1 : ((a_1.length : Int) != (b_2.length : Int)) = true
 ·rw [if_pos h1] at hh
  refine zk (by first | exact congrArg PV.bool h1 | rfl) ?_
  refine zb fun K kk hK => ?_
  simp only [go_sem]
  refine hK _ _ fun nx => ?_; clear hK K; try clear kk
  refine zn ?_; refine nmx ?_
  obtain hR := Option.some.inj hh
  subst hR
  exact zz
 ·rw [if_neg h1] at hh
  replace h1 := Bool.eq_false_iff.mpr h1
  refine zh (by first | exact congrArg PV.bool h1 | rfl) ?_
  refine zy ?_; refine nmx ?_
  refine zm ?_
  refine zb fun K kk hK => ?_
  simp only [go_sem]
  refine hK _ _ fun nx => ?_; clear hK K; try clear kk
  obtain ⟨e0, f0, hh⟩ := ze hh
  obtain ⟨hlen0, f0⟩ := zR f0
  refine qz (w9 (fun s => .inr () = e0 ∧ ∃ (arU : Int) (KU : Bool) (nx : Nat), s = ⟨[(0, .list 1 (a_1.map PV.str)), (1, .list 1 (b_2.map PV.str)), (5, .int .i64 arU), (14, .bool KU)], [], nx⟩))
   (fun i s => False)
   (fun s => ∃ kT, .inl kT = e0 ∧ zZ Tryz.prog [.tmp 4] (.bool kT) [] .ret s) ?_ ?_ ?_ ?_
  ·refine zC ?_
   refine qi fun I hI => ?_
   have key : ∀ (suf pre : List Str) (i_5 : Int), a_1 = pre ++ suf → i_5 = (pre.length : Int) → qB b_2 suf i_5 = some e0 → ∀ (nx : Nat), I ⟨[(0, .list 1 (a_1.map PV.str)), (1, .list 1 (b_2.map PV.str)), (5, .int .i64 i_5)], [], nx⟩ := by
    intro suf
    induction suf with
    | nil =>
     intro pre i_5 hsplit hidx hh nx
     rw [qB] at hh
     refine hI _ ?_
     have h10 := walk_nil hsplit hidx
     refine zm ?_
     refine zb fun K kk hK => ?_
     simp only [go_sem]
     refine hK _ _ fun nx => ?_; clear hK K; try clear kk
     refine zh (by first | exact congrArg PV.bool h10 | rfl) ?_
     refine zV ?_; refine nmx ?_
     refine wU ?_
     refine zH ?_
     refine ⟨(Option.some.inj hh), ?_⟩
     first | exact ⟨_, _, _, rfl⟩ | (simp only [pvE, lsE, zo]; exact ⟨_, _, _, rfl⟩) | (simp only [pvE, lsE, zo, h1, h10]; exact ⟨_, _, _, rfl⟩)
    | cons y_8 suf ih =>
     intro pre i_5 hsplit hidx hh nx
     rw [qB] at hh
     refine hI _ ?_
     obtain ⟨hl0a, hl0b, hl0d, hl0w, h10⟩ := qV (f := PV.str) hsplit hidx hlen0
     refine zm ?_
     refine zb fun K kk hK => ?_
     simp only [go_sem]
     refine hK _ _ fun nx => ?_; clear hK K; try clear kk
     refine zk (by first | exact congrArg PV.bool h10 | rfl) ?_
     refine zy ?_; refine nmx ?_
     refine zm ?_
     refine zC ?_
     obtain ⟨x_9, h11, hh⟩ := ze hh
     obtain ⟨h11a, h11b, h11c⟩ := rd_some h11
     have h11d := kR (f := PV.str) h11c
     have h11f := wL (f := PV.str) h11c
     try simp only [Int.toNat_natCast, Int.reduceToNat] at h11d h11f
     refine zb fun K kk hK => ?_
     simp only [go_sem, h11a, h11b, h11d, h11f.1, h11f.2, hl0a, hl0b, hl0d, hl0w]
     (repeat refine sd ?_)
     refine hK _ _ fun nx => ?_; clear hK K; try clear kk
     by_cases h12 : (!(y_8 == x_9)) = true
     ·rw [if_pos h12] at hh
      refine zk (by first | exact congrArg PV.bool h12 | rfl) ?_
      refine zb fun K kk hK => ?_
      simp only [go_sem, hl0a, hl0b, hl0d, hl0w]
      refine hK _ _ fun nx => ?_; clear hK K; try clear kk
      refine zn ?_; refine nmx ?_
      refine xI ⟨_, (Option.some.inj hh), ?_⟩
      exact zz
     ·rw [if_neg h12] at hh
      replace h12 := Bool.eq_false_iff.mpr h12
      refine zh (by first | exact congrArg PV.bool h12 | rfl) ?_
      refine zy ?_; refine nmx ?_
      refine zt fun K kk hK => ?_
      simp only [go_sem, hl0a, hl0b, hl0d, hl0w]
      refine hK _ _ fun nx => ?_; clear hK K; try clear kk
      refine nmx ?_
      have ih' := ih (pre ++ [y_8]) (i_5 + 1) (by rw [hsplit]; simp) (by simp [hidx]) hh nx
      refine zH ?_
      first | exact ih' | (simp only [pvE, lsE, zo] at ih' ⊢; exact ih') | (simp only [pvE, lsE, zo, h1, h10, h12] at ih' ⊢; exact ih')
   exact key a_1 [] _ rfl rfl f0 _
  ·rintro s ⟨t, hless, rfl, arU, KU, nx, rfl⟩
   try dsimp only at hh
   refine nmy ?_
   first | (refine qW hless ?_; try refine wY ?_) | refine qC hless ?_ | refine qD hless ?_
   refine zb fun K kk hK => ?_
   simp only [go_sem]
   refine hK _ _ fun nx => ?_; clear hK K; try clear kk
   refine zn ?_; refine nmx ?_
   obtain hR := Option.some.inj hh
   subst hR
   exact zz
  ·intro i s h; exact h.elim
  ·rintro s ⟨kT, rfl, hb⟩
   try dsimp only at hh
   obtain hR := Option.some.inj hh
   subst hR
   refine nmx ?_
   exact hb
theorem aal (l_1 : (List za)) (R : (List za)) (hh : xg l_1 = some R) : PC Tryz.prog 55 [.list 5 (l_1.map za.pv)] (.own 5 (R.map za.pv)) := by
 rw [xg] at hh
 refine Xx rfl ?_
 refine zb fun K kk hK => ?_
 simp only [go_sem]
 refine hK _ _ fun nx => ?_; clear hK K; try clear kk
 refine zb fun K kk hK => ?_
 simp only [go_sem]
 refine hK _ _ fun nx => ?_; clear hK K; try clear kk
 refine zm ?_
 refine zb fun K kk hK => ?_
 simp only [go_sem]
 refine hK _ _ fun nx => ?_; clear hK K; try clear kk
 obtain ⟨e0, f0, hh⟩ := ze hh
 obtain ⟨hlen0, f0⟩ := zR f0
 refine qz (w9 (fun s => ∃ QU, QU = e0 ∧ ∃ (awo : Int) (awG : Bool) (nx : Nat) (g3 : Nat), s = ⟨[(0, .list 5 (l_1.map za.pv)), (3, .row 3 g3 QU.length), (4, .int .i64 awo), (10, .bool awG)], [(3, g3, .row false 5 (QU.map za.pv))], nx⟩))
  (fun i s => False)
  (fun s => False) ?_ ?_ ?_ ?_
 ·refine zC ?_
  refine qi fun I hI => ?_
  have key : ∀ (suf pre : List za) (Jo : Int) (vQ : (List za)), l_1 = pre ++ suf → Jo = (pre.length : Int) → qb suf Jo vQ = some e0 → ∀ (nx : Nat) (g3 : Nat), I ⟨[(0, .list 5 (l_1.map za.pv)), (3, .row 3 g3 vQ.length), (4, .int .i64 Jo)], [(3, g3, .row false 5 (vQ.map za.pv))], nx⟩ := by
   intro suf
   induction suf with
   | nil =>
    intro pre Jo vQ hsplit hidx hh nx g3
    rw [qb] at hh
    refine hI _ ?_
    have h37 := walk_nil hsplit hidx
    refine zm ?_
    refine zb fun K kk hK => ?_
    simp only [go_sem]
    refine hK _ _ fun nx => ?_; clear hK K; try clear kk
    refine zh (by first | exact congrArg PV.bool h37 | rfl) ?_
    refine zV ?_; refine nmx ?_
    refine wU ?_
    refine zH ?_
    refine ⟨_, (Option.some.inj hh), ?_⟩
    first | exact ⟨_, _, _, _, rfl⟩ | (simp only [pvE, lsE, zo]; exact ⟨_, _, _, _, rfl⟩) | (simp only [pvE, lsE, zo, h37]; exact ⟨_, _, _, _, rfl⟩)
   | cons Zh suf ih =>
    intro pre Jo vQ hsplit hidx hh nx g3
    rw [qb] at hh
    refine hI _ ?_
    obtain ⟨hl0a, hl0b, hl0d, hl0w, h37⟩ := qV (f := za.pv) hsplit hidx hlen0
    refine zm ?_
    refine zb fun K kk hK => ?_
    simp only [go_sem]
    refine hK _ _ fun nx => ?_; clear hK K; try clear kk
    refine zk (by first | exact congrArg PV.bool h37 | rfl) ?_
    refine zy ?_; refine nmx ?_
    refine zm ?_
    refine zC ?_
    refine zb fun K kk hK => ?_
    simp only [go_sem, hl0a, hl0b, hl0d, hl0w]
    refine hK _ _ fun nx => ?_; clear hK K; try clear kk
    refine zb fun K kk hK => ?_
    simp only [go_sem, hl0a, hl0b, hl0d, hl0w]
    refine hK _ _ fun nx => ?_; clear hK K; try clear kk
    refine zm ?_
    obtain ⟨e3, f3, hh⟩ := ze hh
    refine Qg (fun s => .inr () = e3 ∧ ∃ (awq : Bool) (nx : Nat) (g3 : Nat) (g5 : Nat), s = ⟨[(0, .list 5 (l_1.map za.pv)), (3, .row 3 g3 vQ.length), (4, .int .i64 Jo), (5, .box 5 g5 0), (6, .int .i64 (w64 ((vQ.length : Int) - (1 : Int)))), (27, .bool awq)], [(3, g3, .row false 5 (vQ.map za.pv)), (5, g5, .var 28 [.str Zh.Kind, .str Zh.Text, .list 1 (Zh.Marks.map PV.str), .list 2 (Zh.zq.map zf.pv), .list 5 (Zh.Kids.map za.pv)])], nx⟩)
     (fun i s => (i = 1 ∧ .inl () = e3 ∧ ∃ (nx : Nat) (g3 : Nat) (g5 : Nat), s = ⟨[(0, .list 5 (l_1.map za.pv)), (3, .row 3 g3 vQ.length), (4, .int .i64 Jo), (5, .box 5 g5 0), (6, .int .i64 (w64 ((vQ.length : Int) - (1 : Int)))), (27, .bool (Zh.Text == ([] : Str)))], [(3, g3, .row false 5 (vQ.map za.pv)), (5, g5, .var 28 [.str Zh.Kind, .str Zh.Text, .list 1 (Zh.Marks.map PV.str), .list 2 (Zh.zq.map zf.pv), .list 5 (Zh.Kids.map za.pv)])], nx⟩))
     (fun s => False) ?_ ?_ ?_ ?_
    ·have hh := f3
     by_cases h38 : (Zh.Kind == ([116, 101, 120, 116] : Str)) = true
     ·rw [if_pos h38] at hh
      refine zb fun K kk hK => ?_
      simp only [go_sem, h38, hl0a, hl0b, hl0d, hl0w]
      (repeat refine sd ?_)
      refine hK _ _ fun nx => ?_; clear hK K; try clear kk
      by_cases h39 : (Zh.Text == ([] : Str)) = true
      ·rw [if_pos h39] at hh
       refine zk (by first | exact congrArg PV.bool h39 | rfl) ?_
       refine zV ?_; refine nmx ?_
       refine al1 ⟨rfl, (Option.some.inj hh), ?_⟩
       first | exact ⟨_, _, _, rfl⟩ | (simp only [pvE, lsE, zo]; exact ⟨_, _, _, rfl⟩) | (simp only [pvE, lsE, zo, h37, h38, h39]; exact ⟨_, _, _, rfl⟩)
      ·rw [if_neg h39] at hh
       replace h39 := Bool.eq_false_iff.mpr h39
       refine zh (by first | exact congrArg PV.bool h39 | rfl) ?_
       refine zy ?_; refine nmx ?_
       refine wU ?_
       refine zH ?_
       refine ⟨(Option.some.inj hh), ?_⟩
       first | exact ⟨_, _, _, _, rfl⟩ | (simp only [pvE, lsE, zo]; exact ⟨_, _, _, _, rfl⟩) | (simp only [pvE, lsE, zo, h37, h38, h39]; exact ⟨_, _, _, _, rfl⟩)
     ·rw [if_neg h38] at hh
      replace h38 := Bool.eq_false_iff.mpr h38
      refine zb fun K kk hK => ?_
      simp only [go_sem, h38, hl0a, hl0b, hl0d, hl0w]
      (repeat refine sd ?_)
      refine hK _ _ fun nx => ?_; clear hK K; try clear kk
      refine zh rfl ?_
      refine zy ?_; refine nmx ?_
      refine wU ?_
      refine zH ?_
      refine ⟨(Option.some.inj hh), ?_⟩
      first | exact ⟨_, _, _, _, rfl⟩ | (simp only [pvE, lsE, zo]; exact ⟨_, _, _, _, rfl⟩) | (simp only [pvE, lsE, zo, h37, h38]; exact ⟨_, _, _, _, rfl⟩)
    ·rintro s ⟨rfl, awq, nx, g3, g5, rfl⟩
     try dsimp only at hh
     refine zm ?_
     by_cases h40 : (Zh.Kind == ([116, 101, 120, 116] : Str)) = true
     ·rw [if_pos h40] at hh
      by_cases h41 : (decide ((w64 ((vQ.length : Int) - (1 : Int))) ≥ (0 : Int))) = true
      ·rw [if_pos h41] at hh
       obtain ⟨aqx, h42, hh⟩ := ze hh
       obtain ⟨h42a, h42b, h42c⟩ := rd_some h42
       have h42d := kR (f := za.pv) h42c
       have h42f := wL (f := za.pv) h42c
       try simp only [Int.toNat_natCast, Int.reduceToNat] at h42d h42f
       by_cases h43 : (aqx.Kind == ([116, 101, 120, 116] : Str)) = true
       ·rw [if_pos h43] at hh
        obtain ⟨aej, h44, hh⟩ := ze hh
        refine zb fun K kk hK => ?_
        simp only [go_sem, h40, h41, of_decide_eq_true h41, h42a, h42b, h42d, h42f.1, h42f.2, h43, hl0a, hl0b, hl0d, hl0w]
        (repeat refine sd ?_)
        refine zg (Jk _ _ _ h44) (by (try simp only [go_sem, h40, h41, of_decide_eq_true h41, h42a, h42b, h42d, h42f.1, h42f.2, h43, hl0a, hl0b, hl0d, hl0w]) <;> exact wkl) (by rfl) (by rfl) ?_
        simp only [go_sem, h40, h41, of_decide_eq_true h41, h42a, h42b, h42d, h42f.1, h42f.2, h43, hl0a, hl0b, hl0d, hl0w]
        (repeat refine sd ?_)
        refine hK _ _ fun nx => ?_; clear hK K; try clear kk
        by_cases h45 : (aej) = true
        ·rw [if_pos h45] at hh
         refine zk (by first | exact congrArg PV.bool h45 | rfl) ?_
         obtain ⟨h46, hh⟩ := zR hh
         refine zb fun K kk hK => ?_
         simp only [go_sem, h42a, h42b, h42d, h42f.1, h42f.2, h46, hl0a, hl0b, hl0d, hl0w]
         (repeat refine sd ?_)
         refine hK _ _ fun nx => ?_; clear hK K; try clear kk
         obtain ⟨awR, h47, hh⟩ := ze hh
         obtain ⟨h47a, h47c⟩ := Qm h47
         have h47g := X7 h47a
         have h47d := aai (f := za.pv) h47c
         try simp only [Int.toNat_natCast, Int.reduceToNat, List.map_cons, List.map_nil, pvE] at h47d
         obtain ⟨avM, h48, hh⟩ := ze hh
         obtain ⟨h48a, h48c⟩ := zX h48
         have h48d := qF (f := za.pv) h48c
         have h48e := qE h48c
         try simp only [List.length_cons, List.length_nil, Nat.zero_add, Nat.reduceAdd] at h48a h48e
         try simp only [h48e] at h48a
         try simp only [List.map_cons, List.map_nil, List.nil_append, List.append_nil, List.cons_append, List.singleton_append, zo, pvE] at h48d
         obtain ⟨asz, h49, hh⟩ := ze hh
         obtain ⟨h49a, h49c⟩ := zX h49
         have h49d := qF (f := za.pv) h49c
         have h49e := qE h49c
         try simp only [List.length_cons, List.length_nil, Nat.zero_add, Nat.reduceAdd] at h49a h49e
         try simp only [h49e] at h49a
         try simp only [List.map_cons, List.map_nil, List.nil_append, List.append_nil, List.cons_append, List.singleton_append, zo, pvE] at h49d
         refine zb fun K kk hK => ?_
         simp only [go_sem, h47a.1, h47a.2.1, h47a.2.2, h47d, h47g, h48a, h48d, h48e, h49a, h49d, h49e, hl0a, hl0b, hl0d, hl0w]
         (repeat refine sd ?_)
         refine hK _ _ fun nx => ?_; clear hK K; try clear kk
         refine zV ?_; refine nmx ?_
         refine zt fun K kk hK => ?_
         simp only [go_sem, hl0a, hl0b, hl0d, hl0w]
         refine hK _ _ fun nx => ?_; clear hK K; try clear kk
         refine nmx ?_
         have ih' := ih (pre ++ [Zh]) (Jo + 1) _ (by rw [hsplit]; simp) (by simp [hidx]) hh nx
         refine zH ?_
         first | exact ih' _ | (simp only [pvE, lsE, zo, h48e, h48d, h49e] at ih' ⊢; exact ih' _) | (simp only [pvE, lsE, zo, h48e, h48d, h49e, h37, h40, h41, h43, h45] at ih' ⊢; exact ih' _)
        ·rw [if_neg h45] at hh
         replace h45 := Bool.eq_false_iff.mpr h45
         refine zh (by first | exact congrArg PV.bool h45 | rfl) ?_
         refine zy ?_; refine nmx ?_
         obtain ⟨arO, h50, hh⟩ := ze hh
         obtain ⟨h50a, h50c⟩ := zX h50
         have h50d := qF (f := za.pv) h50c
         have h50e := qE h50c
         try simp only [List.length_cons, List.length_nil, Nat.zero_add, Nat.reduceAdd] at h50a h50e
         try simp only [h50e] at h50a
         try simp only [List.map_cons, List.map_nil, List.nil_append, List.append_nil, List.cons_append, List.singleton_append, zo, pvE] at h50d
         refine zt fun K kk hK => ?_
         simp only [go_sem, h50a, h50d, h50e, hl0a, hl0b, hl0d, hl0w]
         (repeat refine sd ?_)
         refine hK _ _ fun nx => ?_; clear hK K; try clear kk
         refine nmx ?_
         refine zt fun K kk hK => ?_
         simp only [go_sem, hl0a, hl0b, hl0d, hl0w]
         refine hK _ _ fun nx => ?_; clear hK K; try clear kk
         refine nmx ?_
         have ih' := ih (pre ++ [Zh]) (Jo + 1) _ (by rw [hsplit]; simp) (by simp [hidx]) hh nx
         refine zH ?_
         first | exact ih' _ | (simp only [pvE, lsE, zo, h50e] at ih' ⊢; exact ih' _) | (simp only [pvE, lsE, zo, h50e, h37, h40, h41, h43, h45] at ih' ⊢; exact ih' _)
       ·rw [if_neg h43] at hh
        replace h43 := Bool.eq_false_iff.mpr h43
        refine zb fun K kk hK => ?_
        simp only [go_sem, h40, h41, of_decide_eq_true h41, h42a, h42b, h42d, h42f.1, h42f.2, h43, hl0a, hl0b, hl0d, hl0w]
        (repeat refine sd ?_)
        refine hK _ _ fun nx => ?_; clear hK K; try clear kk
        refine zh rfl ?_
        refine zy ?_; refine nmx ?_
        obtain ⟨asR, h51, hh⟩ := ze hh
        obtain ⟨h51a, h51c⟩ := zX h51
        have h51d := qF (f := za.pv) h51c
        have h51e := qE h51c
        try simp only [List.length_cons, List.length_nil, Nat.zero_add, Nat.reduceAdd] at h51a h51e
        try simp only [h51e] at h51a
        try simp only [List.map_cons, List.map_nil, List.nil_append, List.append_nil, List.cons_append, List.singleton_append, zo, pvE] at h51d
        refine zt fun K kk hK => ?_
        simp only [go_sem, h51a, h51d, h51e, hl0a, hl0b, hl0d, hl0w]
        (repeat refine sd ?_)
        refine hK _ _ fun nx => ?_; clear hK K; try clear kk
        refine nmx ?_
        refine zt fun K kk hK => ?_
        simp only [go_sem, hl0a, hl0b, hl0d, hl0w]
        refine hK _ _ fun nx => ?_; clear hK K; try clear kk
        refine nmx ?_
        have ih' := ih (pre ++ [Zh]) (Jo + 1) _ (by rw [hsplit]; simp) (by simp [hidx]) hh nx
        refine zH ?_
        first | exact ih' _ | (simp only [pvE, lsE, zo, h51e] at ih' ⊢; exact ih' _) | (simp only [pvE, lsE, zo, h51e, h37, h40, h41, h43] at ih' ⊢; exact ih' _)
      ·rw [if_neg h41] at hh
       replace h41 := Bool.eq_false_iff.mpr h41
       refine zb fun K kk hK => ?_
       simp only [go_sem, h40, h41, of_decide_eq_false h41, hl0a, hl0b, hl0d, hl0w]
       (repeat refine sd ?_)
       refine hK _ _ fun nx => ?_; clear hK K; try clear kk
       refine zh rfl ?_
       refine zy ?_; refine nmx ?_
       obtain ⟨asc, h52, hh⟩ := ze hh
       obtain ⟨h52a, h52c⟩ := zX h52
       have h52d := qF (f := za.pv) h52c
       have h52e := qE h52c
       try simp only [List.length_cons, List.length_nil, Nat.zero_add, Nat.reduceAdd] at h52a h52e
       try simp only [h52e] at h52a
       try simp only [List.map_cons, List.map_nil, List.nil_append, List.append_nil, List.cons_append, List.singleton_append, zo, pvE] at h52d
       refine zt fun K kk hK => ?_
       simp only [go_sem, h52a, h52d, h52e, hl0a, hl0b, hl0d, hl0w]
       (repeat refine sd ?_)
       refine hK _ _ fun nx => ?_; clear hK K; try clear kk
       refine nmx ?_
       refine zt fun K kk hK => ?_
       simp only [go_sem, hl0a, hl0b, hl0d, hl0w]
       refine hK _ _ fun nx => ?_; clear hK K; try clear kk
       refine nmx ?_
       have ih' := ih (pre ++ [Zh]) (Jo + 1) _ (by rw [hsplit]; simp) (by simp [hidx]) hh nx
       refine zH ?_
       first | exact ih' _ | (simp only [pvE, lsE, zo, h52e] at ih' ⊢; exact ih' _) | (simp only [pvE, lsE, zo, h52e, h37, h40, h41] at ih' ⊢; exact ih' _)
     ·rw [if_neg h40] at hh
      replace h40 := Bool.eq_false_iff.mpr h40
      refine zb fun K kk hK => ?_
      simp only [go_sem, h40, hl0a, hl0b, hl0d, hl0w]
      (repeat refine sd ?_)
      refine hK _ _ fun nx => ?_; clear hK K; try clear kk
      refine zh rfl ?_
      refine zy ?_; refine nmx ?_
      obtain ⟨avU, h53, hh⟩ := ze hh
      obtain ⟨h53a, h53c⟩ := zX h53
      have h53d := qF (f := za.pv) h53c
      have h53e := qE h53c
      try simp only [List.length_cons, List.length_nil, Nat.zero_add, Nat.reduceAdd] at h53a h53e
      try simp only [h53e] at h53a
      try simp only [List.map_cons, List.map_nil, List.nil_append, List.append_nil, List.cons_append, List.singleton_append, zo, pvE] at h53d
      refine zt fun K kk hK => ?_
      simp only [go_sem, h53a, h53d, h53e, hl0a, hl0b, hl0d, hl0w]
      (repeat refine sd ?_)
      refine hK _ _ fun nx => ?_; clear hK K; try clear kk
      refine nmx ?_
      refine zt fun K kk hK => ?_
      simp only [go_sem, hl0a, hl0b, hl0d, hl0w]
      refine hK _ _ fun nx => ?_; clear hK K; try clear kk
      refine nmx ?_
      have ih' := ih (pre ++ [Zh]) (Jo + 1) _ (by rw [hsplit]; simp) (by simp [hidx]) hh nx
      refine zH ?_
      first | exact ih' _ | (simp only [pvE, lsE, zo, h53e] at ih' ⊢; exact ih' _) | (simp only [pvE, lsE, zo, h53e, h37, h40] at ih' ⊢; exact ih' _)
    ·intro i s h
     obtain ⟨rfl, rfl, nx, g3, g5, rfl⟩ := h
     try dsimp only at hh
     refine nmx ?_
     refine zt fun K kk hK => ?_
     simp only [go_sem, hl0a, hl0b, hl0d, hl0w]
     refine hK _ _ fun nx => ?_; clear hK K; try clear kk
     refine nmx ?_
     have ih' := ih (pre ++ [Zh]) (Jo + 1) _ (by rw [hsplit]; simp) (by simp [hidx]) hh nx
     refine zH ?_
     first | exact ih' _ | (simp only [pvE, lsE, zo] at ih' ⊢; exact ih' _) | (simp only [pvE, lsE, zo, h37] at ih' ⊢; exact ih' _)
    ·intro s h; exact h.elim
  exact key l_1 [] _ _ rfl rfl f0 _ _
 ·rintro s ⟨t, hless, QU, rfl, awo, awG, nx, g3, rfl⟩
  try dsimp only at hh
  refine nmy ?_
  first | (refine qW hless ?_; try refine wY ?_) | refine qC hless ?_ | refine qD hless ?_
  refine zb fun K kk hK => ?_
  simp only [go_sem]
  refine hK _ _ fun nx => ?_; clear hK K; try clear kk
  refine zn ?_; refine nmx ?_
  obtain hR := Option.some.inj hh
  subst hR
  exact Xc (by rfl) (by rfl) (by rfl) (by simp only [List.length_map, List.length_cons, List.length_nil, Nat.zero_add, Nat.reduceAdd]) (by first | rfl | (simp only [pvE, lsE, zo]; done) | (simp only [pvE, lsE, zo]; rfl))
 ·intro i s h; exact h.elim
 ·intro s h; exact h.elim
end Go.Proofs.YtclohbgnaopjfaaGreatDoor
