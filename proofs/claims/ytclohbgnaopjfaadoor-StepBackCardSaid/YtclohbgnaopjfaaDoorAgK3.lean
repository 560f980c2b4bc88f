/- Texts of the proof of stepBackCard -/
import Derived.Test.YtclohbgnaopjfaaDoorAgC
import Derived.Test.YtclohbgnaopjfaaDoorAgF
import Derived.Test.YtclohbgnaopjfaaDoorAgK0
import Derived.Test.YtclohbgnaopjfaaDoorAgK2
namespace Go.Proofs.YtclohbgnaopjfaaDoor
set_option linter.unusedSimpArgs false
set_option linter.unusedVariables false
open Go
set_option maxRecDepth 100000
theorem Xq (n_1 : za) (zO : Int) (vY : Int) (zA : Int) (jQ : Int) (kM : (List za)) (ja : Str) (kL : Str) (l_9 : (List zk)) (R : ((List za) × Int × Int × Int × (List za) × Str × Str × (List zk))) (hh : jo n_1 zO vY zA jQ kM ja kL l_9 = some R) : BC Tryd.prog 101 [.box 1000 0 0, .agg [.str n_1.Kind, .str n_1.Text, .list 1 (n_1.Marks.map PV.str), .list 2 (n_1.zo.map zg.pv), .list 5 (n_1.Kids.map za.pv)], .int .i64 zO] [.var 136 [.int .u8 vY, .int .i64 zA, .int .i64 jQ, .list 5 (kM.map za.pv), .str ja, .str kL, .row 1001 0 l_9.length], .row false 3 (l_9.map zk.pv)] (.list 5 (R.1.map za.pv)) [.var 136 [.int .u8 R.2.1, .int .i64 R.2.2.1, .int .i64 R.2.2.2.1, .list 5 (R.2.2.2.2.1.map za.pv), .str R.2.2.2.2.2.1, .str R.2.2.2.2.2.2.1, .row 1001 0 R.2.2.2.2.2.2.2.length], .moved 3 (R.2.2.2.2.2.2.2.map zk.pv)] := by
 rw [jo] at hh
 refine VY rfl rfl rfl ?_
 refine zb fun K kk hK => ?_
 simp only [go_sem]
 refine hK _ _ fun nx => ?_; clear hK K; try clear kk
 refine zb fun K kk hK => ?_
 simp only [go_sem]
 refine hK _ _ fun nx => ?_; clear hK K; try clear kk
 refine zb fun K kk hK => ?_
 simp only [go_sem]
 refine hK _ _ fun nx => ?_; clear hK K; try clear kk
 refine zb fun K kk hK => ?_
 simp only [go_sem]
 refine hK _ _ fun nx => ?_; clear hK K; try clear kk
 obtain ⟨⟨QU, Js⟩, h1, hh⟩ := zf hh
 dsimp only at hh
 refine zb fun K kk hK => ?_
 simp only [go_sem]
 refine ze (acr _ _ _ h1) (by (try simp only [go_sem]) <;> exact wkl) (by rfl) (by rfl) ?_
 simp only [go_sem]
 refine hK _ _ fun nx => ?_; clear hK K; try clear kk
 refine zm ?_
 by_cases h2 : (!Js) = true
 ·rw [if_pos h2] at hh
  refine zb fun K kk hK => ?_
  simp only [go_sem, h2]
  (repeat refine sd ?_)
  refine hK _ _ fun nx => ?_; clear hK K; try clear kk
  refine zn rfl ?_
  refine zb fun K kk hK => ?_
  simp only [go_sem]
  refine hK _ _ fun nx => ?_; clear hK K; try clear kk
  refine zi ?_; refine nmx ?_
  obtain hR := Option.some.inj hh
  subst hR
  refine vo ?_ (by rfl) ?_
  ·simp only [go_sem, wJ, jU, kH, vH, Zd, List.map_cons, List.map_append, List.head?_cons, h2]
   all_goals exact wkw
  ·(try simp only [go_sem, h2]); (try simp only [List.length_append, List.map_append]); all_goals exact wkb
 ·rw [if_neg h2] at hh
  replace h2 := Bool.eq_false_iff.mpr h2
  refine zb fun K kk hK => ?_
  simp only [go_sem, h2]
  (repeat refine sd ?_)
  refine hK _ _ fun nx => ?_; clear hK K; try clear kk
  by_cases h3 : ((if ((runes n_1.Text).length : Int) < (if (0 : Int) > (w64 (zA - zO)) then (0 : Int) else w64 (zA - zO)) then ((runes n_1.Text).length : Int) else (if (0 : Int) > (w64 (zA - zO)) then (0 : Int) else w64 (zA - zO))) == (if ((runes n_1.Text).length : Int) < (if (if ((runes n_1.Text).length : Int) < (if (0 : Int) > (w64 (zA - zO)) then (0 : Int) else w64 (zA - zO)) then ((runes n_1.Text).length : Int) else (if (0 : Int) > (w64 (zA - zO)) then (0 : Int) else w64 (zA - zO))) > (w64 (jQ - zO)) then (if ((runes n_1.Text).length : Int) < (if (0 : Int) > (w64 (zA - zO)) then (0 : Int) else w64 (zA - zO)) then ((runes n_1.Text).length : Int) else (if (0 : Int) > (w64 (zA - zO)) then (0 : Int) else w64 (zA - zO))) else w64 (jQ - zO)) then ((runes n_1.Text).length : Int) else (if (if ((runes n_1.Text).length : Int) < (if (0 : Int) > (w64 (zA - zO)) then (0 : Int) else w64 (zA - zO)) then ((runes n_1.Text).length : Int) else (if (0 : Int) > (w64 (zA - zO)) then (0 : Int) else w64 (zA - zO))) > (w64 (jQ - zO)) then (if ((runes n_1.Text).length : Int) < (if (0 : Int) > (w64 (zA - zO)) then (0 : Int) else w64 (zA - zO)) then ((runes n_1.Text).length : Int) else (if (0 : Int) > (w64 (zA - zO)) then (0 : Int) else w64 (zA - zO))) else w64 (jQ - zO)))) = true
  ·rw [if_pos h3] at hh
   refine zn (by first | exact congrArg PV.bool h3 | rfl) ?_
   refine zb fun K kk hK => ?_
   simp only [go_sem]
   refine hK _ _ fun nx => ?_; clear hK K; try clear kk
   refine zi ?_; refine nmx ?_
   obtain hR := Option.some.inj hh
   subst hR
   refine vo ?_ (by rfl) ?_
   ·simp only [go_sem, wJ, jU, kH, vH, Zd, List.map_cons, List.map_append, List.head?_cons, h2, h3]
    all_goals exact wkw
   ·(try simp only [go_sem, h2, h3]); (try simp only [List.length_append, List.map_append]); all_goals exact wkb
  ·rw [if_neg h3] at hh
   replace h3 := Bool.eq_false_iff.mpr h3
   refine zh (by first | exact congrArg PV.bool h3 | rfl) ?_
   refine zx ?_; refine nmx ?_
   obtain ⟨⟨apR, ape, au5, alP, apS, anp, asT⟩, h4, hh⟩ := zf hh
   dsimp only at hh
   refine zb fun K kk hK => ?_
   simp only [go_sem]
   refine jK [1000, 1001] (by decide) (XG _ _ _ _ _ _ _ _ _ _ h4) (by (try simp only [go_sem, h2, h3]) <;> exact wkb) (by rfl) ?_
   simp only [go_sem]
   refine hK _ _ fun nx => ?_; clear hK K; try clear kk
   refine zb fun K kk hK => ?_
   simp only [go_sem]
   refine hK _ _ fun nx => ?_; clear hK K; try clear kk
   obtain ⟨avc, h5, hh⟩ := zf hh
   obtain ⟨au3, h6, hh⟩ := zf hh
   obtain ⟨auZ, h7, hh⟩ := zf hh
   refine zb fun K kk hK => ?_
   simp only [go_sem]
   refine ab1 [4, 7] (by decide) (by decide) (xx _ _ _ _ _ _ h5) (by (try simp only [go_sem, h2, h3]) <;> exact wkb) (by rfl) (by rfl) ?_
   simp only [go_sem]
   refine ab1 [4, 7] (by decide) (by decide) (xx _ _ _ _ _ _ h6) (by (try simp only [go_sem, h2, h3]) <;> exact wkb) (by rfl) (by rfl) ?_
   simp only [go_sem]
   refine ab1 [4, 7] (by decide) (by decide) (xx _ _ _ _ _ _ h7) (by (try simp only [go_sem, h2, h3]) <;> exact wkb) (by rfl) (by rfl) ?_
   simp only [go_sem]
   refine hK _ _ fun nx => ?_; clear hK K; try clear kk
   refine zi ?_; refine nmx ?_
   obtain hR := Option.some.inj hh
   subst hR
   refine vo ?_ (by rfl) ?_
   ·simp only [go_sem, wJ, jU, kH, vH, Zd, List.map_cons, List.map_append, List.head?_cons, h2, h3]
    all_goals exact wkw
   ·(try simp only [go_sem, h2, h3]); (try simp only [List.length_append, List.map_append]); all_goals exact wkb
theorem XU (l_1 : (List za)) (R : (List za)) (hh : Wp l_1 = some R) : PC Tryd.prog 82 [.list 5 (l_1.map za.pv)] (.own 5 (R.map za.pv)) := by
 rw [Wp] at hh
 refine agi rfl ?_
 refine zb fun K kk hK => ?_
 simp only [go_sem]
 refine hK _ _ fun nx => ?_; clear hK K; try clear kk
 refine zb fun K kk hK => ?_
 simp only [go_sem]
 refine hK _ _ fun nx => ?_; clear hK K; try clear kk
 refine zm ?_
 refine zb fun K kk hK => ?_
 simp only [go_sem]
 refine hK _ _ fun nx => ?_; clear hK K; try clear kk
 obtain ⟨e0, f0, hh⟩ := zf hh
 obtain ⟨hlen0, f0⟩ := z8 f0
 refine qz (kv (fun s => ∃ aeo, aeo = e0 ∧ ∃ (axh : Int) (ato : Bool) (nx : Nat) (g3 : Nat), s = ⟨[(3, .row 3 g3 aeo.length), (7, .list 5 (l_1.map za.pv)), (8, .int .i64 (l_1.length : Int)), (9, .int .i64 axh), (10, .bool ato)], [(3, g3, .row false 5 (aeo.map za.pv))], nx⟩))
  (fun i s => False)
  (fun s => False) ?_ ?_ ?_ ?_
 ·refine zC ?_
  refine qh fun I hI => ?_
  have key : ∀ (suf pre : List za) (Qk : Int) (jk : (List za)), l_1 = pre ++ suf → Qk = (pre.length : Int) → wU suf Qk jk = some e0 → ∀ (nx : Nat) (g3 : Nat), I ⟨[(3, .row 3 g3 jk.length), (7, .list 5 (l_1.map za.pv)), (8, .int .i64 (l_1.length : Int)), (9, .int .i64 Qk)], [(3, g3, .row false 5 (jk.map za.pv))], nx⟩ := by
   intro suf
   induction suf with
   | nil =>
    intro pre Qk jk hsplit hidx hh nx g3
    rw [wU] at hh
    refine hI _ ?_
    have h43 := walk_nil hsplit hidx
    refine zb fun K kk hK => ?_
    simp only [go_sem]
    refine hK _ _ fun nx => ?_; clear hK K; try clear kk
    refine zm ?_
    refine zh (by first | exact congrArg PV.bool h43 | rfl) ?_
    refine zZ ?_; refine nmx ?_
    refine kN ?_
    refine zJ ?_
    refine ⟨_, (Option.some.inj hh), ?_⟩
    first | exact ⟨_, _, _, _, rfl⟩ | (simp only [pvE, lsE, zq]; exact ⟨_, _, _, _, rfl⟩) | (simp only [pvE, lsE, zq, h43]; exact ⟨_, _, _, _, rfl⟩)
   | cons Vr suf ih =>
    intro pre Qk jk hsplit hidx hh nx g3
    rw [wU] at hh
    refine hI _ ?_
    obtain ⟨hl0a, hl0b, hl0d, hl0w, h43⟩ := qI (f := za.pv) hsplit hidx hlen0
    refine zb fun K kk hK => ?_
    simp only [go_sem]
    refine hK _ _ fun nx => ?_; clear hK K; try clear kk
    refine zm ?_
    refine zn (by first | exact congrArg PV.bool h43 | rfl) ?_
    refine zx ?_; refine nmx ?_
    refine zm ?_
    refine zC ?_
    refine zb fun K kk hK => ?_
    simp only [go_sem, hl0a, hl0b, hl0d, hl0w]
    refine hK _ _ fun nx => ?_; clear hK K; try clear kk
    refine zb fun K kk hK => ?_
    simp only [go_sem, hl0a, hl0b, hl0d, hl0w]
    refine hK _ _ fun nx => ?_; clear hK K; try clear kk
    refine zC ?_
    obtain ⟨ae7, h44, hh⟩ := zf hh
    by_cases h45 : (ae7) = true
    ·rw [if_pos h45] at hh
     refine zb fun K kk hK => ?_
     simp only [go_sem, h45, hl0a, hl0b, hl0d, hl0w]
     (repeat refine sd ?_)
     refine ze (wY _ _ h44) (by (try simp only [go_sem, h45, hl0a, hl0b, hl0d, hl0w]) <;> exact wkl) (by rfl) (by rfl) ?_
     simp only [go_sem, h45, hl0a, hl0b, hl0d, hl0w]
     (repeat refine sd ?_)
     refine hK _ _ fun nx => ?_; clear hK K; try clear kk
     by_cases h46 : (Vr.Text == ([] : Str)) = true
     ·rw [if_pos h46] at hh
      refine zn (by first | exact congrArg PV.bool h46 | rfl) ?_
      refine zx ?_; refine nmx ?_
      refine zu fun K kk hK => ?_
      simp only [go_sem, hl0a, hl0b, hl0d, hl0w]
      refine hK _ _ fun nx => ?_; clear hK K; try clear kk
      refine nmx ?_
      have ih' := ih (pre ++ [Vr]) (Qk + 1) _ (by rw [hsplit]; simp) (by simp [hidx]) hh nx
      refine zJ ?_
      first | exact ih' _ | (simp only [pvE, lsE, zq] at ih' ⊢; exact ih' _) | (simp only [pvE, lsE, zq, h43, h45, h46] at ih' ⊢; exact ih' _)
     ·rw [if_neg h46] at hh
      replace h46 := Bool.eq_false_iff.mpr h46
      refine zh (by first | exact congrArg PV.bool h46 | rfl) ?_
      by_cases h47 : (decide ((w64 ((jk.length : Int) - (1 : Int))) ≥ (0 : Int))) = true
      ·rw [if_pos h47] at hh
       obtain ⟨atV, h48, hh⟩ := zf hh
       obtain ⟨h48a, h48b, h48c⟩ := rd_some h48
       have h48d := vz (f := za.pv) h48c
       have h48f := wX (f := za.pv) h48c
       try simp only [Int.toNat_natCast, Int.reduceToNat] at h48d h48f
       obtain ⟨aiC, h49, hh⟩ := zf hh
       refine zb fun K kk hK => ?_
       simp only [go_sem, h47, of_decide_eq_true h47, h48a, h48b, h48d, h48f.1, h48f.2, hl0a, hl0b, hl0d, hl0w]
       (repeat refine sd ?_)
       refine ze (JD _ _ _ h49) (by (try simp only [go_sem, h47, of_decide_eq_true h47, h48a, h48b, h48d, h48f.1, h48f.2, hl0a, hl0b, hl0d, hl0w]) <;> exact wkl) (by rfl) (by rfl) ?_
       simp only [go_sem, h47, of_decide_eq_true h47, h48a, h48b, h48d, h48f.1, h48f.2, hl0a, hl0b, hl0d, hl0w]
       (repeat refine sd ?_)
       refine hK _ _ fun nx => ?_; clear hK K; try clear kk
       by_cases h50 : (aiC) = true
       ·rw [if_pos h50] at hh
        refine zn (by first | exact congrArg PV.bool h50 | rfl) ?_
        obtain ⟨h51, hh⟩ := z8 hh
        refine zb fun K kk hK => ?_
        simp only [go_sem, h48a, h48b, h48d, h48f.1, h48f.2, h51, hl0a, hl0b, hl0d, hl0w]
        (repeat refine sd ?_)
        refine hK _ _ fun nx => ?_; clear hK K; try clear kk
        obtain ⟨ati, h52, hh⟩ := zf hh
        obtain ⟨h52a, h52c⟩ := aas h52
        have h52d := aeJ (f := za.pv) h52c
        try simp only [Int.toNat_natCast, Int.reduceToNat, List.map_cons, List.map_nil, List.cons_append, List.nil_append, List.singleton_append, pvE] at h52d
        have h52e := aeZ h52c
        have h48b_h52 := h48b; rw [h52e] at h48b_h52
        have h48f1_h52 := h48f.1; rw [h52e] at h48f1_h52
        have h48a_h52 := h48a; try rw [h52e] at h48a_h52
        have h48d_h52 := h48d; try rw [h52e] at h48d_h52
        try rw [h52e] at h52d
        have h52bw := h52a.2; rw [h52e] at h52bw
        refine zu fun K kk hK => ?_
        simp only [go_sem, h48a, h48b, h48d, h48f.1, h48f.2, h52a.1, h52a.2, h52d, h52e, h48b_h52, h48f1_h52, h48a_h52, h48d_h52, h52bw, hl0a, hl0b, hl0d, hl0w]
        (repeat refine sd ?_)
        try simp only [go_sem, h48a, h48b, h48d, h48f.1, h48f.2, h52a.1, h52a.2, h52d, h52e, h48b_h52, h48f1_h52, h48a_h52, h48d_h52, h52bw, hl0a, hl0b, hl0d, hl0w]
        refine hK _ _ fun nx => ?_; clear hK K; try clear kk
        refine nmx ?_
        refine zu fun K kk hK => ?_
        simp only [go_sem, hl0a, hl0b, hl0d, hl0w]
        refine hK _ _ fun nx => ?_; clear hK K; try clear kk
        refine nmx ?_
        have ih' := ih (pre ++ [Vr]) (Qk + 1) _ (by rw [hsplit]; simp) (by simp [hidx]) hh nx
        refine zJ ?_
        first | exact ih' _ | (simp only [pvE, lsE, zq, h52e] at ih' ⊢; exact ih' _) | (simp only [pvE, lsE, zq, h52e, h43, h45, h46, h47, h50] at ih' ⊢; exact ih' _)
       ·rw [if_neg h50] at hh
        replace h50 := Bool.eq_false_iff.mpr h50
        refine zh (by first | exact congrArg PV.bool h50 | rfl) ?_
        obtain ⟨asv, h53, hh⟩ := zf hh
        obtain ⟨h53a, h53c⟩ := zX h53
        have h53d := qP (f := za.pv) h53c
        have h53e := qQ h53c
        try simp only [List.length_cons, List.length_nil, Nat.zero_add, Nat.reduceAdd] at h53a h53e
        try simp only [h53e] at h53a
        try simp only [List.map_cons, List.map_nil, List.nil_append, List.append_nil, List.cons_append, List.singleton_append, zq, pvE] at h53d
        refine zu fun K kk hK => ?_
        simp only [go_sem, h53a, h53d, h53e, hl0a, hl0b, hl0d, hl0w]
        (repeat refine sd ?_)
        refine hK _ _ fun nx => ?_; clear hK K; try clear kk
        refine nmx ?_
        refine zu fun K kk hK => ?_
        simp only [go_sem, hl0a, hl0b, hl0d, hl0w]
        refine hK _ _ fun nx => ?_; clear hK K; try clear kk
        refine nmx ?_
        have ih' := ih (pre ++ [Vr]) (Qk + 1) _ (by rw [hsplit]; simp) (by simp [hidx]) hh nx
        refine zJ ?_
        first | exact ih' _ | (simp only [pvE, lsE, zq, h53e] at ih' ⊢; exact ih' _) | (simp only [pvE, lsE, zq, h53e, h43, h45, h46, h47, h50] at ih' ⊢; exact ih' _)
      ·rw [if_neg h47] at hh
       replace h47 := Bool.eq_false_iff.mpr h47
       refine zb fun K kk hK => ?_
       simp only [go_sem, h47, of_decide_eq_false h47, hl0a, hl0b, hl0d, hl0w]
       (repeat refine sd ?_)
       refine hK _ _ fun nx => ?_; clear hK K; try clear kk
       refine zh rfl ?_
       obtain ⟨ata, h54, hh⟩ := zf hh
       obtain ⟨h54a, h54c⟩ := zX h54
       have h54d := qP (f := za.pv) h54c
       have h54e := qQ h54c
       try simp only [List.length_cons, List.length_nil, Nat.zero_add, Nat.reduceAdd] at h54a h54e
       try simp only [h54e] at h54a
       try simp only [List.map_cons, List.map_nil, List.nil_append, List.append_nil, List.cons_append, List.singleton_append, zq, pvE] at h54d
       refine zu fun K kk hK => ?_
       simp only [go_sem, h54a, h54d, h54e, hl0a, hl0b, hl0d, hl0w]
       (repeat refine sd ?_)
       refine hK _ _ fun nx => ?_; clear hK K; try clear kk
       refine nmx ?_
       refine zu fun K kk hK => ?_
       simp only [go_sem, hl0a, hl0b, hl0d, hl0w]
       refine hK _ _ fun nx => ?_; clear hK K; try clear kk
       refine nmx ?_
       have ih' := ih (pre ++ [Vr]) (Qk + 1) _ (by rw [hsplit]; simp) (by simp [hidx]) hh nx
       refine zJ ?_
       first | exact ih' _ | (simp only [pvE, lsE, zq, h54e] at ih' ⊢; exact ih' _) | (simp only [pvE, lsE, zq, h54e, h43, h45, h46, h47] at ih' ⊢; exact ih' _)
    ·rw [if_neg h45] at hh
     replace h45 := Bool.eq_false_iff.mpr h45
     refine zb fun K kk hK => ?_
     simp only [go_sem, h45, hl0a, hl0b, hl0d, hl0w]
     (repeat refine sd ?_)
     refine ze (wY _ _ h44) (by (try simp only [go_sem, h45, hl0a, hl0b, hl0d, hl0w]) <;> exact wkl) (by rfl) (by rfl) ?_
     simp only [go_sem, h45, hl0a, hl0b, hl0d, hl0w]
     (repeat refine sd ?_)
     refine hK _ _ fun nx => ?_; clear hK K; try clear kk
     refine zh rfl ?_
     by_cases h55 : (decide ((w64 ((jk.length : Int) - (1 : Int))) ≥ (0 : Int))) = true
     ·rw [if_pos h55] at hh
      obtain ⟨auF, h56, hh⟩ := zf hh
      obtain ⟨h56a, h56b, h56c⟩ := rd_some h56
      have h56d := vz (f := za.pv) h56c
      have h56f := wX (f := za.pv) h56c
      try simp only [Int.toNat_natCast, Int.reduceToNat] at h56d h56f
      obtain ⟨aiw, h57, hh⟩ := zf hh
      refine zb fun K kk hK => ?_
      simp only [go_sem, h55, of_decide_eq_true h55, h56a, h56b, h56d, h56f.1, h56f.2, hl0a, hl0b, hl0d, hl0w]
      (repeat refine sd ?_)
      refine ze (JD _ _ _ h57) (by (try simp only [go_sem, h55, of_decide_eq_true h55, h56a, h56b, h56d, h56f.1, h56f.2, hl0a, hl0b, hl0d, hl0w]) <;> exact wkl) (by rfl) (by rfl) ?_
      simp only [go_sem, h55, of_decide_eq_true h55, h56a, h56b, h56d, h56f.1, h56f.2, hl0a, hl0b, hl0d, hl0w]
      (repeat refine sd ?_)
      refine hK _ _ fun nx => ?_; clear hK K; try clear kk
      by_cases h58 : (aiw) = true
      ·rw [if_pos h58] at hh
       refine zn (by first | exact congrArg PV.bool h58 | rfl) ?_
       obtain ⟨h59, hh⟩ := z8 hh
       refine zb fun K kk hK => ?_
       simp only [go_sem, h56a, h56b, h56d, h56f.1, h56f.2, h59, hl0a, hl0b, hl0d, hl0w]
       (repeat refine sd ?_)
       refine hK _ _ fun nx => ?_; clear hK K; try clear kk
       obtain ⟨axb, h60, hh⟩ := zf hh
       obtain ⟨h60a, h60c⟩ := aas h60
       have h60d := aeJ (f := za.pv) h60c
       try simp only [Int.toNat_natCast, Int.reduceToNat, List.map_cons, List.map_nil, List.cons_append, List.nil_append, List.singleton_append, pvE] at h60d
       have h60e := aeZ h60c
       have h56b_h60 := h56b; rw [h60e] at h56b_h60
       have h56f1_h60 := h56f.1; rw [h60e] at h56f1_h60
       have h56a_h60 := h56a; try rw [h60e] at h56a_h60
       have h56d_h60 := h56d; try rw [h60e] at h56d_h60
       try rw [h60e] at h60d
       have h60bw := h60a.2; rw [h60e] at h60bw
       refine zu fun K kk hK => ?_
       simp only [go_sem, h56a, h56b, h56d, h56f.1, h56f.2, h60a.1, h60a.2, h60d, h60e, h56b_h60, h56f1_h60, h56a_h60, h56d_h60, h60bw, hl0a, hl0b, hl0d, hl0w]
       (repeat refine sd ?_)
       try simp only [go_sem, h56a, h56b, h56d, h56f.1, h56f.2, h60a.1, h60a.2, h60d, h60e, h56b_h60, h56f1_h60, h56a_h60, h56d_h60, h60bw, hl0a, hl0b, hl0d, hl0w]
       refine hK _ _ fun nx => ?_; clear hK K; try clear kk
       refine nmx ?_
       refine zu fun K kk hK => ?_
       simp only [go_sem, hl0a, hl0b, hl0d, hl0w]
       refine hK _ _ fun nx => ?_; clear hK K; try clear kk
       refine nmx ?_
       have ih' := ih (pre ++ [Vr]) (Qk + 1) _ (by rw [hsplit]; simp) (by simp [hidx]) hh nx
       refine zJ ?_
       first | exact ih' _ | (simp only [pvE, lsE, zq, h60e] at ih' ⊢; exact ih' _) | (simp only [pvE, lsE, zq, h60e, h43, h45, h55, h58] at ih' ⊢; exact ih' _)
      ·rw [if_neg h58] at hh
       replace h58 := Bool.eq_false_iff.mpr h58
       refine zh (by first | exact congrArg PV.bool h58 | rfl) ?_
       obtain ⟨awI, h61, hh⟩ := zf hh
       obtain ⟨h61a, h61c⟩ := zX h61
       have h61d := qP (f := za.pv) h61c
       have h61e := qQ h61c
       try simp only [List.length_cons, List.length_nil, Nat.zero_add, Nat.reduceAdd] at h61a h61e
       try simp only [h61e] at h61a
       try simp only [List.map_cons, List.map_nil, List.nil_append, List.append_nil, List.cons_append, List.singleton_append, zq, pvE] at h61d
       refine zu fun K kk hK => ?_
       simp only [go_sem, h61a, h61d, h61e, hl0a, hl0b, hl0d, hl0w]
       (repeat refine sd ?_)
       refine hK _ _ fun nx => ?_; clear hK K; try clear kk
       refine nmx ?_
       refine zu fun K kk hK => ?_
       simp only [go_sem, hl0a, hl0b, hl0d, hl0w]
       refine hK _ _ fun nx => ?_; clear hK K; try clear kk
       refine nmx ?_
       have ih' := ih (pre ++ [Vr]) (Qk + 1) _ (by rw [hsplit]; simp) (by simp [hidx]) hh nx
       refine zJ ?_
       first | exact ih' _ | (simp only [pvE, lsE, zq, h61e] at ih' ⊢; exact ih' _) | (simp only [pvE, lsE, zq, h61e, h43, h45, h55, h58] at ih' ⊢; exact ih' _)
     ·rw [if_neg h55] at hh
      replace h55 := Bool.eq_false_iff.mpr h55
      refine zb fun K kk hK => ?_
      simp only [go_sem, h55, of_decide_eq_false h55, hl0a, hl0b, hl0d, hl0w]
      (repeat refine sd ?_)
      refine hK _ _ fun nx => ?_; clear hK K; try clear kk
      refine zh rfl ?_
      obtain ⟨awW, h62, hh⟩ := zf hh
      obtain ⟨h62a, h62c⟩ := zX h62
      have h62d := qP (f := za.pv) h62c
      have h62e := qQ h62c
      try simp only [List.length_cons, List.length_nil, Nat.zero_add, Nat.reduceAdd] at h62a h62e
      try simp only [h62e] at h62a
      try simp only [List.map_cons, List.map_nil, List.nil_append, List.append_nil, List.cons_append, List.singleton_append, zq, pvE] at h62d
      refine zu fun K kk hK => ?_
      simp only [go_sem, h62a, h62d, h62e, hl0a, hl0b, hl0d, hl0w]
      (repeat refine sd ?_)
      refine hK _ _ fun nx => ?_; clear hK K; try clear kk
      refine nmx ?_
      refine zu fun K kk hK => ?_
      simp only [go_sem, hl0a, hl0b, hl0d, hl0w]
      refine hK _ _ fun nx => ?_; clear hK K; try clear kk
      refine nmx ?_
      have ih' := ih (pre ++ [Vr]) (Qk + 1) _ (by rw [hsplit]; simp) (by simp [hidx]) hh nx
      refine zJ ?_
      first | exact ih' _ | (simp only [pvE, lsE, zq, h62e] at ih' ⊢; exact ih' _) | (simp only [pvE, lsE, zq, h62e, h43, h45, h55] at ih' ⊢; exact ih' _)
  exact key l_1 [] _ _ rfl rfl f0 _ _
 ·rintro s ⟨t, hless, aeo, rfl, axh, ato, nx, g3, rfl⟩
  try dsimp only at hh
  refine nmy ?_
  first | (refine wm hless ?_; try refine kz ?_) | refine qH hless ?_ | refine qG hless ?_
  refine zb fun K kk hK => ?_
  simp only [go_sem]
  refine hK _ _ fun nx => ?_; clear hK K; try clear kk
  refine zi ?_; refine nmx ?_
  obtain hR := Option.some.inj hh
  subst hR
  exact aaF (by rfl) (by rfl) (by rfl) (by simp only [List.length_map, List.length_cons, List.length_nil, Nat.zero_add, Nat.reduceAdd]) (by first | rfl | (simp only [pvE, lsE, zq]; done) | (simp only [pvE, lsE, zq]; rfl))
 ·intro i s h; exact h.elim
 ·intro s h; exact h.elim
theorem Xl : ∀ kr : Nat, (∀ (l_1 : (List za)) (zO : Int) (vY : Int) (zA : Int) (jQ : Int) (kM : (List za)) (ja : Str) (kL : Str) (l_9 : (List zk)) (R : ((List za) × Int × Int × Int × (List za) × Str × Str × (List zk))), qF kr l_1 zO vY zA jQ kM ja kL l_9 = some R → BC Tryd.prog 79 [.box 1000 0 0, .list 5 (l_1.map za.pv), .int .i64 zO] [.var 136 [.int .u8 vY, .int .i64 zA, .int .i64 jQ, .list 5 (kM.map za.pv), .str ja, .str kL, .row 1001 0 l_9.length], .row false 3 (l_9.map zk.pv)] (.list 5 (R.1.map za.pv)) [.var 136 [.int .u8 R.2.1, .int .i64 R.2.2.1, .int .i64 R.2.2.2.1, .list 5 (R.2.2.2.2.1.map za.pv), .str R.2.2.2.2.2.1, .str R.2.2.2.2.2.2.1, .row 1001 0 R.2.2.2.2.2.2.2.length], .moved 3 (R.2.2.2.2.2.2.2.map zk.pv)]) := by
 intro kr
 induction kr with
 | zero => exact (by intro l_1 zO vY zA jQ kM ja kL l_9 R hh; rw [qF] at hh; cases hh)
 | succ kr ih =>
  have ih_step_painter_kids_x := ih
  clear ih
  intro l_1 zO vY zA jQ kM ja kL l_9 R hh
  rw [qF] at hh
  refine VX rfl rfl rfl ?_
  refine zb fun K kk hK => ?_
  simp only [go_sem]
  refine hK _ _ fun nx => ?_; clear hK K; try clear kk
  refine zb fun K kk hK => ?_
  simp only [go_sem]
  refine hK _ _ fun nx => ?_; clear hK K; try clear kk
  refine zm ?_
  refine zb fun K kk hK => ?_
  simp only [go_sem]
  refine hK _ _ fun nx => ?_; clear hK K; try clear kk
  obtain ⟨e0, f0, hh⟩ := zf hh
  obtain ⟨hlen0, f0⟩ := z8 f0
  refine qz (kv (fun s => ∃ aeh, ∃ as6, ∃ arl, ∃ asE, ∃ ar5, ∃ as9, ∃ asC, ∃ aqo, (aeh, as6, arl, asE, ar5, as9, asC, aqo) = e0 ∧ ∃ (au1 : Int) (awS : Int) (awN : Bool) (nx : Nat) (g7 : Nat) (g1001 : Nat), s = ⟨[(0, .box 1000 0 0), (2, .int .i64 au1), (7, .row 7 g7 aeh.length), (11, .list 5 (l_1.map za.pv)), (12, .int .i64 (l_1.length : Int)), (13, .int .i64 awS), (14, .bool awN)], [(7, g7, .row false 5 (aeh.map za.pv)), (1000, 0, .var 136 [.int .u8 as6, .int .i64 arl, .int .i64 asE, .list 5 (ar5.map za.pv), .str as9, .str asC, .row 1001 g1001 aqo.length]), (1001, g1001, .row false 3 (aqo.map zk.pv))], nx⟩))
   (fun i s => False)
   (fun s => False) ?_ ?_ ?_ ?_
  ·refine zC ?_
   refine qh fun I hI => ?_
   have key : ∀ (suf pre : List za) (aic : Int) (abH : Int) (Jp : (List za)) (akP : Int) (akp : Int) (alF : Int) (aku : (List za)) (akM : Str) (alG : Str) (Yj : (List zk)), l_1 = pre ++ suf → aic = (pre.length : Int) → qd (qF kr) suf aic abH Jp akP akp alF aku akM alG Yj = some e0 → ∀ (nx : Nat) (g7 : Nat) (g1001 : Nat), I ⟨[(0, .box 1000 0 0), (2, .int .i64 abH), (7, .row 7 g7 Jp.length), (11, .list 5 (l_1.map za.pv)), (12, .int .i64 (l_1.length : Int)), (13, .int .i64 aic)], [(7, g7, .row false 5 (Jp.map za.pv)), (1000, 0, .var 136 [.int .u8 akP, .int .i64 akp, .int .i64 alF, .list 5 (aku.map za.pv), .str akM, .str alG, .row 1001 g1001 Yj.length]), (1001, g1001, .row false 3 (Yj.map zk.pv))], nx⟩ := by
    intro suf
    induction suf with
    | nil =>
     intro pre aic abH Jp akP akp alF aku akM alG Yj hsplit hidx hh nx g7 g1001
     rw [qd] at hh
     refine hI _ ?_
     have h17 := walk_nil hsplit hidx
     refine zb fun K kk hK => ?_
     simp only [go_sem]
     refine hK _ _ fun nx => ?_; clear hK K; try clear kk
     refine zm ?_
     refine zh (by first | exact congrArg PV.bool h17 | rfl) ?_
     refine zZ ?_; refine nmx ?_
     refine kN ?_
     refine zJ ?_
     refine ⟨_, _, _, _, _, _, _, _, (Option.some.inj hh), ?_⟩
     first | exact ⟨_, _, _, _, _, _, rfl⟩ | (simp only [pvE, lsE, zq]; exact ⟨_, _, _, _, _, _, rfl⟩) | (simp only [pvE, lsE, zq, h17]; exact ⟨_, _, _, _, _, _, rfl⟩)
    | cons akl suf ih =>
     intro pre aic abH Jp akP akp alF aku akM alG Yj hsplit hidx hh nx g7 g1001
     rw [qd] at hh
     refine hI _ ?_
     obtain ⟨hl0a, hl0b, hl0d, hl0w, h17⟩ := qI (f := za.pv) hsplit hidx hlen0
     refine zb fun K kk hK => ?_
     simp only [go_sem]
     refine hK _ _ fun nx => ?_; clear hK K; try clear kk
     refine zm ?_
     refine zn (by first | exact congrArg PV.bool h17 | rfl) ?_
     refine zx ?_; refine nmx ?_
     refine zm ?_
     refine zC ?_
     refine zb fun K kk hK => ?_
     simp only [go_sem, hl0a, hl0b, hl0d, hl0w]
     refine hK _ _ fun nx => ?_; clear hK K; try clear kk
     obtain ⟨ald, h18, hh⟩ := zf hh
     refine zb fun K kk hK => ?_
     simp only [go_sem, hl0a, hl0b, hl0d, hl0w]
     refine ze (ky _ _ h18) (by (try simp only [go_sem, hl0a, hl0b, hl0d, hl0w]) <;> exact wkl) (by rfl) (by rfl) ?_
     simp only [go_sem, hl0a, hl0b, hl0d, hl0w]
     refine hK _ _ fun nx => ?_; clear hK K; try clear kk
     refine zm ?_
     refine zb fun K kk hK => ?_
     simp only [go_sem, hl0a, hl0b, hl0d, hl0w]
     refine hK _ _ fun nx => ?_; clear hK K; try clear kk
     by_cases h19 : (akl.Kind == ([116, 101, 120, 116] : Str)) = true
     ·rw [if_pos h19] at hh
      refine zn (by first | exact congrArg PV.bool h19 | rfl) ?_
      obtain ⟨⟨axd, apK, apM, auY, amI, aoS, ana, anL⟩, h20, hh⟩ := zf hh
      dsimp only at hh
      obtain ⟨awr, h21, hh⟩ := zf hh
      obtain ⟨h21a, h21c⟩ := zX h21
      have h21d := qP (f := za.pv) h21c
      have h21e := qQ h21c
      try simp only [List.length_cons, List.length_nil, Nat.zero_add, Nat.reduceAdd] at h21a h21e
      try simp only [h21e] at h21a
      try simp only [List.map_cons, List.map_nil, List.nil_append, List.append_nil, List.cons_append, List.singleton_append, zq, pvE] at h21d
      refine zu fun K kk hK => ?_
      simp only [go_sem, h21a, h21d, h21e, hl0a, hl0b, hl0d, hl0w]
      (repeat refine sd ?_)
      refine jK [1000, 1001] (by decide) (Xq _ _ _ _ _ _ _ _ _ _ h20) (by (try simp only [go_sem, h21a, h21d, h21e, hl0a, hl0b, hl0d, hl0w, h17, h19]) <;> exact wkb) (by rfl) ?_
      simp only [go_sem, h21a, h21d, h21e, hl0a, hl0b, hl0d, hl0w]
      (repeat refine sd ?_)
      refine hK _ _ fun nx => ?_; clear hK K; try clear kk
      refine nmx ?_
      refine zu fun K kk hK => ?_
      simp only [go_sem, hl0a, hl0b, hl0d, hl0w]
      refine hK _ _ fun nx => ?_; clear hK K; try clear kk
      refine nmx ?_
      refine zu fun K kk hK => ?_
      simp only [go_sem, hl0a, hl0b, hl0d, hl0w]
      refine hK _ _ fun nx => ?_; clear hK K; try clear kk
      refine nmx ?_
      have ih' := ih (pre ++ [akl]) (aic + 1) _ _ _ _ _ _ _ _ _ (by rw [hsplit]; simp) (by simp [hidx]) hh nx
      refine zJ ?_
      first | exact ih' _ _ | (simp only [pvE, lsE, zq, h21e] at ih' ⊢; exact ih' _ _) | (simp only [pvE, lsE, zq, h21e, h17, h19] at ih' ⊢; exact ih' _ _)
     ·rw [if_neg h19] at hh
      replace h19 := Bool.eq_false_iff.mpr h19
      refine zh (by first | exact congrArg PV.bool h19 | rfl) ?_
      obtain ⟨⟨awU, apD, apI, au8, anq, apr, amz, awJ⟩, h22, hh⟩ := zf hh
      dsimp only at hh
      refine zb fun K kk hK => ?_
      simp only [go_sem, hl0a, hl0b, hl0d, hl0w]
      refine jK [1000, 1001] (by decide) (ih_step_painter_kids_x _ _ _ _ _ _ _ _ _ _ h22) (by (try simp only [go_sem, hl0a, hl0b, hl0d, hl0w, h17, h19]) <;> exact wkb) (by rfl) ?_
      simp only [go_sem, hl0a, hl0b, hl0d, hl0w]
      refine hK _ _ fun nx => ?_; clear hK K; try clear kk
      obtain ⟨aoA, h23, hh⟩ := zf hh
      obtain ⟨h23a, h23c⟩ := zX h23
      have h23d := qP (f := za.pv) h23c
      have h23e := qQ h23c
      try simp only [List.length_cons, List.length_nil, Nat.zero_add, Nat.reduceAdd] at h23a h23e
      try simp only [h23e] at h23a
      try simp only [List.map_cons, List.map_nil, List.nil_append, List.append_nil, List.cons_append, List.singleton_append, zq, pvE] at h23d
      refine zu fun K kk hK => ?_
      simp only [go_sem, h23a, h23d, h23e, hl0a, hl0b, hl0d, hl0w]
      (repeat refine sd ?_)
      refine hK _ _ fun nx => ?_; clear hK K; try clear kk
      refine nmx ?_
      refine zu fun K kk hK => ?_
      simp only [go_sem, hl0a, hl0b, hl0d, hl0w]
      refine hK _ _ fun nx => ?_; clear hK K; try clear kk
      refine nmx ?_
      refine zu fun K kk hK => ?_
      simp only [go_sem, hl0a, hl0b, hl0d, hl0w]
      refine hK _ _ fun nx => ?_; clear hK K; try clear kk
      refine nmx ?_
      have ih' := ih (pre ++ [akl]) (aic + 1) _ _ _ _ _ _ _ _ _ (by rw [hsplit]; simp) (by simp [hidx]) hh nx
      refine zJ ?_
      first | exact ih' _ _ | (simp only [pvE, lsE, zq, h23e] at ih' ⊢; exact ih' _ _) | (simp only [pvE, lsE, zq, h23e, h17, h19] at ih' ⊢; exact ih' _ _)
   exact key l_1 [] _ _ _ _ _ _ _ _ _ _ rfl rfl f0 _ _ _
  ·rintro s ⟨t, hless, aeh, as6, arl, asE, ar5, as9, asC, aqo, rfl, au1, awS, awN, nx, g7, g1001, rfl⟩
   try dsimp only at hh
   refine nmy ?_
   first | (refine wm hless ?_; try refine kz ?_) | refine qH hless ?_ | refine qG hless ?_
   obtain ⟨aoP, h24, hh⟩ := zf hh
   refine zb fun K kk hK => ?_
   simp only [go_sem]
   refine ze (XU _ _ h24).list (by (try simp only [go_sem]) <;> exact wkl) (by rfl) (by rfl) ?_
   simp only [go_sem]
   refine hK _ _ fun nx => ?_; clear hK K; try clear kk
   refine zi ?_; refine nmx ?_
   obtain hR := Option.some.inj hh
   subst hR
   refine vo ?_ (by rfl) ?_
   ·simp only [go_sem, wJ, jU, kH, vH, Zd, List.map_cons, List.map_append, List.head?_cons]
    all_goals exact wkw
   ·(try simp only [go_sem]); (try simp only [List.length_append, List.map_append]); all_goals exact wkb
  ·intro i s h; exact h.elim
  ·intro s h; exact h.elim
theorem XH (l_1 : (List za)) (zO : Int) (vY : Int) (zA : Int) (jQ : Int) (kM : (List za)) (ja : Str) (kL : Str) (l_9 : (List zk)) (R : ((List za) × Int × Int × Int × (List za) × Str × Str × (List zk))) (hh : jr l_1 zO vY zA jQ kM ja kL l_9 = some R) : BC Tryd.prog 79 [.box 1000 0 0, .list 5 (l_1.map za.pv), .int .i64 zO] [.var 136 [.int .u8 vY, .int .i64 zA, .int .i64 jQ, .list 5 (kM.map za.pv), .str ja, .str kL, .row 1001 0 l_9.length], .row false 3 (l_9.map zk.pv)] (.list 5 (R.1.map za.pv)) [.var 136 [.int .u8 R.2.1, .int .i64 R.2.2.1, .int .i64 R.2.2.2.1, .list 5 (R.2.2.2.2.1.map za.pv), .str R.2.2.2.2.2.1, .str R.2.2.2.2.2.2.1, .row 1001 0 R.2.2.2.2.2.2.2.length], .moved 3 (R.2.2.2.2.2.2.2.map zk.pv)] := by
 rw [jr] at hh
 obtain ⟨kr, hh⟩ := xZ hh
 exact (Xl kr) _ _ _ _ _ _ _ _ _ _ hh
theorem abI (n_1 : za) (s_2 : zz) (R : (za × (List zk) × Int)) (hh : yI n_1 s_2 = some R) : PC Tryd.prog 47 [.agg [.str n_1.Kind, .str n_1.Text, .list 1 (n_1.Marks.map PV.str), .list 2 (n_1.zo.map zg.pv), .list 5 (n_1.Kids.map za.pv)], .agg [.int .u8 s_2.Kind, .int .i64 s_2.From, .int .i64 s_2.To, .list 5 (s_2.wC.map za.pv), .str s_2.Name, .str s_2.Value]] (.tup [.agg [.str R.1.Kind, .str R.1.Text, .list 1 (R.1.Marks.map PV.str), .list 2 (R.1.zo.map zg.pv), .list 5 (R.1.Kids.map za.pv)], .list 3 (R.2.1.map zk.pv), .int .i64 R.2.2]) := by
 rw [yI] at hh
 refine aed rfl ?_
 refine zb fun K kk hK => ?_
 simp only [go_sem]
 refine hK _ _ fun nx => ?_; clear hK K; try clear kk
 refine zm ?_
 obtain ⟨Qx, h1, hh⟩ := zf hh
 refine zb fun K kk hK => ?_
 simp only [go_sem]
 refine ze (xw _ _ h1) (by (try simp only [go_sem]) <;> exact wkl) (by rfl) (by rfl) ?_
 simp only [go_sem]
 refine hK _ _ fun nx => ?_; clear hK K; try clear kk
 by_cases h2 : (decide (s_2.To > Qx)) = true
 ·rw [if_pos h2] at hh
  refine zn (by first | exact congrArg PV.bool h2 | rfl) ?_
  refine zb fun K kk hK => ?_
  simp only [go_sem]
  refine hK _ _ fun nx => ?_; clear hK K; try clear kk
  refine zi ?_; refine nmx ?_
  obtain hR := Option.some.inj hh
  subst hR
  exact zy
 ·rw [if_neg h2] at hh
  replace h2 := Bool.eq_false_iff.mpr h2
  refine zh (by first | exact congrArg PV.bool h2 | rfl) ?_
  refine zx ?_; refine nmx ?_
  refine zb fun K kk hK => ?_
  simp only [go_sem]
  refine hK _ _ fun nx => ?_; clear hK K; try clear kk
  obtain ⟨⟨r_4, av2, avr, axu, auy, avj, atd, asf⟩, h3, hh⟩ := zf hh
  dsimp only at hh
  refine zb fun K kk hK => ?_
  simp only [go_sem]
  refine jK [17, 425] (by decide) (XH _ _ _ _ _ _ _ _ _ _ h3) (by (try simp only [go_sem, h2]) <;> exact wkb) (by rfl) ?_
  simp only [go_sem]
  refine hK _ _ fun nx => ?_; clear hK K; try clear kk
  refine zb fun K kk hK => ?_
  simp only [go_sem]
  refine hK _ _ fun nx => ?_; clear hK K; try clear kk
  refine zi ?_; refine nmx ?_
  obtain hR := Option.some.inj hh
  subst hR
  exact zy
end Go.Proofs.YtclohbgnaopjfaaDoor
