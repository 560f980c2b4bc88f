/- maps: Lost, Turn, Through. -/
import Derived.Test.YtafcbjepmjcpgaaMaps2
namespace Go.Proofs.Ytafcbjepmjcpgaa
set_option linter.unusedSimpArgs false
set_option linter.unusedVariables false
open Go

theorem pc20 (m : List Rg) (hok : ∀ r ∈ m, r.ok) (hm : m.length ≤ 1000000) (pos : Int) : PC Try.prog 20 [mp m, .int .i64 pos] (.bool (lostM pos m)) := by
  generalize hR : lostM pos m = R
  refine start20 rfl ?_
  refine awp_first fun K kk hK => ?_; simp (disch := omega) only [go_sem, ↓reduceIte, reduceCtorEq, Nat.reduceEqDiff, Nat.reduceAdd, Nat.reduceMul, Nat.reduceSub, Nat.reduceLT, Nat.reduceLeDiff, Nat.reducePow, Nat.reduceBEq, Nat.reduceBNe, Int.reduceNeg, Int.reduceBEq, Int.reduceBNe, Int.reduceAdd, Int.reduceSub, Int.reduceMul, Int.reduceLT, Int.reduceLE, Int.reduceToNat, an20, ty3, ty25, ty33] -- region 0
  refine hK _ _ fun nx => ?_; clear hK K; try clear kk
  refine awp_seq ?_
  refine awp_first fun K kk hK => ?_; simp (disch := omega) only [go_sem, ↓reduceIte, reduceCtorEq, Nat.reduceEqDiff, Nat.reduceAdd, Nat.reduceMul, Nat.reduceSub, Nat.reduceLT, Nat.reduceLeDiff, Nat.reducePow, Nat.reduceBEq, Nat.reduceBNe, Int.reduceNeg, Int.reduceBEq, Int.reduceBNe, Int.reduceAdd, Int.reduceSub, Int.reduceMul, Int.reduceLT, Int.reduceLE, Int.reduceToNat, an20, ty3, ty25, ty33, mp] -- region 1
  refine hK _ _ fun nx => ?_; clear hK K; try clear kk
  refine awp_block ?_
  refine awp_while (fun n s => ∃ pre suf nx, m = pre ++ suf ∧ suf.length = n ∧ lostM pos suf = R ∧
    s = ⟨[(1, .int .i64 pos), (7, .list 3 (m.map Rg.pv)), (8, .int .i64 m.length), (9, .int .i64 pre.length)], [], nx⟩) ?_ m.length ⟨[], m, _, rfl, rfl, hR, rfl⟩
  clear nx
  rintro n s ⟨pre, suf, nx, rfl, hn, hr, rfl⟩
  refine awp_first fun K kk hK => ?_; simp (disch := omega) only [go_sem, ↓reduceIte, reduceCtorEq, Nat.reduceEqDiff, Nat.reduceAdd, Nat.reduceMul, Nat.reduceSub, Nat.reduceLT, Nat.reduceLeDiff, Nat.reducePow, Nat.reduceBEq, Nat.reduceBNe, Int.reduceNeg, Int.reduceBEq, Int.reduceBNe, Int.reduceAdd, Int.reduceSub, Int.reduceMul, Int.reduceLT, Int.reduceLE, Int.reduceToNat, an20, ty3, ty25, ty33] -- region 2
  refine hK _ _ fun nx => ?_; clear hK K; try clear kk
  refine awp_seq ?_
  refine awp_cond rfl (fun hb => ?_) (fun hb => ?_)
  · have hlt := of_decide_eq_true hb
    obtain ⟨r, suf, rfl⟩ := more hb
    have hget := rg_at pre suf r
    have hrok := hok r (by simp)
    obtain ⟨h1, h2, h3, h4, h5, h6, h7⟩ := hok r (by simp)
    refine awp_skip ?_; (repeat (with_reducible first | refine then_n ?_ | refine then_r ?_ | refine then_e ?_ | refine block_n ?_ | refine block_r ?_ | refine exit_here ?_ | refine exit_on rfl ?_ | refine scope_n ?_ | refine scope_r ?_ | refine scope_e ?_))
    refine awp_seq ?_
    refine awp_block ?_
    refine awp_first fun K kk hK => ?_; simp (disch := omega) only [go_sem, ↓reduceIte, reduceCtorEq, Nat.reduceEqDiff, Nat.reduceAdd, Nat.reduceMul, Nat.reduceSub, Nat.reduceLT, Nat.reduceLeDiff, Nat.reducePow, Nat.reduceBEq, Nat.reduceBNe, Int.reduceNeg, Int.reduceBEq, Int.reduceBNe, Int.reduceAdd, Int.reduceSub, Int.reduceMul, Int.reduceLT, Int.reduceLE, Int.reduceToNat, an20, ty3, ty25, ty33, hget, hlt] -- region 3
    refine hK _ _ fun nx => ?_; clear hK K; try clear kk
    refine awp_first fun K kk hK => ?_; simp (disch := omega) only [go_sem, ↓reduceIte, reduceCtorEq, Nat.reduceEqDiff, Nat.reduceAdd, Nat.reduceMul, Nat.reduceSub, Nat.reduceLT, Nat.reduceLeDiff, Nat.reducePow, Nat.reduceBEq, Nat.reduceBNe, Int.reduceNeg, Int.reduceBEq, Int.reduceBNe, Int.reduceAdd, Int.reduceSub, Int.reduceMul, Int.reduceLT, Int.reduceLE, Int.reduceToNat, an20, ty3, ty25, ty33] -- region 4
    first | refine split_f (fun hb1 => ?_) (fun hb1 => ?_) | refine split_t (fun hb1 => ?_) (fun hb1 => ?_)
    · simp (disch := omega) only [go_sem, ↓reduceIte, reduceCtorEq, Nat.reduceEqDiff, Nat.reduceAdd, Nat.reduceMul, Nat.reduceSub, Nat.reduceLT, Nat.reduceLeDiff, Nat.reducePow, Nat.reduceBEq, Nat.reduceBNe, Int.reduceNeg, Int.reduceBEq, Int.reduceBNe, Int.reduceAdd, Int.reduceSub, Int.reduceMul, Int.reduceLT, Int.reduceLE, Int.reduceToNat, an20, ty3, ty25, ty33, hb1]
      refine step_call (pc48 r hrok) (by rfl) (by exact WkL.refl _) (by rfl) (by rfl) (by rfl) ?_
      simp (disch := omega) only [go_sem, ↓reduceIte, reduceCtorEq, Nat.reduceEqDiff, Nat.reduceAdd, Nat.reduceMul, Nat.reduceSub, Nat.reduceLT, Nat.reduceLeDiff, Nat.reducePow, Nat.reduceBEq, Nat.reduceBNe, Int.reduceNeg, Int.reduceBEq, Int.reduceBNe, Int.reduceAdd, Int.reduceSub, Int.reduceMul, Int.reduceLT, Int.reduceLE, Int.reduceToNat, an20, ty3, ty25, ty33]
      refine hK _ _ fun nx => ?_; clear hK K; try clear kk
      refine awp_cond rfl (fun hb => ?_) (fun hb => ?_)
      · have hb2 := hb
        refine awp_first fun K kk hK => ?_; simp (disch := omega) only [go_sem, ↓reduceIte, reduceCtorEq, Nat.reduceEqDiff, Nat.reduceAdd, Nat.reduceMul, Nat.reduceSub, Nat.reduceLT, Nat.reduceLeDiff, Nat.reducePow, Nat.reduceBEq, Nat.reduceBNe, Int.reduceNeg, Int.reduceBEq, Int.reduceBNe, Int.reduceAdd, Int.reduceSub, Int.reduceMul, Int.reduceLT, Int.reduceLE, Int.reduceToNat, an20, ty3, ty25, ty33] -- region 5
        refine hK _ _ fun nx => ?_; clear hK K; try clear kk
        refine awp_ret ?_; (repeat (with_reducible first | refine then_n ?_ | refine then_r ?_ | refine then_e ?_ | refine block_n ?_ | refine block_r ?_ | refine exit_here ?_ | refine exit_on rfl ?_ | refine scope_n ?_ | refine scope_r ?_ | refine scope_e ?_)); refine body_ret (.inl ⟨?_, rfl⟩); exact wk_eq (by simp [pur2, pur1, pur0, resOf, Env.get, ← hr, lostM, hb1, hb2])
      · refine awp_skip ?_; (repeat (with_reducible first | refine then_n ?_ | refine then_r ?_ | refine then_e ?_ | refine block_n ?_ | refine block_r ?_ | refine exit_here ?_ | refine exit_on rfl ?_ | refine scope_n ?_ | refine scope_r ?_ | refine scope_e ?_))
        refine awp_region fun K kk hK => ?_; simp (disch := omega) only [go_sem, ↓reduceIte, reduceCtorEq, Nat.reduceEqDiff, Nat.reduceAdd, Nat.reduceMul, Nat.reduceSub, Nat.reduceLT, Nat.reduceLeDiff, Nat.reducePow, Nat.reduceBEq, Nat.reduceBNe, Int.reduceNeg, Int.reduceBEq, Int.reduceBNe, Int.reduceAdd, Int.reduceSub, Int.reduceMul, Int.reduceLT, Int.reduceLE, Int.reduceToNat, an20, ty3, ty25, ty33] -- region 6
        refine hK _ _ fun nx => ?_; clear hK K; try clear kk
        (repeat (with_reducible first | refine then_n ?_ | refine then_r ?_ | refine then_e ?_ | refine block_n ?_ | refine block_r ?_ | refine exit_here ?_ | refine exit_on rfl ?_ | refine scope_n ?_ | refine scope_r ?_ | refine scope_e ?_))
        refine ⟨suf.length, by simp at hn; omega, pre ++ [r], suf, nx, by simp, rfl, ?_, by simp⟩
        rw [← hr]; simp only [lostM, List.any_cons, hb1, hb, Bool.true_and, Bool.false_or]
    · simp (disch := omega) only [go_sem, ↓reduceIte, reduceCtorEq, Nat.reduceEqDiff, Nat.reduceAdd, Nat.reduceMul, Nat.reduceSub, Nat.reduceLT, Nat.reduceLeDiff, Nat.reducePow, Nat.reduceBEq, Nat.reduceBNe, Int.reduceNeg, Int.reduceBEq, Int.reduceBNe, Int.reduceAdd, Int.reduceSub, Int.reduceMul, Int.reduceLT, Int.reduceLE, Int.reduceToNat, an20, ty3, ty25, ty33, hb1]
      refine hK _ _ fun nx => ?_; clear hK K; try clear kk
      refine awp_false rfl ?_
      refine awp_skip ?_; (repeat (with_reducible first | refine then_n ?_ | refine then_r ?_ | refine then_e ?_ | refine block_n ?_ | refine block_r ?_ | refine exit_here ?_ | refine exit_on rfl ?_ | refine scope_n ?_ | refine scope_r ?_ | refine scope_e ?_))
      refine awp_region fun K kk hK => ?_; simp (disch := omega) only [go_sem, ↓reduceIte, reduceCtorEq, Nat.reduceEqDiff, Nat.reduceAdd, Nat.reduceMul, Nat.reduceSub, Nat.reduceLT, Nat.reduceLeDiff, Nat.reducePow, Nat.reduceBEq, Nat.reduceBNe, Int.reduceNeg, Int.reduceBEq, Int.reduceBNe, Int.reduceAdd, Int.reduceSub, Int.reduceMul, Int.reduceLT, Int.reduceLE, Int.reduceToNat, an20, ty3, ty25, ty33] -- region 6
      refine hK _ _ fun nx => ?_; clear hK K; try clear kk
      (repeat (with_reducible first | refine then_n ?_ | refine then_r ?_ | refine then_e ?_ | refine block_n ?_ | refine block_r ?_ | refine exit_here ?_ | refine exit_on rfl ?_ | refine scope_n ?_ | refine scope_r ?_ | refine scope_e ?_))
      refine ⟨suf.length, by simp at hn; omega, pre ++ [r], suf, nx, by simp, rfl, ?_, by simp⟩
      rw [← hr]; simp only [lostM, List.any_cons, hb1, Bool.false_and, Bool.false_or]
  ·
    refine awp_exit ?_; (repeat (with_reducible first | refine then_n ?_ | refine then_r ?_ | refine then_e ?_ | refine block_n ?_ | refine block_r ?_ | refine exit_here ?_ | refine exit_on rfl ?_ | refine scope_n ?_ | refine scope_r ?_ | refine scope_e ?_))
    refine awp_first fun K kk hK => ?_; simp (disch := omega) only [go_sem, ↓reduceIte, reduceCtorEq, Nat.reduceEqDiff, Nat.reduceAdd, Nat.reduceMul, Nat.reduceSub, Nat.reduceLT, Nat.reduceLeDiff, Nat.reducePow, Nat.reduceBEq, Nat.reduceBNe, Int.reduceNeg, Int.reduceBEq, Int.reduceBNe, Int.reduceAdd, Int.reduceSub, Int.reduceMul, Int.reduceLT, Int.reduceLE, Int.reduceToNat, an20, ty3, ty25, ty33] -- region 7
    refine hK _ _ fun nx => ?_; clear hK K; try clear kk
    have hs := noMore hb
    subst hs
    refine awp_ret ?_; (repeat (with_reducible first | refine then_n ?_ | refine then_r ?_ | refine then_e ?_ | refine block_n ?_ | refine block_r ?_ | refine exit_here ?_ | refine exit_on rfl ?_ | refine scope_n ?_ | refine scope_r ?_ | refine scope_e ?_)); refine body_ret (.inl ⟨?_, rfl⟩); exact wk_eq (by simp [pur2, pur1, pur0, resOf, Env.get, ← hr, lostM])

theorem growsM_app (a b : List Rg) : growsM (a ++ b) = growsM a + growsM b := by
  induction a with
  | nil => simp [growsM]
  | cons r a ih => simp [growsM, ih]; omega

theorem growsM_le (m : List Rg) (hok : ∀ r ∈ m, r.ok) : -(1048576 * (m.length : Int)) ≤ growsM m ∧ growsM m ≤ 1048576 * (m.length : Int) := by
  induction m with
  | nil => simp [growsM]
  | cons r m ih =>
    have h1 := hok r (by simp)
    have h2 := ih fun x hx => hok x (by simp [hx])
    unfold Rg.ok at h1
    simp [growsM]
    omega

theorem pc21 (m : List Rg) (hok : ∀ r ∈ m, r.ok) (hm : m.length ≤ 1000000) : PC Try.prog 21 [mp m] (.own 3 ((turnG 0 m).map Rg.pv)) := by
  generalize hR : turnG 0 m = R
  refine start21 rfl ?_
  refine awp_first fun K kk hK => ?_; simp (disch := omega) only [go_sem, ↓reduceIte, reduceCtorEq, Nat.reduceEqDiff, Nat.reduceAdd, Nat.reduceMul, Nat.reduceSub, Nat.reduceLT, Nat.reduceLeDiff, Nat.reducePow, Nat.reduceBEq, Nat.reduceBNe, Int.reduceNeg, Int.reduceBEq, Int.reduceBNe, Int.reduceAdd, Int.reduceSub, Int.reduceMul, Int.reduceLT, Int.reduceLE, Int.reduceToNat, an21, ty3, ty25, ty33] -- region 0
  refine hK _ _ fun nx => ?_; clear hK K; try clear kk
  refine awp_first fun K kk hK => ?_; simp (disch := omega) only [go_sem, ↓reduceIte, reduceCtorEq, Nat.reduceEqDiff, Nat.reduceAdd, Nat.reduceMul, Nat.reduceSub, Nat.reduceLT, Nat.reduceLeDiff, Nat.reducePow, Nat.reduceBEq, Nat.reduceBNe, Int.reduceNeg, Int.reduceBEq, Int.reduceBNe, Int.reduceAdd, Int.reduceSub, Int.reduceMul, Int.reduceLT, Int.reduceLE, Int.reduceToNat, an21, ty3, ty25, ty33] -- region 1
  refine hK _ _ fun nx => ?_; clear hK K; try clear kk
  refine awp_seq ?_
  refine awp_first fun K kk hK => ?_; simp (disch := omega) only [go_sem, ↓reduceIte, reduceCtorEq, Nat.reduceEqDiff, Nat.reduceAdd, Nat.reduceMul, Nat.reduceSub, Nat.reduceLT, Nat.reduceLeDiff, Nat.reducePow, Nat.reduceBEq, Nat.reduceBNe, Int.reduceNeg, Int.reduceBEq, Int.reduceBNe, Int.reduceAdd, Int.reduceSub, Int.reduceMul, Int.reduceLT, Int.reduceLE, Int.reduceToNat, an21, ty3, ty25, ty33, mp] -- region 2
  refine hK _ _ fun nx => ?_; clear hK K; try clear kk
  refine awp_block ?_
  refine awp_while (fun n s => ∃ pre suf done nx g, m = pre ++ suf ∧ suf.length = n ∧ done ++ turnG (growsM pre) suf = R ∧ done.length = pre.length ∧
    s = ⟨[(0, .list 3 (m.map Rg.pv)), (3, .row 3 g done.length), (6, .list 3 (m.map Rg.pv)), (7, .int .i64 m.length), (8, .int .i64 pre.length)], [(3, g, .row false 3 (done.map Rg.pv))], nx⟩) ?_ m.length ?_
  rotate_left
  · exact ⟨[], m, [], _, _, rfl, rfl, hR, rfl, rfl⟩
  clear nx
  rintro n s ⟨pre, suf, done, nx, g, rfl, hn, hr, hd, rfl⟩
  refine awp_first fun K kk hK => ?_; simp (disch := omega) only [go_sem, ↓reduceIte, reduceCtorEq, Nat.reduceEqDiff, Nat.reduceAdd, Nat.reduceMul, Nat.reduceSub, Nat.reduceLT, Nat.reduceLeDiff, Nat.reducePow, Nat.reduceBEq, Nat.reduceBNe, Int.reduceNeg, Int.reduceBEq, Int.reduceBNe, Int.reduceAdd, Int.reduceSub, Int.reduceMul, Int.reduceLT, Int.reduceLE, Int.reduceToNat, an21, ty3, ty25, ty33] -- region 3
  refine hK _ _ fun nx => ?_; clear hK K; try clear kk
  refine awp_seq ?_
  refine awp_cond rfl (fun hb => ?_) (fun hb => ?_)
  · have hlt := of_decide_eq_true hb
    obtain ⟨r, suf, rfl⟩ := more hb
    have hget := rg_at pre suf r
    obtain ⟨h1, h2, h3, h4, h5, h6, h7⟩ := hok r (by simp)
    have hpok : ∀ r ∈ pre, r.ok := fun x hx => hok x (by simp [hx])
    have hpl : pre.length ≤ 1000000 := by simp at hm; omega
    obtain ⟨hg1, hg2⟩ := growsM_le pre hpok
    refine awp_skip ?_; (repeat (with_reducible first | refine then_n ?_ | refine then_r ?_ | refine then_e ?_ | refine block_n ?_ | refine block_r ?_ | refine exit_here ?_ | refine exit_on rfl ?_ | refine scope_n ?_ | refine scope_r ?_ | refine scope_e ?_))
    refine awp_seq ?_
    refine awp_block ?_
    refine awp_first fun K kk hK => ?_; simp (disch := omega) only [go_sem, ↓reduceIte, reduceCtorEq, Nat.reduceEqDiff, Nat.reduceAdd, Nat.reduceMul, Nat.reduceSub, Nat.reduceLT, Nat.reduceLeDiff, Nat.reducePow, Nat.reduceBEq, Nat.reduceBNe, Int.reduceNeg, Int.reduceBEq, Int.reduceBNe, Int.reduceAdd, Int.reduceSub, Int.reduceMul, Int.reduceLT, Int.reduceLE, Int.reduceToNat, an21, ty3, ty25, ty33, hget, hlt] -- region 4
    refine hK _ _ fun nx => ?_; clear hK K; try clear kk
    refine awp_region fun K kk hK => ?_; simp (disch := omega) only [go_sem, ↓reduceIte, reduceCtorEq, Nat.reduceEqDiff, Nat.reduceAdd, Nat.reduceMul, Nat.reduceSub, Nat.reduceLT, Nat.reduceLeDiff, Nat.reducePow, Nat.reduceBEq, Nat.reduceBNe, Int.reduceNeg, Int.reduceBEq, Int.reduceBNe, Int.reduceAdd, Int.reduceSub, Int.reduceMul, Int.reduceLT, Int.reduceLE, Int.reduceToNat, an21, ty3, ty25, ty33, take_map, len_le] -- region 5 DRAW
    refine step_call (pc19 pre hpok hpl) (by rfl) (by exact WkL.refl _) (by rfl) (by rfl) (by rfl) ?_
    simp (disch := omega) only [go_sem, ↓reduceIte, reduceCtorEq, Nat.reduceEqDiff, Nat.reduceAdd, Nat.reduceMul, Nat.reduceSub, Nat.reduceLT, Nat.reduceLeDiff, Nat.reducePow, Nat.reduceBEq, Nat.reduceBNe, Int.reduceNeg, Int.reduceBEq, Int.reduceBNe, Int.reduceAdd, Int.reduceSub, Int.reduceMul, Int.reduceLT, Int.reduceLE, Int.reduceToNat, an21, ty3, ty25, ty33]
    refine ⟨by omega, ?_⟩
    refine hK _ _ fun nx => ?_; clear hK K; try clear kk
    (repeat (with_reducible first | refine then_n ?_ | refine then_r ?_ | refine then_e ?_ | refine block_n ?_ | refine block_r ?_ | refine exit_here ?_ | refine exit_on rfl ?_ | refine scope_n ?_ | refine scope_r ?_ | refine scope_e ?_))
    refine awp_region fun K kk hK => ?_; simp (disch := omega) only [go_sem, ↓reduceIte, reduceCtorEq, Nat.reduceEqDiff, Nat.reduceAdd, Nat.reduceMul, Nat.reduceSub, Nat.reduceLT, Nat.reduceLeDiff, Nat.reducePow, Nat.reduceBEq, Nat.reduceBNe, Int.reduceNeg, Int.reduceBEq, Int.reduceBNe, Int.reduceAdd, Int.reduceSub, Int.reduceMul, Int.reduceLT, Int.reduceLE, Int.reduceToNat, an21, ty3, ty25, ty33] -- region 6
    refine hK _ _ fun nx => ?_; clear hK K; try clear kk
    (repeat (with_reducible first | refine then_n ?_ | refine then_r ?_ | refine then_e ?_ | refine block_n ?_ | refine block_r ?_ | refine exit_here ?_ | refine exit_on rfl ?_ | refine scope_n ?_ | refine scope_r ?_ | refine scope_e ?_))
    refine ⟨suf.length, by simp at hn; omega, pre ++ [r], suf, done ++ [⟨r.a + growsM pre, r.n, r.o⟩], nx, _, by simp, rfl, ?_, by simp [hd], by simp [Rg.pv]; rfl⟩
    rw [← hr, growsM_app]; simp [turnG, growsM]
  ·
    refine awp_exit ?_; (repeat (with_reducible first | refine then_n ?_ | refine then_r ?_ | refine then_e ?_ | refine block_n ?_ | refine block_r ?_ | refine exit_here ?_ | refine exit_on rfl ?_ | refine scope_n ?_ | refine scope_r ?_ | refine scope_e ?_))
    refine awp_first fun K kk hK => ?_; simp (disch := omega) only [go_sem, ↓reduceIte, reduceCtorEq, Nat.reduceEqDiff, Nat.reduceAdd, Nat.reduceMul, Nat.reduceSub, Nat.reduceLT, Nat.reduceLeDiff, Nat.reducePow, Nat.reduceBEq, Nat.reduceBNe, Int.reduceNeg, Int.reduceBEq, Int.reduceBNe, Int.reduceAdd, Int.reduceSub, Int.reduceMul, Int.reduceLT, Int.reduceLE, Int.reduceToNat, an21, ty3, ty25, ty33] -- region 7
    refine hK _ _ fun nx => ?_; clear hK K; try clear kk
    have hs := noMore hb
    subst hs
    refine awp_ret ?_; (repeat (with_reducible first | refine then_n ?_ | refine then_r ?_ | refine then_e ?_ | refine block_n ?_ | refine block_r ?_ | refine exit_here ?_ | refine exit_on rfl ?_ | refine scope_n ?_ | refine scope_r ?_ | refine scope_e ?_))
    refine body_own rfl rfl rfl (by simp) (by rw [← hr]; simp [turnG])
theorem list_at (pre suf : List (List Rg)) (m : List Rg) : ((pre ++ m :: suf).map mp).getD pre.length .undef = .list 3 (m.map Rg.pv) := by
  simp [mp]

def thruM (right : Bool) : Int → List (List Rg) → Int
  | pos, [] => pos
  | pos, m :: l => thruM right (toM pos right 0 m) l

theorem toM_le (m : List Rg) (hok : ∀ r ∈ m, r.ok) (pos : Int) (hp : 0 ≤ pos) (right : Bool) : ∀ sh, sh - 1048576 * (m.length : Int) ≤ toM pos right sh m ∧ toM pos right sh m ≤ pos + sh + 1048576 * (m.length + 1 : Int) := by
  induction m with
  | nil => intro sh; simp [toM]; omega
  | cons r m ih =>
    intro sh
    have h1 := hok r (by simp)
    have h2 := ih (fun x hx => hok x (by simp [hx])) (sh + (r.n - r.o))
    unfold Rg.ok at h1
    simp only [toM, List.length_cons]
    split
    · omega
    · split
      · omega
      · split <;> omega
end Go.Proofs.Ytafcbjepmjcpgaa
