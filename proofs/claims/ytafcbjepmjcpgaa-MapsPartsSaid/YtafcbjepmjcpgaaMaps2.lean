/- maps: Grows, To, Lost, Turn, Through. -/
import Derived.Test.YtafcbjepmjcpgaaMaps1
namespace Go.Proofs.Ytafcbjepmjcpgaa
set_option linter.unusedSimpArgs false
set_option linter.unusedVariables false
open Go

theorem pc19 (m : List Rg) (hok : ∀ r ∈ m, r.ok) (hm : m.length ≤ 1000000) : PC Try.prog 19 [mp m] (.int .i64 (growsM m)) := by
  generalize hR : growsM m = R
  refine start19 rfl ?_
  refine awp_first fun K kk hK => ?_; simp (disch := omega) only [go_sem, ↓reduceIte, reduceCtorEq, Nat.reduceEqDiff, Nat.reduceAdd, Nat.reduceMul, Nat.reduceSub, Nat.reduceLT, Nat.reduceLeDiff, Nat.reducePow, Nat.reduceBEq, Nat.reduceBNe, Int.reduceNeg, Int.reduceBEq, Int.reduceBNe, Int.reduceAdd, Int.reduceSub, Int.reduceMul, Int.reduceLT, Int.reduceLE, Int.reduceToNat, an19, ty3, ty25, ty33] -- region 0
  refine hK _ _ fun nx => ?_; clear hK K; try clear kk
  refine awp_first fun K kk hK => ?_; simp (disch := omega) only [go_sem, ↓reduceIte, reduceCtorEq, Nat.reduceEqDiff, Nat.reduceAdd, Nat.reduceMul, Nat.reduceSub, Nat.reduceLT, Nat.reduceLeDiff, Nat.reducePow, Nat.reduceBEq, Nat.reduceBNe, Int.reduceNeg, Int.reduceBEq, Int.reduceBNe, Int.reduceAdd, Int.reduceSub, Int.reduceMul, Int.reduceLT, Int.reduceLE, Int.reduceToNat, an19, ty3, ty25, ty33] -- region 1
  refine hK _ _ fun nx => ?_; clear hK K; try clear kk
  refine awp_seq ?_
  refine awp_first fun K kk hK => ?_; simp (disch := omega) only [go_sem, ↓reduceIte, reduceCtorEq, Nat.reduceEqDiff, Nat.reduceAdd, Nat.reduceMul, Nat.reduceSub, Nat.reduceLT, Nat.reduceLeDiff, Nat.reducePow, Nat.reduceBEq, Nat.reduceBNe, Int.reduceNeg, Int.reduceBEq, Int.reduceBNe, Int.reduceAdd, Int.reduceSub, Int.reduceMul, Int.reduceLT, Int.reduceLE, Int.reduceToNat, an19, ty3, ty25, ty33, mp] -- region 2
  refine hK _ _ fun nx => ?_; clear hK K; try clear kk
  refine awp_block ?_
  refine awp_while (fun n s => ∃ pre suf acc nx, m = pre ++ suf ∧ suf.length = n ∧ acc + growsM suf = R ∧ -(1048576 * (pre.length : Int)) ≤ acc ∧ acc ≤ 1048576 * (pre.length : Int) ∧
    s = ⟨[(3, .int .i64 acc), (6, .list 3 (m.map Rg.pv)), (7, .int .i64 m.length), (8, .int .i64 pre.length)], [], nx⟩) ?_ m.length ⟨[], m, 0, _, rfl, rfl, by omega, by simp, by simp, rfl⟩
  clear nx
  rintro n s ⟨pre, suf, acc, nx, rfl, hn, hr, hl1, hl2, rfl⟩
  refine awp_first fun K kk hK => ?_; simp (disch := omega) only [go_sem, ↓reduceIte, reduceCtorEq, Nat.reduceEqDiff, Nat.reduceAdd, Nat.reduceMul, Nat.reduceSub, Nat.reduceLT, Nat.reduceLeDiff, Nat.reducePow, Nat.reduceBEq, Nat.reduceBNe, Int.reduceNeg, Int.reduceBEq, Int.reduceBNe, Int.reduceAdd, Int.reduceSub, Int.reduceMul, Int.reduceLT, Int.reduceLE, Int.reduceToNat, an19, ty3, ty25, ty33] -- region 3
  refine hK _ _ fun nx => ?_; clear hK K; try clear kk
  refine awp_seq ?_
  refine awp_cond rfl (fun hb => ?_) (fun hb => ?_)
  · have hlt := of_decide_eq_true hb
    obtain ⟨r, suf, rfl⟩ := more hb
    have hget := rg_at pre suf r
    obtain ⟨h1, h2, h3, h4, h5, h6, h7⟩ := hok r (by simp)
    have hm' : pre.length ≤ 1000000 := by simp at hm; omega
    refine awp_skip ?_; (repeat (with_reducible first | refine then_n ?_ | refine then_r ?_ | refine then_e ?_ | refine block_n ?_ | refine block_r ?_ | refine exit_here ?_ | refine exit_on rfl ?_ | refine scope_n ?_ | refine scope_r ?_ | refine scope_e ?_))
    refine awp_seq ?_
    refine awp_block ?_
    refine awp_first fun K kk hK => ?_; simp (disch := omega) only [go_sem, ↓reduceIte, reduceCtorEq, Nat.reduceEqDiff, Nat.reduceAdd, Nat.reduceMul, Nat.reduceSub, Nat.reduceLT, Nat.reduceLeDiff, Nat.reducePow, Nat.reduceBEq, Nat.reduceBNe, Int.reduceNeg, Int.reduceBEq, Int.reduceBNe, Int.reduceAdd, Int.reduceSub, Int.reduceMul, Int.reduceLT, Int.reduceLE, Int.reduceToNat, an19, ty3, ty25, ty33, hget, hlt] -- region 4
    refine hK _ _ fun nx => ?_; clear hK K; try clear kk
    refine awp_region fun K kk hK => ?_; simp (disch := omega) only [go_sem, ↓reduceIte, reduceCtorEq, Nat.reduceEqDiff, Nat.reduceAdd, Nat.reduceMul, Nat.reduceSub, Nat.reduceLT, Nat.reduceLeDiff, Nat.reducePow, Nat.reduceBEq, Nat.reduceBNe, Int.reduceNeg, Int.reduceBEq, Int.reduceBNe, Int.reduceAdd, Int.reduceSub, Int.reduceMul, Int.reduceLT, Int.reduceLE, Int.reduceToNat, an19, ty3, ty25, ty33] -- region 5
    refine hK _ _ fun nx => ?_; clear hK K; try clear kk
    (repeat (with_reducible first | refine then_n ?_ | refine then_r ?_ | refine then_e ?_ | refine block_n ?_ | refine block_r ?_ | refine exit_here ?_ | refine exit_on rfl ?_ | refine scope_n ?_ | refine scope_r ?_ | refine scope_e ?_))
    refine awp_region fun K kk hK => ?_; simp (disch := omega) only [go_sem, ↓reduceIte, reduceCtorEq, Nat.reduceEqDiff, Nat.reduceAdd, Nat.reduceMul, Nat.reduceSub, Nat.reduceLT, Nat.reduceLeDiff, Nat.reducePow, Nat.reduceBEq, Nat.reduceBNe, Int.reduceNeg, Int.reduceBEq, Int.reduceBNe, Int.reduceAdd, Int.reduceSub, Int.reduceMul, Int.reduceLT, Int.reduceLE, Int.reduceToNat, an19, ty3, ty25, ty33] -- region 6
    refine hK _ _ fun nx => ?_; clear hK K; try clear kk
    (repeat (with_reducible first | refine then_n ?_ | refine then_r ?_ | refine then_e ?_ | refine block_n ?_ | refine block_r ?_ | refine exit_here ?_ | refine exit_on rfl ?_ | refine scope_n ?_ | refine scope_r ?_ | refine scope_e ?_))
    refine ⟨suf.length, by simp at hn; omega, pre ++ [r], suf, acc + (r.n - r.o), nx, by simp, rfl, ?_, by simp; omega, by simp; omega, by simp⟩
    rw [← hr]; simp only [growsM]; omega
  ·
    refine awp_exit ?_; (repeat (with_reducible first | refine then_n ?_ | refine then_r ?_ | refine then_e ?_ | refine block_n ?_ | refine block_r ?_ | refine exit_here ?_ | refine exit_on rfl ?_ | refine scope_n ?_ | refine scope_r ?_ | refine scope_e ?_))
    refine awp_first fun K kk hK => ?_; simp (disch := omega) only [go_sem, ↓reduceIte, reduceCtorEq, Nat.reduceEqDiff, Nat.reduceAdd, Nat.reduceMul, Nat.reduceSub, Nat.reduceLT, Nat.reduceLeDiff, Nat.reducePow, Nat.reduceBEq, Nat.reduceBNe, Int.reduceNeg, Int.reduceBEq, Int.reduceBNe, Int.reduceAdd, Int.reduceSub, Int.reduceMul, Int.reduceLT, Int.reduceLE, Int.reduceToNat, an19, ty3, ty25, ty33] -- region 7
    refine hK _ _ fun nx => ?_; clear hK K; try clear kk
    have hs := noMore hb
    subst hs
    refine awp_ret ?_; (repeat (with_reducible first | refine then_n ?_ | refine then_r ?_ | refine then_e ?_ | refine block_n ?_ | refine block_r ?_ | refine exit_here ?_ | refine exit_on rfl ?_ | refine scope_n ?_ | refine scope_r ?_ | refine scope_e ?_)); refine body_ret (.inl ⟨?_, rfl⟩); exact wk_eq (by simp [pur2, pur1, pur0, resOf, Env.get, ← hr, growsM])

theorem pc18 (m : List Rg) (hok : ∀ r ∈ m, r.ok) (hm : m.length ≤ 1000000) (pos : Int) (hp : -1125899906842624 ≤ pos ∧ pos ≤ 1125899906842624) (right : Bool) :
    PC Try.prog 18 [mp m, .int .i64 pos, .bool right] (.int .i64 (toM pos right 0 m)) := by
  generalize hR : toM pos right 0 m = R
  refine start18 rfl ?_
  refine awp_first fun K kk hK => ?_; simp (disch := omega) only [go_sem, ↓reduceIte, reduceCtorEq, Nat.reduceEqDiff, Nat.reduceAdd, Nat.reduceMul, Nat.reduceSub, Nat.reduceLT, Nat.reduceLeDiff, Nat.reducePow, Nat.reduceBEq, Nat.reduceBNe, Int.reduceNeg, Int.reduceBEq, Int.reduceBNe, Int.reduceAdd, Int.reduceSub, Int.reduceMul, Int.reduceLT, Int.reduceLE, Int.reduceToNat, an18, ty3, ty25, ty33] -- region 0
  refine hK _ _ fun nx => ?_; clear hK K; try clear kk
  refine awp_scope ?_
  refine awp_first fun K kk hK => ?_; simp (disch := omega) only [go_sem, ↓reduceIte, reduceCtorEq, Nat.reduceEqDiff, Nat.reduceAdd, Nat.reduceMul, Nat.reduceSub, Nat.reduceLT, Nat.reduceLeDiff, Nat.reducePow, Nat.reduceBEq, Nat.reduceBNe, Int.reduceNeg, Int.reduceBEq, Int.reduceBNe, Int.reduceAdd, Int.reduceSub, Int.reduceMul, Int.reduceLT, Int.reduceLE, Int.reduceToNat, an18, ty3, ty25, ty33] -- region 1
  refine hK _ _ fun nx => ?_; clear hK K; try clear kk
  refine awp_seq ?_
  refine awp_label ?_; (repeat (with_reducible first | refine then_n ?_ | refine then_r ?_ | refine then_e ?_ | refine block_n ?_ | refine block_r ?_ | refine exit_here ?_ | refine exit_on rfl ?_ | refine scope_n ?_ | refine scope_r ?_ | refine scope_e ?_))
  refine awp_seq ?_
  refine awp_first fun K kk hK => ?_; simp (disch := omega) only [go_sem, ↓reduceIte, reduceCtorEq, Nat.reduceEqDiff, Nat.reduceAdd, Nat.reduceMul, Nat.reduceSub, Nat.reduceLT, Nat.reduceLeDiff, Nat.reducePow, Nat.reduceBEq, Nat.reduceBNe, Int.reduceNeg, Int.reduceBEq, Int.reduceBNe, Int.reduceAdd, Int.reduceSub, Int.reduceMul, Int.reduceLT, Int.reduceLE, Int.reduceToNat, an18, ty3, ty25, ty33, mp] -- region 2
  refine hK _ _ fun nx => ?_; clear hK K; try clear kk
  refine awp_block ?_
  refine awp_while (fun n s => ∃ pre suf sh nx, m = pre ++ suf ∧ suf.length = n ∧ toM pos right sh suf = R ∧ -(1048576 * (pre.length : Int)) ≤ sh ∧ sh ≤ 1048576 * (pre.length : Int) ∧
    s = ⟨[(1, .int .i64 pos), (2, .bool right), (7, .int .i64 sh), (10, .list 3 (m.map Rg.pv)), (11, .int .i64 m.length), (12, .int .i64 pre.length)], [], nx⟩) ?_ m.length ⟨[], m, 0, _, rfl, rfl, hR, by simp, by simp, rfl⟩
  clear nx
  rintro n s ⟨pre, suf, sh, nx, rfl, hn, hr, hl1, hl2, rfl⟩
  have hm' : pre.length ≤ 1000000 := by simp at hm; omega
  refine awp_first fun K kk hK => ?_; simp (disch := omega) only [go_sem, ↓reduceIte, reduceCtorEq, Nat.reduceEqDiff, Nat.reduceAdd, Nat.reduceMul, Nat.reduceSub, Nat.reduceLT, Nat.reduceLeDiff, Nat.reducePow, Nat.reduceBEq, Nat.reduceBNe, Int.reduceNeg, Int.reduceBEq, Int.reduceBNe, Int.reduceAdd, Int.reduceSub, Int.reduceMul, Int.reduceLT, Int.reduceLE, Int.reduceToNat, an18, ty3, ty25, ty33] -- region 3
  refine hK _ _ fun nx => ?_; clear hK K; try clear kk
  refine awp_seq ?_
  refine awp_cond rfl (fun hb => ?_) (fun hb => ?_)
  · have hlt := of_decide_eq_true hb
    obtain ⟨r, suf, rfl⟩ := more hb
    have hget := rg_at pre suf r
    have hrok := hok r (by simp)
    obtain ⟨h1, h2, h3, h4, h5, h6, h7⟩ := hok r (by simp)
    refine awp_skip ?_; (repeat (with_reducible first | refine then_n ?_ | refine then_r ?_ | refine then_e ?_ | refine block_n ?_ | refine block_r ?_ | refine exit_here ?_ | refine exit_on rfl ?_ | refine scope_n ?_ | refine scope_r ?_ | refine scope_e ?_))
    refine awp_seq ?_
    refine awp_block ?_
    refine awp_first fun K kk hK => ?_; simp (disch := omega) only [go_sem, ↓reduceIte, reduceCtorEq, Nat.reduceEqDiff, Nat.reduceAdd, Nat.reduceMul, Nat.reduceSub, Nat.reduceLT, Nat.reduceLeDiff, Nat.reducePow, Nat.reduceBEq, Nat.reduceBNe, Int.reduceNeg, Int.reduceBEq, Int.reduceBNe, Int.reduceAdd, Int.reduceSub, Int.reduceMul, Int.reduceLT, Int.reduceLE, Int.reduceToNat, an18, ty3, ty25, ty33, hget, hlt] -- region 4
    refine hK _ _ fun nx => ?_; clear hK K; try clear kk
    refine awp_block ?_
    refine awp_first fun K kk hK => ?_; simp (disch := omega) only [go_sem, ↓reduceIte, reduceCtorEq, Nat.reduceEqDiff, Nat.reduceAdd, Nat.reduceMul, Nat.reduceSub, Nat.reduceLT, Nat.reduceLeDiff, Nat.reducePow, Nat.reduceBEq, Nat.reduceBNe, Int.reduceNeg, Int.reduceBEq, Int.reduceBNe, Int.reduceAdd, Int.reduceSub, Int.reduceMul, Int.reduceLT, Int.reduceLE, Int.reduceToNat, an18, ty3, ty25, ty33] -- region 6
    refine step_call (pc48 r hrok) (by rfl) (by exact WkL.refl _) (by rfl) (by rfl) (by rfl) ?_
    simp (disch := omega) only [go_sem, ↓reduceIte, reduceCtorEq, Nat.reduceEqDiff, Nat.reduceAdd, Nat.reduceMul, Nat.reduceSub, Nat.reduceLT, Nat.reduceLeDiff, Nat.reducePow, Nat.reduceBEq, Nat.reduceBNe, Int.reduceNeg, Int.reduceBEq, Int.reduceBNe, Int.reduceAdd, Int.reduceSub, Int.reduceMul, Int.reduceLT, Int.reduceLE, Int.reduceToNat, an18, ty3, ty25, ty33]
    refine hK _ _ fun nx => ?_; clear hK K; try clear kk
    refine awp_cond rfl (fun hb => ?_) (fun hb => ?_)
    · have hc := of_decide_eq_true hb
      refine awp_region fun K kk hK => ?_; simp (disch := omega) only [go_sem, ↓reduceIte, reduceCtorEq, Nat.reduceEqDiff, Nat.reduceAdd, Nat.reduceMul, Nat.reduceSub, Nat.reduceLT, Nat.reduceLeDiff, Nat.reducePow, Nat.reduceBEq, Nat.reduceBNe, Int.reduceNeg, Int.reduceBEq, Int.reduceBNe, Int.reduceAdd, Int.reduceSub, Int.reduceMul, Int.reduceLT, Int.reduceLE, Int.reduceToNat, an18, ty3, ty25, ty33] -- region 7
      refine hK _ _ fun nx => ?_; clear hK K; try clear kk
      (repeat (with_reducible first | refine then_n ?_ | refine then_r ?_ | refine then_e ?_ | refine block_n ?_ | refine block_r ?_ | refine exit_here ?_ | refine exit_on rfl ?_ | refine scope_n ?_ | refine scope_r ?_ | refine scope_e ?_))
      refine awp_region fun K kk hK => ?_; simp (disch := omega) only [go_sem, ↓reduceIte, reduceCtorEq, Nat.reduceEqDiff, Nat.reduceAdd, Nat.reduceMul, Nat.reduceSub, Nat.reduceLT, Nat.reduceLeDiff, Nat.reducePow, Nat.reduceBEq, Nat.reduceBNe, Int.reduceNeg, Int.reduceBEq, Int.reduceBNe, Int.reduceAdd, Int.reduceSub, Int.reduceMul, Int.reduceLT, Int.reduceLE, Int.reduceToNat, an18, ty3, ty25, ty33] -- region 11
      refine hK _ _ fun nx => ?_; clear hK K; try clear kk
      (repeat (with_reducible first | refine then_n ?_ | refine then_r ?_ | refine then_e ?_ | refine block_n ?_ | refine block_r ?_ | refine exit_here ?_ | refine exit_on rfl ?_ | refine scope_n ?_ | refine scope_r ?_ | refine scope_e ?_))
      refine ⟨suf.length, by simp at hn; omega, pre ++ [r], suf, sh + (r.n - r.o), nx, by simp, rfl, ?_, by simp; omega, by simp; omega, by simp⟩
      rw [← hr]; simp only [toM, if_pos hc]
    · have hc := of_decide_eq_false hb
      refine awp_first fun K kk hK => ?_; simp (disch := omega) only [go_sem, ↓reduceIte, reduceCtorEq, Nat.reduceEqDiff, Nat.reduceAdd, Nat.reduceMul, Nat.reduceSub, Nat.reduceLT, Nat.reduceLeDiff, Nat.reducePow, Nat.reduceBEq, Nat.reduceBNe, Int.reduceNeg, Int.reduceBEq, Int.reduceBNe, Int.reduceAdd, Int.reduceSub, Int.reduceMul, Int.reduceLT, Int.reduceLE, Int.reduceToNat, an18, ty3, ty25, ty33] -- region 8
      refine hK _ _ fun nx => ?_; clear hK K; try clear kk
      refine awp_cond rfl (fun hb => ?_) (fun hb => ?_)
      · have hc2 := of_decide_eq_true hb
        refine awp_exit ?_; (repeat (with_reducible first | refine then_n ?_ | refine then_r ?_ | refine then_e ?_ | refine block_n ?_ | refine block_r ?_ | refine exit_here ?_ | refine exit_on rfl ?_ | refine scope_n ?_ | refine scope_r ?_ | refine scope_e ?_))
        refine awp_first fun K kk hK => ?_; simp (disch := omega) only [go_sem, ↓reduceIte, reduceCtorEq, Nat.reduceEqDiff, Nat.reduceAdd, Nat.reduceMul, Nat.reduceSub, Nat.reduceLT, Nat.reduceLeDiff, Nat.reducePow, Nat.reduceBEq, Nat.reduceBNe, Int.reduceNeg, Int.reduceBEq, Int.reduceBNe, Int.reduceAdd, Int.reduceSub, Int.reduceMul, Int.reduceLT, Int.reduceLE, Int.reduceToNat, an18, ty3, ty25, ty33] -- region 12
        refine hK _ _ fun nx => ?_; clear hK K; try clear kk
        refine awp_ret ?_; (repeat (with_reducible first | refine then_n ?_ | refine then_r ?_ | refine then_e ?_ | refine block_n ?_ | refine block_r ?_ | refine exit_here ?_ | refine exit_on rfl ?_ | refine scope_n ?_ | refine scope_r ?_ | refine scope_e ?_)); refine body_ret (.inl ⟨?_, rfl⟩); exact wk_eq (by simp [pur2, pur1, pur0, resOf, Env.get, ← hr, toM, hc, hc2])
      · have hc2 := of_decide_eq_false hb
        refine awp_first fun K kk hK => ?_; simp (disch := omega) only [go_sem, ↓reduceIte, reduceCtorEq, Nat.reduceEqDiff, Nat.reduceAdd, Nat.reduceMul, Nat.reduceSub, Nat.reduceLT, Nat.reduceLeDiff, Nat.reducePow, Nat.reduceBEq, Nat.reduceBNe, Int.reduceNeg, Int.reduceBEq, Int.reduceBNe, Int.reduceAdd, Int.reduceSub, Int.reduceMul, Int.reduceLT, Int.reduceLE, Int.reduceToNat, an18, ty3, ty25, ty33] -- region 9
        refine step_call (pc49 r hrok _ _) (by rfl) (by exact WkL.refl _) (by rfl) (by rfl) (by rfl) ?_
        simp (disch := omega) only [go_sem, ↓reduceIte, reduceCtorEq, Nat.reduceEqDiff, Nat.reduceAdd, Nat.reduceMul, Nat.reduceSub, Nat.reduceLT, Nat.reduceLeDiff, Nat.reducePow, Nat.reduceBEq, Nat.reduceBNe, Int.reduceNeg, Int.reduceBEq, Int.reduceBNe, Int.reduceAdd, Int.reduceSub, Int.reduceMul, Int.reduceLT, Int.reduceLE, Int.reduceToNat, an18, ty3, ty25, ty33]
        refine hK _ _ fun nx => ?_; clear hK K; try clear kk
        refine awp_cond rfl (fun hb => ?_) (fun hb => ?_)
        ·
          refine awp_first fun K kk hK => ?_; simp (disch := omega) only [go_sem, ↓reduceIte, reduceCtorEq, Nat.reduceEqDiff, Nat.reduceAdd, Nat.reduceMul, Nat.reduceSub, Nat.reduceLT, Nat.reduceLeDiff, Nat.reducePow, Nat.reduceBEq, Nat.reduceBNe, Int.reduceNeg, Int.reduceBEq, Int.reduceBNe, Int.reduceAdd, Int.reduceSub, Int.reduceMul, Int.reduceLT, Int.reduceLE, Int.reduceToNat, an18, ty3, ty25, ty33] -- region 10
          refine hK _ _ fun nx => ?_; clear hK K; try clear kk
          refine awp_ret ?_; (repeat (with_reducible first | refine then_n ?_ | refine then_r ?_ | refine then_e ?_ | refine block_n ?_ | refine block_r ?_ | refine exit_here ?_ | refine exit_on rfl ?_ | refine scope_n ?_ | refine scope_r ?_ | refine scope_e ?_)); refine body_ret (.inl ⟨?_, rfl⟩); exact wk_eq (by simp [pur2, pur1, pur0, resOf, Env.get, ← hr, toM, hc, hc2, hb])
        ·
          refine awp_first fun K kk hK => ?_; simp (disch := omega) only [go_sem, ↓reduceIte, reduceCtorEq, Nat.reduceEqDiff, Nat.reduceAdd, Nat.reduceMul, Nat.reduceSub, Nat.reduceLT, Nat.reduceLeDiff, Nat.reducePow, Nat.reduceBEq, Nat.reduceBNe, Int.reduceNeg, Int.reduceBEq, Int.reduceBNe, Int.reduceAdd, Int.reduceSub, Int.reduceMul, Int.reduceLT, Int.reduceLE, Int.reduceToNat, an18, ty3, ty25, ty33] -- region 5
          refine hK _ _ fun nx => ?_; clear hK K; try clear kk
          refine awp_ret ?_; (repeat (with_reducible first | refine then_n ?_ | refine then_r ?_ | refine then_e ?_ | refine block_n ?_ | refine block_r ?_ | refine exit_here ?_ | refine exit_on rfl ?_ | refine scope_n ?_ | refine scope_r ?_ | refine scope_e ?_)); refine body_ret (.inl ⟨?_, rfl⟩); exact wk_eq (by simp [pur2, pur1, pur0, resOf, Env.get, ← hr, toM, hc, hc2, hb])
  ·
    refine awp_exit ?_; (repeat (with_reducible first | refine then_n ?_ | refine then_r ?_ | refine then_e ?_ | refine block_n ?_ | refine block_r ?_ | refine exit_here ?_ | refine exit_on rfl ?_ | refine scope_n ?_ | refine scope_r ?_ | refine scope_e ?_))
    have hs := noMore hb
    subst hs
    refine awp_first fun K kk hK => ?_; simp (disch := omega) only [go_sem, ↓reduceIte, reduceCtorEq, Nat.reduceEqDiff, Nat.reduceAdd, Nat.reduceMul, Nat.reduceSub, Nat.reduceLT, Nat.reduceLeDiff, Nat.reducePow, Nat.reduceBEq, Nat.reduceBNe, Int.reduceNeg, Int.reduceBEq, Int.reduceBNe, Int.reduceAdd, Int.reduceSub, Int.reduceMul, Int.reduceLT, Int.reduceLE, Int.reduceToNat, an18, ty3, ty25, ty33] -- region 12
    refine hK _ _ fun nx => ?_; clear hK K; try clear kk
    refine awp_ret ?_; (repeat (with_reducible first | refine then_n ?_ | refine then_r ?_ | refine then_e ?_ | refine block_n ?_ | refine block_r ?_ | refine exit_here ?_ | refine exit_on rfl ?_ | refine scope_n ?_ | refine scope_r ?_ | refine scope_e ?_)); refine body_ret (.inl ⟨?_, rfl⟩); exact wk_eq (by simp [pur2, pur1, pur0, resOf, Env.get, ← hr, toM])

end Go.Proofs.Ytafcbjepmjcpgaa
