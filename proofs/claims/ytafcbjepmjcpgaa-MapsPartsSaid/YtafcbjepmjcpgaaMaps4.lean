/- maps: Through; the law's example. -/
import Derived.Test.YtafcbjepmjcpgaaMaps3
namespace Go.Proofs.Ytafcbjepmjcpgaa
set_option linter.unusedSimpArgs false
set_option linter.unusedVariables false
open Go

theorem toM_in (m : List Rg) (hok : ∀ r ∈ m, r.ok) (B : Int) (hB : 0 ≤ B) (pos : Int) (hp : -B ≤ pos ∧ pos ≤ B) (right : Bool) : ∀ sh, -B + sh - 1048576 * (m.length : Int) ≤ toM pos right sh m ∧ toM pos right sh m ≤ B + sh + 1048576 * (m.length + 1 : Int) := by
  induction m with
  | nil => intro sh; simp [toM]; omega
  | cons r m ih =>
    intro sh
    have h1 := hok r (by simp)
    have h2 := ih (fun x hx => hok x (by simp [hx])) (sh + (r.n - r.o))
    unfold Rg.ok at h1
    simp only [toM, List.length_cons]
    split
    · omega
    · split
      · omega
      · split <;> omega

theorem pc17 (l : List (List Rg)) (hok : ∀ m ∈ l, (∀ r ∈ m, r.ok) ∧ m.length ≤ 1000) (hm : l.length ≤ 1000) (pos : Int) (hp : -1099511627776 ≤ pos ∧ pos ≤ 1099511627776) (right : Bool) :
    PC Try.prog 17 [.list 1 (l.map mp), .int .i64 pos, .bool right] (.int .i64 (thruM right pos l)) := by
  generalize hR : thruM right pos l = R
  refine start17 rfl ?_
  refine awp_first fun K kk hK => ?_; simp (disch := omega) only [go_sem, ↓reduceIte, reduceCtorEq, Nat.reduceEqDiff, Nat.reduceAdd, Nat.reduceMul, Nat.reduceSub, Nat.reduceLT, Nat.reduceLeDiff, Nat.reducePow, Nat.reduceBEq, Nat.reduceBNe, Int.reduceNeg, Int.reduceBEq, Int.reduceBNe, Int.reduceAdd, Int.reduceSub, Int.reduceMul, Int.reduceLT, Int.reduceLE, Int.reduceToNat, an17, ty3, ty22, ty25, ty33] -- region 0
  refine hK _ _ fun nx => ?_; clear hK K; try clear kk
  refine awp_seq ?_
  refine awp_first fun K kk hK => ?_; simp (disch := omega) only [go_sem, ↓reduceIte, reduceCtorEq, Nat.reduceEqDiff, Nat.reduceAdd, Nat.reduceMul, Nat.reduceSub, Nat.reduceLT, Nat.reduceLeDiff, Nat.reducePow, Nat.reduceBEq, Nat.reduceBNe, Int.reduceNeg, Int.reduceBEq, Int.reduceBNe, Int.reduceAdd, Int.reduceSub, Int.reduceMul, Int.reduceLT, Int.reduceLE, Int.reduceToNat, an17, ty3, ty22, ty25, ty33] -- region 1
  refine hK _ _ fun nx => ?_; clear hK K; try clear kk
  refine awp_block ?_
  refine awp_while (fun n s => ∃ pre suf pos nx, l = pre ++ suf ∧ suf.length = n ∧ thruM right pos suf = R ∧ -1099511627776 - 1073741824 * (pre.length : Int) ≤ pos ∧ pos ≤ 1099511627776 + 1073741824 * (pre.length : Int) ∧
    s = ⟨[(1, .int .i64 pos), (2, .bool right), (9, .list 1 (l.map mp)), (10, .int .i64 l.length), (11, .int .i64 pre.length)], [], nx⟩) ?_ l.length ?_
  rotate_left
  · exact ⟨[], l, pos, _, rfl, rfl, hR, by simp; omega, by simp; omega, rfl⟩
  clear nx hR hp
  clear pos
  rintro n s ⟨pre, suf, pos, nx, rfl, hn, hr, hl1, hl2, rfl⟩
  have hm' : pre.length ≤ 1000 := by simp at hm; omega
  refine awp_first fun K kk hK => ?_; simp (disch := omega) only [go_sem, ↓reduceIte, reduceCtorEq, Nat.reduceEqDiff, Nat.reduceAdd, Nat.reduceMul, Nat.reduceSub, Nat.reduceLT, Nat.reduceLeDiff, Nat.reducePow, Nat.reduceBEq, Nat.reduceBNe, Int.reduceNeg, Int.reduceBEq, Int.reduceBNe, Int.reduceAdd, Int.reduceSub, Int.reduceMul, Int.reduceLT, Int.reduceLE, Int.reduceToNat, an17, ty3, ty22, ty25, ty33] -- region 2
  refine hK _ _ fun nx => ?_; clear hK K; try clear kk
  refine awp_seq ?_
  refine awp_cond rfl (fun hb => ?_) (fun hb => ?_)
  · have hlt := of_decide_eq_true hb
    obtain ⟨r, suf, rfl⟩ := more hb
    have hget := list_at pre suf r
    have hrok := hok r (by simp)
    have hle := toM_in r hrok.1 (1099511627776 + 1073741824 * (pre.length : Int)) (by omega) pos (by omega) right 0
    have hrl := hrok.2
    refine awp_skip ?_; (repeat (with_reducible first | refine then_n ?_ | refine then_r ?_ | refine then_e ?_ | refine block_n ?_ | refine block_r ?_ | refine exit_here ?_ | refine exit_on rfl ?_ | refine scope_n ?_ | refine scope_r ?_ | refine scope_e ?_))
    refine awp_seq ?_
    refine awp_block ?_
    refine awp_first fun K kk hK => ?_; simp (disch := omega) only [go_sem, ↓reduceIte, reduceCtorEq, Nat.reduceEqDiff, Nat.reduceAdd, Nat.reduceMul, Nat.reduceSub, Nat.reduceLT, Nat.reduceLeDiff, Nat.reducePow, Nat.reduceBEq, Nat.reduceBNe, Int.reduceNeg, Int.reduceBEq, Int.reduceBNe, Int.reduceAdd, Int.reduceSub, Int.reduceMul, Int.reduceLT, Int.reduceLE, Int.reduceToNat, an17, ty3, ty22, ty25, ty33, hget, hlt] -- region 3
    refine hK _ _ fun nx => ?_; clear hK K; try clear kk
    refine awp_region fun K kk hK => ?_; simp (disch := omega) only [go_sem, ↓reduceIte, reduceCtorEq, Nat.reduceEqDiff, Nat.reduceAdd, Nat.reduceMul, Nat.reduceSub, Nat.reduceLT, Nat.reduceLeDiff, Nat.reducePow, Nat.reduceBEq, Nat.reduceBNe, Int.reduceNeg, Int.reduceBEq, Int.reduceBNe, Int.reduceAdd, Int.reduceSub, Int.reduceMul, Int.reduceLT, Int.reduceLE, Int.reduceToNat, an17, ty3, ty22, ty25, ty33] -- region 4
    refine step_call (pc18 r hrok.1 (by omega) pos (by omega) right) (by rfl) (by exact WkL.refl _) (by rfl) (by rfl) (by rfl) ?_
    simp (disch := omega) only [go_sem, ↓reduceIte, reduceCtorEq, Nat.reduceEqDiff, Nat.reduceAdd, Nat.reduceMul, Nat.reduceSub, Nat.reduceLT, Nat.reduceLeDiff, Nat.reducePow, Nat.reduceBEq, Nat.reduceBNe, Int.reduceNeg, Int.reduceBEq, Int.reduceBNe, Int.reduceAdd, Int.reduceSub, Int.reduceMul, Int.reduceLT, Int.reduceLE, Int.reduceToNat, an17, ty3, ty22, ty25, ty33]
    refine hK _ _ fun nx => ?_; clear hK K; try clear kk
    (repeat (with_reducible first | refine then_n ?_ | refine then_r ?_ | refine then_e ?_ | refine block_n ?_ | refine block_r ?_ | refine exit_here ?_ | refine exit_on rfl ?_ | refine scope_n ?_ | refine scope_r ?_ | refine scope_e ?_))
    refine awp_region fun K kk hK => ?_; simp (disch := omega) only [go_sem, ↓reduceIte, reduceCtorEq, Nat.reduceEqDiff, Nat.reduceAdd, Nat.reduceMul, Nat.reduceSub, Nat.reduceLT, Nat.reduceLeDiff, Nat.reducePow, Nat.reduceBEq, Nat.reduceBNe, Int.reduceNeg, Int.reduceBEq, Int.reduceBNe, Int.reduceAdd, Int.reduceSub, Int.reduceMul, Int.reduceLT, Int.reduceLE, Int.reduceToNat, an17, ty3, ty22, ty25, ty33] -- region 5
    refine hK _ _ fun nx => ?_; clear hK K; try clear kk
    (repeat (with_reducible first | refine then_n ?_ | refine then_r ?_ | refine then_e ?_ | refine block_n ?_ | refine block_r ?_ | refine exit_here ?_ | refine exit_on rfl ?_ | refine scope_n ?_ | refine scope_r ?_ | refine scope_e ?_))
    refine ⟨suf.length, by simp at hn; omega, pre ++ [r], suf, toM pos right 0 r, nx, by simp, rfl, ?_, by simp; omega, by simp; omega, by simp⟩
    rw [← hr]; simp only [thruM]
  ·
    refine awp_exit ?_; (repeat (with_reducible first | refine then_n ?_ | refine then_r ?_ | refine then_e ?_ | refine block_n ?_ | refine block_r ?_ | refine exit_here ?_ | refine exit_on rfl ?_ | refine scope_n ?_ | refine scope_r ?_ | refine scope_e ?_))
    refine awp_first fun K kk hK => ?_; simp (disch := omega) only [go_sem, ↓reduceIte, reduceCtorEq, Nat.reduceEqDiff, Nat.reduceAdd, Nat.reduceMul, Nat.reduceSub, Nat.reduceLT, Nat.reduceLeDiff, Nat.reducePow, Nat.reduceBEq, Nat.reduceBNe, Int.reduceNeg, Int.reduceBEq, Int.reduceBNe, Int.reduceAdd, Int.reduceSub, Int.reduceMul, Int.reduceLT, Int.reduceLE, Int.reduceToNat, an17, ty3, ty22, ty25, ty33] -- region 6
    refine hK _ _ fun nx => ?_; clear hK K; try clear kk
    have hs := noMore hb
    subst hs
    refine awp_ret ?_; (repeat (with_reducible first | refine then_n ?_ | refine then_r ?_ | refine then_e ?_ | refine block_n ?_ | refine block_r ?_ | refine exit_here ?_ | refine exit_on rfl ?_ | refine scope_n ?_ | refine scope_r ?_ | refine scope_e ?_)); refine body_ret (.inl ⟨?_, rfl⟩); exact wk_eq (by simp [pur2, pur1, pur0, resOf, Env.get, ← hr, thruM])

theorem ex_ok : ∀ r ∈ [(⟨3, 2, 5⟩ : Rg)], r.ok := by decide

theorem pc15 : PC Try.prog 15 [] (.bool true) := by
  refine start15 rfl ?_
  have e1 : toM 3 true 0 [⟨3, 2, 5⟩] = 3 := by decide
  have e2 : toM 4 false 0 [⟨3, 2, 5⟩] = 3 := by decide
  have e3 : toM 4 true 0 [⟨3, 2, 5⟩] = 8 := by decide
  have e4 : toM 5 false 0 [⟨3, 2, 5⟩] = 8 := by decide
  have e5 : toM 6 false 0 [⟨3, 2, 5⟩] = 9 := by decide
  refine awp_first fun K kk hK => ?_; simp (disch := omega) only [go_sem, ↓reduceIte, reduceCtorEq, Nat.reduceEqDiff, Nat.reduceAdd, Nat.reduceMul, Nat.reduceSub, Nat.reduceLT, Nat.reduceLeDiff, Nat.reducePow, Nat.reduceBEq, Nat.reduceBNe, Int.reduceNeg, Int.reduceBEq, Int.reduceBNe, Int.reduceAdd, Int.reduceSub, Int.reduceMul, Int.reduceLT, Int.reduceLE, Int.reduceToNat, an15, ty3, ty25, ty33] -- region 0
  refine hK _ _ fun nx => ?_; clear hK K; try clear kk
  refine awp_first fun K kk hK => ?_; simp (disch := omega) only [go_sem, ↓reduceIte, reduceCtorEq, Nat.reduceEqDiff, Nat.reduceAdd, Nat.reduceMul, Nat.reduceSub, Nat.reduceLT, Nat.reduceLeDiff, Nat.reducePow, Nat.reduceBEq, Nat.reduceBNe, Int.reduceNeg, Int.reduceBEq, Int.reduceBNe, Int.reduceAdd, Int.reduceSub, Int.reduceMul, Int.reduceLT, Int.reduceLE, Int.reduceToNat, an15, ty3, ty25, ty33] -- region 1
  refine hK _ _ fun nx => ?_; clear hK K; try clear kk
  refine awp_first fun K kk hK => ?_; simp (disch := omega) only [go_sem, ↓reduceIte, reduceCtorEq, Nat.reduceEqDiff, Nat.reduceAdd, Nat.reduceMul, Nat.reduceSub, Nat.reduceLT, Nat.reduceLeDiff, Nat.reducePow, Nat.reduceBEq, Nat.reduceBNe, Int.reduceNeg, Int.reduceBEq, Int.reduceBNe, Int.reduceAdd, Int.reduceSub, Int.reduceMul, Int.reduceLT, Int.reduceLE, Int.reduceToNat, an15, ty3, ty25, ty33] -- region 2
  refine step_call (pc18 [⟨3, 2, 5⟩] ex_ok (by decide) 3 (by decide) true) rfl (by simp (disch := omega) only [go_sem, ↓reduceIte, reduceCtorEq, Nat.reduceEqDiff, Nat.reduceAdd, Nat.reduceMul, Nat.reduceSub, Nat.reduceLT, Nat.reduceLeDiff, Nat.reducePow, Nat.reduceBEq, Nat.reduceBNe, Int.reduceNeg, Int.reduceBEq, Int.reduceBNe, Int.reduceAdd, Int.reduceSub, Int.reduceMul, Int.reduceLT, Int.reduceLE, Int.reduceToNat, List.take_length]; exact WkL.refl _) (by simp (disch := omega) only [go_sem, ↓reduceIte, reduceCtorEq, Nat.reduceEqDiff, Nat.reduceAdd, Nat.reduceMul, Nat.reduceSub, Nat.reduceLT, Nat.reduceLeDiff, Nat.reducePow, Nat.reduceBEq, Nat.reduceBNe, Int.reduceNeg, Int.reduceBEq, Int.reduceBNe, Int.reduceAdd, Int.reduceSub, Int.reduceMul, Int.reduceLT, Int.reduceLE, Int.reduceToNat]) (by rfl) (by rfl) ?_
  rw [e1]
  simp (disch := omega) only [go_sem, ↓reduceIte, reduceCtorEq, Nat.reduceEqDiff, Nat.reduceAdd, Nat.reduceMul, Nat.reduceSub, Nat.reduceLT, Nat.reduceLeDiff, Nat.reducePow, Nat.reduceBEq, Nat.reduceBNe, Int.reduceNeg, Int.reduceBEq, Int.reduceBNe, Int.reduceAdd, Int.reduceSub, Int.reduceMul, Int.reduceLT, Int.reduceLE, Int.reduceToNat, an15, ty3, ty25, ty33]
  refine step_call (pc18 [⟨3, 2, 5⟩] ex_ok (by decide) 4 (by decide) false) rfl (by simp (disch := omega) only [go_sem, ↓reduceIte, reduceCtorEq, Nat.reduceEqDiff, Nat.reduceAdd, Nat.reduceMul, Nat.reduceSub, Nat.reduceLT, Nat.reduceLeDiff, Nat.reducePow, Nat.reduceBEq, Nat.reduceBNe, Int.reduceNeg, Int.reduceBEq, Int.reduceBNe, Int.reduceAdd, Int.reduceSub, Int.reduceMul, Int.reduceLT, Int.reduceLE, Int.reduceToNat, List.take_length]; exact WkL.refl _) (by simp (disch := omega) only [go_sem, ↓reduceIte, reduceCtorEq, Nat.reduceEqDiff, Nat.reduceAdd, Nat.reduceMul, Nat.reduceSub, Nat.reduceLT, Nat.reduceLeDiff, Nat.reducePow, Nat.reduceBEq, Nat.reduceBNe, Int.reduceNeg, Int.reduceBEq, Int.reduceBNe, Int.reduceAdd, Int.reduceSub, Int.reduceMul, Int.reduceLT, Int.reduceLE, Int.reduceToNat]) (by rfl) (by rfl) ?_
  rw [e2]
  simp (disch := omega) only [go_sem, ↓reduceIte, reduceCtorEq, Nat.reduceEqDiff, Nat.reduceAdd, Nat.reduceMul, Nat.reduceSub, Nat.reduceLT, Nat.reduceLeDiff, Nat.reducePow, Nat.reduceBEq, Nat.reduceBNe, Int.reduceNeg, Int.reduceBEq, Int.reduceBNe, Int.reduceAdd, Int.reduceSub, Int.reduceMul, Int.reduceLT, Int.reduceLE, Int.reduceToNat, an15, ty3, ty25, ty33]
  refine step_call (pc18 [⟨3, 2, 5⟩] ex_ok (by decide) 4 (by decide) true) rfl (by simp (disch := omega) only [go_sem, ↓reduceIte, reduceCtorEq, Nat.reduceEqDiff, Nat.reduceAdd, Nat.reduceMul, Nat.reduceSub, Nat.reduceLT, Nat.reduceLeDiff, Nat.reducePow, Nat.reduceBEq, Nat.reduceBNe, Int.reduceNeg, Int.reduceBEq, Int.reduceBNe, Int.reduceAdd, Int.reduceSub, Int.reduceMul, Int.reduceLT, Int.reduceLE, Int.reduceToNat, List.take_length]; exact WkL.refl _) (by simp (disch := omega) only [go_sem, ↓reduceIte, reduceCtorEq, Nat.reduceEqDiff, Nat.reduceAdd, Nat.reduceMul, Nat.reduceSub, Nat.reduceLT, Nat.reduceLeDiff, Nat.reducePow, Nat.reduceBEq, Nat.reduceBNe, Int.reduceNeg, Int.reduceBEq, Int.reduceBNe, Int.reduceAdd, Int.reduceSub, Int.reduceMul, Int.reduceLT, Int.reduceLE, Int.reduceToNat]) (by rfl) (by rfl) ?_
  rw [e3]
  simp (disch := omega) only [go_sem, ↓reduceIte, reduceCtorEq, Nat.reduceEqDiff, Nat.reduceAdd, Nat.reduceMul, Nat.reduceSub, Nat.reduceLT, Nat.reduceLeDiff, Nat.reducePow, Nat.reduceBEq, Nat.reduceBNe, Int.reduceNeg, Int.reduceBEq, Int.reduceBNe, Int.reduceAdd, Int.reduceSub, Int.reduceMul, Int.reduceLT, Int.reduceLE, Int.reduceToNat, an15, ty3, ty25, ty33]
  refine step_call (pc18 [⟨3, 2, 5⟩] ex_ok (by decide) 5 (by decide) false) rfl (by simp (disch := omega) only [go_sem, ↓reduceIte, reduceCtorEq, Nat.reduceEqDiff, Nat.reduceAdd, Nat.reduceMul, Nat.reduceSub, Nat.reduceLT, Nat.reduceLeDiff, Nat.reducePow, Nat.reduceBEq, Nat.reduceBNe, Int.reduceNeg, Int.reduceBEq, Int.reduceBNe, Int.reduceAdd, Int.reduceSub, Int.reduceMul, Int.reduceLT, Int.reduceLE, Int.reduceToNat, List.take_length]; exact WkL.refl _) (by simp (disch := omega) only [go_sem, ↓reduceIte, reduceCtorEq, Nat.reduceEqDiff, Nat.reduceAdd, Nat.reduceMul, Nat.reduceSub, Nat.reduceLT, Nat.reduceLeDiff, Nat.reducePow, Nat.reduceBEq, Nat.reduceBNe, Int.reduceNeg, Int.reduceBEq, Int.reduceBNe, Int.reduceAdd, Int.reduceSub, Int.reduceMul, Int.reduceLT, Int.reduceLE, Int.reduceToNat]) (by rfl) (by rfl) ?_
  rw [e4]
  simp (disch := omega) only [go_sem, ↓reduceIte, reduceCtorEq, Nat.reduceEqDiff, Nat.reduceAdd, Nat.reduceMul, Nat.reduceSub, Nat.reduceLT, Nat.reduceLeDiff, Nat.reducePow, Nat.reduceBEq, Nat.reduceBNe, Int.reduceNeg, Int.reduceBEq, Int.reduceBNe, Int.reduceAdd, Int.reduceSub, Int.reduceMul, Int.reduceLT, Int.reduceLE, Int.reduceToNat, an15, ty3, ty25, ty33]
  refine step_call (pc18 [⟨3, 2, 5⟩] ex_ok (by decide) 6 (by decide) false) rfl (by simp (disch := omega) only [go_sem, ↓reduceIte, reduceCtorEq, Nat.reduceEqDiff, Nat.reduceAdd, Nat.reduceMul, Nat.reduceSub, Nat.reduceLT, Nat.reduceLeDiff, Nat.reducePow, Nat.reduceBEq, Nat.reduceBNe, Int.reduceNeg, Int.reduceBEq, Int.reduceBNe, Int.reduceAdd, Int.reduceSub, Int.reduceMul, Int.reduceLT, Int.reduceLE, Int.reduceToNat, List.take_length]; exact WkL.refl _) (by simp (disch := omega) only [go_sem, ↓reduceIte, reduceCtorEq, Nat.reduceEqDiff, Nat.reduceAdd, Nat.reduceMul, Nat.reduceSub, Nat.reduceLT, Nat.reduceLeDiff, Nat.reducePow, Nat.reduceBEq, Nat.reduceBNe, Int.reduceNeg, Int.reduceBEq, Int.reduceBNe, Int.reduceAdd, Int.reduceSub, Int.reduceMul, Int.reduceLT, Int.reduceLE, Int.reduceToNat]) (by rfl) (by rfl) ?_
  rw [e5]
  simp (disch := omega) only [go_sem, ↓reduceIte, reduceCtorEq, Nat.reduceEqDiff, Nat.reduceAdd, Nat.reduceMul, Nat.reduceSub, Nat.reduceLT, Nat.reduceLeDiff, Nat.reducePow, Nat.reduceBEq, Nat.reduceBNe, Int.reduceNeg, Int.reduceBEq, Int.reduceBNe, Int.reduceAdd, Int.reduceSub, Int.reduceMul, Int.reduceLT, Int.reduceLE, Int.reduceToNat, an15, ty3, ty25, ty33]
  refine hK _ _ fun nx => ?_; clear hK K; try clear kk
  refine awp_ret ?_; (repeat (with_reducible first | refine then_n ?_ | refine then_r ?_ | refine then_e ?_ | refine block_n ?_ | refine block_r ?_ | refine exit_here ?_ | refine exit_on rfl ?_ | refine scope_n ?_ | refine scope_r ?_ | refine scope_e ?_)); refine body_ret (.inl ⟨?_, rfl⟩); exact wk_eq (by simp [pur2, pur1, pur0, resOf, Env.get, ])
end Go.Proofs.Ytafcbjepmjcpgaa
