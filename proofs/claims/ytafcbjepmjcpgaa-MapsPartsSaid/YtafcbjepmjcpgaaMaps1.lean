/- maps: what its functions answer, on rows of plain ranges. -/
import Derived.Test.YtafcbjepmjcpgaaAwC
namespace Go.Proofs.Ytafcbjepmjcpgaa
set_option linter.unusedSimpArgs false
set_option linter.unusedVariables false
open Go

structure Rg where
  a : Int
  o : Int
  n : Int

def Rg.pv (r : Rg) : PV := .agg [.int .i64 r.a, .int .i64 r.o, .int .i64 r.n]
def mp (m : List Rg) : PV := .list 3 (m.map Rg.pv)

def Rg.ok (r : Rg) : Prop := 0 ≤ r.a ∧ 0 ≤ r.o ∧ 0 ≤ r.n ∧ r.a ≤ 1048576 ∧ r.o ≤ 1048576 ∧ r.n ≤ 1048576 ∧ r.o + r.n ≠ 0
instance (r : Rg) : Decidable r.ok := inferInstanceAs (Decidable (_ ∧ _))

def rightG (last : Int) : List Rg → Bool
  | [] => true
  | r :: m => decide r.ok && decide (last < r.a) && rightG (r.a + r.o) m

def growsM : List Rg → Int
  | [] => 0
  | r :: m => r.n - r.o + growsM m

def side (r : Rg) (pos : Int) (right : Bool) : Bool := if r.o = 0 then right else if pos = r.a then false else right || (pos == r.a + r.o)

def toM (pos : Int) (right : Bool) : Int → List Rg → Int
  | sh, [] => pos + sh
  | sh, r :: m => if r.a + r.o < pos then toM pos right (sh + (r.n - r.o)) m else if r.a > pos then pos + sh else if side r pos right then r.a + sh + r.n else r.a + sh

def lostM (pos : Int) (m : List Rg) : Bool := m.any fun r => decide (r.a < pos) && decide (pos < r.a + r.o)

def turnG : Int → List Rg → List Rg
  | _, [] => []
  | g, r :: m => ⟨r.a + g, r.n, r.o⟩ :: turnG (g + (r.n - r.o)) m

theorem rg_at (pre suf : List Rg) (r : Rg) : ((pre ++ r :: suf).map Rg.pv).getD pre.length .undef = .agg [.int .i64 r.a, .int .i64 r.o, .int .i64 r.n] := by
  simp [Rg.pv]

theorem ok_at {pre suf : List Rg} {r : Rg} (h : ∀ r ∈ pre ++ r :: suf, r.ok) : r.ok := h r (by simp)

theorem pc48 (r : Rg) (hr : r.ok) : PC Try.prog 48 [.agg [.int .i64 r.a, .int .i64 r.o, .int .i64 r.n]] (.int .i64 (r.a + r.o)) := by
  obtain ⟨h1, h2, h3, h4, h5, h6, h7⟩ := hr
  refine start48 rfl ?_
  refine awp_first fun K kk hK => ?_; simp (disch := omega) only [go_sem, ↓reduceIte, reduceCtorEq, Nat.reduceEqDiff, Nat.reduceAdd, Nat.reduceMul, Nat.reduceSub, Nat.reduceLT, Nat.reduceLeDiff, Nat.reducePow, Nat.reduceBEq, Nat.reduceBNe, Int.reduceNeg, Int.reduceBEq, Int.reduceBNe, Int.reduceAdd, Int.reduceSub, Int.reduceMul, Int.reduceLT, Int.reduceLE, Int.reduceToNat, an48, ty3, ty33]
  refine hK _ _ fun nx => ?_; clear hK K; try clear kk
  refine awp_first fun K kk hK => ?_; simp (disch := omega) only [go_sem, ↓reduceIte, reduceCtorEq, Nat.reduceEqDiff, Nat.reduceAdd, Nat.reduceMul, Nat.reduceSub, Nat.reduceLT, Nat.reduceLeDiff, Nat.reducePow, Nat.reduceBEq, Nat.reduceBNe, Int.reduceNeg, Int.reduceBEq, Int.reduceBNe, Int.reduceAdd, Int.reduceSub, Int.reduceMul, Int.reduceLT, Int.reduceLE, Int.reduceToNat, an48, ty3, ty33]
  refine hK _ _ fun nx => ?_; clear hK K; try clear kk
  refine awp_ret ?_; (repeat (with_reducible first | refine then_n ?_ | refine then_r ?_ | refine then_e ?_ | refine block_n ?_ | refine block_r ?_ | refine exit_here ?_ | refine exit_on rfl ?_ | refine scope_n ?_ | refine scope_r ?_ | refine scope_e ?_)); refine body_ret (.inl ⟨?_, rfl⟩); exact wk_eq (by simp [pur2, pur1, pur0, resOf, Env.get, ])

theorem pc49 (r : Rg) (hr : r.ok) (p : Int) (right : Bool) : PC Try.prog 49 [.agg [.int .i64 r.a, .int .i64 r.o, .int .i64 r.n], .int .i64 p, .bool right]
    (.bool (side r p right)) := by
  refine start49 rfl ?_
  refine awp_first fun K kk hK => ?_; simp (disch := omega) only [go_sem, ↓reduceIte, reduceCtorEq, Nat.reduceEqDiff, Nat.reduceAdd, Nat.reduceMul, Nat.reduceSub, Nat.reduceLT, Nat.reduceLeDiff, Nat.reducePow, Nat.reduceBEq, Nat.reduceBNe, Int.reduceNeg, Int.reduceBEq, Int.reduceBNe, Int.reduceAdd, Int.reduceSub, Int.reduceMul, Int.reduceLT, Int.reduceLE, Int.reduceToNat, an49, ty3, ty33]
  refine hK _ _ fun nx => ?_; clear hK K; try clear kk; refine awp_seq (awp_block ?_)
  refine awp_first fun K kk hK => ?_; simp (disch := omega) only [go_sem, ↓reduceIte, reduceCtorEq, Nat.reduceEqDiff, Nat.reduceAdd, Nat.reduceMul, Nat.reduceSub, Nat.reduceLT, Nat.reduceLeDiff, Nat.reducePow, Nat.reduceBEq, Nat.reduceBNe, Int.reduceNeg, Int.reduceBEq, Int.reduceBNe, Int.reduceAdd, Int.reduceSub, Int.reduceMul, Int.reduceLT, Int.reduceLE, Int.reduceToNat, an49, ty3, ty33]
  refine hK _ _ fun nx => ?_; clear hK K; try clear kk
  refine awp_cond (b := (r.o == 0)) rfl (fun hb => ?_) (fun hb => ?_)
  · refine awp_first fun K kk hK => ?_; simp (disch := omega) only [go_sem, ↓reduceIte, reduceCtorEq, Nat.reduceEqDiff, Nat.reduceAdd, Nat.reduceMul, Nat.reduceSub, Nat.reduceLT, Nat.reduceLeDiff, Nat.reducePow, Nat.reduceBEq, Nat.reduceBNe, Int.reduceNeg, Int.reduceBEq, Int.reduceBNe, Int.reduceAdd, Int.reduceSub, Int.reduceMul, Int.reduceLT, Int.reduceLE, Int.reduceToNat, an49, ty3, ty33]
    refine hK _ _ fun nx => ?_; clear hK K; try clear kk
    have hb' : r.o = 0 := by simpa using hb
    refine awp_ret ?_; (repeat (with_reducible first | refine then_n ?_ | refine then_r ?_ | refine then_e ?_ | refine block_n ?_ | refine block_r ?_ | refine exit_here ?_ | refine exit_on rfl ?_ | refine scope_n ?_ | refine scope_r ?_ | refine scope_e ?_)); refine body_ret (.inl ⟨?_, rfl⟩); exact wk_eq (by simp [pur2, pur1, pur0, resOf, Env.get, side, hb'])
  · refine awp_first fun K kk hK => ?_; simp (disch := omega) only [go_sem, ↓reduceIte, reduceCtorEq, Nat.reduceEqDiff, Nat.reduceAdd, Nat.reduceMul, Nat.reduceSub, Nat.reduceLT, Nat.reduceLeDiff, Nat.reducePow, Nat.reduceBEq, Nat.reduceBNe, Int.reduceNeg, Int.reduceBEq, Int.reduceBNe, Int.reduceAdd, Int.reduceSub, Int.reduceMul, Int.reduceLT, Int.reduceLE, Int.reduceToNat, an49, ty3, ty33]
    have hb' : ¬ r.o = 0 := by simpa using hb
    refine hK _ _ fun nx => ?_; clear hK K; try clear kk; refine awp_cond (b := (p == r.a)) rfl (fun hb => ?_) (fun hb => ?_)
    · refine awp_first fun K kk hK => ?_; simp (disch := omega) only [go_sem, ↓reduceIte, reduceCtorEq, Nat.reduceEqDiff, Nat.reduceAdd, Nat.reduceMul, Nat.reduceSub, Nat.reduceLT, Nat.reduceLeDiff, Nat.reducePow, Nat.reduceBEq, Nat.reduceBNe, Int.reduceNeg, Int.reduceBEq, Int.reduceBNe, Int.reduceAdd, Int.reduceSub, Int.reduceMul, Int.reduceLT, Int.reduceLE, Int.reduceToNat, an49, ty3, ty33]
      refine hK _ _ fun nx => ?_; clear hK K; try clear kk; have hb2 : p = r.a := by simpa using hb
      refine awp_ret ?_; (repeat (with_reducible first | refine then_n ?_ | refine then_r ?_ | refine then_e ?_ | refine block_n ?_ | refine block_r ?_ | refine exit_here ?_ | refine exit_on rfl ?_ | refine scope_n ?_ | refine scope_r ?_ | refine scope_e ?_)); refine body_ret (.inl ⟨?_, rfl⟩); exact wk_eq (by simp [pur2, pur1, pur0, resOf, Env.get, side, hb', hb2])
    · have hb2 : ¬ p = r.a := by simpa using hb
      refine awp_skip ?_
      (repeat (with_reducible first | refine then_n ?_ | refine then_r ?_ | refine then_e ?_ | refine block_n ?_ | refine block_r ?_ | refine exit_here ?_ | refine exit_on rfl ?_ | refine scope_n ?_ | refine scope_r ?_ | refine scope_e ?_))
      refine awp_first fun K kk hK => ?_; simp (disch := omega) only [go_sem, ↓reduceIte, reduceCtorEq, Nat.reduceEqDiff, Nat.reduceAdd, Nat.reduceMul, Nat.reduceSub, Nat.reduceLT, Nat.reduceLeDiff, Nat.reducePow, Nat.reduceBEq, Nat.reduceBNe, Int.reduceNeg, Int.reduceBEq, Int.reduceBNe, Int.reduceAdd, Int.reduceSub, Int.reduceMul, Int.reduceLT, Int.reduceLE, Int.reduceToNat, an49, ty3, ty33]
      first | refine split_f (fun hb3 => ?_) (fun hb3 => ?_) | refine split_t (fun hb3 => ?_) (fun hb3 => ?_)
      · simp (disch := omega) only [go_sem, ↓reduceIte, reduceCtorEq, Nat.reduceEqDiff, Nat.reduceAdd, Nat.reduceMul, Nat.reduceSub, Nat.reduceLT, Nat.reduceLeDiff, Nat.reducePow, Nat.reduceBEq, Nat.reduceBNe, Int.reduceNeg, Int.reduceBEq, Int.reduceBNe, Int.reduceAdd, Int.reduceSub, Int.reduceMul, Int.reduceLT, Int.reduceLE, Int.reduceToNat, an49, ty3, ty33, hb3]
        refine step_call (pc48 r hr) (by rfl) (by exact WkL.refl _) (by rfl) (by rfl) (by rfl) ?_
        simp (disch := omega) only [go_sem, ↓reduceIte, reduceCtorEq, Nat.reduceEqDiff, Nat.reduceAdd, Nat.reduceMul, Nat.reduceSub, Nat.reduceLT, Nat.reduceLeDiff, Nat.reducePow, Nat.reduceBEq, Nat.reduceBNe, Int.reduceNeg, Int.reduceBEq, Int.reduceBNe, Int.reduceAdd, Int.reduceSub, Int.reduceMul, Int.reduceLT, Int.reduceLE, Int.reduceToNat, an49, ty3, ty33, hb3]
        refine hK _ _ fun nx => ?_; clear hK K; try clear kk
        refine awp_ret ?_; (repeat (with_reducible first | refine then_n ?_ | refine then_r ?_ | refine then_e ?_ | refine block_n ?_ | refine block_r ?_ | refine exit_here ?_ | refine exit_on rfl ?_ | refine scope_n ?_ | refine scope_r ?_ | refine scope_e ?_)); refine body_ret (.inl ⟨?_, rfl⟩); exact wk_eq (by simp [pur2, pur1, pur0, resOf, Env.get, side, hb', hb2, hb3])
      · simp (disch := omega) only [go_sem, ↓reduceIte, reduceCtorEq, Nat.reduceEqDiff, Nat.reduceAdd, Nat.reduceMul, Nat.reduceSub, Nat.reduceLT, Nat.reduceLeDiff, Nat.reducePow, Nat.reduceBEq, Nat.reduceBNe, Int.reduceNeg, Int.reduceBEq, Int.reduceBNe, Int.reduceAdd, Int.reduceSub, Int.reduceMul, Int.reduceLT, Int.reduceLE, Int.reduceToNat, an49, ty3, ty33, hb3]
        refine hK _ _ fun nx => ?_; clear hK K; try clear kk
        refine awp_ret ?_; (repeat (with_reducible first | refine then_n ?_ | refine then_r ?_ | refine then_e ?_ | refine block_n ?_ | refine block_r ?_ | refine exit_here ?_ | refine exit_on rfl ?_ | refine scope_n ?_ | refine scope_r ?_ | refine scope_e ?_)); refine body_ret (.inl ⟨?_, rfl⟩); exact wk_eq (by simp [pur2, pur1, pur0, resOf, Env.get, side, hb', hb2, hb3])

theorem pc16 (m : List Rg) (hm : m.length ≤ 1000000000) : PC Try.prog 16 [mp m] (.bool (rightG (-1) m)) := by
  generalize hR : rightG (-1) m = R
  refine start16 rfl ?_
  refine awp_first fun K kk hK => ?_; simp (disch := omega) only [go_sem, ↓reduceIte, reduceCtorEq, Nat.reduceEqDiff, Nat.reduceAdd, Nat.reduceMul, Nat.reduceSub, Nat.reduceLT, Nat.reduceLeDiff, Nat.reducePow, Nat.reduceBEq, Nat.reduceBNe, Int.reduceNeg, Int.reduceBEq, Int.reduceBNe, Int.reduceAdd, Int.reduceSub, Int.reduceMul, Int.reduceLT, Int.reduceLE, Int.reduceToNat, an16, ty3, ty25, ty33] -- region 0
  refine hK _ _ fun nx => ?_; clear hK K; try clear kk
  refine awp_first fun K kk hK => ?_; simp (disch := omega) only [go_sem, ↓reduceIte, reduceCtorEq, Nat.reduceEqDiff, Nat.reduceAdd, Nat.reduceMul, Nat.reduceSub, Nat.reduceLT, Nat.reduceLeDiff, Nat.reducePow, Nat.reduceBEq, Nat.reduceBNe, Int.reduceNeg, Int.reduceBEq, Int.reduceBNe, Int.reduceAdd, Int.reduceSub, Int.reduceMul, Int.reduceLT, Int.reduceLE, Int.reduceToNat, an16, ty3, ty25, ty33] -- region 1
  refine hK _ _ fun nx => ?_; clear hK K; try clear kk
  refine awp_seq ?_
  refine awp_first fun K kk hK => ?_; simp (disch := omega) only [go_sem, ↓reduceIte, reduceCtorEq, Nat.reduceEqDiff, Nat.reduceAdd, Nat.reduceMul, Nat.reduceSub, Nat.reduceLT, Nat.reduceLeDiff, Nat.reducePow, Nat.reduceBEq, Nat.reduceBNe, Int.reduceNeg, Int.reduceBEq, Int.reduceBNe, Int.reduceAdd, Int.reduceSub, Int.reduceMul, Int.reduceLT, Int.reduceLE, Int.reduceToNat, an16, ty3, ty25, ty33, mp] -- region 2
  refine hK _ _ fun nx => ?_; clear hK K; try clear kk
  refine awp_block ?_
  refine awp_while (fun n s => ∃ pre suf last nx, m = pre ++ suf ∧ suf.length = n ∧ rightG last suf = R ∧ -1 ≤ last ∧ last ≤ 2097152 ∧
    s = ⟨[(3, .int .i64 last), (6, .list 3 (m.map Rg.pv)), (7, .int .i64 m.length), (8, .int .i64 pre.length)], [], nx⟩) ?_ m.length ⟨[], m, -1, _, rfl, rfl, hR, by omega, by omega, rfl⟩
  clear nx
  rintro n s ⟨pre, suf, last, nx, rfl, hn, hr, hl1, hl2, rfl⟩
  refine awp_first fun K kk hK => ?_; simp (disch := omega) only [go_sem, ↓reduceIte, reduceCtorEq, Nat.reduceEqDiff, Nat.reduceAdd, Nat.reduceMul, Nat.reduceSub, Nat.reduceLT, Nat.reduceLeDiff, Nat.reducePow, Nat.reduceBEq, Nat.reduceBNe, Int.reduceNeg, Int.reduceBEq, Int.reduceBNe, Int.reduceAdd, Int.reduceSub, Int.reduceMul, Int.reduceLT, Int.reduceLE, Int.reduceToNat, an16, ty3, ty25, ty33] -- region 3
  refine hK _ _ fun nx => ?_; clear hK K; try clear kk
  refine awp_seq ?_
  refine awp_cond rfl (fun hb => ?_) (fun hb => ?_)
  · have hlt := of_decide_eq_true hb
    obtain ⟨r, suf, rfl⟩ := more hb
    have hget := rg_at pre suf r
    refine awp_skip ?_; (repeat (with_reducible first | refine then_n ?_ | refine then_r ?_ | refine then_e ?_ | refine block_n ?_ | refine block_r ?_ | refine exit_here ?_ | refine exit_on rfl ?_ | refine scope_n ?_ | refine scope_r ?_ | refine scope_e ?_))
    refine awp_seq ?_
    refine awp_block ?_
    refine awp_first fun K kk hK => ?_; simp (disch := omega) only [go_sem, ↓reduceIte, reduceCtorEq, Nat.reduceEqDiff, Nat.reduceAdd, Nat.reduceMul, Nat.reduceSub, Nat.reduceLT, Nat.reduceLeDiff, Nat.reducePow, Nat.reduceBEq, Nat.reduceBNe, Int.reduceNeg, Int.reduceBEq, Int.reduceBNe, Int.reduceAdd, Int.reduceSub, Int.reduceMul, Int.reduceLT, Int.reduceLE, Int.reduceToNat, an16, ty3, ty25, ty33, hget, hlt] -- region 4
    refine hK _ _ fun nx => ?_; clear hK K; try clear kk
    refine awp_seq ?_
    refine awp_first fun K kk hK => ?_; simp (disch := omega) only [go_sem, ↓reduceIte, reduceCtorEq, Nat.reduceEqDiff, Nat.reduceAdd, Nat.reduceMul, Nat.reduceSub, Nat.reduceLT, Nat.reduceLeDiff, Nat.reducePow, Nat.reduceBEq, Nat.reduceBNe, Int.reduceNeg, Int.reduceBEq, Int.reduceBNe, Int.reduceAdd, Int.reduceSub, Int.reduceMul, Int.reduceLT, Int.reduceLE, Int.reduceToNat, an16, ty3, ty25, ty33] -- region 5
    first | refine split_f (fun hb1 => ?_) (fun hb1 => ?_) | refine split_t (fun hb1 => ?_) (fun hb1 => ?_)
    · simp (disch := omega) only [go_sem, ↓reduceIte, reduceCtorEq, Nat.reduceEqDiff, Nat.reduceAdd, Nat.reduceMul, Nat.reduceSub, Nat.reduceLT, Nat.reduceLeDiff, Nat.reducePow, Nat.reduceBEq, Nat.reduceBNe, Int.reduceNeg, Int.reduceBEq, Int.reduceBNe, Int.reduceAdd, Int.reduceSub, Int.reduceMul, Int.reduceLT, Int.reduceLE, Int.reduceToNat, an16, ty3, ty25, ty33, hb1]
      first | refine split_f (fun hb2 => ?_) (fun hb2 => ?_) | refine split_t (fun hb2 => ?_) (fun hb2 => ?_)
      · have hr1 : 0 ≤ r.a ∧ 0 ≤ r.o ∧ 0 ≤ r.n := by grind
        have hr2 : r.a ≤ 1048576 ∧ r.o ≤ 1048576 ∧ r.n ≤ 1048576 := by grind
        simp (disch := omega) only [go_sem, ↓reduceIte, reduceCtorEq, Nat.reduceEqDiff, Nat.reduceAdd, Nat.reduceMul, Nat.reduceSub, Nat.reduceLT, Nat.reduceLeDiff, Nat.reducePow, Nat.reduceBEq, Nat.reduceBNe, Int.reduceNeg, Int.reduceBEq, Int.reduceBNe, Int.reduceAdd, Int.reduceSub, Int.reduceMul, Int.reduceLT, Int.reduceLE, Int.reduceToNat, an16, ty3, ty25, ty33, hb2]
        first | refine split_f (fun hb3 => ?_) (fun hb3 => ?_) | refine split_t (fun hb3 => ?_) (fun hb3 => ?_)
        · simp (disch := omega) only [go_sem, ↓reduceIte, reduceCtorEq, Nat.reduceEqDiff, Nat.reduceAdd, Nat.reduceMul, Nat.reduceSub, Nat.reduceLT, Nat.reduceLeDiff, Nat.reducePow, Nat.reduceBEq, Nat.reduceBNe, Int.reduceNeg, Int.reduceBEq, Int.reduceBNe, Int.reduceAdd, Int.reduceSub, Int.reduceMul, Int.reduceLT, Int.reduceLE, Int.reduceToNat, an16, ty3, ty25, ty33, hb3]
          refine hK _ _ fun nx => ?_; clear hK K; try clear kk
          refine awp_cond rfl (fun hb => ?_) (fun hb => ?_)
          ·
            refine awp_first fun K kk hK => ?_; simp (disch := omega) only [go_sem, ↓reduceIte, reduceCtorEq, Nat.reduceEqDiff, Nat.reduceAdd, Nat.reduceMul, Nat.reduceSub, Nat.reduceLT, Nat.reduceLeDiff, Nat.reducePow, Nat.reduceBEq, Nat.reduceBNe, Int.reduceNeg, Int.reduceBEq, Int.reduceBNe, Int.reduceAdd, Int.reduceSub, Int.reduceMul, Int.reduceLT, Int.reduceLE, Int.reduceToNat, an16, ty3, ty25, ty33] -- region 6
            refine hK _ _ fun nx => ?_; clear hK K; try clear kk
            have hf : R = false := by rw [← hr]; simp only [rightG, Rg.ok]; grind
            refine awp_ret ?_; (repeat (with_reducible first | refine then_n ?_ | refine then_r ?_ | refine then_e ?_ | refine block_n ?_ | refine block_r ?_ | refine exit_here ?_ | refine exit_on rfl ?_ | refine scope_n ?_ | refine scope_r ?_ | refine scope_e ?_)); refine body_ret (.inl ⟨?_, rfl⟩); exact wk_eq (by simp [pur2, pur1, pur0, resOf, Env.get, hf])
          ·
            have hf : decide r.ok = true ∧ decide (last < r.a) = true := by simp only [Rg.ok]; grind
            refine awp_skip ?_; (repeat (with_reducible first | refine then_n ?_ | refine then_r ?_ | refine then_e ?_ | refine block_n ?_ | refine block_r ?_ | refine exit_here ?_ | refine exit_on rfl ?_ | refine scope_n ?_ | refine scope_r ?_ | refine scope_e ?_))
            refine awp_region fun K kk hK => ?_; simp (disch := omega) only [go_sem, ↓reduceIte, reduceCtorEq, Nat.reduceEqDiff, Nat.reduceAdd, Nat.reduceMul, Nat.reduceSub, Nat.reduceLT, Nat.reduceLeDiff, Nat.reducePow, Nat.reduceBEq, Nat.reduceBNe, Int.reduceNeg, Int.reduceBEq, Int.reduceBNe, Int.reduceAdd, Int.reduceSub, Int.reduceMul, Int.reduceLT, Int.reduceLE, Int.reduceToNat, an16, ty3, ty25, ty33] -- region 7
            refine step_call (pc48 r (of_decide_eq_true hf.1)) (by rfl) (by exact WkL.refl _) (by rfl) (by rfl) (by rfl) ?_
            simp (disch := omega) only [go_sem, ↓reduceIte, reduceCtorEq, Nat.reduceEqDiff, Nat.reduceAdd, Nat.reduceMul, Nat.reduceSub, Nat.reduceLT, Nat.reduceLeDiff, Nat.reducePow, Nat.reduceBEq, Nat.reduceBNe, Int.reduceNeg, Int.reduceBEq, Int.reduceBNe, Int.reduceAdd, Int.reduceSub, Int.reduceMul, Int.reduceLT, Int.reduceLE, Int.reduceToNat, an16, ty3, ty25, ty33]
            refine hK _ _ fun nx => ?_; clear hK K; try clear kk
            (repeat (with_reducible first | refine then_n ?_ | refine then_r ?_ | refine then_e ?_ | refine block_n ?_ | refine block_r ?_ | refine exit_here ?_ | refine exit_on rfl ?_ | refine scope_n ?_ | refine scope_r ?_ | refine scope_e ?_))
            refine awp_region fun K kk hK => ?_; simp (disch := omega) only [go_sem, ↓reduceIte, reduceCtorEq, Nat.reduceEqDiff, Nat.reduceAdd, Nat.reduceMul, Nat.reduceSub, Nat.reduceLT, Nat.reduceLeDiff, Nat.reducePow, Nat.reduceBEq, Nat.reduceBNe, Int.reduceNeg, Int.reduceBEq, Int.reduceBNe, Int.reduceAdd, Int.reduceSub, Int.reduceMul, Int.reduceLT, Int.reduceLE, Int.reduceToNat, an16, ty3, ty25, ty33] -- region 8
            refine hK _ _ fun nx => ?_; clear hK K; try clear kk
            (repeat (with_reducible first | refine then_n ?_ | refine then_r ?_ | refine then_e ?_ | refine block_n ?_ | refine block_r ?_ | refine exit_here ?_ | refine exit_on rfl ?_ | refine scope_n ?_ | refine scope_r ?_ | refine scope_e ?_))
            refine ⟨suf.length, by simp at hn; omega, pre ++ [r], suf, r.a + r.o, nx, by simp, rfl, ?_, by omega, by omega, by simp⟩
            rw [← hr]; simp only [rightG, hf, Bool.true_and]
        · simp (disch := omega) only [go_sem, ↓reduceIte, reduceCtorEq, Nat.reduceEqDiff, Nat.reduceAdd, Nat.reduceMul, Nat.reduceSub, Nat.reduceLT, Nat.reduceLeDiff, Nat.reducePow, Nat.reduceBEq, Nat.reduceBNe, Int.reduceNeg, Int.reduceBEq, Int.reduceBNe, Int.reduceAdd, Int.reduceSub, Int.reduceMul, Int.reduceLT, Int.reduceLE, Int.reduceToNat, an16, ty3, ty25, ty33, hb3]
          refine hK _ _ fun nx => ?_; clear hK K; try clear kk
          refine awp_true rfl ?_
          refine awp_first fun K kk hK => ?_; simp (disch := omega) only [go_sem, ↓reduceIte, reduceCtorEq, Nat.reduceEqDiff, Nat.reduceAdd, Nat.reduceMul, Nat.reduceSub, Nat.reduceLT, Nat.reduceLeDiff, Nat.reducePow, Nat.reduceBEq, Nat.reduceBNe, Int.reduceNeg, Int.reduceBEq, Int.reduceBNe, Int.reduceAdd, Int.reduceSub, Int.reduceMul, Int.reduceLT, Int.reduceLE, Int.reduceToNat, an16, ty3, ty25, ty33] -- region 6
          refine hK _ _ fun nx => ?_; clear hK K; try clear kk
          have hf : R = false := by rw [← hr]; simp only [rightG, Rg.ok]; grind
          refine awp_ret ?_; (repeat (with_reducible first | refine then_n ?_ | refine then_r ?_ | refine then_e ?_ | refine block_n ?_ | refine block_r ?_ | refine exit_here ?_ | refine exit_on rfl ?_ | refine scope_n ?_ | refine scope_r ?_ | refine scope_e ?_)); refine body_ret (.inl ⟨?_, rfl⟩); exact wk_eq (by simp [pur2, pur1, pur0, resOf, Env.get, hf])
      · simp (disch := omega) only [go_sem, ↓reduceIte, reduceCtorEq, Nat.reduceEqDiff, Nat.reduceAdd, Nat.reduceMul, Nat.reduceSub, Nat.reduceLT, Nat.reduceLeDiff, Nat.reducePow, Nat.reduceBEq, Nat.reduceBNe, Int.reduceNeg, Int.reduceBEq, Int.reduceBNe, Int.reduceAdd, Int.reduceSub, Int.reduceMul, Int.reduceLT, Int.reduceLE, Int.reduceToNat, an16, ty3, ty25, ty33, hb2]
        refine hK _ _ fun nx => ?_; clear hK K; try clear kk
        refine awp_true rfl ?_
        refine awp_first fun K kk hK => ?_; simp (disch := omega) only [go_sem, ↓reduceIte, reduceCtorEq, Nat.reduceEqDiff, Nat.reduceAdd, Nat.reduceMul, Nat.reduceSub, Nat.reduceLT, Nat.reduceLeDiff, Nat.reducePow, Nat.reduceBEq, Nat.reduceBNe, Int.reduceNeg, Int.reduceBEq, Int.reduceBNe, Int.reduceAdd, Int.reduceSub, Int.reduceMul, Int.reduceLT, Int.reduceLE, Int.reduceToNat, an16, ty3, ty25, ty33] -- region 6
        refine hK _ _ fun nx => ?_; clear hK K; try clear kk
        have hf : R = false := by rw [← hr]; simp only [rightG, Rg.ok]; grind
        refine awp_ret ?_; (repeat (with_reducible first | refine then_n ?_ | refine then_r ?_ | refine then_e ?_ | refine block_n ?_ | refine block_r ?_ | refine exit_here ?_ | refine exit_on rfl ?_ | refine scope_n ?_ | refine scope_r ?_ | refine scope_e ?_)); refine body_ret (.inl ⟨?_, rfl⟩); exact wk_eq (by simp [pur2, pur1, pur0, resOf, Env.get, hf])
    · simp (disch := omega) only [go_sem, ↓reduceIte, reduceCtorEq, Nat.reduceEqDiff, Nat.reduceAdd, Nat.reduceMul, Nat.reduceSub, Nat.reduceLT, Nat.reduceLeDiff, Nat.reducePow, Nat.reduceBEq, Nat.reduceBNe, Int.reduceNeg, Int.reduceBEq, Int.reduceBNe, Int.reduceAdd, Int.reduceSub, Int.reduceMul, Int.reduceLT, Int.reduceLE, Int.reduceToNat, an16, ty3, ty25, ty33, hb1]
      refine hK _ _ fun nx => ?_; clear hK K; try clear kk
      refine awp_true rfl ?_
      refine awp_first fun K kk hK => ?_; simp (disch := omega) only [go_sem, ↓reduceIte, reduceCtorEq, Nat.reduceEqDiff, Nat.reduceAdd, Nat.reduceMul, Nat.reduceSub, Nat.reduceLT, Nat.reduceLeDiff, Nat.reducePow, Nat.reduceBEq, Nat.reduceBNe, Int.reduceNeg, Int.reduceBEq, Int.reduceBNe, Int.reduceAdd, Int.reduceSub, Int.reduceMul, Int.reduceLT, Int.reduceLE, Int.reduceToNat, an16, ty3, ty25, ty33] -- region 6
      refine hK _ _ fun nx => ?_; clear hK K; try clear kk
      have hf : R = false := by rw [← hr]; simp only [rightG, Rg.ok]; grind
      refine awp_ret ?_; (repeat (with_reducible first | refine then_n ?_ | refine then_r ?_ | refine then_e ?_ | refine block_n ?_ | refine block_r ?_ | refine exit_here ?_ | refine exit_on rfl ?_ | refine scope_n ?_ | refine scope_r ?_ | refine scope_e ?_)); refine body_ret (.inl ⟨?_, rfl⟩); exact wk_eq (by simp [pur2, pur1, pur0, resOf, Env.get, hf])
  ·
    refine awp_exit ?_; (repeat (with_reducible first | refine then_n ?_ | refine then_r ?_ | refine then_e ?_ | refine block_n ?_ | refine block_r ?_ | refine exit_here ?_ | refine exit_on rfl ?_ | refine scope_n ?_ | refine scope_r ?_ | refine scope_e ?_))
    refine awp_first fun K kk hK => ?_; simp (disch := omega) only [go_sem, ↓reduceIte, reduceCtorEq, Nat.reduceEqDiff, Nat.reduceAdd, Nat.reduceMul, Nat.reduceSub, Nat.reduceLT, Nat.reduceLeDiff, Nat.reducePow, Nat.reduceBEq, Nat.reduceBNe, Int.reduceNeg, Int.reduceBEq, Int.reduceBNe, Int.reduceAdd, Int.reduceSub, Int.reduceMul, Int.reduceLT, Int.reduceLE, Int.reduceToNat, an16, ty3, ty25, ty33] -- region 9
    refine hK _ _ fun nx => ?_; clear hK K; try clear kk
    have hs := noMore hb
    subst hs
    refine awp_ret ?_; (repeat (with_reducible first | refine then_n ?_ | refine then_r ?_ | refine then_e ?_ | refine block_n ?_ | refine block_r ?_ | refine exit_here ?_ | refine exit_on rfl ?_ | refine scope_n ?_ | refine scope_r ?_ | refine scope_e ?_)); refine body_ret (.inl ⟨?_, rfl⟩); exact wk_eq (by simp [pur2, pur1, pur0, resOf, Env.get, ← hr, rightG])
end Go.Proofs.Ytafcbjepmjcpgaa
