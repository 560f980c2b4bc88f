/- Places, plainly: what stands at a path, replaced. -/
import Derived.Test.YtblielhogcnnkaaDoorPlaceSpec
namespace Go.Proofs.YtblielhogcnnkaaDoor
set_option linter.unusedSimpArgs false
set_option linter.unusedVariables false
open Go

/-- The node with what its path leads to replaced. -/
def repN : List Nat → api_Node → api_Node → api_Node
  | [], _, x => x
  | i :: q, n, x => { n with Kids := match n.Kids[i]? with | some k => n.Kids.set i (repN q k x) | none => n.Kids }
theorem repN_cons {n : api_Node} {i : Nat} {k : api_Node} (hi : n.Kids[i]? = some k) (q : List Nat) (x : api_Node) : repN (i :: q) n x = { n with Kids := n.Kids.set i (repN q k x) } := by
  rw [repN, hi]
theorem rep_notT : ∀ (q : List Nat) (n x : api_Node), isT n = false → isT x = false → isT (repN q n x) = false
  | [], n, x, _, h => h
  | i :: q, n, x, h, _ => h
theorem rep_wt {x : api_Node} {n : api_Node} {q m a} (h : At n q m a) : nwt (repN q n x) + nwt m = nwt n + nwt x := by
  induction h with
  | nil n => rw [repN]; omega
  | cons n i k q m a hi hn hk h ih =>
    have hl := (List.getElem?_eq_some_iff.1 hi).1
    have h1 := kid_wts hi
    rw [repN_cons hi, nwt_eq, nwt_eq n]
    simp only
    rw [List.set_eq_take_append_cons_drop, if_pos hl, nwts_app, nwts]
    omega
theorem rep_size {x : api_Node} (hx : isT x = false) {n : api_Node} {q m a} (h : At n q m a) (hn' : isT n = false) : nsize (repN q n x) + nsize m = nsize n + nsize x := by
  induction h with
  | nil n => rw [repN]; omega
  | cons n i k q m a hi hn hk h ih =>
    have hl := (List.getElem?_eq_some_iff.1 hi).1
    have h1 := kid_sizes hi
    have h2 := ih hk
    rw [repN_cons hi, size_node (n := { n with Kids := n.Kids.set i (repN q k x) }) hn, size_node hn]
    simp only
    rw [List.set_eq_take_append_cons_drop, if_pos hl, nsizes_app, nsizes]
    omega
theorem At.rep {x : api_Node} (hx : isT x = false) {n : api_Node} {q m a} (h : At n q m a) : At (repN q n x) q x a := by
  induction h with
  | nil n => exact .nil _
  | cons n i k q m a hi hn hk h ih =>
    have hl := (List.getElem?_eq_some_iff.1 hi).1
    have := At.cons (repN (i :: q) n x) i (repN q k x) q x a (by rw [repN_cons hi]; simp [hl]) hn (rep_notT q k x hk hx) ih
    have e : (repN (i :: q) n x).Kids.take i = n.Kids.take i := by
      rw [repN_cons hi]
      simp only
      rw [List.take_set_of_le (Nat.le_refl _)]
    rw [e] at this
    exact this
theorem node_eta (n : api_Node) : api_Node.mk n.Kind n.Text n.Marks n.Attrs n.Kids = n := by cases n; rfl
theorem rep_back {x : api_Node} {n : api_Node} {q m a} (h : At n q m a) : repN q (repN q n x) m = n := by
  induction h with
  | nil n => rfl
  | cons n i k q m a hi hn hk h ih =>
    have hl := (List.getElem?_eq_some_iff.1 hi).1
    have e : (repN (i :: q) n x).Kids[i]? = some (repN q k x) := by rw [repN_cons hi]; simp [hl]
    rw [repN_cons e, repN_cons hi, ih]
    obtain ⟨_, rfl⟩ := List.getElem?_eq_some_iff.1 hi
    simp only [List.set_set, List.set_getElem_self]
    exact node_eta n

/-! ### With -/
theorem wr_nat {α : Type} {l : List α} {i : Nat} (h : i < l.length) (x : α) : wr l (i : Int) x = some (l.set i x) := by
  unfold wr; rw [if_pos (by omega)]; simp
theorem sl_one {α : Type} (x : α) (l : List α) : sl (x :: l) 1 ((x :: l).length : Int) = some l := by
  have := sl_nat (l := x :: l) (a := 1) (b := (x :: l).length) (by simp) (by simp)
  simpa using this
theorem with_k {x : api_Node} {n : api_Node} {q m a} (h : At n q m a) : isT n = false → nwt n ≤ 1099511627776 → ∀ kr, q.length < kr → place_With_k kr n (up q) x = some (repN q n x, 0) := by
  induction h with
  | nil n =>
    intro hn hw kr hk
    obtain ⟨kr, rfl⟩ : ∃ j, kr = j + 1 := ⟨kr - 1, by omega⟩
    have := inner_eq (At.nil n) hn (by simp)
    rw [place_With_k, this]
    rfl
  | cons n i k q m a hi hn hk h ih =>
    intro _ hw kr hkr
    simp only [List.length_cons] at hkr
    obtain ⟨kr, rfl⟩ : ∃ j, kr = j + 1 := ⟨kr - 1, by omega⟩
    have hat := At.cons n i k q m a hi hn hk h
    have g1 := hat.len
    have g2 := hat.sizes
    have g3 := nsizes_le' n.Kids
    have g4 := nwts_kids n
    have g5 := kid_wts hi
    have g6 := nwts_len n.Kids
    have hl := (List.getElem?_eq_some_iff.1 hi).1
    have hnz : (((i :: q).length : Int) == 0) = false := by simp; omega
    have hin := inner_eq hat (hat.notT hn) (by omega)
    have e1 : rd (up (i :: q)) 0 = some (i : Int) := rd_nat (l := up (i :: q)) (i := 0) rfl
    have e2 : sl (up (i :: q)) 1 ((up (i :: q)).length : Int) = some (up q) := sl_one _ _
    have e3 : app 104 [] n.Kids = some n.Kids := app_eq (by simp; omega)
    rw [place_With_k, hin, e1, e2]
    simp only [Option.bind_some, bne_self_eq_false, Bool.false_eq_true, if_false, up_len, hnz, slices_Clone_api_Node, e3, rd_nat hi]
    rw [ih hk (by omega) kr (by omega)]
    simp only [Option.bind_some]
    rw [wr_nat hl, repN_cons hi]
    rfl
theorem with_eq {x : api_Node} {n : api_Node} {q m a} (h : At n q m a) (hn : isT n = false) (hw : nwt n ≤ 1099511627776) : place_With n (up q) x = some (repN q n x, 0) := by
  unfold place_With
  exact lim_of (q.length + 1) fun k hk => with_k h hn hw k (by omega)

/-! ### Same -/

end Go.Proofs.YtblielhogcnnkaaDoor
