/- Places, plainly: what a path leads to. -/
import Derived.Test.YtpjdafhmneiohaaDoorNodeBase
namespace Go.Proofs.YtpjdafhmneiohaaDoor
set_option linter.unusedSimpArgs false
set_option linter.unusedVariables false
open Go

def up (q : List Nat) : List Int := q.map fun (i : Nat) => (i : Int)
theorem up_nil : up [] = [] := rfl
theorem up_cons (i : Nat) (q : List Nat) : up (i :: q) = (i : Int) :: up q := rfl
theorem up_app (p q : List Nat) : up (p ++ q) = up p ++ up q := by simp [up]
theorem up_len (q : List Nat) : (up q).length = q.length := by simp [up]
theorem up_inj {p q : List Nat} (h : up p = up q) : p = q := by
  induction p generalizing q with
  | nil => cases q with
    | nil => rfl
    | cons b q => simp [up] at h
  | cons a p ih => cases q with
    | nil => simp [up] at h
    | cons b q =>
      simp only [up_cons, List.cons.injEq] at h
      rw [ih h.2, Int.ofNat_inj.1 h.1]

abbrev nil0 : api_Node := { Kind := ([] : Str), Text := ([] : Str), Marks := [], Attrs := [], Kids := [] }

theorem sl_take {α : Type} {l : List α} {b : Nat} (h : b ≤ l.length) : sl l 0 (b : Int) = some (l.take b) := by
  have := sl_nat (l := l) (a := 0) (b := b) (by omega) h
  simpa using this

/-- What a path leads to, and where it starts. -/
inductive At : api_Node → List Nat → api_Node → Nat → Prop
  | nil (n : api_Node) : At n [] n 0
  | cons (n : api_Node) (i : Nat) (k : api_Node) (q : List Nat) (m : api_Node) (a : Nat) (hi : n.Kids[i]? = some k) (hn : isT n = false) (hk : isT k = false) (h : At k q m a) : At n (i :: q) m (nsizes (n.Kids.take i) + 1 + a)

theorem kid_split {l : List api_Node} {i : Nat} {k : api_Node} (h : l[i]? = some k) : l = l.take i ++ k :: l.drop (i + 1) := by
  obtain ⟨hi, rfl⟩ := List.getElem?_eq_some_iff.1 h
  simp
theorem kid_sizes {l : List api_Node} {i : Nat} {k : api_Node} (h : l[i]? = some k) : nsizes l = nsizes (l.take i) + nsize k + nsizes (l.drop (i + 1)) := by
  conv => lhs; rw [kid_split h]
  rw [nsizes_app, nsizes]; omega
theorem kid_wts {l : List api_Node} {i : Nat} {k : api_Node} (h : l[i]? = some k) : nwts l = nwts (l.take i) + nwt k + nwts (l.drop (i + 1)) := by
  conv => lhs; rw [kid_split h]
  rw [nwts_app, nwts]; omega
theorem take_sizes (l : List api_Node) (i : Nat) : nsizes (l.take i) ≤ nsizes l := by
  have := nsizes_app (l.take i) (l.drop i)
  rw [List.take_append_drop] at this
  omega
theorem take_wts (l : List api_Node) (i : Nat) : nwts (l.take i) ≤ nwts l := by
  have := nwts_app (l.take i) (l.drop i)
  rw [List.take_append_drop] at this
  omega

theorem At.notT {n : api_Node} {q m a} (h : At n q m a) (hn : isT n = false) : isT m = false := by
  induction h with
  | nil => exact hn
  | cons n i k q m a hi hn' hk h ih => exact ih hk
theorem At.sizes {n : api_Node} {q m a} (h : At n q m a) : a + nsizes m.Kids ≤ nsizes n.Kids := by
  induction h with
  | nil => omega
  | cons n i k q m a hi hn hk h ih =>
    have h1 := kid_sizes hi
    have h2 := size_node hk
    omega
theorem At.len {n : api_Node} {q m a} (h : At n q m a) : q.length ≤ a := by
  induction h with
  | nil => simp
  | cons n i k q m a hi hn hk h ih => simp only [List.length_cons]; omega
theorem At.wt {n : api_Node} {q m a} (h : At n q m a) : nwt m ≤ nwt n := by
  induction h with
  | nil => omega
  | cons n i k q m a hi hn hk h ih =>
    have h1 := kid_wts hi
    have h2 := nwts_kids n
    omega
theorem At.dep {n : api_Node} {q m a} (h : At n q m a) : ndep m ≤ ndep n := by
  induction h with
  | nil => omega
  | cons n i k q m a hi hn hk h ih =>
    have h1 := ndep_mem (List.mem_of_getElem? hi)
    have h2 := ndep_eq n
    omega
theorem At.snoc {n : api_Node} {q m a} (h : At n q m a) {i k} (hi : m.Kids[i]? = some k) (hm : isT m = false) (hk : isT k = false) : At n (q ++ [i]) k (a + nsizes (m.Kids.take i) + 1) := by
  induction h with
  | nil n =>
    have := At.cons n i k [] k 0 hi hm hk (.nil k)
    simpa using this
  | cons n j x q m a hj hn hx h ih =>
    have := At.cons n j x _ _ _ hj hn hx (ih hi hm)
    have e : nsizes (n.Kids.take j) + 1 + a + nsizes (m.Kids.take i) + 1 = nsizes (n.Kids.take j) + 1 + (a + nsizes (m.Kids.take i) + 1) := by omega
    rw [e]
    exact this
theorem At.unsnoc {n : api_Node} : ∀ {q : List Nat} {i k a}, At n (q ++ [i]) k a → ∃ m b, At n q m b ∧ m.Kids[i]? = some k ∧ isT m = false ∧ isT k = false ∧ a = b + nsizes (m.Kids.take i) + 1 := by
  intro q
  induction q generalizing n with
  | nil =>
    intro i k a h
    cases h with
    | cons _ _ x _ _ a hi hn hk h =>
      cases h
      exact ⟨n, 0, .nil n, hi, hn, hk, by omega⟩
  | cons j q ih =>
    intro i k a h
    cases h with
    | cons _ _ x _ _ a hi hn hk h =>
      obtain ⟨m, b, h1, h2, h3, h4, h5⟩ := ih h
      exact ⟨m, _, .cons n j x q m b hi hn hk h1, h2, h3, h4, by omega⟩

end Go.Proofs.YtpjdafhmneiohaaDoor
