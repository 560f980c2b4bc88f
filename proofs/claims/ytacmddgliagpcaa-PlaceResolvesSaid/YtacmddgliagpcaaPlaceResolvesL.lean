/- PlaceResolves, plainly: all spots, one behind the other. -/
import Derived.Test.YtacmddgliagpcaaNodeRef
import Derived.Test.YtacmddgliagpcaaMade
namespace Go.Proofs.Ytacmddgliagpcaa
set_option linter.unusedSimpArgs false
set_option linter.unusedVariables false
open Go

theorem rlen_hi : rlen [104, 105] = 2 := by rfl
theorem shown_eq : diptychlaw4_shown = some true := by
  have hs : place_Resolve ({ Kind := ([100, 111, 99] : Str), Text := ([] : Str), Marks := [], Attrs := [], Kids := [({ Kind := ([112] : Str), Text := ([] : Str), Marks := [], Attrs := [], Kids := [({ Kind := ([116, 101, 120, 116] : Str), Text := ([104, 105] : Str), Marks := [], Attrs := [], Kids := [] } : api_Node)] } : api_Node)] } : api_Node) (2 : Int) = some (⟨[0], 0, 1⟩, 0) := by
    have z1 : node_Size ({ Kind := ([112] : Str), Text := ([] : Str), Marks := [], Attrs := [], Kids := [({ Kind := ([116, 101, 120, 116] : Str), Text := ([104, 105] : Str), Marks := [], Attrs := [], Kids := [] } : api_Node)] } : api_Node) = some 4 := by
      rw [size_eq _ (by simp [nwt, nwts, strsW, attrsW])]
      simp [nsize, nsizes, sText, rlen_hi]
    have z2 : node_Size ({ Kind := ([116, 101, 120, 116] : Str), Text := ([104, 105] : Str), Marks := [], Attrs := [], Kids := [] } : api_Node) = some 2 := by
      rw [size_eq _ (by simp [nwt, nwts, strsW, attrsW])]
      simp [nsize, nsizes, sText, rlen_hi]
    have z3 : node_Total [({ Kind := ([112] : Str), Text := ([] : Str), Marks := [], Attrs := [], Kids := [({ Kind := ([116, 101, 120, 116] : Str), Text := ([104, 105] : Str), Marks := [], Attrs := [], Kids := [] } : api_Node)] } : api_Node)] = some 4 := by
      rw [total_eq _ (by simp [nwt, nwts, strsW, attrsW])]
      simp [nsize, nsizes, sText, rlen_hi]
    unfold place_Resolve
    simp only [z3]
    rw [lim_of (r := ((⟨[0], 0, 1⟩ : place_Spot), (0 : Int))) 2]
    · simp
    · intro k hk
      obtain ⟨k, rfl⟩ : ∃ j, k = j + 1 + 1 := ⟨k - 2, by omega⟩
      simp [place_Resolve_l0, place_Resolve_l2, z1, z2, chk, app, w64_eq]
  unfold diptychlaw4_shown
  rw [hs]
  simp [rd]

theorem same_l0 (b : List Int) : ∀ (suf pre : List Int) (i : Int), i = (pre.length : Int) → b.length = pre.length + suf.length → b.take pre.length = pre → diptychref4_same_l0 b suf i = some (if pre ++ suf = b then .inr () else .inl false)
  | [], pre, i, hi, hl, ht => by
    have : pre = b := by
      rw [← ht, List.take_of_length_le]
      simp at hl; omega
    simp [diptychref4_same_l0, this]
  | y :: suf, pre, i, hi, hl, ht => by
    simp only [List.length_cons] at hl
    obtain ⟨x, hx⟩ : ∃ x, b[pre.length]? = some x := ⟨b[pre.length], List.getElem?_eq_getElem (by omega)⟩
    rw [diptychref4_same_l0, hi, rd_nat hx]
    simp only [Option.bind_some]
    have htk : b.take (pre.length + 1) = pre ++ [x] := by
      rw [List.take_add_one, ht, hx]
      rfl
    by_cases hxy : y = x
    · subst hxy
      simp only [bne_self_eq_false, Bool.false_eq_true, if_false]
      rw [same_l0 b suf (pre ++ [y]) _ (by simp) (by simp; omega) (by simpa using htk)]
      simp
    · have : ¬ pre ++ y :: suf = b := by
        intro h
        rw [← h] at hx
        simp at hx
        exact hxy hx
      simp [hxy, this]
theorem same_eq (a b : List Int) (h : a.length ≤ 9223372036854775807) : diptychref4_same a b = some (decide (a = b)) := by
  unfold diptychref4_same
  by_cases hl : a.length = b.length
  · simp only [hl, bne_self_eq_false, Bool.false_eq_true, if_false]
    rw [chk_eq (by omega), same_l0 b a [] 0 rfl (by simp [hl]) (by simp)]
    by_cases e : a = b <;> simp [e]
  · have h1 : ((a.length : Int) != (b.length : Int)) = true := by simp; omega
    have h2 : ¬ a = b := fun e => hl (by rw [e])
    rw [if_pos h1]
    simp [h2]
theorem inner_any : ∀ (path : List Int) (v : Int) (n : api_Node), isT n = false → (∃ q m a, path = up q ∧ At n q m a) ∨ place_Inner_l0 path v n = some (.inl (nil0, 9)) ∨ ∃ m, place_Inner_l0 path v n = some (.inr m) ∧ isT m = true
  | [], v, n, hn => .inl ⟨[], n, 0, rfl, .nil n⟩
  | y :: suf, v, n, hn => by
    by_cases h1 : y < 0
    · right; left
      rw [place_Inner_l0]; simp [h1]
    · by_cases h2 : y ≥ (n.Kids.length : Int)
      · right; left
        rw [place_Inner_l0]; simp [h2]
      · obtain ⟨i, rfl⟩ := Int.eq_ofNat_of_zero_le (show 0 ≤ y by omega)
        have hl : i < n.Kids.length := by omega
        obtain ⟨k, hk⟩ : ∃ k, n.Kids[i]? = some k := ⟨_, List.getElem?_eq_getElem hl⟩
        have g1 : decide ((i : Int) < 0) = false := by simp
        have g2 : decide ((i : Int) ≥ (n.Kids.length : Int)) = false := by simp; omega
        have step : place_Inner_l0 ((i : Int) :: suf) v n = place_Inner_l0 suf (v + 1) k := by
          rw [place_Inner_l0]
          simp only [g1, g2, isT_def, hn, Bool.false_eq_true, if_false, rd_nat hk, Option.bind_some]
        rw [step]
        by_cases ht : isT k = true
        · cases suf with
          | nil => exact .inr (.inr ⟨k, rfl, ht⟩)
          | cons z suf =>
            right; left
            rw [place_Inner_l0]
            simp only [isT_def, ht, if_true]
            split
            · rfl
            · split <;> rfl
        · rcases inner_any suf (v + 1) k (by simpa using ht) with ⟨q, m, a, rfl, h⟩ | h | h
          · exact .inl ⟨i :: q, m, _, rfl, .cons n i k q m a hk hn (by simpa using ht) h⟩
          · exact .inr (.inl h)
          · exact .inr (.inr h)
theorem inner_cases (n : api_Node) (path : List Int) (hn : isT n = false) (hp : path.length ≤ 9223372036854775807) : (∃ q m a, path = up q ∧ At n q m a) ∨ place_Inner n path = some (nil0, 9) := by
  rcases inner_any path 0 n hn with h | h | ⟨m, h, hm⟩
  · exact .inl h
  · right
    unfold place_Inner
    rw [chk_eq hp, h]
    rfl
  · right
    unfold place_Inner
    rw [chk_eq hp, h]
    simp only [Option.bind_some, isT_def, hm, if_true]


/-! ### All spots -/
mutual
def spN : List Nat → api_Node → List diptychref4_Spot
  | p, ⟨_, _, _, _, ks⟩ => spL p 0 ks ++ [⟨up p, (ks.length : Int), 0⟩]
def spL : List Nat → Nat → List api_Node → List diptychref4_Spot
  | _, _, [] => []
  | p, i, k :: ks => (if isT k = true then (List.range' 0 (nsize k)).map (fun (j : Nat) => ⟨up p, (i : Int), (j : Int)⟩) else ⟨up p, (i : Int), 0⟩ :: spN (p ++ [i]) k) ++ spL p (i + 1) ks
end
def spK (p : List Nat) (i : Nat) (k : api_Node) : List diptychref4_Spot := if isT k = true then (List.range' 0 (nsize k)).map (fun (j : Nat) => ⟨up p, (i : Int), (j : Int)⟩) else ⟨up p, (i : Int), 0⟩ :: spN (p ++ [i]) k
theorem spN_eq (p : List Nat) (n : api_Node) : spN p n = spL p 0 n.Kids ++ [⟨up p, (n.Kids.length : Int), 0⟩] := by cases n; simp only [spN]
theorem spL_cons (p : List Nat) (i : Nat) (k : api_Node) (ks : List api_Node) : spL p i (k :: ks) = spK p i k ++ spL p (i + 1) ks := by simp only [spL, spK]
theorem spL_app (p : List Nat) : ∀ (a b : List api_Node) (i : Nat), spL p i (a ++ b) = spL p i a ++ spL p (i + a.length) b
  | [], b, i => by simp [spL]
  | k :: a, b, i => by
    rw [List.cons_append, spL_cons, spL_cons, spL_app p a b (i + 1), List.append_assoc]
    congr 3
    simp; omega
theorem spL_len' (h : ∀ n : api_Node, True) : ∀ (l : List api_Node) (p : List Nat) (i : Nat), (∀ k ∈ l, ∀ p, (spN p k).length = nsizes k.Kids + 1) → (spL p i l).length = nsizes l
  | [], p, i, _ => by simp [spL, nsizes]
  | k :: l, p, i, hk => by
    rw [spL_cons, List.length_append, spL_len' h l p (i + 1) fun x hx => hk x (by simp [hx]), nsizes, spK]
    by_cases ht : isT k = true
    · simp [ht]
    · simp only [ht, Bool.false_eq_true, if_false, List.length_cons, hk k (by simp)]
      have := size_node (show isT k = false by simpa using ht)
      omega
theorem spN_len (n : api_Node) : ∀ p, (spN p n).length = nsizes n.Kids + 1 := by
  induction n using api_Node.ind with
  | h n ih =>
    intro p
    rw [spN_eq, List.length_append, spL_len' (fun _ => trivial) _ _ _ ih]
    rfl
theorem spL_len (l : List api_Node) (p : List Nat) (i : Nat) : (spL p i l).length = nsizes l := spL_len' (fun _ => trivial) l p i fun k _ => spN_len k

theorem get_l {α : Type} {l m : List α} {i : Nat} {s : α} (h : l[i]? = some s) : (l ++ m)[i]? = some s := by
  rw [List.getElem?_append_left (List.getElem?_eq_some_iff.1 h).1]; exact h
theorem get_r {α : Type} {l m : List α} {i : Nat} {s : α} (h : m[i]? = some s) : (l ++ m)[l.length + i]? = some s := by
  rw [List.getElem?_append_right (by omega), Nat.add_sub_cancel_left]; exact h

theorem spN_kid {n : api_Node} {a b : List api_Node} {k : api_Node} (p : List Nat) (hn : n.Kids = a ++ k :: b) {r : Nat} {s : diptychref4_Spot} (h : (spK p a.length k)[r]? = some s) : (spN p n)[nsizes a + r]? = some s := by
  rw [spN_eq, hn, spL_app, spL_cons, Nat.zero_add]
  refine get_l ?_
  rw [← spL_len a p 0]
  exact get_r (get_l h)
theorem spN_end (p : List Nat) (n : api_Node) : (spN p n)[nsizes n.Kids]? = some ⟨up p, (n.Kids.length : Int), 0⟩ := by
  rw [spN_eq, ← spL_len n.Kids p 0]
  simp
theorem spK_text {k : api_Node} (p : List Nat) (i : Nat) {r : Nat} (ht : isT k = true) (hr : r < nsize k) : (spK p i k)[r]? = some ⟨up p, (i : Int), (r : Int)⟩ := by
  rw [spK, if_pos ht, List.getElem?_map, List.getElem?_range' hr]
  simp
theorem spK_head {k : api_Node} (p : List Nat) (i : Nat) (hr : 0 < nsize k) : (spK p i k)[0]? = some ⟨up p, (i : Int), 0⟩ := by
  by_cases ht : isT k = true
  · exact spK_text p i ht hr
  · rw [spK, if_neg ht]; rfl

theorem kids_split : ∀ (l : List api_Node) (pos : Nat), pos < nsizes l → ∃ a k b r, l = a ++ k :: b ∧ pos = nsizes a + r ∧ r < nsize k
  | [], pos, h => by simp [nsizes] at h
  | k :: l, pos, h => by
    by_cases hp : pos < nsize k
    · exact ⟨[], k, l, pos, rfl, by simp [nsizes], hp⟩
    · simp only [nsizes] at h
      obtain ⟨a, x, b, r, h1, h2, h3⟩ := kids_split l (pos - nsize k) (by omega)
      exact ⟨k :: a, x, b, r, by rw [h1]; rfl, by simp only [nsizes]; omega, h3⟩

abbrev sp' (s : diptychref4_Spot) : place_Spot := ⟨s.Path, s.Index, s.Offset⟩
theorem spN_ok (n0 : api_Node) (n : api_Node) : ∀ (p : List Nat) (a pos : Nat) (s : diptychref4_Spot), At n0 p n a → isT n = false → (spN p n)[pos]? = some s → SpotOk n0 (sp' s) (a + pos) := by
  induction n using api_Node.ind with
  | h n ih =>
    intro p a pos s hat hn hs
    have hl : pos < (spN p n).length := (List.getElem?_eq_some_iff.1 hs).1
    rw [spN_len] at hl
    rcases Nat.lt_or_ge pos (nsizes n.Kids) with h1 | h1
    · obtain ⟨x, k, y, r, e1, rfl, e3⟩ := kids_split _ _ h1
      have hx : n.Kids[x.length]? = some k := by rw [e1]; simp
      have htk : n.Kids.take x.length = x := by rw [e1]; simp
      have hle : x.length < n.Kids.length := by rw [e1]; simp
      by_cases ht : isT k = true
      · have h2 := spN_kid p e1 (spK_text p x.length ht e3)
        rw [h2] at hs
        cases hs
        exact ⟨p, n, a, x.length, r, rfl, hat, hn, by omega, by rw [htk]; omega, fun k' hk' => by rw [hx] at hk'; cases hk'; exact ⟨e3, fun _ => ht⟩, fun h => by omega⟩
      · have ht' : isT k = false := by simpa using ht
        cases r with
        | zero =>
          have h2 := spN_kid p e1 (spK_head p x.length e3)
          rw [h2] at hs
          cases hs
          exact ⟨p, n, a, x.length, 0, rfl, hat, hn, by omega, by rw [htk]; omega, fun k' hk' => by rw [hx] at hk'; cases hk'; exact ⟨e3, fun h => by omega⟩, fun h => rfl⟩
        | succ r =>
          have hsz := size_node ht'
          have hlt : r < (spN (p ++ [x.length]) k).length := by rw [spN_len]; omega
          obtain ⟨s', hs'⟩ : ∃ s', (spN (p ++ [x.length]) k)[r]? = some s' := ⟨_, List.getElem?_eq_getElem hlt⟩
          have h2 : (spK p x.length k)[r + 1]? = some s' := by rw [spK, if_neg ht]; simpa using hs'
          have h3 := spN_kid p e1 h2
          rw [h3] at hs
          cases hs
          have h4 := ih k (List.mem_of_getElem? hx) _ _ _ _ (hat.snoc hx hn ht') ht' hs'
          rw [htk] at h4
          have e : a + nsizes x + 1 + r = a + (nsizes x + (r + 1)) := by omega
          rw [e] at h4
          exact h4
    · have : pos = nsizes n.Kids := by omega
      subst this
      rw [spN_end] at hs
      cases hs
      exact ⟨p, n, a, n.Kids.length, 0, rfl, hat, hn, by omega, by simp, fun k hk => by simp at hk, fun _ => rfl⟩

theorem sp_sub {n : api_Node} {q m a} (h : At n q m a) : ∀ (p : List Nat) (j : Nat) (s : diptychref4_Spot), (spN (p ++ q) m)[j]? = some s → (spN p n)[a + j]? = some s := by
  induction h with
  | nil n => intro p j s h; simpa using h
  | cons n i k q m a hi hn hk h ih =>
    intro p j s hs
    have h1 := ih (p ++ [i]) j s (by simpa using hs)
    have hlen : (n.Kids.take i).length = i := by
      have := (List.getElem?_eq_some_iff.1 hi).1
      simp; omega
    have h2 : (spK p (n.Kids.take i).length k)[a + j + 1]? = some s := by rw [spK, if_neg (by simp [hk]), hlen]; simpa using h1
    have h3 := spN_kid p (kid_split hi) h2
    have e : nsizes (n.Kids.take i) + 1 + a + j = nsizes (n.Kids.take i) + (a + j + 1) := by omega
    rw [e]
    exact h3

/-! ### The reference's spots -/
theorem spots_l3 (p : List Nat) (i : Nat) (y : api_Node) (hy : nwt y ≤ 1099511627776) : ∀ (f j k : Nat) (out : List diptychref4_Spot), j + f = nsize y → f < k → (out.length + f) * 40 ≤ 140737488355328 →
    diptychref4_Spots_l3 (up p) (i : Int) y k (j : Int) out = some (out ++ (List.range' j f).map (fun (j : Nat) => ⟨up p, (i : Int), (j : Int)⟩))
  | 0, j, k, out, h1, h2, _ => by
    obtain ⟨k, rfl⟩ : ∃ x, k = x + 1 := ⟨k - 1, by omega⟩
    have : decide ((j : Int) < (nsize y : Int)) = false := by simp; omega
    rw [diptychref4_Spots_l3, rsize_eq y hy]
    simp only [Option.bind_some, this, Bool.false_eq_true, if_false]
    simp
  | f + 1, j, k, out, h1, h2, h3 => by
    obtain ⟨k, rfl⟩ : ∃ x, k = x + 1 := ⟨k - 1, by omega⟩
    have hd : decide ((j : Int) < (nsize y : Int)) = true := by simp; omega
    have hle := nsize_le y
    rw [diptychref4_Spots_l3, rsize_eq y hy]
    simp only [Option.bind_some, hd, if_true]
    rw [app_eq (by simp; omega), w64_eq (by omega)]
    simp only [Option.bind_some]
    have e : (j : Int) + 1 = ((j + 1 : Nat) : Int) := by omega
    rw [e, spots_l3 p i y hy f (j + 1) k _ (by omega) (by omega) (by simp; omega)]
    simp [List.range'_succ]

theorem spots_l0 (f : api_Node → List Int → Option (List diptychref4_Spot)) (p : List Nat) (hp : p.length ≤ 1099511627776) : ∀ (l : List api_Node) (i : Nat) (out : List diptychref4_Spot), (∀ k ∈ l, isT k = false → ∀ j, f k (up (p ++ [j])) = some (spN (p ++ [j]) k)) → (out.length + nwts l) * 40 ≤ 140737488355328 → nwts l ≤ 1099511627776 →
    diptychref4_Spots_l0 (up p) f l (i : Int) out = some (out ++ spL p i l)
  | [], i, out, _, _, _ => by simp [diptychref4_Spots_l0, spL]
  | y :: l, i, out, hf, hb, hw => by
    simp only [nwts] at hb hw
    have hle := nsize_le y
    have e : (i : Int) + 1 = ((i + 1 : Nat) : Int) := by omega
    rw [diptychref4_Spots_l0, isT_def, spL_cons, spK]
    by_cases ht : isT y = true
    · simp only [ht, if_true]
      have h3 : (lim fun k => diptychref4_Spots_l3 (up p) (i : Int) y k 0 out) = some (out ++ (List.range' 0 (nsize y)).map (fun (j : Nat) => ⟨up p, (i : Int), (j : Int)⟩)) :=
        lim_of (nsize y + 1) fun k hk => spots_l3 p i y (by omega) (nsize y) 0 k out (by omega) (by omega) (by omega)
      rw [h3]
      simp only [Option.bind_some]
      rw [e, spots_l0 f p hp l (i + 1) _ (fun k hk => hf k (by simp [hk])) (by simp; omega) (by omega)]
      simp
    · have ht' : isT y = false := by simpa using ht
      have hsz := size_node ht'
      have hln := spN_len y (p ++ [i])
      have hpath : up p ++ [(i : Int)] = up (p ++ [i]) := by rw [up_app]; rfl
      simp only [ht', Bool.false_eq_true, if_false]
      rw [app_eq (by simp; omega)]
      simp only [Option.bind_some]
      rw [app_eq (by simp [up_len]; omega)]
      simp only [Option.bind_some, List.nil_append]
      rw [app_eq (by simp [up_len]; omega)]
      simp only [Option.bind_some]
      rw [hpath, hf y (by simp) ht' i]
      simp only [Option.bind_some]
      rw [app_eq (by simp; omega)]
      simp only [Option.bind_some]
      rw [e, spots_l0 f p hp l (i + 1) _ (fun k hk => hf k (by simp [hk])) (by simp; omega) (by omega)]
      simp

theorem spots_k (n : api_Node) : nwt n ≤ 1099511627776 → ∀ (p : List Nat) (kr : Nat), p.length + ndep n ≤ 1099511627776 → ndep n ≤ kr → diptychref4_Spots_k kr n (up p) = some (spN p n) := by
  induction n using api_Node.ind with
  | h n ih =>
    intro hw p kr hp hk
    have hd := ndep_eq n
    have h4 := nwts_kids n
    have h7 := nwts_len n.Kids
    have h8 := nsizes_le' n.Kids
    obtain ⟨kr, rfl⟩ : ∃ j, kr = j + 1 := ⟨kr - 1, by omega⟩
    have h0 := spots_l0 (diptychref4_Spots_k kr) p (by omega) n.Kids 0 [] (fun k hkk ht j => ih k hkk (by have := nwt_mem hkk; omega) (p ++ [j]) kr (by have := ndep_mem hkk; simp; omega) (by have := ndep_mem hkk; omega)) (by simp; omega) (by omega)
    have h0' : diptychref4_Spots_l0 (up p) (diptychref4_Spots_k kr) n.Kids 0 [] = _ := h0
    rw [diptychref4_Spots_k, chk_eq (by omega), h0']
    simp only [Option.bind_some, List.nil_append]
    rw [app_eq (by simp [spL_len]; omega), spN_eq]
    rfl

theorem ndep_le_nwt (n : api_Node) : ndep n ≤ nwt n := by
  have hl : ∀ l : List api_Node, (∀ k ∈ l, ndep k ≤ nwt k) → ndeps l ≤ nwts l := by
    intro l
    induction l with
    | nil => intro _; simp [ndeps, nwts]
    | cons k l ih =>
      intro h
      have h1 := h k (by simp)
      have h2 := ih fun x hx => h x (by simp [hx])
      simp only [ndeps, nwts]; omega
  induction n using api_Node.ind with
  | h n ih =>
    have h1 := hl n.Kids ih
    have h2 := ndep_eq n
    have h3 := nwt_eq n
    omega
theorem spots_eq (n : api_Node) (hw : nwt n ≤ 1099511627776) : diptychref4_Spots n [] = some (spN [] n) := by
  have := ndep_le_nwt n
  unfold diptychref4_Spots
  exact lim_of (ndep n) fun kr hk => spots_k n hw [] kr (by simp; omega) hk

/-! ### The spot of a position -/
theorem resolve_sp (n0 : api_Node) : ∀ (d : Nat) (n : api_Node) (q : List Nat) (pos : Nat), ndep n ≤ d → nwt n ≤ 1099511627776 → q.length + ndep n ≤ 1099511627776 → isT n = false → pos ≤ nsizes n.Kids → ∃ s, (spN q n)[pos]? = some s ∧ ∀ k, d ≤ k → place_Resolve_l0 k (pos : Int) n (up q) = some (sp' s, 0)
  | 0, n, q, pos, hd, _, _, _, _ => by have := ndep_eq n; omega
  | d + 1, n, q, pos, hd, hw, hq, hn, hpos => by
    have h6 := nwts_kids n
    have h7 := nwts_len n.Kids
    have h8 := nsizes_le' n.Kids
    rcases resolve_l2 (up q) (by rw [up_len]; omega) n.Kids 0 pos (by omega) (by omega) (by omega) with ⟨e1, e2⟩ | ⟨x, k, y, r, e1, e2, e3, e4⟩
    · have hp : pos = nsizes n.Kids := by omega
      refine ⟨⟨up q, (n.Kids.length : Int), 0⟩, by rw [hp]; exact spN_end q n, fun k hk => ?_⟩
      obtain ⟨k, rfl⟩ : ∃ j, k = j + 1 := ⟨k - 1, by omega⟩
      rw [place_Resolve_l0, chk_eq (by omega)]
      have e2' : place_Resolve_l2 (up q) n.Kids 0 (pos : Int) = _ := e2
      rw [e2']
      rfl
    · rw [Nat.zero_add] at e4
      have hx : n.Kids[x.length]? = some k := by rw [e1]; simp
      rcases e4 with ⟨e4, e5⟩ | ⟨e4, e5, e6⟩
      · refine ⟨⟨up q, (x.length : Int), (r : Int)⟩, ?_, fun k' hk => ?_⟩
        · rw [e2]
          refine spN_kid q e1 ?_
          rcases e4 with ht | rfl
          · exact spK_text q x.length ht e3
          · exact spK_head q x.length e3
        · obtain ⟨k', rfl⟩ : ∃ j, k' = j + 1 := ⟨k' - 1, by omega⟩
          rw [place_Resolve_l0, chk_eq (by omega)]
          have e2' : place_Resolve_l2 (up q) n.Kids 0 (pos : Int) = _ := e5
          rw [e2']
          rfl
      · have hs := size_node e4
        have hdk := ndep_mem (List.mem_of_getElem? hx)
        have hdn := ndep_eq n
        have hwk := nwt_mem (List.mem_of_getElem? hx)
        obtain ⟨s, s1, s2⟩ := resolve_sp n0 d k (q ++ [x.length]) (r - 1) (by omega) (by omega) (by simp; omega) e4 (by omega)
        refine ⟨s, ?_, fun k' hk => ?_⟩
        · rw [e2]
          refine spN_kid q e1 ?_
          rw [spK, if_neg (by simp [e4])]
          have e : r = r - 1 + 1 := by omega
          rw [e]
          simpa using s1
        · obtain ⟨k', rfl⟩ : ∃ j, k' = j + 1 := ⟨k' - 1, by omega⟩
          rw [place_Resolve_l0, chk_eq (by omega)]
          have e2' : place_Resolve_l2 (up q) n.Kids 0 (pos : Int) = _ := e6
          rw [e2']
          simp only [Option.bind_some]
          have := s2 k' (by omega)
          rw [up_app] at this
          exact this

theorem resolve_both (n : api_Node) (hn : isT n = false) (hw : nwt n ≤ 1099511627776) (pos : Int) : ∃ s e, place_Resolve n pos = some (sp' s, e) ∧ diptychref4_Resolve n pos = some (s, e) ∧ s.Path.length ≤ 1099511627776 := by
  have h4 := nwts_kids n
  have h8 := nsizes_le' n.Kids
  have hln := spN_len n []
  have hd := ndep_le_nwt n
  unfold diptychref4_Resolve
  simp only [isT_def, hn, Bool.false_eq_true, if_false, spots_eq n hw, Option.bind_some]
  by_cases h0 : pos < 0
  · exact ⟨⟨[], 0, 0⟩, 3, resolve_out hn hw pos (.inl h0), by simp [h0], by simp⟩
  · obtain ⟨p, rfl⟩ := Int.eq_ofNat_of_zero_le (show 0 ≤ pos by omega)
    have g0 : decide ((p : Int) < 0) = false := by simp
    by_cases h1 : nsizes n.Kids < p
    · have g1 : decide ((p : Int) ≥ ((spN [] n).length : Int)) = true := by simp; omega
      exact ⟨⟨[], 0, 0⟩, 3, resolve_out hn hw p (.inr (by omega)), by simp only [g0, g1, Bool.false_eq_true, if_false, if_true], by simp⟩
    · have g1 : decide ((p : Int) ≥ ((spN [] n).length : Int)) = false := by simp; omega
      obtain ⟨s, s1, s2⟩ := resolve_sp n (ndep n) n [] p (Nat.le_refl _) hw (by simp; omega) hn (by omega)
      refine ⟨s, 0, ?_, by simp only [g0, g1, Bool.false_eq_true, if_false, rd_nat s1, Option.bind_some], ?_⟩
      · have hgt : decide ((p : Int) > (nsizes n.Kids : Int)) = false := by simp; omega
        unfold place_Resolve
        simp only [isT_def, hn, Bool.false_eq_true, if_false, g0]
        rw [total_eq _ (by omega)]
        simp only [Option.bind_some, hgt, Bool.false_eq_true, if_false]
        rw [up_nil] at s2
        rw [lim_of (ndep n) s2]
        rfl
      · obtain ⟨q, m, a, idx, off, e1, e2, _⟩ := spN_ok n n [] 0 p s (.nil n) hn s1
        have e3 : s.Path = up q := congrArg place_Spot.Path e1
        have := e2.len
        have := e2.sizes
        rw [e3, up_len]
        omega

/-! ### The position of a spot -/
theorem Same_eq (a b : diptychref4_Spot) (h : a.Path.length ≤ 9223372036854775807) : diptychref4_Same a b = some (decide (a = b)) := by
  unfold diptychref4_Same
  rw [same_eq _ _ h]
  simp only [Option.bind_some]
  cases a with
  | mk a1 a2 a3 =>
    cases b with
    | mk b1 b2 b3 =>
      by_cases e : a1 = b1
      · by_cases e2 : a2 = b2
        · by_cases e3 : a3 = b3
          · simp [e, e2, e3]
          · simp [e, e2, e3]
        · simp [e, e2]
      · simp [e]

theorem posl_none (s : diptychref4_Spot) : ∀ (l : List diptychref4_Spot) (i : Int), (∀ x ∈ l, x.Path.length ≤ 9223372036854775807) → (∀ x ∈ l, x ≠ s) → diptychref4_Pos_l0 s l i = some (.inr ())
  | [], i, _, _ => rfl
  | y :: l, i, hp, h => by
    have hy := h y (by simp)
    rw [diptychref4_Pos_l0, Same_eq _ _ (hp y (by simp))]
    simp only [Option.bind_some, hy, decide_false, Bool.false_eq_true, if_false]
    exact posl_none s l (i + 1) (fun x hx => hp x (by simp [hx])) fun x hx => h x (by simp [hx])
theorem posl_some (s : diptychref4_Spot) (b : List diptychref4_Spot) : ∀ (a : List diptychref4_Spot) (i : Int), (∀ x ∈ a ++ s :: b, x.Path.length ≤ 9223372036854775807) → (∀ x ∈ a, x ≠ s) → diptychref4_Pos_l0 s (a ++ s :: b) i = some (.inl (i + a.length, 0))
  | [], i, hp, _ => by
    rw [List.nil_append, diptychref4_Pos_l0, Same_eq _ _ (hp s (by simp))]
    simp
  | y :: a, i, hp, h => by
    have hy := h y (by simp)
    rw [List.cons_append, diptychref4_Pos_l0, Same_eq _ _ (hp y (by simp))]
    simp only [Option.bind_some, hy, decide_false, Bool.false_eq_true, if_false]
    rw [posl_some s b a (i + 1) (fun x hx => hp x (by simp at hx ⊢; exact .inr hx)) fun x hx => h x (by simp [hx])]
    simp only [List.length_cons, Option.some.injEq, Sum.inl.injEq, Prod.mk.injEq, and_true]
    omega

theorem pos_some (n : api_Node) (hn : isT n = false) (hw : nwt n ≤ 1099511627776) (s : place_Spot) (hs : s.Path.length ≤ 50) : place_Pos n s = some (0, 9) ∨ ∃ pos : Nat, (spN [] n)[pos]? = some (⟨s.Path, s.Index, s.Offset⟩ : diptychref4_Spot) := by
  rcases inner_cases n s.Path hn (by omega) with ⟨q, m, a, hq, hat⟩ | h
  · have hm := hat.notT hn
    have hwm := hat.wt
    have hle := hat.len
    have hsz := hat.sizes
    have e3 := nsizes_le' n.Kids
    have e4 := nwts_kids n
    have hkm := nwts_kids m
    have hlm := nwts_len m.Kids
    have hst := start_eq hat hm hw
    have hin := inner_eq hat hm (by omega)
    rw [← hq] at hst hin
    by_cases i1 : s.Index < 0
    · left; unfold place_Pos; simp [hst, hin, i1]
    by_cases i2 : s.Index > (m.Kids.length : Int)
    · left; unfold place_Pos; simp [hst, hin, i1, i2]
    by_cases i3 : s.Offset < 0
    · left; unfold place_Pos; simp [hst, hin, i1, i2, i3]
    obtain ⟨idx, hidx⟩ := Int.eq_ofNat_of_zero_le (show 0 ≤ s.Index by omega)
    obtain ⟨off, hoff⟩ := Int.eq_ofNat_of_zero_le (show 0 ≤ s.Offset by omega)
    have hs' : (⟨s.Path, s.Index, s.Offset⟩ : diptychref4_Spot) = ⟨up q, (idx : Int), (off : Int)⟩ := by rw [hq, hidx, hoff]
    rcases Nat.lt_or_ge idx m.Kids.length with hl | hl
    · obtain ⟨k, hk⟩ : ∃ k, m.Kids[idx]? = some k := ⟨_, List.getElem?_eq_getElem hl⟩
      have hwk := nwt_mem (List.mem_of_getElem? hk)
      have hlen : (m.Kids.take idx).length = idx := by simp; omega
      have g1 : decide (s.Index < 0) = false := by simpa using i1
      have g2 : decide (s.Index > (m.Kids.length : Int)) = false := by simpa using i2
      have g3 : decide (s.Offset < 0) = false := by simpa using i3
      have g4 : (s.Index == (m.Kids.length : Int)) = false := by simp; omega
      have g5 : decide (s.Index < (m.Kids.length : Int)) = true := by simp; omega
      have hrd : rd m.Kids s.Index = some k := by rw [hidx]; exact rd_nat hk
      by_cases h0 : nsize k = 0
      · left
        unfold place_Pos
        by_cases ho : decide (s.Offset > 0) = true
        · simp only [hst, hin, Option.bind_some, bne_self_eq_false, Bool.false_eq_true, if_false, g1, g2, g3, ho, if_true, g4, hrd, size_eq k (by omega), isT_def]
          have g6 : decide (s.Offset ≥ (nsize k : Int)) = true := by simp at ho ⊢; omega
          by_cases ht : isT k = true
          · simp [ht, g6]
          · simp [ht]
        · have ho' : decide (s.Offset > 0) = false := by simpa using ho
          simp only [hst, hin, Option.bind_some, bne_self_eq_false, Bool.false_eq_true, if_false, g1, g2, g3, ho', g5, if_true, hrd, size_eq k (by omega), isT_def]
          simp [h0]
      · by_cases ho : 0 < off
        · by_cases ht : isT k = true
          · by_cases hoo : off < nsize k
            · right
              refine ⟨a + (nsizes (m.Kids.take idx) + off), ?_⟩
              rw [hs']
              refine sp_sub hat [] _ _ ?_
              have := spN_kid (r := off) q (kid_split hk) (spK_text q _ ht hoo)
              rw [hlen] at this
              exact this
            · left
              have ho' : decide (s.Offset > 0) = true := by simp; omega
              have g6 : decide (s.Offset ≥ (nsize k : Int)) = true := by simp; omega
              unfold place_Pos
              simp only [hst, hin, Option.bind_some, bne_self_eq_false, Bool.false_eq_true, if_false, g1, g2, g3, ho', if_true, g4, hrd, size_eq k (by omega), isT_def, ht, Bool.not_true, g6]
          · left
            have ho' : decide (s.Offset > 0) = true := by simp; omega
            have ht' : isT k = false := by simpa using ht
            unfold place_Pos
            simp only [hst, hin, Option.bind_some, bne_self_eq_false, Bool.false_eq_true, if_false, g1, g2, g3, ho', if_true, g4, hrd, isT_def, ht', Bool.not_false]
        · right
          have h00 : off = 0 := by omega
          subst h00
          refine ⟨a + (nsizes (m.Kids.take idx) + 0), ?_⟩
          rw [hs']
          refine sp_sub hat [] _ _ ?_
          have := spN_kid q (kid_split hk) (spK_head q (m.Kids.take idx).length (show 0 < nsize k by omega))
          rw [hlen] at this
          exact this
    · have hi : idx = m.Kids.length := by omega
      subst hi
      by_cases ho : 0 < off
      · left
        have ho' : decide (s.Offset > 0) = true := by simp; omega
        have g1 : decide (s.Index < 0) = false := by simpa using i1
        have g2 : decide (s.Index > (m.Kids.length : Int)) = false := by simpa using i2
        have g3 : decide (s.Offset < 0) = false := by simpa using i3
        have g4 : (s.Index == (m.Kids.length : Int)) = true := by simp [hidx]
        unfold place_Pos
        simp only [hst, hin, Option.bind_some, bne_self_eq_false, Bool.false_eq_true, if_false, g1, g2, g3, ho', if_true, g4]
      · right
        have h00 : off = 0 := by omega
        subst h00
        refine ⟨a + nsizes m.Kids, ?_⟩
        rw [hs']
        exact sp_sub hat [] _ _ (spN_end q m)
  · left
    unfold place_Pos place_Start
    rw [h]
    rfl

theorem first_at {α : Type} (s : α) [DecidableEq α] : ∀ (l : List α), s ∈ l → ∃ a b, l = a ++ s :: b ∧ ∀ x ∈ a, x ≠ s
  | y :: l, h => by
    by_cases e : y = s
    · exact ⟨[], l, by rw [e]; rfl, by simp⟩
    · obtain ⟨a, b, h1, h2⟩ := first_at s l ((List.mem_cons.1 h).resolve_left fun h => e h.symm)
      refine ⟨y :: a, b, by rw [h1]; rfl, fun x hx => ?_⟩
      rcases List.mem_cons.1 hx with rfl | hx
      · exact e
      · exact h2 x hx

theorem pos_both (n : api_Node) (hn : isT n = false) (hw : nwt n ≤ 1099511627776) (s : place_Spot) (hs : s.Path.length ≤ 50) : ∃ p e, place_Pos n s = some (p, e) ∧ diptychref4_Pos n ⟨s.Path, s.Index, s.Offset⟩ = some (p, e) := by
  have h4 := nwts_kids n
  have h8 := nsizes_le' n.Kids
  have hln := spN_len n []
  have hpl : ∀ x ∈ spN [] n, x.Path.length ≤ 9223372036854775807 := by
    intro x hx
    obtain ⟨p, hp⟩ := List.getElem?_of_mem hx
    obtain ⟨q, m, a, idx, off, e1, e2, _⟩ := spN_ok n n [] 0 p x (.nil n) hn hp
    have e3 : x.Path = up q := congrArg place_Spot.Path e1
    have := e2.len
    have := e2.sizes
    rw [e3, up_len]
    omega
  have hok : ∀ p : Nat, (spN [] n)[p]? = some (⟨s.Path, s.Index, s.Offset⟩ : diptychref4_Spot) → place_Pos n s = some ((p : Int), 0) := fun p hp => by
    have := spN_ok n n [] 0 p _ (.nil n) hn hp
    rw [Nat.zero_add] at this
    exact pos_eq hw this
  unfold diptychref4_Pos
  simp only [isT_def, hn, Bool.false_eq_true, if_false, spots_eq n hw, Option.bind_some]
  rw [chk_eq (by omega)]
  by_cases hmem : (⟨s.Path, s.Index, s.Offset⟩ : diptychref4_Spot) ∈ spN [] n
  · obtain ⟨a, b, h1, h2⟩ := first_at _ _ hmem
    refine ⟨(a.length : Int), 0, hok a.length (by rw [h1]; simp), ?_⟩
    rw [h1] at hpl
    rw [h1, posl_some _ b a 0 hpl h2]
    simp
  · have h9 : place_Pos n s = some (0, 9) := by
      rcases pos_some n hn hw s hs with h | ⟨p, hp⟩
      · exact h
      · exact (hmem (List.mem_of_getElem? hp)).elim
    refine ⟨0, 9, h9, ?_⟩
    rw [posl_none _ _ 0 hpl (fun x hx e => by rw [e] at hx; exact hmem hx)]
    rfl

/-! ### The law -/
theorem inner_text (n : api_Node) (ht : isT n = true) (hk : n.Kids = []) (path : List Int) (hp : path.length ≤ 50) : place_Inner n path = some (nil0, 9) := by
  unfold place_Inner
  rw [chk_eq (by omega)]
  cases path with
  | nil => simp [place_Inner_l0, isT_def, ht]
  | cons y p =>
    rw [place_Inner_l0]
    by_cases h : y < 0
    · simp [h]
    · have h1 : decide (y < 0) = false := by simpa using h
      have h2 : decide (y ≥ (n.Kids.length : Int)) = true := by rw [hk]; simp; omega
      simp only [h1, h2, Bool.false_eq_true, if_false, if_true, Option.bind_some]

theorem PlaceResolves_true (l : List diptychlaw4_Cell) (pos : Int) (s : place_Spot) (hl : l.length ≤ 9223372036854775807) (h : ∀ y ∈ l, cellIn y) : diptychlaw4_PlaceResolves l pos s = some true := by
  unfold diptychlaw4_PlaceResolves
  rw [shown_eq]
  simp only [Option.bind_some, Bool.not_true, Bool.false_eq_true, if_false]
  by_cases hs : (s.Path.length : Int) > 50
  · simp [hs]
  · have hs' : s.Path.length ≤ 50 := by omega
    obtain ⟨ks, e1, e2⟩ := doc_eq l hl h
    have hw := e2.wt
    have hn : isT (⟨sDoc, [], [], [], ks⟩ : api_Node) = false := rfl
    have hwn : nwt (⟨sDoc, [], [], [], ks⟩ : api_Node) ≤ 1099511627776 := by simp only [nwt, strsW, attrsW, List.length_cons, List.length_nil]; omega
    obtain ⟨r, e, r1, r2, r3⟩ := resolve_both _ hn hwn pos
    obtain ⟨p, f, p1, p2⟩ := pos_both _ hn hwn s hs'
    have hd : decide ((s.Path.length : Int) > 50) = false := by simp; omega
    have t1 : place_Resolve ({ Kind := ([116, 101, 120, 116] : Str), Text := ([97, 98] : Str), Marks := [], Attrs := [], Kids := [] } : api_Node) pos = some (⟨[], 0, 0⟩, 3) := by
      unfold place_Resolve
      rfl
    have t2 : place_Pos ({ Kind := ([116, 101, 120, 116] : Str), Text := ([97, 98] : Str), Marks := [], Attrs := [], Kids := [] } : api_Node) s = some (0, 9) := by
      unfold place_Pos place_Start
      rw [inner_text _ rfl rfl _ hs']
      rfl
    have a1 : ∀ s : place_Spot, diptychlaw4_as s = some ⟨s.Path, s.Index, s.Offset⟩ := fun s => rfl
    simp only [hd, Bool.false_eq_true, if_false, e1, Option.bind_some, r1, r2, p1, a1, p2, t1, t2]
    rw [Same_eq _ _ (by simp only [sp']; omega)]
    simp

end Go.Proofs.Ytacmddgliagpcaa
