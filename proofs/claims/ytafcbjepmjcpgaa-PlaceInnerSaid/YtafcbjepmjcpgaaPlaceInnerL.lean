/- PlaceInner, plainly. -/
import Derived.Test.YtafcbjepmjcpgaaPlaceWithL
namespace Go.Proofs.Ytafcbjepmjcpgaa
set_option linter.unusedSimpArgs false
set_option linter.unusedVariables false
open Go

/-! ### The reference's size -/
theorem runesFrom_count (b : ByteArray) : ∀ (n i : Nat) (acc : Array Value), (Conv.runesFrom b n i acc).toList.length = acc.toList.length + Lib.runeCountFrom b n i
  | 0, i, acc => by simp [Conv.runesFrom, Lib.runeCountFrom]
  | n + 1, i, acc => by
    unfold Conv.runesFrom Lib.runeCountFrom
    split
    · rename_i h
      rw [runesFrom_count b n _ _]
      simp; omega
    · rfl
theorem runes_len (s : Str) : (runes s).length = rlen s := by
  unfold runes rlen Lib.runeCountL Lib.runeCount
  rw [List.length_map, runesFrom_count]
  simp [ByteArray.size]

theorem rtotal_l0 (sz : api_Node → Option Int) : ∀ (l : List api_Node) (i acc : Int), (∀ k ∈ l, sz k = some (nsize k : Int)) → 0 ≤ acc → acc + nsizes l ≤ 9223372036854775807 → diptychref1_Total_l0 sz l i acc = some (acc + nsizes l)
  | [], i, acc, _, _, _ => by simp [diptychref1_Total_l0, nsizes]
  | n :: l, i, acc, h, h0, hb => by
    simp only [nsizes] at hb
    rw [diptychref1_Total_l0, h n (by simp)]
    simp only [Option.bind_some]
    rw [w64_eq (by omega), rtotal_l0 sz l _ _ (fun k hk => h k (by simp [hk])) (by omega) (by omega)]
    simp only [nsizes, Option.some.injEq]
    omega
theorem rsize_k (n : api_Node) : nwt n ≤ 1099511627776 → ∀ kr, 2 * ndep n ≤ kr → diptychref1_Size_k kr n = some (nsize n : Int) := by
  induction n using api_Node.ind with
  | h n ih =>
    intro hw kr hk
    have hd := ndep_eq n
    obtain ⟨kr, rfl⟩ : ∃ j, kr = j + 1 + 1 := ⟨kr - 2, by omega⟩
    have hwt := nwt_eq n
    have hl := nwts_len n.Kids
    have hs := nsizes_le' n.Kids
    rw [diptychref1_Size_k, nsize_eq]
    by_cases ht : isT n = true
    · simp only [isT_def, ht, if_true, diptychref1_runes, Option.bind_some, runes_len]
    · simp only [isT_def, ht, Bool.false_eq_true, if_false]
      rw [diptychref1_Total_k, chk_eq (by omega), rtotal_l0 (diptychref1_Size_k kr) n.Kids 0 0 (fun k hkk => ih k hkk (by have := nwt_mem hkk; omega) kr (by have := ndep_mem hkk; omega)) (by omega) (by omega)]
      simp only [Option.bind_some]
      rw [w64_eq (by omega)]
      simp only [Option.some.injEq]
      omega
theorem rtotal_eq (l : List api_Node) (h : nwts l ≤ 1099511627776) : diptychref1_Total l = some (nsizes l : Int) := by
  unfold diptychref1_Total
  refine lim_of (2 * ndeps l + 1) fun kr hk => ?_
  obtain ⟨kr, rfl⟩ : ∃ j, kr = j + 1 := ⟨kr - 1, by omega⟩
  have hl := nwts_len l
  have hs := nsizes_le' l
  rw [diptychref1_Total_k, chk_eq (by omega), rtotal_l0 (diptychref1_Size_k kr) l 0 0 (fun k hkk => rsize_k k (by have := nwt_mem hkk; omega) kr (by have := ndep_mem hkk; omega)) (by omega) (by omega)]
  simp

/-! ### The reference's Inner, Start, With -/
theorem rinner_l0 : ∀ (path : List Int) (v : Int) (n : api_Node), diptychref4_Inner_l0 path v n = place_Inner_l0 path v n
  | [], v, n => rfl
  | y :: suf, v, n => by
    unfold diptychref4_Inner_l0 place_Inner_l0
    simp only [rinner_l0 suf]
theorem rinner_eq (n : api_Node) (path : List Int) : diptychref4_Inner n path = place_Inner n path := by
  unfold diptychref4_Inner place_Inner
  simp only [rinner_l0]

theorem rstart_l0 {n : api_Node} {q m a} (h : At n q m a) : ∀ v (t : Nat), nwt n ≤ 1099511627776 → t + a ≤ 4611686018427387904 → diptychref4_Start_l0 (up q) v (t : Int) n = some ((t + a : Nat) : Int) := by
  induction h with
  | nil n => intro v t _ _; rfl
  | cons n i k q m a hi hn hk h ih =>
    intro v t hw ht
    have hl := (List.getElem?_eq_some_iff.1 hi).1
    have h1 := kid_wts hi
    have h2 := nwts_kids n
    have h3 := nsizes_le' (n.Kids.take i)
    rw [up_cons, diptychref4_Start_l0, sl_take (by omega)]
    simp only [Option.bind_some]
    rw [rtotal_eq _ (by omega), rd_nat hi]
    simp only [Option.bind_some]
    have e : w64 (w64 ((t : Int) + (nsizes (n.Kids.take i) : Int)) + 1) = ((t + (nsizes (n.Kids.take i) + 1) : Nat) : Int) := by
      rw [w64_eq (x := (t : Int) + (nsizes (n.Kids.take i) : Int)) (by omega), w64_eq (by omega)]
      omega
    rw [e, ih _ _ (by omega) (by omega)]
    simp only [Option.some.injEq]
    omega
theorem rstart_eq {n : api_Node} {q m a} (h : At n q m a) (hm : isT m = false) (hw : nwt n ≤ 1099511627776) : diptychref4_Start n (up q) = some ((a : Int), 0) := by
  have h1 := h.len
  have h2 := h.sizes
  have h3 := nsizes_le' n.Kids
  have h4 := nwts_kids n
  unfold diptychref4_Start
  rw [rinner_eq, inner_eq h hm (by omega)]
  have := rstart_l0 h 0 0 hw (by omega)
  simp only [Option.bind_some, bne_self_eq_false, Bool.false_eq_true, if_false]
  rw [up_len, chk_eq (by omega)]
  have e : ((0 : Nat) : Int) = 0 := rfl
  rw [e] at this
  rw [this]
  simp

theorem rwith_k {x : api_Node} {n : api_Node} {q m a} (h : At n q m a) : isT n = false → nwt n ≤ 1099511627776 → ∀ kr, q.length < kr → diptychref4_With_k kr n (up q) x = some (repN q n x, 0) := by
  induction h with
  | nil n =>
    intro hn hw kr hk
    obtain ⟨kr, rfl⟩ : ∃ j, kr = j + 1 := ⟨kr - 1, by omega⟩
    have := inner_eq (At.nil n) hn (by simp)
    rw [diptychref4_With_k, rinner_eq, this]
    rfl
  | cons n i k q m a hi hn hk h ih =>
    intro _ hw kr hkr
    simp only [List.length_cons] at hkr
    obtain ⟨kr, rfl⟩ : ∃ j, kr = j + 1 := ⟨kr - 1, by omega⟩
    have hat := At.cons n i k q m a hi hn hk h
    have g1 := hat.len
    have g2 := hat.sizes
    have g3 := nsizes_le' n.Kids
    have g4 := nwts_kids n
    have g5 := kid_wts hi
    have g6 := nwts_len n.Kids
    have hl := (List.getElem?_eq_some_iff.1 hi).1
    have hnz : (((i :: q).length : Int) == 0) = false := by simp; omega
    have hin := inner_eq hat (hat.notT hn) (by omega)
    have e1 : rd (up (i :: q)) 0 = some (i : Int) := rd_nat (l := up (i :: q)) (i := 0) rfl
    have e2 : sl (up (i :: q)) 1 ((up (i :: q)).length : Int) = some (up q) := sl_one _ _
    have e3 : app 104 [] (n.Kids.take i) = some (n.Kids.take i) := app_eq (by simp; omega)
    have e4 : ∀ r : api_Node, app 104 (n.Kids.take i) [r] = some (n.Kids.take i ++ [r]) := fun r => app_eq (by simp; omega)
    have e5 : sl n.Kids (w64 ((i : Int) + 1)) (n.Kids.length : Int) = some (n.Kids.drop (i + 1)) := by
      have e : w64 ((i : Int) + 1) = ((i + 1 : Nat) : Int) := by rw [w64_eq (by omega)]; omega
      rw [e, sl_nat (by omega) (by omega), List.take_length]
    have e6 : ∀ r : api_Node, app 104 (n.Kids.take i ++ [r]) (n.Kids.drop (i + 1)) = some (n.Kids.set i r) := fun r => by
      rw [app_eq (by simp; omega), List.set_eq_take_append_cons_drop, if_pos hl]
      simp
    rw [diptychref4_With_k, rinner_eq, hin, e1, e2]
    simp only [Option.bind_some, bne_self_eq_false, Bool.false_eq_true, if_false, up_len, hnz, rd_nat hi]
    rw [ih hk (by omega) kr (by omega)]
    simp only [Option.bind_some, sl_take (Nat.le_of_lt hl), e3, e4, e5, e6]
    rw [repN_cons hi]
theorem rwith_eq {x : api_Node} {n : api_Node} {q m a} (h : At n q m a) (hn : isT n = false) (hw : nwt n ≤ 1099511627776) : diptychref4_With n (up q) x = some (repN q n x, 0) := by
  unfold diptychref4_With
  exact lim_of (q.length + 1) fun k hk => rwith_k h hn hw k (by omega)

/-! ### Any path -/
theorem inner_any : ∀ (path : List Int) (v : Int) (n : api_Node), isT n = false → (∃ q m a, path = up q ∧ At n q m a) ∨ place_Inner_l0 path v n = some (.inl (nil0, 9)) ∨ ∃ m, place_Inner_l0 path v n = some (.inr m) ∧ isT m = true
  | [], v, n, hn => .inl ⟨[], n, 0, rfl, .nil n⟩
  | y :: suf, v, n, hn => by
    by_cases h1 : y < 0
    · right; left
      rw [place_Inner_l0]; simp [h1]
    · by_cases h2 : y ≥ (n.Kids.length : Int)
      · right; left
        rw [place_Inner_l0]; simp [h2]
      · obtain ⟨i, rfl⟩ := Int.eq_ofNat_of_zero_le (show 0 ≤ y by omega)
        have hl : i < n.Kids.length := by omega
        obtain ⟨k, hk⟩ : ∃ k, n.Kids[i]? = some k := ⟨_, List.getElem?_eq_getElem hl⟩
        have g1 : decide ((i : Int) < 0) = false := by simp
        have g2 : decide ((i : Int) ≥ (n.Kids.length : Int)) = false := by simp; omega
        have step : place_Inner_l0 ((i : Int) :: suf) v n = place_Inner_l0 suf (v + 1) k := by
          rw [place_Inner_l0]
          simp only [g1, g2, isT_def, hn, Bool.false_eq_true, if_false, rd_nat hk, Option.bind_some]
        rw [step]
        by_cases ht : isT k = true
        · cases suf with
          | nil => exact .inr (.inr ⟨k, rfl, ht⟩)
          | cons z suf =>
            right; left
            rw [place_Inner_l0]
            simp only [isT_def, ht, if_true]
            split
            · rfl
            · split <;> rfl
        · rcases inner_any suf (v + 1) k (by simpa using ht) with ⟨q, m, a, rfl, h⟩ | h | h
          · exact .inl ⟨i :: q, m, _, rfl, .cons n i k q m a hk hn (by simpa using ht) h⟩
          · exact .inr (.inl h)
          · exact .inr (.inr h)
theorem inner_cases (n : api_Node) (path : List Int) (hn : isT n = false) (hp : path.length ≤ 9223372036854775807) : (∃ q m a, path = up q ∧ At n q m a) ∨ place_Inner n path = some (nil0, 9) := by
  rcases inner_any path 0 n hn with h | h | ⟨m, h, hm⟩
  · exact .inl h
  · right
    unfold place_Inner
    rw [chk_eq hp, h]
    rfl
  · right
    unfold place_Inner
    rw [chk_eq hp, h]
    simp only [Option.bind_some, isT_def, hm, if_true]

theorem PlaceInner_true (l k : List diptychlaw4_Cell) (path : List Int) (hl : l.length ≤ 9223372036854775807) (h : ∀ y ∈ l, cellIn y) (hl' : k.length ≤ 9223372036854775807) (h' : ∀ y ∈ k, cellIn y) : diptychlaw4_PlaceInner l k path = some true := by
  obtain ⟨ks, e1, e2⟩ := doc_eq l hl h
  obtain ⟨js, f1, f2⟩ := doc_eq k hl' h'
  have hkw := e2.wt
  have hjw := f2.wt
  have hn : isT ⟨sDoc, [], [], [], ks⟩ = false := rfl
  have hj : isT ⟨sDoc, [], [], [], js⟩ = false := rfl
  have hw0 : nwt ⟨sDoc, [], [], [], ks⟩ ≤ 1000000 := by simp [nwt, strsW, attrsW]; omega
  have hv0 : nwt ⟨sDoc, [], [], [], js⟩ ≤ 1000000 := by simp [nwt, strsW, attrsW]; omega
  generalize (⟨sDoc, [], [], [], ks⟩ : api_Node) = n at *
  generalize (⟨sDoc, [], [], [], js⟩ : api_Node) = x at *
  unfold diptychlaw4_PlaceInner
  rw [shown_eq]
  simp only [Option.bind_some, Bool.not_true, Bool.false_eq_true, if_false, e1, f1, rinner_eq]
  by_cases hp : (path.length : Int) > 50
  · simp [hp]
  · have hp' : decide ((path.length : Int) > 50) = false := by simpa using hp
    simp only [hp', Bool.false_eq_true, if_false]
    rcases inner_cases n path hn (by omega) with ⟨q, m, a, rfl, h1⟩ | h1
    · have hm := h1.notT hn
      have g1 := h1.len
      have g3 := h1.wt
      have r0 := rep_wt (x := x) h1
      rw [up_len] at hp
      simp only [inner_eq h1 hm (by omega), start_eq h1 hm (by omega), rstart_eq h1 hm (by omega), with_eq (x := x) h1 hn (by omega), rwith_eq (x := x) h1 hn (by omega), Option.bind_some, rsame_eq m (by omega), rsame_eq (repN q n x) (by omega), rsame_eq n (by omega), beq_self_eq_true, if_true]
    · have s1 : place_Start n path = some (0, 9) := by
        unfold place_Start
        rw [h1]
        rfl
      have s2 : diptychref4_Start n path = some (0, 9) := by
        unfold diptychref4_Start
        rw [rinner_eq, h1]
        rfl
      have s3 : place_With n path x = some (nil0, 9) := by
        unfold place_With
        refine lim_of 1 fun kr hk => ?_
        obtain ⟨kr, rfl⟩ : ∃ j, kr = j + 1 := ⟨kr - 1, by omega⟩
        rw [place_With_k, h1]
        rfl
      have s4 : diptychref4_With n path x = some (nil0, 9) := by
        unfold diptychref4_With
        refine lim_of 1 fun kr hk => ?_
        obtain ⟨kr, rfl⟩ : ∃ j, kr = j + 1 := ⟨kr - 1, by omega⟩
        rw [diptychref4_With_k, rinner_eq, h1]
        rfl
      have s5 : diptychref1_Same nil0 nil0 = some true := rsame_eq _ (by simp [nwt, strsW, attrsW, nwts])
      simp only [h1, s1, s2, s3, s4, s5, Option.bind_some, rsame_eq n (by omega), beq_self_eq_true, if_true]

end Go.Proofs.Ytafcbjepmjcpgaa
