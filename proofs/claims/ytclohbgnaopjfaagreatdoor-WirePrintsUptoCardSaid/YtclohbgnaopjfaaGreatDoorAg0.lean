/- Words of the written functions: what they are made of, and how the abstract walk meets them. -/
import Derived.Test.YtclohbgnaopjfaaGreatDoorAw24
namespace Go.Proofs.YtclohbgnaopjfaaGreatDoor
set_option linter.unusedSimpArgs false
set_option linter.unusedVariables false
open Go

abbrev Str := List UInt8
abbrev w64 (x : Int) : Int := IntKind.wrap .i64 x

section
variable {α β : Type}
def chk (p : Prop) [Decidable p] (x : Option α) : Option α := if p then x else none
/-- An element of a row. -/
def rd (l : List α) (i : Int) : Option α := if 0 ≤ i then l[i.toNat]? else none
/-- A part of a row. -/
def sl (l : List α) (a b : Int) : Option (List α) := if 0 ≤ a ∧ a ≤ b ∧ b ≤ l.length then some ((l.take b.toNat).drop a.toNat) else none
/-- A row that grows: elements of 'z' bytes. -/
def app (z : Nat) (l ys : List α) : Option (List α) := if (l.length + ys.length) * z ≤ 140737488355328 then some (l ++ ys) else none
/-- An element that is put in the place of another one. -/
def wr (l : List α) (i : Int) (x : α) : Option (List α) := if 0 ≤ i ∧ i < l.length then some (l.set i.toNat x) else none
/-- What comes of it with ever more rounds. -/
noncomputable def lim (g : Nat → Option α) : Option α :=
  open Classical in if h : ∃ r, ∃ K, ∀ k, K ≤ k → g k = some r then some h.choose else none

theorem chk_some {p : Prop} [Decidable p] {x : Option α} {r : α} (h : chk p x = some r) : p ∧ x = some r := by
  unfold chk at h; split at h
  · exact ⟨by assumption, h⟩
  · cases h
theorem bind_ex {x : Option α} {f : α → Option β} {r : β} (h : x.bind f = some r) : ∃ y, x = some y ∧ f y = some r := Option.bind_eq_some_iff.1 h
theorem rd_some {l : List α} {i : Int} {x : α} (h : rd l i = some x) : 0 ≤ i ∧ i < (l.length : Int) ∧ l[i.toNat]? = some x := by
  unfold rd at h; split at h
  · have := (List.getElem?_eq_some_iff.1 h).1
    exact ⟨by assumption, by omega, h⟩
  · cases h
theorem rd_get {f : α → PV} {l : List α} {i : Int} {x : α} (h : l[i.toNat]? = some x) : (l.map f).getD i.toNat .undef = f x := by
  simp [List.getD, h]
theorem rd_more {f : α → PV} {l : List α} {i : Int} {x : α} (h : l[i.toNat]? = some x) : i.toNat < l.length ∧ ¬ l.map f = [] := by
  have := (List.getElem?_eq_some_iff.1 h).1
  refine ⟨this, fun h0 => ?_⟩
  have h1 : l = [] := by simpa using h0
  subst h1
  simp at this
theorem sl_some {l r : List α} {a b : Int} (h : sl l a b = some r) : (0 ≤ a ∧ a ≤ b ∧ b ≤ (l.length : Int)) ∧ (l.take b.toNat).drop a.toNat = r := by
  unfold sl at h; split at h
  · exact ⟨by assumption, by simpa using h⟩
  · cases h
theorem sl_le {l : List α} {a b : Int} (h : 0 ≤ a ∧ a ≤ b ∧ b ≤ (l.length : Int)) : b.toNat ≤ l.length := by omega
theorem take_map_len {f : α → PV} {l : List α} : (l.map f).take l.length = l.map f := by rw [List.take_of_length_le (by simp)]
theorem take_lit {f : α → PV} {l : List α} {n : Nat} (h : l.length = n) : (l.map f).take n = l.map f := by subst h; exact take_map_len
theorem le_lit {l : List α} {n z m : Nat} (e : l.length = n) (h : n * z ≤ m) : l.length * z ≤ m := by rw [e]; exact h
theorem sl_map {f : α → PV} {l r : List α} {a b : Nat} (h : (l.take b).drop a = r) : ((l.map f).take b).drop a = r.map f := by
  rw [← h, List.map_drop, List.map_take]
theorem sl_map0 {f : α → PV} {l r : List α} {b : Nat} (h : (l.take b).drop 0 = r) : (l.map f).take b = r.map f := by
  rw [← h, List.drop_zero, List.map_take]
theorem sl_map1 {f : α → PV} {l r : List α} {a : Nat} (h : (l.take l.length).drop a = r) : (l.map f).drop a = r.map f := by
  rw [← h, List.take_length, List.map_drop]
theorem sl_str0 {l r : Str} {b : Nat} (h : (l.take b).drop 0 = r) : l.take b = r := by simpa using h
theorem sl_str1 {l r : Str} {a : Nat} (h : (l.take l.length).drop a = r) : l.drop a = r := by simpa using h
theorem app_some {z : Nat} {l ys r : List α} (h : app z l ys = some r) : (l.length + ys.length) * z ≤ 140737488355328 ∧ l ++ ys = r := by
  unfold app at h; split at h
  · exact ⟨by assumption, by simpa using h⟩
  · cases h
theorem app_map {f : α → PV} {l ys r : List α} (h : l ++ ys = r) : l.map f ++ ys.map f = r.map f := by
  rw [← h, List.map_append]
theorem app_len {l ys r : List α} (h : l ++ ys = r) : l.length + ys.length = r.length := by rw [← h, List.length_append]
theorem wr_some {l r : List α} {i : Int} {x : α} (h : wr l i x = some r) : (0 ≤ i ∧ i < (l.length : Int)) ∧ l.set i.toNat x = r := by
  unfold wr at h; split at h
  · exact ⟨by assumption, by simpa using h⟩
  · cases h
theorem wr_len {l r : List α} {i : Nat} {x : α} (h : l.set i x = r) : l.length = r.length := by rw [← h, List.length_set]
theorem wr_map {f : α → PV} {l r : List α} {i : Nat} {x : α} (h : l.set i x = r) : (l.map f).set i (f x) = r.map f := by
  rw [← h, List.map_set]
theorem lim_some {g : Nat → Option α} {r : α} (h : lim g = some r) : ∃ k, g k = some r := by
  unfold lim at h; split at h
  · rename_i hh
    obtain ⟨K, hK⟩ := hh.choose_spec
    have := hK K (Nat.le_refl _)
    cases h
    exact ⟨K, this⟩
  · cases h
theorem lim_of {g : Nat → Option α} {r : α} (K : Nat) (h : ∀ k, K ≤ k → g k = some r) : lim g = some r := by
  have hh : ∃ r, ∃ K, ∀ k, K ≤ k → g k = some r := ⟨r, K, h⟩
  unfold lim
  rw [dif_pos hh]
  obtain ⟨K', hK'⟩ := hh.choose_spec
  have h1 := hK' (max K K') (Nat.le_max_right _ _)
  rw [h _ (Nat.le_max_left _ _)] at h1
  exact h1.symm
end

/-- The code points of a text. -/
def runes (s : Str) : List Int := (Conv.runesFrom ⟨s.toArray⟩ s.length 0 #[]).toList.map fun | .int _ n => n | _ => 0
abbrev runeAt (s : Str) (pos : Nat) : Int := (Utf8.decode ⟨s.toArray⟩ pos).1
abbrev runeW (s : Str) (pos : Nat) : Nat := (Utf8.decode ⟨s.toArray⟩ pos).2
def rune1 (n : Int) : Str := (Utf8.encode n).data.toList
def runesStr (l : List Int) : Str := l.flatMap rune1

theorem runesFrom_all (b : ByteArray) : ∀ (n i : Nat) (acc : Array Value), (∀ v ∈ acc.toList, ∃ k, v = .int .i32 k) → ∀ v ∈ (Conv.runesFrom b n i acc).toList, ∃ k, v = .int .i32 k
  | 0, i, acc, h => h
  | n + 1, i, acc, h => by
    unfold Conv.runesFrom
    split
    · refine runesFrom_all b n _ _ ?_
      intro v hv
      simp only [Array.toList_push, List.mem_append, List.mem_singleton] at hv
      rcases hv with hv | rfl
      · exact h v hv
      · exact ⟨_, rfl⟩
    · exact h
theorem runesOf_eq (s : Str) : runesOf s = (runes s).map (PV.int .i32) := by
  unfold runesOf runes
  rw [List.map_map]
  refine List.map_congr_left fun v hv => ?_
  obtain ⟨k, rfl⟩ := runesFrom_all _ _ _ _ (by simp) v hv
  rfl
theorem runeBytes_map : ∀ l : List Int, runeBytes (l.map (PV.int .i32)) = some (runesStr l)
  | [] => rfl
  | n :: l => by
    simp only [List.map_cons, runeBytes, runeBytes_map l]
    rfl

/-- The text of bytes. -/
def strB (l : List Int) : Str := l.map fun n => UInt8.ofNat n.toNat
theorem byteBytes_map : ∀ l : List Int, byteBytes (l.map (PV.int .u8)) = some (strB l)
  | [] => rfl
  | n :: l => by
    simp only [List.map_cons, byteBytes, byteBytes_map l]
    rfl

theorem step_call2 {P : Program} {q : Bool} {nm : Names} {ops : List Oper} {r : List Oper} {i : Nat} {s : St} {dst : Option Nat} {k g f : Nat} {args args' : List PV} {v : PV} {ks : List Nat} {K : St → Prop} (hc : PC P f args' v) (hw : WkL (args.map (pur1 s.sto.find)) args' ∧ pureL (args.map (pur1 s.sto.find)) = true) (hk : args.flatMap frz1 = ks)
    (hq : (!q || (ks.isEmpty && notOwn v)) = true) (h : opsWp P q nm ops r (i + 1) ((({ s with sto := Sto.frz ks s.sto } : St).back dst k g v).actq q nm.nf dst) K) : stepWp P q nm ops r i s dst k g (.call f args) K :=
  step_call hc rfl hw.1 hw.2 hk hq h

/-! ### Parts of code, by what they come to -/
def FragQ (N : St → Prop) (E : Nat → St → Prop) (Rt : St → Prop) : AExit → St → Prop
  | .normal, s => N s
  | .exit i, s => E i s
  | .ret, s => Rt s
  | .goto _, _ => False

theorem fragN {N : St → Prop} {E : Nat → St → Prop} {Rt : St → Prop} {s : St} (h : N s) : FragQ N E Rt .normal s := h
theorem fragE {N : St → Prop} {E : Nat → St → Prop} {Rt : St → Prop} {s : St} {i : Nat} (h : E i s) : FragQ N E Rt (.exit i) s := h
theorem fragR {N : St → Prop} {E : Nat → St → Prop} {Rt : St → Prop} {s : St} (h : Rt s) : FragQ N E Rt .ret s := h

theorem awp_frag {X : Cx} {c : Code} {K : St → Prop} {Q : AExit → St → Prop} {s : St} (N : St → Prop) (E : Nat → St → Prop) (Rt : St → Prop) (h : awp X c (FragQ (CutTo N) E Rt) s)
    (hN : ∀ s, N s → K s) (hE : ∀ i s, E i s → Q (.exit i) s) (hR : ∀ s, Rt s → Q .ret s) : awp X c (AExit.then (CutTo K) Q) s :=
  awp_mono c s (fun e s h => match e, h with
    | .normal, ⟨t, hl, h⟩ => ⟨t, hl, hN t h⟩
    | .exit i, h => hE i s h
    | .ret, h => hR s h
    | .goto _, h => h.elim) h
/-- The same at the end of a piece of code. -/
theorem awp_fragE {X : Cx} {c : Code} {Q : AExit → St → Prop} {s : St} (N : St → Prop) (E : Nat → St → Prop) (Rt : St → Prop) (h : awp X c (FragQ N E Rt) s)
    (hN : ∀ s, N s → Q .normal s) (hE : ∀ i s, E i s → Q (.exit i) s) (hR : ∀ s, Rt s → Q .ret s) : awp X c Q s :=
  awp_mono c s (fun e s h => match e, h with
    | .normal, h => hN s h
    | .exit i, h => hE i s h
    | .ret, h => hR s h
    | .goto _, h => h.elim) h

theorem cut_less {K : St → Prop} {s t : St} (hl : Told s t) (h : CutTo K t) : CutTo K s := by
  obtain ⟨u, h1, h2⟩ := h
  exact ⟨u, .trans hl h1, h2⟩
theorem cut_fact {K : St → Prop} {s : St} (x : FAct) (h : CutTo K (s.fact x)) : CutTo K s := by
  obtain ⟨u, h1, h2⟩ := h
  exact ⟨u, .trans (.fact s x) h1, h2⟩
theorem frag_less {N : St → Prop} {E : Nat → St → Prop} {Rt : St → Prop} {s t : St} (hl : Told s t) (h : FragQ (CutTo N) E Rt .normal t) : FragQ (CutTo N) E Rt .normal s := cut_less (K := N) hl h

theorem st_eq {A : St → Prop} {s t : St} (h : A t) (he : s = t) : A s := he ▸ h

theorem awp_eq {X : Cx} {c : Code} {Q : AExit → St → Prop} {s t : St} (h : awp X c Q t) (he : s = t) : awp X c Q s := he ▸ h

theorem awp_assoc {X : Cx} {a b c : Code} {Q : AExit → St → Prop} {s : St} (h : awp X (.seq (.seq a b) c) Q s) : awp X (.seq a (.seq b c)) Q s := by
  refine awp_mono a s ?_ h
  intro e s h
  cases e <;> first
    | exact h
    | (obtain ⟨t, hl, h⟩ := h; exact ⟨t, hl, h⟩)

theorem awp_loopI {X : Cx} {c : Code} {Q : AExit → St → Prop} {s : St} (l ks : List Nat) (h : ∀ I : St → Prop, (∀ s, awp X c (AExit.then (CutTo I) Q) s → I s) → I (s.cut l ks)) : awp X (.loop c) Q s := ⟨_, .less (less_cut s l ks), h⟩
theorem awp_loopJ {X : Cx} {c : Code} {Q : AExit → St → Prop} {s : St} (h : ∀ I : St → Prop, (∀ s, awp X c (AExit.then (CutTo I) Q) s → I s) → I s) : awp X (.loop c) Q s := ⟨_, .less (.refl s), h⟩

theorem walk_nil {α : Type} {l pre : List α} {i : Int} (h : l = pre ++ []) (hi : i = (pre.length : Int)) : decide (i < (l.length : Int)) = false := by
  subst hi h; simp
theorem walk_cons {α : Type} {f : α → PV} {l pre suf : List α} {x : α} {i : Int} (h : l = pre ++ x :: suf) (hi : i = (pre.length : Int)) (hl : l.length ≤ 9223372036854775807) :
    0 ≤ i ∧ i < (l.length : Int) ∧ (l.map f).getD i.toNat .undef = f x ∧ IntKind.wrap .i64 (i + 1) = i + 1 ∧ decide (i < (l.length : Int)) = true := by
  subst hi h
  simp only [List.length_append, List.length_cons] at hl ⊢
  refine ⟨by omega, by omega, by simp [List.getD], wrapI (by omega), by simp; omega⟩

/-- What is handed back. -/
theorem ret_pure2 {P : Program} {rs : List RV} {r : PV} {s : St} (h : match rvsRes P s rs with
    | some vs => Wk (pur2 s.sto.find (tupOf vs)) r
    | none => False) (h3 : r.pure = true) : bodyR P rs r [] .ret s := by
  split at h
  · rename_i vs hv; exact body_ret hv (.inl ⟨h, h3⟩)
  · exact h.elim
theorem ret_pure {P : Program} {rs : List RV} {r v : PV} {s : St} {vs : List PV} (hv : rvsRes P s rs = some vs) (h1 : pur2 s.sto.find (tupOf vs) = v) (h2 : Wk v r) (h3 : r.pure = true) : bodyR P rs r [] .ret s :=
  body_ret hv (.inl ⟨h1 ▸ h2, h3⟩)
theorem ret_own {P : Program} {t k g n sz : Nat} {xs ys : List PV} {s : St} (h : s.env.get t = .row k g n) (hk : (decide (k < 1000)) = true) (hf : s.sto.find k = some (g, .row false sz xs)) (hn : n = xs.length) (hx : xs = ys) : bodyR P [.tmp t] (.own sz ys) [] .ret s := by
  subst hn hx
  exact body_ret (vs := [.row k g xs.length]) (by simp only [rvsRes, rvRes, h]) (.inr (.inl ⟨k, g, sz, xs, rfl, of_decide_eq_true hk, hf, rfl⟩))
theorem ret_ref {P : Program} {t k g ty : Nat} {cs ys : List PV} {s : St} (h : s.env.get t = .box k g 0) (hk : (decide (k < 1000)) = true) (hf : s.sto.find k = some (g, .var ty cs)) (hp : pureL cs = true) (hx : cs = ys) : bodyR P [.tmp t] (.ref ys) [] .ret s := by
  subst hx
  exact body_ret (vs := [.box k g 0]) (by simp only [rvsRes, rvRes, h]) (.inr (.inr (.inr (.inl ⟨k, g, ty, cs, rfl, of_decide_eq_true hk, hf, hp, rfl⟩))))
/-- The bits that two numbers have in common. -/
abbrev and64 (x y : Int) : Int := IntKind.i64.wrap ((BitVec.ofInt IntKind.i64.bits x &&& BitVec.ofInt IntKind.i64.bits y).toNat : Int)
theorem ret_ownV {P : Program} {t k g ty n gr kr sz : Nat} {pre post xs : List PV} {r : PV} {s : St} (h : s.env.get t = .box k g 0) (hk : (decide (k < 1000)) = true) (hk' : (decide (kr < 1000)) = true) (hne : k ≠ kr) (hf : s.sto.find k = some (g, .var ty (pre ++ .row kr gr n :: post)))
    (hf' : s.sto.find kr = some (gr, .row false sz xs)) (hp : pureL pre = true) (hp' : pureL post = true) (hx : n = xs.length ∧ .ownV ty pre sz xs post = r) : bodyR P [.tmp t] r [] .ret s := by
  obtain ⟨rfl, rfl⟩ := hx
  exact body_ret (vs := [.box k g 0]) (by simp only [rvsRes, rvRes, h]) (.inr (.inr (.inr (.inr ⟨k, g, ty, pre, post, kr, gr, sz, xs, rfl, of_decide_eq_true hk, of_decide_eq_true hk', hne, hf, hf', hp, hp', rfl⟩))))
theorem ret_own_nil {P : Program} {t sz : Nat} {s : St} (h : s.env.get t = .nilS) : bodyR P [.tmp t] (.own sz []) [] .ret s :=
  body_ret (vs := [.nilS]) (by simp only [rvsRes, rvRes, h]) (.inr (.inr (.inl ⟨sz, rfl, rfl⟩)))
/-! ### Calls of what writes behind keys -/
abbrev pvB (b : UInt8) : PV := .int .u8 b.toNat

def stampsOf (sto : Sto) : List Nat → List (Nat × Nat)
  | [] => []
  | k :: ks => (k, endKs.stampOf (sto.find k)) :: stampsOf sto ks
theorem stamps_fst (sto : Sto) : ∀ kl : List Nat, (stampsOf sto kl).map (·.1) = kl
  | [] => rfl
  | k :: ks => by simp only [stampsOf, List.map_cons, stamps_fst sto ks]

theorem step_callC {P : Program} {nm : Names} {ops : List Oper} {r : List Oper} {i : Nat} {s : St} {dst : Option Nat} {k g f : Nat} {args args' : List PV} {v : PV} {es es' : List Ent} {K : St → Prop} (kl : List Nat) (hn : kl.Nodup) (hc : BC P f args' es v es')
    (hf : findAll (keyAt (stampsOf s.sto kl)) (stampsOf s.sto kl).length s.sto (stampsOf s.sto kl) es ∧ extOkL (stampsOf s.sto kl).length args' = true ∧ WkL args (instL (keyAt (stampsOf s.sto kl)) args')) (hm : (notOwn v || !anyMoves es') = true)
    (h : opsWp P false nm ops r (i + 1) ((({ s with sto := setAll s.sto (newKs g (stampsOf s.sto kl) es') (es'.map (Ent.inst (keyAt (newKs g (stampsOf s.sto kl) es')))) } : St).back dst k g v).actq false nm.nf dst) K) : stepWp P false nm ops r i s dst k g (.call f args) K :=
  step_callB (stampsOf s.sto kl) hc hf.1 (by rw [stamps_fst]; exact hn) hf.2.1 hf.2.2 hm h

theorem step_callD {P : Program} {q : Bool} {nm : Names} {ops : List Oper} {r : List Oper} {i : Nat} {s : St} {dst : Option Nat} {k g f : Nat} {args args' : List PV} {v : PV} {es es' : List Ent} {fp : List Nat} {K : St → Prop} (kl : List Nat) (hn : kl.Nodup) (hfp : ∀ x ∈ kl, x ∈ fp) (hc : BC P f args' es v es')
    (hf : findAll (keyAt (stampsOf s.sto kl)) (stampsOf s.sto kl).length s.sto (stampsOf s.sto kl) es ∧ extOkL (stampsOf s.sto kl).length args' = true ∧ WkL args (instL (keyAt (stampsOf s.sto kl)) args')) (hm : ((notOwn v || !anyMoves es') && notV v) = true)
    (h : opsWp P q nm ops r (i + 1) ((({ s with sto := setAll s.sto (newKs g (stampsOf s.sto kl) es') (es'.map (Ent.inst (keyAt (newKs g (stampsOf s.sto kl) es')))) } : St).back dst k g v).actq q nm.nf dst) K) : stepQ P q nm ops r i s dst k g (some fp) (.call f args) K :=
  step_callQ (stampsOf s.sto kl) (fun x hx => hfp x.1 (by have h9 : x.1 ∈ (stampsOf s.sto kl).map (·.1) := List.mem_map.2 ⟨x, hx, rfl⟩; rwa [stamps_fst] at h9)) hc hf.1 (by rw [stamps_fst]; exact hn) hf.2.1 hf.2.2 hm h

theorem ret_pureB {P : Program} {rs : List RV} {r : PV} {s : St} {es' : List Ent} (h : match rvsRes P s rs with
    | some vs => Wk (pur2 s.sto.find (tupOf vs)) r
    | none => False) (h3 : r.pure = true) (he : entsOk (keyAt (endKs s.sto 0 es')) es'.length s.sto 0 (endKs s.sto 0 es') es') : bodyR P rs r es' .ret s := by
  split at h
  · rename_i vs hv; exact body_retB hv (.inl ⟨h, h3⟩) he
  · exact h.elim
theorem opd_call0 {f : Operand} {ts : Array Nat} : (Op.call { callee := .value f, args := #[], argTypes := ts }).operands.toList = [f] := rfl
theorem opd_call1 {f x : Operand} {ts : Array Nat} : (Op.call { callee := .value f, args := #[x], argTypes := ts }).operands.toList = [f, x] := rfl
theorem opd_call2 {f x y : Operand} {ts : Array Nat} : (Op.call { callee := .value f, args := #[x, y], argTypes := ts }).operands.toList = [f, x, y] := rfl
theorem opd_call3 {f x y z : Operand} {ts : Array Nat} : (Op.call { callee := .value f, args := #[x, y, z], argTypes := ts }).operands.toList = [f, x, y, z] := rfl
theorem opd_call4 {f x y z u : Operand} {ts : Array Nat} : (Op.call { callee := .value f, args := #[x, y, z, u], argTypes := ts }).operands.toList = [f, x, y, z, u] := rfl
theorem opd_nilCheck {x : Operand} : (Op.nilCheck x).operands.toList = [x] := rfl
attribute [go_sem] stampsOf opd_call0 opd_call1 opd_call2 opd_call3 opd_call4 opd_nilCheck
attribute [go_sem ↓] reduceIte
attribute [go_sem] reduceCtorEq Nat.reduceEqDiff Nat.reduceAdd Nat.reduceMul Nat.reduceSub Nat.reduceLT Nat.reduceLeDiff Nat.reducePow Nat.reduceBEq Nat.reduceBNe Int.reduceNeg Int.reduceBEq Int.reduceBNe Int.reduceAdd Int.reduceSub Int.reduceMul Int.reduceLT Int.reduceLE Int.reduceToNat Int.reduceEq Int.reduceNe List.take_length take_map_len runesOf_eq runeBytes_map byteBytes_map

/-! ### Steps that are taken often, in short -/
section
variable {K : St → Prop} {Q : AExit → St → Prop} {s : St} {G : Prop}
theorem i_then_n (f : G → K s) : G → AExit.then K Q .normal s := f
theorem i_then_r (f : G → Q .ret s) : G → AExit.then K Q .ret s := f
theorem i_then_e {id : Nat} (f : G → Q (.exit id) s) : G → AExit.then K Q (.exit id) s := f
theorem i_block_n {id : Nat} (f : G → Q .normal s) : G → AExit.inBlock id Q .normal s := f
theorem i_block_r {id : Nat} (f : G → Q .ret s) : G → AExit.inBlock id Q .ret s := f
theorem i_exit_here {id : Nat} (f : G → Q .normal s) : G → AExit.inBlock id Q (.exit id) s := fun g => exit_here (f g)
theorem i_exit_on {id id' : Nat} (hn : (id' == id) = false) (f : G → Q (.exit id') s) : G → AExit.inBlock id Q (.exit id') s := fun g => exit_on hn (f g)
theorem i_scope_n (f : G → Q .normal s) : G → AExit.noGoto Q .normal s := f
theorem i_scope_r (f : G → Q .ret s) : G → AExit.noGoto Q .ret s := f
theorem i_scope_e {id : Nat} (f : G → Q (.exit id) s) : G → AExit.noGoto Q (.exit id) s := f
theorem i_cut {X : Cx} {c : Code} (f : G → awp X c Q s) : G → CutTo (awp X c Q) s := fun g => cut_awp (f g)
end
/-- On through what only hands on. -/
theorem nmx {A G : Prop} (h : G) (t : G → A := by (repeat (with_reducible first | apply i_then_n | apply i_then_r | apply i_then_e | apply i_block_n | apply i_block_r | apply i_exit_here | apply i_exit_on rfl | apply i_scope_n | apply i_scope_r | apply i_scope_e | apply i_cut)); exact id) : A := t h
theorem nmy {A G : Prop} (h : G) (t : G → A := by (repeat (with_reducible first | apply i_then_n | apply i_then_r | apply i_then_e | apply i_block_n | apply i_block_r | apply i_exit_here | apply i_exit_on rfl | apply i_scope_n | apply i_scope_r | apply i_scope_e)); exact id) : A := t h
/-- What is wanted beside. -/
theorem sd {p q : Prop} (h : q) (hp : p := by first | assumption | (try simp only [List.length_append, List.length_cons, List.length_nil] at *; omega)) : p ∧ q := ⟨hp, h⟩
theorem wkl {G : Prop} (t : G := by (repeat (first | exact WkL.refl _ | exact Wk.refl _ | exact Wk.nil _ | refine WkL.cons _ _ _ _ ?_ ?_ | exact WkL.nil | refine Wk.agg _ _ ?_ | refine Wk.tup _ _ ?_))) : G := t
theorem wkb {G : Prop} (t : G := by (repeat (with_reducible first | exact trivial | exact rfl | exact WkL.refl _ | exact Wk.refl _ | exact Wk.nil _ | refine And.intro ?_ ?_ | refine WkL.cons _ _ _ _ ?_ ?_ | exact WkL.nil | refine Wk.agg _ _ ?_ | refine Wk.tup _ _ ?_))) : G := t
theorem wkw {G : Prop} (t : G := by (repeat (first | exact Wk.refl _ | exact WkL.refl _ | exact Wk.nil _ | refine Wk.agg _ _ ?_ | refine Wk.tup _ _ ?_ | refine WkL.cons _ _ _ _ ?_ ?_ | exact WkL.nil))) : G := t
theorem ret_p2 {P : Program} {rs : List RV} {r : PV} {s : St} (h : match rvsRes P s rs with
    | some vs => Wk (pur2 s.sto.find (tupOf vs)) r
    | none => False := by simp only [go_sem, rvsRes, rvRes, cellRes, tupOf, pur2, List.map_cons, List.map_append, List.head?_cons]; (repeat (first | exact Wk.refl _ | exact WkL.refl _ | exact Wk.nil _ | refine Wk.agg _ _ ?_ | refine Wk.tup _ _ ?_ | refine WkL.cons _ _ _ _ ?_ ?_ | exact WkL.nil))) (h3 : r.pure = true := by rfl) : bodyR P rs r [] .ret s := ret_pure2 h h3

end Go.Proofs.YtclohbgnaopjfaaGreatDoor
