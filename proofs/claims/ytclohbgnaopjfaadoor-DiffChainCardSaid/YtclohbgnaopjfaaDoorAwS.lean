/- Texts of the proof of diffChainCard -/
import Derived.Test.YtclohbgnaopjfaaDoorAwR
namespace Go.Proofs.YtclohbgnaopjfaaDoor
set_option linter.unusedSimpArgs false
set_option linter.unusedVariables false
open Go Go.WideShapes Go.ChangeShapes Go.RowKit Go.Deep
def alu (P : Program) : List Nat → List PV → Prop
 | [], [] => True
 | t :: ts, p :: ps => (∃ cs, p = xO P t cs ∧ ZW P t cs) ∧ alu P ts ps
 | _, _ => False
section
variable {H : Type} {enc : TypeId × Value → H} {P : Program} {W : World}
theorem atZ {μ : DataW H → Nat} (hμ : Mu μ) {ts : List Nat} (hts : aq1 P ts = true) {base : Nat} {t : Nat} {v : Value} {d : DataW H} {ps : List MemPlace} (htm : t ∈ ts) (hval : Value.okWide P W .any base t v) (h : DataW.Trod enc P W 0 (fun _ => true) true t v d ps) :
  ∃ cs, Rep (Zx W) Lay.none v (xO P t cs) ∧ ZW P t cs ∧ pvW (xO P t cs) ≤ μ d := by
 obtain ⟨fuel, hf⟩ := h
 obtain ⟨pcs, h1, h2, h3, h4⟩ := aje hμ hts fuel t _ _ htm hf
 refine ⟨pcs, ?_, h2, by rw [h2.weight]; exact h4⟩
 cases h2 with
 | bool b ht =>
  obtain ⟨b', rfl⟩ := okWide_bool ht hval
  have h1' : zI (Zx W) Lay.none [Value.bool b'] [.bool b] := h1
  have hh : Rep _ _ _ _ := match h1' with | .cons _ _ _ _ _ h _ => h
  simpa [xO, Xb, ht] using hh
 | int k n ht hw =>
  obtain ⟨b', rfl⟩ := okWide_int ht hval
  have h1' : zI (Zx W) Lay.none [Value.int k b'] [.int k n] := h1
  have hh : Rep _ _ _ _ := match h1' with | .cons _ _ _ _ _ h _ => h
  simpa [xO, Xb, ht] using hh
 | str s ht hl =>
  obtain ⟨b', rfl⟩ := okWide_string ht hval
  have h1' : zI (Zx W) Lay.none [Value.string b'] [.str s] := h1
  have hh : Rep _ _ _ _ := match h1' with | .cons _ _ _ _ _ h _ => h
  simpa [xO, Xb, ht] using hh
 | slice e css ht hx hl =>
  obtain ⟨a, len, cap, rfl⟩ := okWide_slice ht hval
  have h1' : zI (Zx W) Lay.none [Value.slice a len cap] [.list (P.cellsOf e) (css.map (xO P e))] := h1
  have hh : Rep _ _ _ _ := match h1' with | .cons _ _ _ _ _ h _ => h
  simpa [xO, Xb, ht] using hh
 | struct fs cs ht hl hf =>
  unfold Value.okWide at hval
  rw [ht] at hval
  obtain ⟨arr, rfl, _, _⟩ := hval
  have h1' : zI (Zx W) Lay.none arr.toList pcs := h1
  have := Rep.agg Lay.none arr.toList pcs h1'
  simpa [xO, Xb, ht] using this
theorem aqJ {μ : DataW H → Nat} (hμ : Mu μ) {ts : List Nat} (hts : aq1 P ts = true) {base : Nat} : ∀ (ps : List Nat) (vs : List Value) (ds : List (DataW H)) (q : List MemPlace), (∀ t ∈ ps, t ∈ ts) → (∀ (j : Nat) t v, ps[j]? = some t → vs[j]? = some v → Value.okWide P W .any base t v) →
  DataW.TrodAll enc P W 0 (fun _ => true) true ps vs ds q → ∃ pvs, zI (Zx W) Lay.none vs pvs ∧ alu P ps pvs ∧ Zo pvs ≤ (ds.map μ).sum
 | [], vs, ds, q, _, _, h => by
  obtain ⟨rfl, rfl, rfl⟩ := trodAll_nil h
  exact ⟨[], .nil _, trivial, by simp [Zo]⟩
 | t :: ps, vs, ds, q, hm, hv, h => by
  obtain ⟨v, vs', d, ds', a, b, rfl, rfl, rfl, h1, h2⟩ := trodAll_cons h
  obtain ⟨cs, g1, g2, g5⟩ := atZ hμ hts (hm t (by simp)) (hv 0 t v rfl rfl) h1
  obtain ⟨pvs, g3, g4, g6⟩ := aqJ hμ hts ps vs' ds' b (fun t ht => hm t (by simp [ht])) (fun j t v h1 h2 => hv (j + 1) t v h1 h2) h2
  exact ⟨_ :: pvs, .cons _ _ _ _ _ g1 g3, ⟨⟨cs, rfl, g2⟩, g4⟩, by simp only [Zo, List.map_cons, List.sum_cons]; omega⟩
theorem aj0 (hl : laidOutB P = true) {W' : World} (hb : Below W.heap.size W W') {sp : Nat → Bool} : ∀ (ps : List Nat) (vs : List Value) (ds : List (DataW H)) (q : List MemPlace), (∀ t ∈ ps, P.readableRec t = true ∧ t < P.types.size) →
  (∀ x ∈ q, x.block < W.heap.size) → (∀ x ∈ q, sp x.block = true) → DataW.TrodAll enc P W 0 (fun _ => true) true ps vs ds q → DataW.TrodAll enc P W' 0 sp true ps vs ds q
 | [], vs, ds, q, _, _, _, h => by
  obtain ⟨rfl, rfl, rfl⟩ := trodAll_nil h
  exact trodAll_mk0
 | t :: ps, vs, ds, q, hm, hlt, hsp, h => by
  obtain ⟨v, vs', d, ds', a, b, rfl, rfl, rfl, h1, h2⟩ := trodAll_cons h
  refine ⟨a, b, WideElems.Trod_stays hl (hm t (by simp)).1 (hm t (by simp)).2 h1 (fun x hx => hb.same (hlt x (by simp [hx]))) (fun x hx => hsp x (by simp [hx])), ?_, rfl⟩
  exact aj0 hl hb ps vs' ds' b (fun t ht => hm t (by simp [ht])) (fun x hx => hlt x (by simp [hx])) (fun x hx => hsp x (by simp [hx])) h2
theorem agl : ∀ {ts : List Nat} {vs : List Value} {ds : List (DataW H)} {ps : List MemPlace} {sp : Nat → Bool} {hd : Bool} {base : Nat}, DataW.TrodAll enc P W base sp hd ts vs ds ps → ds.length = ts.length
 | [], _, _, _, _, _, _, h => by
  obtain ⟨rfl, rfl, rfl⟩ := trodAll_nil h
  rfl
 | t :: ts, _, _, _, _, _, _, h => by
  obtain ⟨v, vs', d, ds', a, b, rfl, rfl, rfl, h1, h2⟩ := trodAll_cons h
  simp [agl h2]
theorem avY {v : Value} {H' : Imm} {w' : World} {n : Nat} (h : acV H' w' n v (.bool true)) : v = .bool true := by
 have h' : Rep H' Lay.none v (.bool true) := h
 cases h'
 rfl
theorem awg {fn : Func} {s : ChangeSpec} {W' : World} {args : Array Value} {ds gs : List (DataW H)} {before : List MemPlace} {tb : Nat} (hl : laidOutB P = true) (hr : ∀ t ∈ fn.params.toList, P.readableRec t = true ∧ t < P.types.size)
  (hvars : s.vars = []) (hres : fn.resultTypes = #[tb]) (hb : P.underlying tb = some .bool) (hspec : ∀ ds : List (DataW H), ds.length = fn.params.toList.length → s.fn H ds = { results := [.lit (.bool true)], args := ds })
  (hW : DataW.Whole enc P fn.params.toList s.vars false W args.toList ds gs before) (hbel : Below W.heap.size W W') : s.post enc P fn false true false false W args (.bool true) W' := by
 have hW' := hW
 have hlt := hW.lt
 obtain ⟨p, q, hA, hV, rfl, hz, hn⟩ := hW
 rw [hvars] at hV
 obtain ⟨rfl, rfl⟩ := trodVars_none hV
 have hlen := agl hA
 have hs : s.fn H (ds ++ []) = { results := [.lit (.bool true)], args := ds } := by rw [List.append_nil]; exact hspec ds hlen
 have hvars' : ∀ (w : World) (sp : Nat → Bool), DataW.TrodVars enc P w sp s.vars (s.fn H (ds ++ [])).vars [] := fun w sp => by
  rw [hs, hvars]
  exact rfl
 have hargs : ∀ sp : Nat → Bool, (∀ x ∈ p ++ [], sp x.block = true) → DataW.TrodAll enc P W' 0 sp true fn.params.toList args.toList (s.fn H (ds ++ [])).args p := fun sp hsp => by
  rw [hs]
  exact aj0 hl hbel _ _ _ _ hr (fun x hx => hlt x (by simp [hx])) (fun x hx => hsp x (by simp [hx])) hA
 have hresu : ∀ (b : Nat) (sp : Nat → Bool) (hd : Bool), DataW.TrodAll enc P W' b sp hd fn.resultTypes.toList ((Value.bool true).resultList fn.resultTypes.size) (s.fn H (ds ++ [])).results [] := fun b sp hd => by
  rw [hs, hres]
  exact trodAll_mk1 (shut_bool hb true)
 have hold : ∀ x ∈ p ++ [], (fun b => decide (b < W.heap.size)) x.block = true := fun x hx => by simpa using hlt x hx
 refine ⟨ds, [], p ++ [], [], p, [], hW', hresu _ _ _, hargs _ hold, hvars' _ _, hbel.frame _, fun _ => ?_⟩
 refine ⟨?_, _, _, ([] ++ p) ++ [], ⟨[] ++ p, [], trodAll_append (hargs _ (fun _ _ => rfl)) (hresu _ _ _), hvars' _ _, rfl, ?_, ?_⟩, ?_⟩
 ·exact ok_one hres rfl (okWide_bool_mk hb true)
 ·intro b off hp
  have hp' : MemPlace.cell b off ∈ p ++ [] := by simpa using hp
  rw [hbel.frozen (hlt _ hp')]
  exact hz b off hp'
 ·intro ha
  cases ha
 ·intro x hx _
  simpa using hx
end
section
variable {P : Program} {t : Nat} {cs : List PV}
theorem ZW.ahc {k : IntKind} (ht : P.underlying t = some (.int k)) (h : ZW P t cs) : ∃ n, cs = [.int k n] ∧ (Lit.int k n).wf = true := by
 cases h <;> rename_i h' <;> simp_all
theorem ZW.aro {e : Nat} (ht : P.underlying t = some (.slice e)) (h : ZW P t cs) : ∃ css : List (List PV), cs = [.list (P.cellsOf e) (css.map (xO P e))] ∧ (∀ c ∈ css, ZW P e c) ∧ css.length ≤ maxLen := by
 cases h with
 | slice e' css ht' hx hl =>
  rw [ht] at ht'
  cases ht'
  exact ⟨css, rfl, hx, hl⟩
 | bool b ht' => rw [ht] at ht'; cases ht'
 | int k n ht' => rw [ht] at ht'; cases ht'
 | str s ht' => rw [ht] at ht'; cases ht'
 | struct fs cs ht' => rw [ht] at ht'; cases ht'
theorem ZW.apR {fs : Array Field} (ht : P.underlying t = some (.struct fs)) (h : ZW P t cs) : cs.length = P.cellsOf t ∧ ∀ f ∈ fs.toList, ZW P f.type ((cs.drop f.offset).take (P.cellsOf f.type)) := by
 cases h with
 | slice e' css ht' hx hl => rw [ht] at ht'; cases ht'
 | bool b ht' => rw [ht] at ht'; cases ht'
 | int k n ht' => rw [ht] at ht'; cases ht'
 | str s ht' => rw [ht] at ht'; cases ht'
 | struct fs' cs ht' hl hf =>
  rw [ht] at ht'
  cases ht'
  exact ⟨hl, hf⟩
theorem axF {α : Type} (f : α → List PV) {css : List (List PV)} (h : ∀ c ∈ css, ∃ a, c = f a) : ∃ l : List α, css = l.map f := by
 induction css with
 | nil => exact ⟨[], rfl⟩
 | cons c css ih =>
  obtain ⟨a, rfl⟩ := h c (by simp)
  obtain ⟨l, rfl⟩ := ih fun c hc => h c (by simp [hc])
  exact ⟨a :: l, rfl⟩
end
end Go.Proofs.YtclohbgnaopjfaaDoor
