/- Each operation does in a frame and a world what it does in a state without memory: slice literals and append. -/
import Derived.Test.YtlgjbmgmoaphjaaDoorAw12
namespace Go.Proofs.YtlgjbmgmoaphjaaDoor
set_option linter.unusedSimpArgs false
set_option linter.unusedVariables false
open Go

section
variable {P : Program} {B : Base} {F : Nat → Prop} {H : Imm} {L : Lay} {s : St} {a : Act} {w : World} {q : Bool} {dst : Option Nat} {k g : Nat} {K : St → Prop}

/-! ### Slice literals -/
theorem fillE_sound {size : Nat} (place : Nat → Option (Nat × Nat)) (hpl : ∀ i, place i = some (i * size, size)) : ∀ (ps : List (Nat × Value)) (qs : List (Nat × PV)) (cells : Array Value) (xs out : List PV),
    (∀ x ∈ xs, x.cells.length = size) → (∀ v ∈ cells.toList, v.oneCell' = true) → RepL H Lay.none cells.toList (xs.flatMap PV.cells) → ps.map (·.1) = qs.map (·.1) →
    (∀ (i : Nat) (x : Nat × Value) (y : Nat × PV), ps[i]? = some x → qs[i]? = some y → Rep H L x.2 y.2) → fillE size xs qs = some out →
    ∃ r : Array Value, Instr.fill place cells ps = some r ∧ (∀ x ∈ out, x.cells.length = size) ∧ (∀ v ∈ r.toList, v.oneCell' = true) ∧ RepL H Lay.none r.toList (out.flatMap PV.cells) ∧ out.length = xs.length
  | [], qs, cells, xs, out, hx, ho, hc, hm, _, h => by
    cases qs with
    | nil => simp only [fillE, Option.some.injEq] at h; subst h; exact ⟨cells, rfl, hx, ho, hc, rfl⟩
    | cons _ _ => simp at hm
  | (i, v) :: ps, qs, cells, xs, out, hx, ho, hc, hm, hv, h => by
    cases qs with
    | nil => simp at hm
    | cons y qs =>
      obtain ⟨i', p⟩ := y
      simp only [List.map_cons, List.cons.injEq] at hm
      obtain ⟨rfl, hm⟩ := hm
      simp only [fillE] at h
      split at h
      · rename_i hcond
        obtain ⟨c1, c0, c2, c3⟩ := hcond
        have hp := hv 0 (i, v) (i, p) rfl rfl
        have h0 : RepL H Lay.none v.cells.toList p.cells := (hp.pure c0).cells c1
        have h1 := hp.ones c1
        have hl0 := h0.length
        have hlc := hc.length
        rw [flat_length _ hx] at hlc
        simp only [Array.length_toList] at hl0 hlc
        have hmul : (i + 1) * size ≤ xs.length * size := Nat.mul_le_mul_right _ c3
        rw [Nat.succ_mul] at hmul
        have hnot : ¬ ((v.cells.size ≠ size || i * size + v.cells.size > cells.size) = true) := by simp; omega
        simp only [Instr.fill, hpl, hnot]
        have he : (v.cells.zipIdx.foldl (fun (cs : Array Value) (x : Value × Nat) => cs.setIfInBounds (i * size + x.2) x.1) cells).toList = cells.toList.take (i * size) ++ v.cells.toList ++ cells.toList.drop (i * size + v.cells.toList.length) := by
          rw [← Array.foldl_toList, Array.toList_zipIdx]
          simpa using foldl_set (i * size) v.cells.toList 0 cells (by simp; omega)
        have hset := repl_setCells hc h0 (i * size)
        rw [← he] at hset
        have hxi : (xs.getD i .undef).cells.length = size := by
          have : xs.getD i .undef ∈ xs := by
            rw [List.getD_eq_getElem?_getD, List.getElem?_eq_getElem c3]
            exact List.getElem_mem c3
          exact hx _ this
        have hfs := flat_set (off := 0) (us := p.cells) (x' := p) xs i hx c3 (by
          unfold setCells
          simp only [List.take_zero, List.nil_append, Nat.zero_add]
          rw [List.drop_eq_nil_of_le (by omega), List.append_nil]) (by omega)
        rw [Nat.add_zero] at hfs
        rw [← hfs] at hset
        obtain ⟨r, r1, r2, r3, r4, r5⟩ := fillE_sound place hpl ps qs _ (xs.set i p) out (fun z hz => by
            rcases List.mem_or_eq_of_mem_set hz with hz | rfl
            · exact hx z hz
            · exact c2) (fun z hz => by
            rw [he] at hz
            simp only [List.mem_append] at hz
            rcases hz with (hz | hz) | hz
            · exact ho z (List.mem_of_mem_take hz)
            · exact h1 z hz
            · exact ho z (List.mem_of_mem_drop hz)) hset hm (fun j x y hx hy => hv (j + 1) x y (by simpa using hx) (by simpa using hy)) h
        exact ⟨r, r1, r2, r3, r4, by rw [r5]; simp⟩
      · simp at h

theorem zeroEl_cells {ty : Ty} {z : List PV} (h : zOk ty z = true) : (zeroEl ty z).cells = z := by
  simp only [zOk, Bool.and_eq_true, beq_iff_eq, bne_iff_ne, Bool.or_eq_true] at h
  unfold zeroEl
  cases ha : ty.agg with
  | true => rfl
  | false =>
    rcases h.2 with h1 | h1
    · rw [ha] at h1; cases h1
    · match z, h1, h.1.2 with
      | [p], _, hl =>
        simp only [List.all_cons, List.all_nil, Bool.and_true] at hl
        simp only [List.headD_cons]
        cases p <;> simp_all [PV.leaf, PV.cells]

theorem replicate_flat {x : PV} {z : List PV} (h : x.cells = z) : ∀ n, (List.replicate n x).flatMap PV.cells = (List.replicate n z).flatten
  | 0 => rfl
  | n + 1 => by simp only [List.replicate_succ, List.flatMap_cons, h, List.flatten_cons, replicate_flat h n]

theorem range_mod (z : Array Value) (hz : z.size ≠ 0) : ∀ n, ((Array.range (n * z.size)).map fun i => z[i % z.size]!).toList = (List.replicate n z.toList).flatten
  | 0 => by simp
  | n + 1 => by
    have ih := range_mod z hz n
    simp only [Array.toList_map, Array.toList_range] at ih ⊢
    rw [Nat.succ_mul, List.range_add, List.map_append, ih, List.replicate_succ', List.flatten_append]
    congr 1
    simp only [List.map_map, List.flatten_cons, List.flatten_nil, List.append_nil]
    apply List.ext_getElem
    · simp
    · intro i h1 h2
      simp only [List.length_map, List.length_range] at h1
      simp only [List.getElem_map, List.getElem_range, Function.comp, Nat.mul_add_mod_self_right, Nat.mod_eq_of_lt h1, Array.getElem_toList]
      simp [h1]

theorem RepL.flatten {vs : List Value} {ps : List PV} (h : RepL H L vs ps) : ∀ n, RepL H L (List.replicate n vs).flatten (List.replicate n ps).flatten
  | 0 => .nil _
  | n + 1 => by simpa [List.replicate_succ] using h.append (h.flatten n)

theorem buildSlice_sound (hR : Rel B F H L s a w) (hF : F g) (hk : k < 1000) (hd : ∀ d, dst = some d → d < a.tmps.size) (t len : Nat) (parts : Array (Nat × Operand))
    (h : (buildSliceRes P k g t len (parts.toList.map fun p => (p.1, s.ev p.2))).wp P q s dst k g K) : Good P B F a dst g K (Instr.buildSlice t len (parts.map fun (i, x) => (i, a.eval x))) w := by
  unfold buildSliceRes at h
  split at h
  · rename_i e hkd
    have hu := run_underlying (und_slice hkd)
    split at h
    · rename_i z hz
      simp only [Res.wp] at h
      obtain ⟨⟨h1, h2⟩, h⟩ := h
      split at h
      · rename_i xs hxs
        simp only [Res.wp] at h
        have h2' := h2
        simp only [zOk, Bool.and_eq_true, beq_iff_eq, bne_iff_ne, Bool.or_eq_true] at h2'
        obtain ⟨⟨⟨hz1, hz2⟩, hz3⟩, hz4⟩ := h2'
        have hke := tyOf_known (P := P) (t := e) rfl hz2
        obtain ⟨i, d, e1, e2, e3⟩ := tyOf_facts hke
        have hsize : (tyOf P e).size = i.size := by rw [e3]
        have hzero : (tyOf P e).zero = i.zero.map fun z => z.cells.toList.map ofCell := by rw [e3]
        rw [hzero] at hz
        cases hzz : i.zero with
        | none => simp [hzz] at hz
        | some zv =>
          simp only [hzz, Option.map_some, Option.some.injEq] at hz
          have hzl : zv.cells.size = (tyOf P e).size := by
            have := congrArg List.length hz
            simp only [List.length_map, Array.length_toList] at this
            omega
          have hzr : RepL H Lay.none zv.cells.toList z := by rw [← hz]; exact RepL.map_ofCell _
          have hzc := zeroEl_cells h2
          let init : Array Value := (Array.range (len * zv.cells.size)).map fun i => zv.cells[i % zv.cells.size]!
          have hinit : init.toList = (List.replicate len zv.cells.toList).flatten := range_mod zv.cells (by omega) len
          obtain ⟨r, r1, r2, r3, r4, r5⟩ := fillE_sound (H := H) (size := (tyOf P e).size) (fun i => some (i * (tyOf P e).size, (tyOf P e).size)) (fun _ => rfl) (parts.map fun x => (x.1, a.eval x.2)).toList (parts.toList.map fun p => (p.1, s.ev p.2)) init
            (List.replicate len (zeroEl (tyOf P e) z)) xs
            (fun x hx => by rw [List.eq_of_mem_replicate hx, hzc, hz1])
            (fun v hv => by
              rw [hinit] at hv
              obtain ⟨l, hl, hvl⟩ := List.mem_flatten.1 hv
              rw [List.eq_of_mem_replicate hl] at hvl
              exact hzr.one hz3 v hvl)
            (by rw [hinit, replicate_flat hzc]; exact hzr.flatten len)
            (by simp) (fun i x y hx hy => by
              simp only [Array.toList_map, List.getElem?_map] at hx hy
              cases hp : parts.toList[i]? with
              | none => simp [hp] at hx
              | some pr =>
                simp only [hp, Option.map_some, Option.some.injEq] at hx hy
                subst hx; subst hy
                exact (hR.eval _)) hxs
          have hxl : xs.length = len := by rw [r5]; simp
          have hinit' : (Array.map (fun i => (if len * (tyOf P e).size = 0 then (#[] : Array Value) else zv.cells)[i % (if len * (tyOf P e).size = 0 then (#[] : Array Value) else zv.cells).size]!) (Array.range (len * (tyOf P e).size))) = init := by
            by_cases h0 : len * (tyOf P e).size = 0
            · simp only [h0, if_true, init, hzl]
              simp
            · simp only [h0, if_false, init, hzl]
          have hnot : ¬ (len * (tyOf P e).size > 2 ^ 24) := by omega
          have hrun : (Instr.buildSlice t len (parts.map fun x => (x.1, a.eval x.2))).run P w = .ok (.slice (some ⟨w.heap.size, 0, none⟩) len len) (w.alloc (.cells r e)) := by
            by_cases h0 : len * (tyOf P e).size = 0
            · simp only [h0, if_true] at hinit'
              rw [h0] at hnot
              simp only [Instr.buildSlice, Sem.run_bind, hu, Result.andThen_ok, run_sizeOf' hke, hnot, if_false, Sem.run_pure, h0, if_true, hinit', r1, newRow, run_newObj]
              rfl
            · simp only [h0, if_false] at hinit'
              have hzv : (zeroValue e).run P w = .ok zv w := by simp [zeroValue, typeInfo, e1, hzz]
              simp only [Instr.buildSlice, Sem.run_bind, hu, Result.andThen_ok, run_sizeOf' hke, hnot, if_false, Sem.run_pure, h0, hzv, hinit', r1, newRow, run_newObj]
              rfl
          refine good_new hR hF hd (cap := len) (sz := (tyOf P e).size) (w1 := w) (o := .cells r e) (.refl w) rfl hrun (fun L' hL hu' hat => ⟨?_, ?_⟩) h
          · refine ⟨rfl, r2, by simp [hxl], .inr ⟨w.heap.size, r.toList, [], e, rfl, fresh_none hR.agree, ?_, r3, r4, by simp [hxl]⟩⟩
            simpa using push_get w (.cells r e)
          · refine .row _ _ _ _ _ hu' ⟨_, _, rfl⟩ fun s' hs' _ => ?_
            rw [hat s' hs']
            rfl
      · simp [Res.wp] at h
    · simp [Res.wp] at h
  · simp [Res.wp] at h

/-! ### append -/
/-- What is appended: how much, and its cells, in any world with this memory. -/
structure Src (P : Program) (w : World) (v : Value) (us : List Value) (m size : Nat) : Prop where
  len : ∀ w', (Builtin.lenOf v).run P w' = .ok m w'
  cells : ∀ w' : World, w'.heap = w.heap → (Builtin.firstCells size m v).run P w' = .ok us.toArray w'
  count : us.length = m * size

theorem SrcOf.same {w w' : World} {v : Value} {vs : List Value} {n size : Nat} (h : SrcOf w v vs n size) (hw : w'.heap = w.heap) : SrcOf w' v vs n size := by
  rcases h with h | ⟨b, c, h1, h2, h3⟩
  · exact .inl h
  · exact .inr ⟨b, c, h1, h2, fun j u hj => by rw [← h3 j u hj]; simp [World.cell?, hw]⟩

theorem src_elems (hR : Rel B F H L s a w) {v : Value} {x : PV} {byt : Bool} {size : Nat} {xs : List PV} (hx : Rep H L v x) (h : elems s.sto.find byt size x = some xs) :
    ∃ us, Src P w v us xs.length size ∧ RepL H Lay.none us (xs.flatMap PV.cells) ∧ (∀ x ∈ xs, x.cells.length = size) ∧ (∀ v ∈ us, v.oneCell' = true) := by
  rcases elems_src hR hx h with ⟨b, rfl, rfl, rfl, rfl, rfl⟩ | ⟨vs, h1, h2, h3, h4, ad, c, rfl⟩
  · have hfl : ∀ l : List UInt8, (l.map fun c => PV.int .u8 c.toNat).flatMap PV.cells = l.map fun c => PV.int .u8 c.toNat := by
      intro l
      induction l with
      | nil => rfl
      | cons c l ih => simp only [List.map_cons, List.flatMap_cons, ih]; rfl
    have hrl : ∀ l : List UInt8, RepL H Lay.none (l.map fun c => Value.int .u8 c.toNat) (l.map fun c => PV.int .u8 c.toNat) := by
      intro l
      induction l with
      | nil => exact .nil _
      | cons c l ih => exact .cons _ _ _ _ _ (.int _ _ _) ih
    refine ⟨b.map fun c => Value.int .u8 c.toNat, ⟨fun w' => ?_, fun w' hw => ?_, by simp⟩, by rw [hfl]; exact hrl b, ?_, ?_⟩
    · have : (ByteArray.mk b.toArray).size = b.length := by show b.toArray.size = _; simp
      simp [Builtin.lenOf, this]
    · simp only [Builtin.firstCells, Sem.run_pure]
      congr 1
      apply Array.ext'
      simp
    · intro x hx
      obtain ⟨c, _, rfl⟩ := List.mem_map.1 hx
      rfl
    · intro x hx
      obtain ⟨c, _, rfl⟩ := List.mem_map.1 hx
      rfl
  · refine ⟨vs, ⟨fun w' => by simp [Builtin.lenOf], fun w' hw => run_firstCells (h1.same hw), ?_⟩, h2, h3, h4⟩
    rw [h2.length, flat_length _ h3]

/-- Appending to a row that is known: it has room. -/
theorem append_room {t t' e ty : Nat} (hu : P.underlying t = some (.slice e)) (hk : (tyOf P e).kd ≠ .none) (hu' : ∃ d, P.underlying t' = some d ∧ ∀ j, d ≠ .int j) (v x : Value) (ad : Option Addr) (n cap m : Nat) (us : List Value)
    (hv : v = .slice ad n cap) (hsrc : Src P w x us m (tyOf P e).size) (hroom : n + m ≤ cap) (w' : World)
    (hst : (match ad with | some b => (storeCells (b.add (n * (tyOf P e).size)) us).run P w | none => .ok () w) = .ok () w') :
    (Builtin.append_ #[t, t'] ty #[v, x]).run P w = .ok (.slice ad (n + m) cap) w' := by
  obtain ⟨d, hd1, hd2⟩ := hu'
  subst hv
  have hz : ((match d with | .int _ => true | _ => false) : Bool) = false := by
    cases d <;> first
      | rfl
      | exact (hd2 _ rfl).elim
  have hc := hsrc.cells w rfl
  cases ad with
  | none =>
    simp only at hst
    cases hst
    simp [Builtin.append_, run_underlying hu, run_underlying hd1, run_sizeOf' hk, hsrc.len, hroom, hc]
  | some b =>
    simp only at hst
    simp [Builtin.append_, run_underlying hu, run_underlying hd1, run_sizeOf' hk, hsrc.len, hroom, hc, hst]

theorem append_grow {t t' e ty : Nat} (hu : P.underlying t = some (.slice e)) (hk : (tyOf P e).kd ≠ .none) (hu' : ∃ d, P.underlying t' = some d ∧ ∀ j, d ≠ .int j) (v x : Value) (ad : Option Addr) (n cap m : Nat) (us olds : List Value)
    (hv : v = .slice ad n cap) (hsrc : Src P w x us m (tyOf P e).size) (hroom : cap < n + m) (hb : (n + m) * (tyOf P e).bytes ≤ 140737488355328) (hb0 : (tyOf P e).bytes ≠ 0)
    (hold : ∀ w' : World, w'.heap = w.heap → (Builtin.firstCells (tyOf P e).size n v).run P w' = .ok olds.toArray w') (i : TypeInfo) (z : Value) (hi : P.info? e = some i) (hz : i.zero = some z) (hby : i.bytes = (tyOf P e).bytes) :
    (Builtin.append_ #[t, t'] ty #[v, x]).run P w = .ok (.slice (some ⟨w.heap.size, 0, none⟩) (n + m) (grownCap w (n + m) cap e))
      (w.drew.alloc (.cells (olds.toArray ++ us.toArray ++ Builtin.zeroCells z.cells (grownCap w (n + m) cap e - (n + m))) e)) := by
  obtain ⟨d, hd1, hd2⟩ := hu'
  subst hv
  have hz' : ((match d with | .int _ => true | _ => false) : Bool) = false := by
    cases d <;> first
      | rfl
      | exact (hd2 _ rfl).elim
  have hc := hsrc.cells w.drew rfl
  have ho := hold w.drew rfl
  have hn : ¬ (n + m ≤ cap) := by omega
  have hle : n + m ≤ 140737488355328 := by
    have : n + m ≤ (n + m) * (tyOf P e).bytes := Nat.le_mul_of_pos_right _ (by omega)
    omega
  have h63 : ¬ (9223372036854775807 < ((n : Int) + (m : Int))) := by omega
  have h48 : ¬ (281474976710656 < Builtin.nextslicecap (n + m) cap * i.bytes) := by
    have := growslice_fits (need := n + m) (old := cap) (bytes := (tyOf P e).bytes) hroom hb
    rw [hby]; omega
  simp [Builtin.append_, run_underlying hu, run_underlying hd1, run_sizeOf' hk, hsrc.len, hn, h63, h48, typeInfo, zeroValue, hi, hz, Question.forced, hc, ho, newRow, grownCap]
  congr 2
  apply Array.ext'
  simp

end
end Go.Proofs.YtlgjbmgmoaphjaaDoor
