/- Each operation does in a frame and a world what it does in a state without memory: operators, slices, conversions. -/
import Derived.Test.YtlgjbmgmoaphjaaDoorAw7
namespace Go.Proofs.YtlgjbmgmoaphjaaDoor
set_option linter.unusedSimpArgs false
set_option linter.unusedVariables false
open Go

section
variable {P : Program} {B : Base} {F : Nat → Prop} {H : Imm} {L : Lay} {s : St} {a : Act} {w : World} {q : Bool} {dst : Option Nat} {k g : Nat} {K : St → Prop}

theorem good_bool (hR : Rel B F H L s a w) (hd : ∀ d, dst = some d → d < a.tmps.size) {sem : Sem Value} (b : Bool) (hr : sem.run P w = .ok (.bool b) w) (hK : K (s.put dst (.bool b))) :
    Good P B F a dst g K sem w := good_val hR hd hr (.bool _ _) hK

theorem good_int (hR : Rel B F H L s a w) (hd : ∀ d, dst = some d → d < a.tmps.size) {sem : Sem Value} (j : IntKind) (n : Int) (hr : sem.run P w = .ok (.int j n) w) (hK : K (s.put dst (.int j n))) :
    Good P B F a dst g K sem w := good_val hR hd hr (.int _ _ _) hK

theorem intOp_sound (hR : Rel B F H L s a w) (hd : ∀ d, dst = some d → d < a.tmps.size) (op : BinOp) (j : IntKind) (x y : Int) (t : Nat) (sem : Sem Value)
    (hsem : sem.run P w = (binOp op t (.int j x) (.int j y)).run P w) (h : (intOp op j x y).wp P q s dst k g K) : Good P B F a dst g K sem w := by
  cases op <;> simp only [intOp, Res.wp] at h
  case add => exact good_int hR hd j _ (by rw [hsem]; simp [binOp, Op.intArith]) h
  case sub => exact good_int hR hd j _ (by rw [hsem]; simp [binOp, Op.intArith]) h
  case mul => exact good_int hR hd j _ (by rw [hsem]; simp [binOp, Op.intArith]) h
  case quo => exact good_int hR hd j _ (by rw [hsem]; simp [binOp, Op.intDiv, h.1]) h.2
  case rem => exact good_int hR hd j _ (by rw [hsem]; simp [binOp, Op.intDiv, h.1]) h.2
  case and => exact good_int hR hd j _ (by rw [hsem]; simp [binOp, Op.intBits]) h
  case eql => exact good_bool hR hd _ (by rw [hsem]; simp [binOp, Op.intCmp]) h
  case neq => exact good_bool hR hd _ (by rw [hsem]; simp [binOp, Op.intCmp]) h
  case lss => exact good_bool hR hd _ (by rw [hsem]; simp [binOp, Op.intCmp]) h
  case leq => exact good_bool hR hd _ (by rw [hsem]; simp [binOp, Op.intCmp]) h
  case gtr => exact good_bool hR hd _ (by rw [hsem]; simp [binOp, Op.intCmp]) h
  case geq => exact good_bool hR hd _ (by rw [hsem]; simp [binOp, Op.intCmp]) h

theorem strOp_sound (hR : Rel B F H L s a w) (hd : ∀ d, dst = some d → d < a.tmps.size) (op : BinOp) (x y : List UInt8) (t : Nat) (sem : Sem Value)
    (hsem : sem.run P w = (binOp op t (.string ⟨x.toArray⟩) (.string ⟨y.toArray⟩)).run P w) (h : (strOp op x y).wp P q s dst k g K) : Good P B F a dst g K sem w := by
  cases op <;> simp only [strOp, Res.wp] at h
  case add =>
    refine good_val hR hd (v := .string ⟨(x ++ y).toArray⟩) ?_ (.str _ _) h.2
    have h1 := h.1
    unfold maxText at h1
    rw [hsem, show binOp .add t (.string ⟨x.toArray⟩) (.string ⟨y.toArray⟩) = Op.stringOp .add ⟨x.toArray⟩ ⟨y.toArray⟩ by simp [binOp],
      run_string_add_sum (P := P) w _ _ (by show x.toArray.size + y.toArray.size ≤ _; simpa using h1), ByteArray.mk_append_mk]
  case eql => exact good_bool hR hd _ (by rw [hsem]; simp [binOp, Op.stringOp]) h
  case neq => exact good_bool hR hd _ (by rw [hsem]; simp [binOp, Op.stringOp]) h
  case lss => exact good_bool hR hd _ (by rw [hsem]; simp [binOp, Op.stringOp]) h
  case leq => exact good_bool hR hd _ (by rw [hsem]; simp [binOp, Op.stringOp]) h
  case gtr => exact good_bool hR hd _ (by rw [hsem]; simp [binOp, Op.stringOp]) h
  case geq => exact good_bool hR hd _ (by rw [hsem]; simp [binOp, Op.stringOp]) h

def negOp : Bool → BinOp
  | true => .neq
  | false => .eql

theorem eqFields_sound (d : Nat) (xs ys : Array Value) : ∀ (fs : List Field) (i : Nat) (us vs : List Value) (as bs : List PV) (c : Bool),
    (∀ f ∈ fs, f.name ≠ "_") → fs.map (·.offset) = List.range' i fs.length → (∀ j, us[j]? = xs[i + j]?) → (∀ j, vs[j]? = ys[i + j]?) → RepL H L us as → RepL H L vs bs →
    cellsEq P (fs.map fun f => (f.type, f.offset)) as bs = some c → (Op.eqFields (d + 1) xs ys fs).run P w = .ok c w
  | [], i, us, vs, as, bs, c, _, _, _, _, _, _, hc => by
    cases as <;> cases bs <;> simp [cellsEq] at hc
    subst hc
    simp [Op.eqFields]
  | f :: fs, i, us, vs, as, bs, c, hn, ho, hu, hv, ha, hb, hc => by
    cases ha with
    | nil => simp [cellsEq] at hc
    | cons _ u x us as hx ha =>
      cases hb with
      | nil => simp [cellsEq] at hc
      | cons _ v y vs bs hy hb =>
        simp only [List.map_cons, cellsEq] at hc
        cases hl : leafEq (tyOf P f.type).kd x y with
        | none => simp [hl] at hc
        | some b =>
          cases hr : cellsEq P (fs.map fun f => (f.type, f.offset)) as bs with
          | none => simp [hl, hr] at hc
          | some c' =>
            simp only [hl, hr, Option.some.injEq] at hc
            subst hc
            simp only [List.map_cons, List.length_cons, List.range'_succ, List.cons.injEq] at ho
            obtain ⟨ho1, ho2⟩ := ho
            have ih := eqFields_sound d xs ys fs (i + 1) us vs as bs c' (fun f hf => hn f (by simp [hf])) ho2
              (fun j => by have := hu (j + 1); simpa [Nat.add_assoc, Nat.add_comm 1 j] using this) (fun j => by have := hv (j + 1); simpa [Nat.add_assoc, Nat.add_comm 1 j] using this) ha hb hr
            have hxi : xs[i]? = some u := by have := hu 0; simpa using this.symm
            have hyi : ys[i]? = some v := by have := hv 0; simpa using this.symm
            have hpart : ∀ (zs : Array Value) (z : Value), zs[i]? = some z → (tyOf P f.type).kd ≠ .none → (tyOf P f.type).agg = false → (part f.type zs f.offset).run P w = .ok z w := by
              intro zs z hz hk ha
              simp only [part, Sem.run_bind, run_isAgg hk, Result.andThen_ok, ha, Bool.false_eq_true, if_false, ho1, hz, Sem.run_pure]
            have hmain : (Op.equalIn (d + 1) f.type u v).run P w = .ok b w ∧ (tyOf P f.type).kd ≠ .none ∧ (tyOf P f.type).agg = false := by
              unfold leafEq at hl
              split at hl
              · rename_i p r hkd
                cases hx; cases hy
                simp only [Option.some.injEq] at hl
                obtain ⟨ii, dd, e1, e2, e3, e4, e5, e6, _⟩ := tyOf_und hkd (by simp)
                have := kdOf_bool e3
                subst this
                exact ⟨by rw [run_equalIn_bool' w d f.type p r (und_bool hkd), hl], by simp [hkd], by rw [e6]; rfl⟩
              · rename_i jj k1 p k2 r hkd
                cases hx; cases hy
                split at hl
                · rename_i hkk
                  subst hkk
                  simp only [Option.some.injEq] at hl
                  obtain ⟨ii, dd, e1, e2, e3, e4, e5, e6, _⟩ := tyOf_und hkd (by simp)
                  have := kdOf_int e3
                  subst this
                  exact ⟨by rw [run_equalIn_int w d f.type _ _ p r (und_int hkd), hl], by simp [hkd], by rw [e6]; rfl⟩
                · simp at hl
              · rename_i p r hkd
                cases hx; cases hy
                simp only [Option.some.injEq] at hl
                obtain ⟨ii, dd, e1, e2, e3, e4, e5, e6, _⟩ := tyOf_und hkd (by simp)
                have := kdOf_str e3
                subst this
                exact ⟨by rw [run_equalIn_string w d f.type _ _ (und_str hkd)]; simp [hl], by simp [hkd], by rw [e6]; rfl⟩
              · simp at hl
            obtain ⟨h1, h2, h3⟩ := hmain
            simp only [Op.eqFields, hn f (by simp), ne_eq, not_false_eq_true, if_true, Sem.run_bind, hpart xs u hxi h2 h3, hpart ys v hyi h2 h3, Result.andThen_ok, h1]
            cases b
            · simp
            · simpa using ih

theorem equalIn_slices (d t e : Nat) (w : World) (h : P.underlying t = some (.slice e)) : (Op.equalIn (d + 1) t (.slice none 0 0) (.slice none 0 0)).run P w = .ok true w := by
  simp [Op.equalIn, run_underlying h]
theorem equalIn_slice_nil (d t e : Nat) (al : Option Addr) (ll cl : Nat) (w : World) (h : P.underlying t = some (.slice e)) : (Op.equalIn (d + 1) t (.slice al ll cl) (.slice none 0 0)).run P w = .ok al.isNone w := by
  cases al <;> simp [Op.equalIn, run_underlying h]
theorem equalIn_nils (d t : Nat) (ms : Array (String × TypeId)) (w : World) (h : P.underlying t = some (.interface ms)) : (Op.equalIn (d + 1) t .nilIface .nilIface).run P w = .ok true w := by
  simp [Op.equalIn, run_underlying h]
theorem equalIn_ifaces (d t tx : Nat) (vx : Value) (ms : Array (String × TypeId)) (w : World) (h : P.underlying t = some (.interface ms)) : (Op.equalIn (d + 1) t (.iface tx vx) .nilIface).run P w = .ok false w := by
  simp [Op.equalIn, run_underlying h]

theorem negOp_run (neg : Bool) (t : Nat) (u v : Value) (b : Bool) (w : World) (he : binOp .eql t u v = (do pure (.bool (← Op.equal t u v)))) (hn : binOp .neq t u v = (do pure (.bool (!(← Op.equal t u v)))))
    (h : (Op.equalIn 10000 t u v).run P w = .ok b w) : (binOp (negOp neg) t u v).run P w = .ok (.bool (b != neg)) w := by
  have h' : (Op.equal t u v).run P w = .ok b w := h
  cases neg
  · simp only [negOp, he, Sem.run_bind, h', Result.andThen_ok, Sem.run_pure]
    simp
  · simp only [negOp, hn, Sem.run_bind, h', Result.andThen_ok, Sem.run_pure]
    simp

theorem eq_sound (hR : Rel B F H L s a w) (hd : ∀ d, dst = some d → d < a.tmps.size) (neg : Bool) (t : Nat) (x y : Operand)
    (h : (eqOp P (tyOf P t) neg (s.ev x) (s.ev y)).wp P q s dst k g K) :
    Good P B F a dst g K (do eqGuard (negOp neg) t x y (a.eval x) (a.eval y); binOp (negOp neg) t (a.eval x) (a.eval y)) w := by
  have hx := hR.eval x
  have hy := hR.eval y
  generalize s.ev x = p at h hx
  generalize s.ev y = r at h hy
  generalize a.eval x = u at hx
  generalize a.eval y = v at hy
  unfold eqOp at h
  split at h
  · rename_i b c hkd
    simp only [Res.wp] at h
    cases hx; cases hy
    have hb := und_bool hkd
    refine good_val hR hd (v := .bool ((b == c) != neg)) ?_ (.bool _ _) h
    have hg : (eqGuard (negOp neg) t x y (.bool b) (.bool c)).run P w = .ok () w := by cases neg <;> simp [negOp, eqGuard]
    simp only [Sem.run_bind, hg, Result.andThen_ok]
    exact negOp_run neg t _ _ _ w (by simp only [binOp]) (by simp only [binOp]) (run_equalIn_bool' w 9999 t b c hb)
  · rename_i e hkd
    simp only [Res.wp] at h
    cases hx; cases hy
    have hb := und_slice hkd
    refine good_val hR hd (v := .bool (!neg)) ?_ (.bool _ _) h
    have hg : (eqGuard (negOp neg) t x y (.slice none 0 0) (.slice none 0 0)).run P w = .ok () w := by cases neg <;> simp [negOp, eqGuard]
    simp only [Sem.run_bind, hg, Result.andThen_ok]
    have := negOp_run neg t _ _ _ w (by simp only [binOp]) (by simp only [binOp]) (equalIn_slices 9999 t e w hb)
    simpa using this
  · rename_i e sz xs hkd
    simp only [Res.wp] at h
    cases hy
    have hb := und_slice hkd
    have hg : ∀ u, (eqGuard (negOp neg) t x y u (.slice none 0 0)).run P w = .ok () w := fun u => by cases neg <;> cases u <;> simp [negOp, eqGuard]
    have hsl : ∀ al ll cl, (Op.equalIn 10000 t (.slice al ll cl) (.slice none 0 0)).run P w = .ok al.isNone w := fun al ll cl => equalIn_slice_nil 9999 t e al ll cl w hb
    have done : ∀ al ll cl, (al = none → xs = []) → Good P B F a dst g K (do eqGuard (negOp neg) t x y (.slice al ll cl) (.slice none 0 0); binOp (negOp neg) t (.slice al ll cl) (.slice none 0 0)) w := by
      intro al ll cl hnil
      refine good_val hR hd (v := .bool (al.isNone != neg)) (p := .bool (al.isNone != neg)) ?_ (.bool _ _) ?_
      · simp only [Sem.run_bind, hg, Result.andThen_ok]
        exact negOp_run neg t _ _ _ w (by simp only [binOp]) (by simp only [binOp]) (hsl al ll cl)
      · cases al with
        | none => have := h.2.1 (hnil rfl); cases neg <;> exact this
        | some ad => have := h.2.2; cases neg <;> exact this
    cases hx with
    | listNil _ al cl _ => exact done al 0 cl (fun _ => rfl)
    | list _ b off len cap _ c vs _ hH hlen hcap hsz h1 hv hr => exact done _ _ _ (fun hh => by cases hh)
  · rename_i fs as bs hkd
    split at h
    · rename_i hfl
      split at h
      · rename_i c hc
        simp only [Res.wp] at h
        obtain ⟨i, d, e1, e2, e3, e4, e5, e6, e7, e8⟩ := tyOf_und hkd (by simp)
        obtain ⟨xs, rfl, hfs⟩ := kdOf_struct e3
        rw [e8] at hfl
        simp only [flatOf, Bool.and_eq_true, Bool.not_eq_true', beq_iff_eq, Array.all_eq_true', bne_iff_ne] at hfl
        obtain ⟨⟨⟨g1, g2⟩, g3⟩, g4⟩ := hfl
        cases hx with
        | agg _ us _ hx =>
          cases hy with
          | agg _ vs _ hy =>
            have hf : P.fieldsOf t = xs := by simp [Program.fieldsOf, e2]
            have hrun := eqFields_sound (P := P) (w := w) (H := H) (L := L) 9998 us.toArray vs.toArray xs.toList 0 us vs as bs c (fun f hf => g4 f (by simpa using hf)) (by rw [g3, List.range_eq_range']; simp) (by intro j; simp) (by intro j; simp) hx hy (by rw [← hfs]; exact hc)
            have hrun' : (Op.equalIn 10000 t (.agg us.toArray) (.agg vs.toArray)).run P w = .ok c w := by
              rw [run_equalIn_struct w 9999 t _ _ (by rw [hf, e2]) g1, hf]
              exact hrun
            refine good_val hR hd (v := .bool (c != neg)) ?_ (.bool _ _) h
            cases neg
            · simp only [negOp, Sem.run_bind, run_eqGuard_agg w _ t x y _ _ g2, Result.andThen_ok, run_eql_struct, hrun']
              simp
            · simp only [negOp, Sem.run_bind, run_eqGuard_agg w _ t x y _ _ g2, Result.andThen_ok, run_neq_struct, hrun']
              simp
      · simp [Res.wp] at h
    · simp [Res.wp] at h
  · simp [Res.wp] at h

theorem nil_sound (hR : Rel B F H L s a w) (hd : ∀ d, dst = some d → d < a.tmps.size) (neg : Bool) (t : Nat) (x y : Operand) (hk : (tyOf P t).kd = .iface)
    (h : (nilOp neg (s.ev x) y).wp P q s dst k g K) :
    Good P B F a dst g K (do eqGuard (negOp neg) t x y (a.eval x) (a.eval y); binOp (negOp neg) t (a.eval x) (a.eval y)) w := by
  have hx := hR.eval x
  generalize s.ev x = p at h hx
  obtain ⟨ms, hu⟩ := und_iface hk
  unfold nilOp at h
  split at h
  · have hy : a.eval (.const .nilIface) = .nilIface := rfl
    rw [hy]
    generalize a.eval x = u at hx
    split at h
    · simp only [Res.wp] at h
      cases hx
      refine good_val hR hd (v := .bool (!neg)) ?_ (.bool _ _) h
      have hg : (eqGuard (negOp neg) t x (.const .nilIface) .nilIface .nilIface).run P w = .ok () w := by cases neg <;> simp [negOp, eqGuard]
      simp only [Sem.run_bind, hg, Result.andThen_ok]
      have := negOp_run neg t _ _ _ w (by simp only [binOp]) (by simp only [binOp]) (equalIn_nils 9999 t ms w hu)
      simpa using this
    · rename_i tx pv
      simp only [Res.wp] at h
      cases hx with
      | iface _ _ vx _ hp' =>
        refine good_val hR hd (v := .bool neg) ?_ (.bool _ _) h
        have hg : (eqGuard (negOp neg) t x (.const .nilIface) (.iface tx vx) .nilIface).run P w = .ok () w := by cases neg <;> simp [negOp, eqGuard]
        simp only [Sem.run_bind, hg, Result.andThen_ok]
        have := negOp_run neg t _ _ _ w (by simp only [binOp]) (by simp only [binOp]) (equalIn_ifaces 9999 t tx vx ms w hu)
        simpa using this
    · simp [Res.wp] at h
  · simp [Res.wp] at h

theorem guard_none (op : BinOp) (h : op ≠ .eql ∧ op ≠ .neq) (t : Nat) (x y : Operand) (u v : Value) : (eqGuard op t x y u v).run P w = .ok () w := by
  cases op <;> simp_all [eqGuard]

theorem binOp_sound (hR : Rel B F H L s a w) (hd : ∀ d, dst = some d → d < a.tmps.size) (op : BinOp) (t : Nat) (x y : Operand)
    (h : (binRes P (tyOf P t) op (s.ev x) (s.ev y) y).wp P q s dst k g K) :
    Good P B F a dst g K (do eqGuard op t x y (a.eval x) (a.eval y); binOp op t (a.eval x) (a.eval y)) w := by
  have hx := hR.eval x
  have hy := hR.eval y
  unfold binRes at h
  split at h
  · rename_i k1 p k2 r hp hr
    split at h
    · rename_i hkk
      subst hkk
      rw [hp] at hx
      rw [hr] at hy
      generalize a.eval x = u at hx
      generalize a.eval y = v at hy
      cases hx; cases hy
      refine intOp_sound hR hd op _ p r t _ ?_ h
      have : (eqGuard op t x y (.int k1 p) (.int k1 r)).run P w = .ok () w := by cases op <;> simp [eqGuard]
      simp only [Sem.run_bind, this, Result.andThen_ok]
    · simp [Res.wp] at h
  · rename_i p r hp hr
    rw [hp] at hx
    rw [hr] at hy
    generalize a.eval x = u at hx
    generalize a.eval y = v at hy
    cases hx; cases hy
    refine strOp_sound hR hd op p r t _ ?_ h
    have : (eqGuard op t x y (.string ⟨p.toArray⟩) (.string ⟨r.toArray⟩)).run P w = .ok () w := by cases op <;> simp [eqGuard]
    simp only [Sem.run_bind, this, Result.andThen_ok]
  · split at h
    · rename_i hk
      exact nil_sound hR hd false t x y hk h
    · rename_i hk
      exact nil_sound hR hd true t x y hk h
    · exact eq_sound hR hd false t x y h
    · exact eq_sound hR hd true t x y h
    · simp [Res.wp] at h

theorem unOp_sound (hR : Rel B F H L s a w) (hd : ∀ d, dst = some d → d < a.tmps.size) (op : UnOp) (x : Operand) (h : (unRes op (s.ev x)).wp P q s dst k g K) :
    Good P B F a dst g K (Op.unary op (a.eval x)) w := by
  have hx := hR.eval x
  generalize s.ev x = p at h hx
  generalize a.eval x = u at hx
  unfold unRes at h
  split at h
  · simp only [Res.wp] at h
    cases hx
    exact good_val hR hd (v := .int _ _) (by simp [Op.unary, Op.intArith]) (.int _ _ _) h
  · simp only [Res.wp] at h
    cases hx
    exact good_val hR hd (v := .bool _) (by simp [Op.unary]) (.bool _ _) h
  · simp [Res.wp] at h

theorem pick_sound (hR : Rel B F H L s a w) (hd : ∀ d, dst = some d → d < a.tmps.size) (c x y : Operand) (h : ((match s.ev c with | .bool t => .val (if t = true then s.ev x else s.ev y) | _ => .bad : Res)).wp P q s dst k g K) :
    Good P B F a dst g K (do pure (if ← asBool (a.eval c) then a.eval x else a.eval y)) w := by
  have hc := hR.eval c
  generalize s.ev c = p at h hc
  generalize a.eval c = u at hc
  split at h
  · rename_i t
    simp only [Res.wp] at h
    cases hc
    refine good_val hR hd (v := if t = true then a.eval x else a.eval y) (by simp [asBool]) ?_ h
    cases t
    · exact hR.eval y
    · exact hR.eval x
  · simp [Res.wp] at h

end
end Go.Proofs.YtlgjbmgmoaphjaaDoor
