/- Texts of the proof of diffChainCard -/
import Derived.Test.YtclohbgnaopjfaaDoorAw17
import Derived.Still
import Derived.Scope
import Derived.Laws.BitsLemmas
import Derived.Defers
namespace Go.Proofs.YtclohbgnaopjfaaDoor
set_option linter.unusedSimpArgs false
set_option linter.unusedVariables false
open Go
structure Eff where
 v : PV
 lay : List (Nat × Nat × Ent)
def St.lays : St → List (Nat × Nat × Ent) → St
 | s, [] => s
 | s, (k, g, x) :: l => St.lays (s.set k g x) l
def St.app (s : St) (dst : Option Nat) (e : Eff) : St := (s.put dst e.v).lays e.lay
def Res.does (P : Program) (args : List PV → List PV) : Res → Eff → Prop
 | .val v, e => e = ⟨v, []⟩
 | .eff v k g x, e => e = ⟨v, [(k, g, x)]⟩
 | .call f as, e => ∃ args' r, as.flatMap aas = [] ∧ xk r = true ∧ yj (args as) = true ∧ WkL (args as) args' ∧ PC P f args' r ∧ e = ⟨r, []⟩
 | .need p r, e => p ∧ Res.does P args r e
 | .acF _ _, _ => False
 | .bad, _ => False
theorem aqg (fnd : Nat → Option (Nat × Ent)) (p : PV) (h : amy p = []) : abm fnd p = p := by
 cases p <;> simp_all [amy, abm]
theorem awu (fnd : Nat → Option (Nat × Ent)) (p : PV) (h : aas p = []) : YI fnd p = p := by
 unfold YI
 split
 ·rename_i cs
  simp only [aas, List.flatMap_eq_nil_iff] at h
  congr 1
  induction cs with
  | nil => rfl
  | cons c cs ih =>
   simp only [List.map_cons, List.cons.injEq]
   exact ⟨aqg fnd c (h c (by simp)), ih (fun x hx => h x (by simp [hx]))⟩
 ·rename_i hne
  refine aqg fnd p ?_
  cases p <;> first
   | exact h
   | exact (hne _ rfl).elim
theorem ad8 (fnd : Nat → Option (Nat × Ent)) : ∀ (ps : List PV), ps.flatMap aas = [] → ps.map (YI fnd) = ps
 | [], _ => rfl
 | p :: ps, h => by
  simp only [List.flatMap_cons, List.append_eq_nil_iff] at h
  simp only [List.map_cons, awu fnd p h.1, ad8 fnd ps h.2]
theorem adA (s : St) (dst : Option Nat) (k g : Nat) (r : PV) (h : xk r = true) : s.back dst k g r = s.put dst r := by
 cases r <;> first
  | rfl
  | simp [xk] at h
theorem Res.Yo {P : Program} {s : St} {dst : Option Nat} {k g : Nat} {K : St → Prop} : ∀ (r : Res), r.wp P true s dst k g K → ∃ e, r.does P (fun as => as) e ∧ K (s.app dst e)
 | .val v, h => ⟨_, rfl, h⟩
 | .eff v k' g' x, h => ⟨_, rfl, h⟩
 | .call f as, h => by
  rcases h with ⟨args', r, h1, h2, h3, h4, h5⟩ | ⟨h0, _⟩
  ·obtain ⟨h6, h7⟩ := h1 rfl
   rw [ad8 _ _ h6] at h2 h3
   refine ⟨_, ⟨args', r, h6, h7, h2, h3, h4, rfl⟩, ?_⟩
   rw [adA _ _ _ _ _ h7, h6] at h5
   exact h5
  ·cases h0
 | .acF p b, h => by cases h.1
 | .need p r, h => by
  obtain ⟨e, h1, h2⟩ := Res.Yo r h.2
  exact ⟨e, ⟨h.1, h1⟩, h2⟩
 | .bad, h => h.elim
theorem Res.Yb {P : Program} {s : St} {dst : Option Nat} {k g : Nat} {K : St → Prop} {e : Eff} : ∀ (r : Res), r.does P (fun as => as) e → K (s.app dst e) → r.wp P true s dst k g K
 | .val v, h, hK => by cases h; exact hK
 | .eff v k' g' x, h, hK => by cases h; exact hK
 | .call f as, h, hK => by
  obtain ⟨args', r, h6, h7, h2, h3, h4, rfl⟩ := h
  refine .inl ⟨args', r, fun _ => ⟨h6, h7⟩, by rw [ad8 _ _ h6]; exact h2, by rw [ad8 _ _ h6]; exact h3, h4, ?_⟩
  rw [adA _ _ _ _ _ h7, h6]
  exact hK
 | .need p r, h, hK => ⟨h.1, Res.Yb r h.2 hK⟩
 | .acF _ _, h, _ => h.elim
 | .bad, h, _ => h.elim
inductive Cls where
 | n
 | r
 | a
 | w
 deriving DecidableEq
def Zp : Op → Cls
 | .alloc _ | .box _ _ | .buildSlice _ _ _ | .range _ _ => .a
 | .store _ _ _ | .next _ _ => .w
 | .load _ _ | .indexAddr _ _ _ | .slice _ _ _ _ _ | .fieldAddr _ _ _ | .convert _ _ _ | .nilCheck _ => .r
 | .call c => match c.callee with
  | .builtin .append => .w
  | _ => .n
 | _ => .n
def aid (x y : Cls) : Bool :=
 match x, y with
 | .n, _ | _, .n | .r, .r | .r, .a | .a, .a => true
 | _, _ => false
section
variable {P : Program} {nm : Names}
theorem Qu {q : Bool} {s t : St} {k g : Nat} {op : Op} (he : ∀ x ∈ op.operands, s.ev x = t.ev x) (hf : s.sto.find = t.sto.find) : vK P q s k g op = vK P q t k g op := by
 have hparts : ∀ (l : List (Nat × Operand)), (∀ p ∈ l, s.ev p.2 = t.ev p.2) → (l.map fun p => (p.1, s.ev p.2)) = l.map fun p => (p.1, t.ev p.2) := by
  intro l hl
  exact List.map_congr_left fun p hp => by rw [hl p hp]
 have hopt : ∀ (o : Option Operand), (∀ x, o = some x → s.ev x = t.ev x) → o.map s.ev = o.map t.ev := by
  intro o ho
  cases o with
  | none => rfl
  | some x => simp [ho x rfl]
 cases op <;> simp only [Op.operands, List.mem_toArray, List.mem_cons, List.not_mem_nil, or_false, forall_eq_or_imp, forall_eq, Array.mem_append] at he <;> simp only [vK, hf, he]
 case build ty parts => rw [hparts _ (fun p hp => he _ (List.mem_map.2 ⟨p, hp, rfl⟩))]
 case buildSlice ty len parts => rw [hparts _ (fun p hp => he _ (List.mem_map.2 ⟨p, hp, rfl⟩))]
 case slice ty x lo hi mx =>
  rw [he x (by simp), hopt lo (fun y hy => he y (by simp [hy])), hopt hi (fun y hy => he y (by simp [hy])), hopt mx (fun y hy => he y (by simp [hy]))]
 case makeFunc fn first captured =>
  have : captured.toList.map s.ev = captured.toList.map t.ev := List.map_congr_left fun x hx => he x (.inr (by simpa using hx))
  rw [this]
 case call c =>
  have hargs : c.args.toList.map s.ev = c.args.toList.map t.ev := List.map_congr_left fun x hx => he x (by
   simp only [Call.operands, Array.mem_append]
   exact .inr (by simpa using hx))
  rw [hargs]
  cases hc : c.callee with
  | value f =>
   have hfe : s.ev f = t.ev f := he f (by simp [Call.operands, hc])
   simp only [hfe]
  | _ => rfl
theorem Jp {q : Bool} {s t : St} {k g : Nat} {op : Op} (hc : Zp op = .n ∨ Zp op = .a) (he : ∀ x ∈ op.operands, s.ev x = t.ev x) : vK P q s k g op = vK P q t k g op := by
 have h1 : vK P q s k g op = vK P q { s with sto := t.sto } k g op := by
  cases op <;> simp only [Zp, reduceCtorEq, or_self, or_true, true_or] at hc <;> try rfl
  case call c =>
   simp only [vK]
   cases hcc : c.callee with
   | value f => rfl
   | invoke r m => rfl
   | builtin b =>
    cases b <;> first
     | rfl
     | (simp only [hcc] at hc; simp at hc)
 rw [h1]
 exact Qu (fun x hx => he x hx) rfl
def Res.still : Res → Prop
 | .eff _ _ _ _ => False
 | .need _ r => r.still
 | _ => True
theorem Res.wH {e : Eff} : ∀ (r : Res), r.still → r.does P (fun as => as) e → e.lay = []
 | .val v, _, h => by cases h; rfl
 | .eff _ _ _ _, h, _ => h.elim
 | .call f as, _, h => by
  obtain ⟨args', r, h6, h7, h2, h3, h4, rfl⟩ := h
  rfl
 | .need p r, hs, h => Res.wH r hs h.2
 | .acF _ _, _, h => h.elim
 | .bad, _, h => h.elim
theorem aol (op : BinOp) (k : IntKind) (x y : Int) : (aop op k x y).still := by cases op <;> trivial
theorem aof (op : BinOp) (x y : List UInt8) : (anQ op x y).still := by cases op <;> trivial
theorem Jw (ty : Ty) (cs : List PV) (off : Nat) : (Yy ty cs off).still := by unfold Yy; split <;> trivial
theorem apY (ty : Ty) (neg : Bool) (x y : PV) : (aoN P ty neg x y).still := by
 unfold aoN
 split <;> try trivial
 split <;> try trivial
 split <;> trivial
theorem anL (neg : Bool) (x : PV) (y : Operand) : (ai2 neg x y).still := by
 unfold ai2
 split <;> try trivial
 split <;> trivial
theorem alj (ty : Ty) (op : BinOp) (x y : PV) (yo : Operand) : (afK P ty op x y yo).still := by
 unfold afK
 split
 ·split
  ·exact aol _ _ _ _
  ·trivial
 ·exact aof _ _ _
 ·split <;> first
   | exact anL _ _ _
   | exact apY _ _ _ _
   | trivial
theorem an5 (op : UnOp) (x : PV) : (akY op x).still := by unfold akY; split <;> trivial
theorem amB (x y : PV) : (J5 x y).still := by unfold J5; split <;> trivial
theorem alL (x y : PV) : (JZ x y).still := by unfold JZ; split <;> trivial
theorem abp (f : PV → PV → Res) (hf : ∀ x y, (f x y).still) (l : List PV) : (QT f l).still := by
 unfold QT
 split
 ·exact hf _ _
 ·split
  ·exact hf _ _
  ·trivial
 ·trivial
theorem alh (t : Nat) (x : PV) : (ae9 P t x).still := by
 unfold ae9
 split
 ·split <;> trivial
 ·split <;> trivial
 ·trivial
theorem afh (x : PV) (i : Nat) : (Ka x i).still := by unfold Ka; split <;> trivial
theorem ad4 (t : Nat) (x i : PV) : (QB P t x i).still := by unfold QB; split <;> trivial
theorem ahR (b : Bool) (t : Nat) (l : List (Nat × PV)) : (Xv P b t l).still := by
 unfold Xv
 simp only
 split
 ·show Res.still _
  split <;> trivial
 ·trivial
theorem aij (t : Nat) (x : PV) (f : Nat) : (Xd P t x f).still := by
 unfold Xd
 split
 ·split
  ·exact Jw _ _ _
  ·trivial
 ·trivial
theorem aju (fnd : Nat → Option (Nat × Ent)) (t : Nat) (x : PV) : (yQ P fnd t x).still := by
 unfold yQ
 split
 ·trivial
 ·split
  ·split
   ·exact Jw _ _ _
   ·trivial
  ·split
   ·exact Jw _ _ _
   ·trivial
  ·exact Jw _ _ _
  ·trivial
theorem aiX (fnd : Nat → Option (Nat × Ent)) (t : Nat) (x i : PV) : (xu P fnd t x i).still := by
 unfold xu
 split
 ·trivial
 ·split <;> trivial
 ·trivial
theorem aeI (fnd : Nat → Option (Nat × Ent)) (x : PV) : (kP fnd x).still := by
 unfold kP
 repeat' split
 all_goals trivial
theorem acA (fnd : Nat → Option (Nat × Ent)) (t : Nat) (x : PV) (f : Nat) : (kv P fnd t x f).still := by
 unfold kv
 split
 ·split
  ·show Res.still _
   split
   ·split <;> trivial
   ·split <;> trivial
   ·trivial
   ·trivial
  ·trivial
 ·trivial
theorem afd (fnd : Nat → Option (Nat × Ent)) (a b : Nat) (x : PV) : (jq P fnd a b x).still := by
 unfold jq
 split <;> try trivial
 ·split <;> trivial
 ·split
  ·split
   ·unfold strOf; split <;> trivial
   ·trivial
  ·split
   ·unfold strOf; split <;> trivial
   ·trivial
  ·trivial
theorem alW (fnd : Nat → Option (Nat × Ent)) (t : Nat) (x : PV) (lo hi mx : Option PV) {e : Eff} (h : (jY P true fnd t x lo hi mx).does P (fun as => as) e) : e.lay = [] := by
 unfold jY at h
 split at h
 ·exact h.elim
 ·split at h
  ·split at h
   ·exact Res.wH (P := P) _ (by trivial) h
   ·exact h.elim
  ·split at h
   ·exact Res.wH (P := P) _ (by trivial) h
   ·exact h.elim
  ·split at h
   ·exact Res.wH (P := P) _ (by trivial) h
   ·exact h.elim
  ·split at h
   ·split at h
    ·split at h
     ·split at h
      ·exact Res.wH (P := P) _ (by trivial) h
      ·exact h.elim
     ·split at h
      ·obtain ⟨⟨h0, _⟩, _⟩ := h
       cases h0
      ·exact h.elim
    ·exact h.elim
   ·exact h.elim
  ·exact h.elim
theorem asU {s : St} {k g : Nat} {op : Op} {e : Eff} (hc : Zp op = .n ∨ Zp op = .r) (h : (vK P true s k g op).does P (fun as => as) e) : e.lay = [] := by
 cases op <;> simp only [Zp, reduceCtorEq, or_self, or_true, true_or] at hc <;> simp only [vK] at h <;> try exact h.elim
 case move x => cases h; rfl
 case assign x => cases h; rfl
 case pick c a b =>
  split at h
  ·cases h; rfl
  ·exact h.elim
 case build t parts => exact Res.wH (P := P) _ (ahR _ _ _) h
 case load t x => exact Res.wH (P := P) _ (aju _ _ _) h
 case binOp op t x y yt => exact Res.wH (P := P) _ (alj _ _ _ _ _) h
 case unOp op t x => exact Res.wH (P := P) _ (an5 _ _) h
 case convert src dt x => exact Res.wH (P := P) _ (afd _ _ _ _) h
 case slice t x lo hi mx => exact alW _ _ _ _ _ _ h
 case fieldAddr t x f => exact Res.wH (P := P) _ (acA _ _ _ _) h
 case nilCheck x => exact Res.wH (P := P) _ (aeI _ _) h
 case field t x f => exact Res.wH (P := P) _ (aij _ _ _) h
 case indexAddr t x i => exact Res.wH (P := P) _ (aiX _ _ _ _) h
 case index t x i => exact Res.wH (P := P) _ (ad4 _ _ _) h
 case extract x i => exact Res.wH (P := P) _ (afh _ _) h
 case makeFunc fn first captured =>
  split at h
  ·split at h
   ·cases h; rfl
   ·exact h.elim
  ·exact h.elim
 case call c =>
  split at h
  ·split at h
   ·exact Res.wH (P := P) _ (by trivial) h
   ·exact h.elim
  ·rename_i b hb
   unfold yz at h
   split at h
   ·split at h
    ·split at h
     ·exact Res.wH (P := P) _ (alh _ _) h
     ·exact h.elim
    ·exact h.elim
   ·simp [hb] at hc
   ·exact Res.wH (P := P) _ (abp _ amB _) h
   ·exact Res.wH (P := P) _ (abp _ alL _) h
   ·exact h.elim
  ·exact h.elim
abbrev ajs := Nat → Option (Nat × Ent)
theorem alr {f f' : ajs} (t : Nat) (x : PV) (h : ∀ k, x.top = some k → f k = f' k) : yQ P f t x = yQ P f' t x := by
 cases x <;> first
  | rfl
  | (unfold yQ; simp only [h _ rfl]; done)
  | (simp only [yQ]; done)
  | (unfold yQ; rfl)
theorem ajn {f f' : ajs} (t : Nat) (x v : PV) (h : ∀ k, x.top = some k → f k = f' k) : Zc P f t x v = Zc P f' t x v := by
 cases x <;> first
  | rfl
  | (unfold Zc; simp only [h _ rfl]; done)
  | (simp only [Zc]; done)
  | (unfold Zc; rfl)
theorem ajC {f f' : ajs} (t : Nat) (x i : PV) (h : ∀ k, x.top = some k → f k = f' k) : xu P f t x i = xu P f' t x i := by
 cases x <;> first
  | rfl
  | (unfold xu; simp only [h _ rfl]; done)
  | (simp only [xu]; done)
  | (unfold xu; generalize (zH P t).kd = kd; cases kd <;> first | rfl | (cases i <;> first | rfl | (simp only [h _ rfl]; done)))
theorem ae1 {f f' : ajs} (x : PV) (h : ∀ k, x.top = some k → f k = f' k) : kP f x = kP f' x := by
 cases x <;> first
  | rfl
  | (unfold kP; simp only [h _ rfl]; done)
  | (simp only [kP]; done)
  | (unfold kP; rfl)
theorem ac6 {f f' : ajs} (t : Nat) (x : PV) (fi : Nat) (h : ∀ k, x.top = some k → f k = f' k) : kv P f t x fi = kv P f' t x fi := by
 cases x <;> first
  | rfl
  | (unfold kv; simp only [h _ rfl]; done)
  | (simp only [kv]; done)
  | (unfold kv; rfl)
theorem acL {f f' : ajs} (byt : Bool) (size : Nat) (x : PV) (h : ∀ k, x.top = some k → f k = f' k) : elems f byt size x = elems f' byt size x := by
 cases x <;> first
  | rfl
  | (unfold elems; simp only [h _ rfl]; done)
  | (simp only [elems]; done)
  | (unfold elems; rfl)
theorem agL {f f' : ajs} (a b : Nat) (x : PV) (h : ∀ k, x.top = some k → f k = f' k) : jq P f a b x = jq P f' a b x := by
 unfold jq
 split <;> first
  | rfl
  | (rename_i x _ _ _ el hk1 hk2; rw [acL false 1 _ h])
  | (rw [acL false 1 _ h])
theorem ajv {f f' : ajs} {q : Bool} (t : Nat) (x : PV) (lo hi mx : Option PV) (h : ∀ k, x.top = some k → f k = f' k) : jY P q f t x lo hi mx = jY P q f' t x lo hi mx := by
 cases x <;> first
  | rfl
  | (unfold jY; simp only [h _ rfl]; done)
  | (simp only [jY]; done)
  | (unfold jY; generalize (zH P t).kd = kd; cases kd <;> first | rfl | (simp only [h _ rfl]; done))
  | (unfold jY; cases mx <;> generalize (zH P t).kd = kd <;> cases kd <;> first | rfl | (simp only [h _ rfl]; done))
theorem al2 {f f' : ajs} (x : PV) (h : ∀ k, x.top = some k → f k = f' k) : Vk f x = Vk f' x := by
 unfold Vk
 split
 ·rename_i k g
  rw [h k rfl]
 ·rfl
theorem ahi {f f' : ajs} (k g t : Nat) (s x : PV) (h1 : ∀ k, s.top = some k → f k = f' k) (h2 : ∀ k, x.top = some k → f k = f' k) : Zi P f k g t s x = Zi P f' k g t s x := by
 unfold Zi
 simp only [acL _ _ x h2]
 cases s <;> first
  | rfl
  | simp only [h1 _ rfl]
theorem apT {q : Bool} {s t : St} {k g : Nat} {op : Op} (he : ∀ x ∈ op.operands, s.ev x = t.ev x) (hf : ∀ x ∈ op.operands, ∀ j, (s.ev x).top = some j → s.sto.find j = t.sto.find j) : vK P q s k g op = vK P q t k g op := by
 have h1 : vK P q s k g op = vK P q { s with sto := t.sto } k g op := by
  cases op <;> try rfl
  case load ty x => exact alr _ _ (hf x (by simp [Op.operands]))
  case store ty x v => exact ajn _ _ _ (hf x (by simp [Op.operands]))
  case convert src dt x => exact agL _ _ _ (hf x (by simp [Op.operands]))
  case slice ty x lo hi mx => exact ajv _ _ _ _ _ (hf x (by simp [Op.operands]))
  case fieldAddr ty x fi => exact ac6 _ _ _ (hf x (by simp [Op.operands]))
  case nilCheck x => exact ae1 _ (hf x (by simp [Op.operands]))
  case indexAddr ty x i => exact ajC _ _ _ (hf x (by simp [Op.operands]))
  case next it b =>
   cases b with
   | true => exact al2 _ (hf it (by simp [Op.operands]))
   | false => rfl
  case call c =>
   simp only [vK]
   cases hc : c.callee with
   | value f => rfl
   | invoke r m => rfl
   | builtin b =>
    show yz P s.sto.find k g b c.argTypes.toList (c.args.toList.map s.ev) = yz P t.sto.find k g b c.argTypes.toList (c.args.toList.map s.ev)
    have hall : ∀ v ∈ c.args.toList.map s.ev, ∀ j, v.top = some j → s.sto.find j = t.sto.find j := by
     intro v hv
     obtain ⟨x, hx, rfl⟩ := List.mem_map.1 hv
     exact hf x (by simp only [Op.operands, Call.operands, Array.mem_append]; exact .inr (by simpa using hx))
    cases b <;> try rfl
    unfold yz
    simp only
    split
    ·rename_i ts t1 t2
     split
     ·rename_i as a1 a2
      rw [ahi _ _ _ _ _ (hall _ (by simp_all)) (hall _ (by simp_all))]
     ·rfl
    ·rfl
 rw [h1]
 exact Qu (fun x hx => he x hx) rfl
theorem avz {s : St} {k g : Nat} {op : Op} {e : Eff} (hc : Zp op = .a) (h : (vK P true s k g op).does P (fun as => as) e) : aaC op = true ∧ ∃ x, e.lay = [(k, g, x)] := by
 cases op <;> simp only [Zp, reduceCtorEq] at hc <;> simp only [vK] at h
 case alloc t =>
  split at h
  ·cases h; exact ⟨rfl, _, rfl⟩
  ·exact h.elim
 case box t x =>
  obtain ⟨_, h⟩ := h
  cases h; exact ⟨rfl, _, rfl⟩
 case buildSlice t len parts =>
  refine ⟨rfl, ?_⟩
  unfold Z5 at h
  split at h
  ·split at h
   ·obtain ⟨_, h⟩ := h
    split at h
    ·cases h; exact ⟨_, rfl⟩
    ·exact h.elim
   ·exact h.elim
  ·exact h.elim
 case range t x =>
  split at h
  ·cases h; exact ⟨rfl, _, rfl⟩
  ·exact h.elim
 case call c =>
  split at hc <;> cases hc
theorem ai5 {q : Bool} {l : Nf} {op : Op} {r : Res} (hc : Zp op = .n ∨ Zp op = .r) : QD q l op r = r := by
 have : XN op = false := by
  cases op <;> first
   | rfl
   | (simp [Zp] at hc; done)
   | skip
  case call c =>
   cases hcc : c.callee with
   | value f => simp [XN, hcc]
   | invoke r m => simp [XN, hcc]
   | builtin b =>
    cases b <;> first
     | (simp [XN, hcc]; done)
     | (exfalso; simp [Zp, hcc] at hc; done)
 unfold QD
 rw [this]
 split <;> simp_all
theorem ajV {A : List PV → List PV} {e : Eff} : ∀ (r : Res), (r.shut).does P A e → ∃ e0, r.does P A e0 ∧ (e0 = e ∨ ∃ k g x0 x, e0.lay = [(k, g, x0)] ∧ e.lay = [(k, g, x)])
 | .val v, h => ⟨e, h, .inl rfl⟩
 | .eff v k g x, h => by
  simp only [Res.shut, am9] at h
  split at h
  ·obtain ⟨_, h⟩ := h
   cases h
   exact ⟨_, rfl, .inr ⟨_, _, _, _, rfl, rfl⟩⟩
  ·exact h.elim
 | .need p r, h => by
  obtain ⟨e0, h1, h2⟩ := ajV r h.2
  exact ⟨e0, ⟨h.1, h1⟩, h2⟩
 | .call _ _, h => h.elim
 | .acF _ _, h => h.elim
 | .bad, h => h.elim
theorem aht {q : Bool} {l : Nf} {op : Op} {A : List PV → List PV} {e : Eff} {r : Res} (h : (QD q l op r).does P A e) : ∃ e0, r.does P A e0 ∧ (e0 = e ∨ ∃ k g x0 x, e0.lay = [(k, g, x0)] ∧ e.lay = [(k, g, x)]) := by
 unfold QD at h
 split at h
 ·exact ajV _ h
 ·exact ⟨e, h, .inl rfl⟩
def VD : List (Nat × Nat) → List Ent → List (Nat × Nat × Ent)
 | (k, g) :: ks, e :: es => (k, g, e) :: VD ks es
 | _, _ => []
theorem as6 (s : St) : ∀ (l m : List (Nat × Nat × Ent)), s.lays (l ++ m) = (s.lays l).lays m := by
 intro l
 induction l generalizing s with
 | nil => intro m; rfl
 | cons x l ih => intro m; obtain ⟨k, g, x⟩ := x; exact ih _ m
theorem aie : ∀ (ks : List (Nat × Nat)) (es : List Ent) (s : St), s.lays (VD ks es) = { s with sto := kN s.sto ks es }
 | [], es, s => by cases es <;> rfl
 | (k, g) :: ks, [], s => rfl
 | (k, g) :: ks, e :: es, s => by
  simp only [VD, St.lays, kN]
  rw [aie ks es]
  rfl
theorem alK : ∀ (ks : List (Nat × Nat)) (es : List Ent) (x : Nat × Nat × Ent), x ∈ VD ks es → ∃ y ∈ ks, y.1 = x.1
 | [], es, x, h => by cases es <;> simp [VD] at h
 | (k, g) :: ks, [], x, h => by simp [VD] at h
 | (k, g) :: ks, e :: es, x, h => by
  simp only [VD, List.mem_cons] at h
  rcases h with rfl | h
  ·exact ⟨(k, g), by simp, rfl⟩
  ·obtain ⟨y, h1, h2⟩ := alK ks es x h
   exact ⟨y, by simp [h1], h2⟩
def ajt (k g : Nat) (ks : List (Nat × Nat)) (es : List Ent) : PV → Eff
 | .own sz xs => ⟨.row k g xs.length, VD ks es ++ [(k, g, .row false sz xs)]⟩
 | r => ⟨r, VD ks es⟩
theorem anV (s : St) (dst : Option Nat) (k g : Nat) (ks : List (Nat × Nat)) (es : List Ent) (r : PV) (hv : anz r = true) : s.app dst (ajt k g ks es r) = ({ s with sto := kN s.sto ks es } : St).back dst k g r := by
 unfold St.app
 by_cases h : ∃ sz xs, r = .own sz xs
 ·obtain ⟨sz, xs, rfl⟩ := h
  simp only [ajt, as6, aie, St.lays, St.back]
  cases dst <;> rfl
 ·have e1 : ajt k g ks es r = ⟨r, VD ks es⟩ := by
   cases r <;> first
    | rfl
    | exact (h ⟨_, _, rfl⟩).elim
  have e2 : ({ s with sto := kN s.sto ks es } : St).back dst k g r = ({ s with sto := kN s.sto ks es } : St).put dst r := by
   cases r <;> first
    | rfl
    | exact (h ⟨_, _, rfl⟩).elim
    | cases hv
  rw [e1, e2]
  simp only [aie]
  cases dst <;> rfl
theorem anC (k g : Nat) (ks : List (Nat × Nat)) (es : List Ent) (r : PV) : ∀ x ∈ (ajt k g ks es r).lay, x.1 = k ∨ ∃ y ∈ ks, y.1 = x.1 := by
 intro x hx
 by_cases h : ∃ sz xs, r = .own sz xs
 ·obtain ⟨sz, xs, rfl⟩ := h
  simp only [ajt, List.mem_append, List.mem_singleton] at hx
  rcases hx with hx | rfl
  ·exact .inr (alK _ _ _ hx)
  ·exact .inl rfl
 ·have e1 : ajt k g ks es r = ⟨r, VD ks es⟩ := by
   cases r <;> first
    | rfl
    | exact (h ⟨_, _, rfl⟩).elim
  rw [e1] at hx
  exact .inr (alK _ _ _ hx)
def ayp (P : Program) (fp : List Nat) (fnd : Sto) (k g f : Nat) (args : List PV) (e : Eff) : Prop :=
 ∃ ks es args' r es', (∀ x ∈ ks, x.1 ∈ fp) ∧ findAll (qV ks) ks.length fnd ks es ∧ (ks.map (·.1)).Nodup ∧ xK ks.length args' = true ∧ WkL args (Z7 (qV ks) args') ∧ BC P f args' es r es' ∧ ((xk r || !qQ es') && anz r) = true ∧
  (KR fp = true → es' = es ∧ qQ es' = false) ∧ e = (if KR fp = true then ajt k g [] [] r else ajt k g (zZ g ks es') (es'.map (Ent.inst (qV (zZ g ks es')))) r)
theorem aoE (s : St) (fp : List Nat) (dst : Option Nat) (k g : Nat) (ks : List (Nat × Nat)) (es : List Ent) (r : PV) (hv : anz r = true) : s.app dst (if KR fp = true then ajt k g [] [] r else ajt k g ks es r) = (s.quiet fp (kN s.sto ks es)).back dst k g r := by
 unfold St.quiet
 split
 ·rw [anV _ _ _ _ _ _ _ hv]
  rfl
 ·rw [anV _ _ _ _ _ _ _ hv]
def aov (P : Program) (fp : Option (List Nat)) (fnd : Sto) (k g : Nat) (r : Res) (e : Eff) : Prop :=
 match fp, r with
 | some fp, .call f args => ayp P fp fnd k g f args e
 | _, r => r.does P (fun as => as) e
theorem atL {P : Program} {fp : Option (List Nat)} {s : St} {dst : Option Nat} {k g : Nat} {K : St → Prop} (r : Res) (h : wpQ P true fp s dst k g r K) : ∃ e, aov P fp s.sto k g r e ∧ K (s.app dst e) := by
 cases fp with
 | none => exact Res.Yo r h
 | some fp =>
  cases r with
  | val v => exact Res.Yo (P := P) (k := k) (g := g) (.val v) h
  | eff v k' g' e => exact Res.Yo (P := P) (k := k) (g := g) (.eff v k' g' e) h
  | need p r => exact Res.Yo (P := P) (k := k) (g := g) (.need p r) h
  | acF p b => exact Res.Yo (P := P) (k := k) (g := g) (.acF p b) h
  | bad => exact Res.Yo (P := P) (k := k) (g := g) .bad h
  | call f args =>
   obtain ⟨ks, es, args', r, es', h1, h2, h3, h4, h5, h6, h7, hq, h8⟩ := h
   exact ⟨_, ⟨ks, es, args', r, es', h1, h2, h3, h4, h5, h6, h7, hq, rfl⟩, by rw [aoE _ _ _ _ _ _ _ _ (Bool.and_eq_true _ _ ▸ h7).2]; exact h8⟩
theorem au4 {P : Program} {fp : Option (List Nat)} {s : St} {dst : Option Nat} {k g : Nat} {K : St → Prop} {e : Eff} (r : Res) (h : aov P fp s.sto k g r e) (hK : K (s.app dst e)) : wpQ P true fp s dst k g r K := by
 cases fp with
 | none => exact Res.Yb r h hK
 | some fp =>
  cases r with
  | val v => exact Res.Yb (P := P) (k := k) (g := g) (.val v) h hK
  | eff v k' g' e => exact Res.Yb (P := P) (k := k) (g := g) (.eff v k' g' e) h hK
  | need p r => exact Res.Yb (P := P) (k := k) (g := g) (.need p r) h hK
  | acF p b => exact Res.Yb (P := P) (k := k) (g := g) (.acF p b) h hK
  | bad => exact Res.Yb (P := P) (k := k) (g := g) .bad h hK
  | call f args =>
   obtain ⟨ks, es, args', r, es', h1, h2, h3, h4, h5, h6, h7, hq, rfl⟩ := h
   exact ⟨ks, es, args', r, es', h1, h2, h3, h4, h5, h6, h7, hq, by rw [← aoE _ _ _ _ _ _ _ _ (Bool.and_eq_true _ _ ▸ h7).2]; exact hK⟩
end
end Go.Proofs.YtclohbgnaopjfaaDoor
namespace Go.Proofs.YtclohbgnaopjfaaDoor
set_option linter.unusedSimpArgs false
set_option linter.unusedVariables false
open Go
section
variable {P : Program} {nm : Names}
abbrev Fnd := Nat → Option (Nat × Ent)
def FLe (f f' : Fnd) : Prop := ∀ k v, f k = some v → f' k = some v
theorem apO {f f' : Fnd} (hf : FLe f f') (t : Nat) (x : PV) {e : Eff} (h : (yQ P f t x).does P (fun as => as) e) : (yQ P f' t x).does P (fun as => as) e := by
 unfold yQ at h ⊢
 split at h
 ·exact h.elim
 ·cases x <;> simp only at h ⊢ <;> try exact h
  case box k g off =>
   cases hk : f k with
   | none => simp [hk, Res.does] at h
   | some v => simp only [hk] at h; simp only [hf k v hk]; exact h
  case elt k g i off =>
   cases hk : f k with
   | none => simp [hk, Res.does] at h
   | some v => simp only [hk] at h; simp only [hf k v hk]; exact h
theorem aok {f f' : Fnd} (hf : FLe f f') (t : Nat) (x i : PV) {e : Eff} (h : (xu P f t x i).does P (fun as => as) e) : (xu P f' t x i).does P (fun as => as) e := by
 unfold xu at h ⊢
 split at h
 ·exact h
 ·rename_i el k g m kk n hkd
  cases hk : f k with
  | none => simp [hk, Res.does] at h
  | some v => simp only [hk] at h; simp only [hf k v hk]; exact h
 ·exact h.elim
theorem aho {f f' : Fnd} (hf : FLe f f') (x : PV) {e : Eff} (h : (kP f x).does P (fun as => as) e) : (kP f' x).does P (fun as => as) e := by
 unfold kP at h ⊢
 split at h
 ·rename_i k g off
  cases hk : f k with
  | none => simp [hk, Res.does] at h
  | some v => simp only [hk] at h; simp only [hf k v hk]; exact h
 ·rename_i k g i off
  cases hk : f k with
  | none => simp [hk, Res.does] at h
  | some v => simp only [hk] at h; simp only [hf k v hk]; exact h
 ·exact h
 ·exact h.elim
theorem agF {f f' : Fnd} (hf : FLe f f') (t : Nat) (x : PV) (fi : Nat) {e : Eff} (h : (kv P f t x fi).does P (fun as => as) e) : (kv P f' t x fi).does P (fun as => as) e := by
 unfold kv at h ⊢
 split at h
 ·split at h
  ·obtain ⟨h0, h⟩ := h
   refine ⟨h0, ?_⟩
   cases x <;> simp only at h ⊢ <;> try exact h
   case box k g off =>
    cases hk : f k with
    | none => simp [hk, Res.does] at h
    | some v => simp only [hk] at h; simp only [hf k v hk]; exact h
   case elt k g i off =>
    cases hk : f k with
    | none => simp [hk, Res.does] at h
    | some v => simp only [hk] at h; simp only [hf k v hk]; exact h
  ·exact h.elim
 ·exact h.elim
theorem aoz {f f' : Fnd} (hf : FLe f f') (byt : Bool) (size : Nat) (x : PV) : elems f byt size x = none ∨ elems f' byt size x = elems f byt size x := by
 unfold elems
 cases x <;> simp only <;> try exact .inr trivial
 case row k g n =>
  cases hk : f k with
  | none => exact .inl rfl
  | some v => simp only [hf k v hk]; exact .inr trivial
 all_goals exact .inr rfl
theorem ajw {f f' : Fnd} (hf : FLe f f') (a b : Nat) (x : PV) {e : Eff} (h : (jq P f a b x).does P (fun as => as) e) : (jq P f' a b x).does P (fun as => as) e := by
 unfold jq at h ⊢
 split at h <;> try exact h
 rename_i x _ _ _ el hk1 hk2
 split at h
 ·rcases aoz hf false 1 x with h1 | h1
  ·simp [h1, Res.does] at h
  ·rw [h1]; exact h
 ·rcases aoz hf false 1 x with h1 | h1
  ·simp [h1, Res.does] at h
  ·rw [h1]; exact h
 ·exact h.elim
theorem ann {f f' : Fnd} (hf : FLe f f') (t : Nat) (x : PV) (lo hi mx : Option PV) {e : Eff} (h : (jY P true f t x lo hi mx).does P (fun as => as) e) : (jY P true f' t x lo hi mx).does P (fun as => as) e := by
 unfold jY at h ⊢
 split at h
 ·exact h
 ·split at h <;> try exact h
  ·rename_i el k g n hkd
   cases hk : f k with
   | none => simp [hk, Res.does] at h
   | some v => simp only [hk] at h; simp only [hf k v hk]; exact h
theorem auZ {s t : St} {k g : Nat} {op : Op} {e : Eff} (hc : Zp op = .r) (he : ∀ x ∈ op.operands, s.ev x = t.ev x) (hf : FLe s.sto.find t.sto.find)
  (h : (vK P true s k g op).does P (fun as => as) e) : (vK P true t k g op).does P (fun as => as) e := by
 have h1 : (vK P true { s with sto := t.sto } k g op).does P (fun as => as) e := by
  cases op <;> simp only [Zp, reduceCtorEq] at hc <;> simp only [vK] at h ⊢
  case load ty x => exact apO hf _ _ h
  case convert src dt x => exact ajw hf _ _ _ h
  case slice ty x lo hi mx => exact ann hf _ _ _ _ _ h
  case fieldAddr ty x f => exact agF hf _ _ _ h
  case nilCheck x => exact aho hf _ h
  case indexAddr ty x i => exact aok hf _ _ _ h
  case call c => split at hc <;> cases hc
 rwa [Qu (q := true) (s := { s with sto := t.sto }) (t := t) (fun x hx => he x hx) rfl] at h1
structure Same (s t : St) : Prop where
 env : ∀ i, s.env.get i = t.env.get i
 sto : s.sto.find = t.sto.find
 nx : s.nx = t.nx
theorem Same.refl (s : St) : Same s s := ⟨fun _ => rfl, rfl, rfl⟩
theorem Same.symm {s t : St} (h : Same s t) : Same t s := ⟨fun i => (h.env i).symm, h.sto.symm, h.nx.symm⟩
theorem Same.trans {s t u : St} (h : Same s t) (h' : Same t u) : Same s u := ⟨fun i => (h.env i).trans (h'.env i), h.sto.trans h'.sto, h.nx.trans h'.nx⟩
theorem ahT : ∀ (l : List (Nat × Nat × Ent)) (s : St), (s.lays l).env = s.env ∧ (s.lays l).nx = s.nx
 | [], s => ⟨rfl, rfl⟩
 | (k, g, x) :: l, s => ahT l _
def ahV : List (Nat × Nat × Ent) → Nat → Option (Nat × Ent) → Option (Nat × Ent)
 | [], _, o => o
 | (k, g, x) :: l, j, o => ahV l j (if j = k then some (g, x) else o)
theorem akx : ∀ (l : List (Nat × Nat × Ent)) (s : St) (j : Nat), (s.lays l).sto.find j = ahV l j (s.sto.find j)
 | [], s, j => rfl
 | (k, g, x) :: l, s, j => by
  simp only [St.lays, ahV]
  rw [akx l]
  congr 1
  by_cases hj : j = k
  ·subst hj
   simp only [if_true]
   exact Sto.kI _ _ _ _
  ·simp only [hj, if_false]
   exact Sto.qC _ _ _ _ _ hj
theorem anj : ∀ (l : List (Nat × Nat × Ent)) (j : Nat) (o : Option (Nat × Ent)), (∀ x ∈ l, x.1 ≠ j) → ahV l j o = o
 | [], j, o, _ => rfl
 | (k, g, x) :: l, j, o, h => by
  have h1 : j ≠ k := fun e => h (k, g, x) (by simp) e.symm
  simp only [ahV, h1, if_false]
  exact anj l j o fun y hy => h y (by simp [hy])
theorem aeO : ∀ (l : List (Nat × Nat × Ent)) (j : Nat) (o : Option (Nat × Ent)), ahV l j o = none → o = none
 | [], j, o, h => h
 | (k, g, x) :: l, j, o, h => by
  simp only [ahV] at h
  have := aeO l j _ h
  split at this
  ·cases this
  ·exact this
theorem Jv (s : St) (dst : Option Nat) (e : Eff) (i : Nat) : (s.app dst e).env.get i = if dst = some i then e.v else s.env.get i := by
 have h : ∀ s : St, (s.put dst e.v).env.get i = if dst = some i then e.v else s.env.get i := by
  intro s
  cases dst with
  | none => simp [St.put]
  | some d =>
   by_cases hd : i = d
   ·subst hd; simp [St.put, Env.get]
   ·simp [St.put, Env.get, hd, Ne.symm hd]
 unfold St.app
 rw [(ahT _ _).1]
 exact h s
theorem yG (s : St) (dst : Option Nat) (e : Eff) (j : Nat) : (s.app dst e).sto.find j = ahV e.lay j (s.sto.find j) := by
 unfold St.app
 rw [akx]
 cases dst <;> rfl
theorem Kj (s : St) (dst : Option Nat) (e : Eff) (h : e.lay = []) : (s.app dst e).sto.find = s.sto.find := by
 funext j
 rw [yG, h]
 rfl
theorem ab4 (s : St) (dst : Option Nat) (e : Eff) {k g : Nat} {x : Ent} (h : e.lay = [(k, g, x)]) (j : Nat) : (s.app dst e).sto.find j = if j = k then some (g, x) else s.sto.find j := by
 rw [yG, h]
 rfl
theorem Yf (s : St) (dst : Option Nat) (e : Eff) : (s.app dst e).nx = s.nx := by
 unfold St.app
 rw [(ahT _ _).2]
 cases dst <;> rfl
theorem as4 {s t : St} (h : Same s t) (dst : Option Nat) (e : Eff) : Same (s.app dst e) (t.app dst e) := by
 refine ⟨fun i => by rw [Jv, Jv, h.env i], ?_, by rw [Yf, Yf, h.nx]⟩
 funext j
 rw [yG, yG, h.sto]
theorem ach {m : Nat → Nat × Nat} {n : Nat} {a b : Sto} : ∀ (ks : List (Nat × Nat)) (es : List Ent), (∀ x ∈ ks, a.find x.1 = b.find x.1) → findAll m n a ks es → findAll m n b ks es
 | [], [], _, h => trivial
 | [], _ :: _, _, h => h.elim
 | (_, _) :: _, [], _, h => h.elim
 | (k, g) :: ks, e :: es, h, hf => by
  refine ⟨?_, hf.2.1, ach ks es (fun x hx => h x (by simp [hx])) hf.2.2⟩
  rw [← h (k, g) (by simp)]
  exact hf.1
theorem JC {fp : Option (List Nat)} {a b : Sto} {k g : Nat} {r : Res} {e : Eff} (h : ∀ l, fp = some l → ∀ j ∈ l, a.find j = b.find j) (hd : aov P fp a k g r e) : aov P fp b k g r e := by
 cases fp with
 | none => exact hd
 | some l =>
  cases r with
  | call f args =>
   obtain ⟨ks, es, args', r, es', h1, h2, h3, h4, h5, h6, h7, hq, h8⟩ := hd
   exact ⟨ks, es, args', r, es', h1, ach ks es (fun x hx => h l rfl _ (h1 x hx)) h2, h3, h4, h5, h6, h7, hq, h8⟩
  | val v => exact hd
  | eff v k' g' x => exact hd
  | need p r => exact hd
  | acF p b => exact hd
  | bad => exact hd
def Jz (P : Program) (nm : Names) (i : Nat) (o : Oper) (s : St) (e : Eff) : Prop :=
 (aaC o.op = true → s.sto.find (keyOf nm o.dst) = none) ∧ agt o s (afC nm.fp (ahh o.op o.dst)) ∧ aov P (XC nm o.op o.dst) s.sto (keyOf nm o.dst) (s.nx + i) (QD true (nfD nm o.dst) o.op (vK P true s (keyOf nm o.dst) (s.nx + i) o.op)) e
def Step (P : Program) (nm : Names) (ops : List Oper) (i : Nat) (o : Oper) (s : St) (e : Eff) : Prop :=
 match o.guard with
 | none => Jz P nm i o s e
 | some (j, want) => ∃ d g, Qq ops j = some d ∧ gate want (s.env.get d) = some g ∧ ((g = true ∧ Jz P nm i o s e) ∨ (g = false ∧ e = ⟨.tup [], []⟩))
theorem ar3 {ops : List Oper} {i : Nat} {o : Oper} {s : St} {K : St → Prop} (h : ajc P true nm ops i o s K) : ∃ e, Step P nm ops i o s e ∧ K (s.app o.dst e) := by
 have run : aip P true nm i o s K → ∃ e, Jz P nm i o s e ∧ K (s.app o.dst e) := by
  intro hr
  obtain ⟨e, h1, h2⟩ := atL _ hr.2.2
  exact ⟨e, ⟨fun hl => hr.1 rfl hl, hr.2.1, h1⟩, h2⟩
 unfold ajc at h
 unfold Step
 split at h
 ·rename_i hg
  simp only [hg]
  exact run h
 ·rename_i j want hg
  simp only [hg]
  split at h
  ·rename_i d hd
   split at h
   ·rename_i hb
    obtain ⟨e, h1, h2⟩ := run h
    exact ⟨e, ⟨d, true, hd, hb, .inl ⟨rfl, h1⟩⟩, h2⟩
   ·rename_i hb
    exact ⟨⟨.tup [], []⟩, ⟨d, false, hd, hb, .inr ⟨rfl, rfl⟩⟩, h⟩
   ·exact h.elim
  ·exact h.elim
theorem asD {ops : List Oper} {i : Nat} {o : Oper} {s : St} {K : St → Prop} {e : Eff} (h : Step P nm ops i o s e) (hK : K (s.app o.dst e)) : ajc P true nm ops i o s K := by
 have run : Jz P nm i o s e → aip P true nm i o s K := fun hr => ⟨fun _ hl => hr.1 hl, hr.2.1, au4 _ hr.2.2 hK⟩
 unfold Step at h
 unfold ajc
 split at h
 ·rename_i hg
  simp only [hg]
  exact run h
 ·rename_i j want hg
  simp only [hg]
  obtain ⟨d, b, hd, hb, hor⟩ := h
  simp only [hd, hb]
  rcases hor with ⟨rfl, h2⟩ | ⟨rfl, rfl⟩
  ·exact run h2
  ·exact hK
theorem asK {s t : St} {x : Operand} (h : ∀ d, x = .tmp d → s.env.get d = t.env.get d) : s.ev x = t.ev x := by
 cases x <;> first
  | rfl
  | exact h _ rfl
theorem ajz {ops : Array Oper} {o : Oper} {d : Nat} (h : Operand.tmp d ∈ o.op.operands) : d ∈ o.looksAt ops := by
 unfold Oper.looksAt
 refine List.mem_append.2 (.inl (List.mem_filterMap.2 ⟨.tmp d, by simpa using h, rfl⟩))
theorem amS {ops : Array Oper} {o : Oper} {j d : Nat} {want : Bool} (hg : o.guard = some (j, want)) (hd : Qq ops.toList j = some d) : d ∈ o.looksAt ops := by
 unfold Oper.looksAt
 refine List.mem_append.2 (.inr ?_)
 unfold Qq at hd
 rw [Array.getElem?_toList] at hd
 simp [hg, hd]
theorem ag0 {ops : Array Oper} {i : Nat} {o : Oper} {s t : St} {e : Eff} (henv : ∀ d ∈ o.looksAt ops, s.env.get d = t.env.get d)
  (hrun : (∀ x ∈ o.op.operands, s.ev x = t.ev x) → Jz P nm i o s e → Jz P nm i o t e) (h : Step P nm ops.toList i o s e) : Step P nm ops.toList i o t e := by
 have hev : ∀ x ∈ o.op.operands, s.ev x = t.ev x := fun x hx => asK fun d hd => henv d (ajz (hd ▸ hx))
 unfold Step at h ⊢
 split at h
 ·exact hrun hev h
 ·rename_i j want hg
  obtain ⟨d, b, hd, hb, hor⟩ := h
  refine ⟨d, b, hd, by rw [← henv d (amS hg hd)]; exact hb, ?_⟩
  rcases hor with ⟨h1, h2⟩ | h1
  ·exact .inl ⟨h1, hrun hev h2⟩
  ·exact .inr h1
theorem adl {F : List Nat} {s t : St} : ∀ (l : List Operand), (∀ x ∈ l, s.ev x = t.ev x) → JH F s l = JH F t l
 | [], _ => rfl
 | x :: l, h => by simp only [JH, h x (by simp), adl l fun y hy => h y (by simp [hy])]
theorem JB {o : Oper} {s t : St} (he : ∀ x ∈ o.op.operands, s.ev x = t.ev x) {F : Option (List Nat)} (h : agt o s F) : agt o t F := by
 cases F with
 | none => trivial
 | some F =>
  show JH F t o.op.operands.toList = true
  rw [← adl o.op.operands.toList fun x hx => he x (by simpa using hx)]
  exact h
theorem arV {ops : Array Oper} {i : Nat} {o : Oper} {s t : St} {e : Eff} (hs : Same s t) (h : Step P nm ops.toList i o s e) : Step P nm ops.toList i o t e :=
 ag0 (fun d _ => hs.env d) (fun hev hr => ⟨fun hl => by rw [← hs.sto]; exact hr.1 hl, JB hev hr.2.1, by rw [← hs.nx, ← Qu hev hs.sto]; exact JC (fun _ _ j _ => by rw [hs.sto]) hr.2.2⟩) h
def vQ (nm : Names) (o : Oper) : Cls :=
 match XC nm o.op o.dst with
 | some _ => .w
 | none => Zp o.op
theorem YW {o : Oper} (h : vQ nm o ≠ .w) : XC nm o.op o.dst = none ∧ vQ nm o = Zp o.op := by
 unfold vQ at h ⊢
 cases hc : XC nm o.op o.dst with
 | none => exact ⟨rfl, rfl⟩
 | some l => rw [hc] at h; exact (h rfl).elim
def ae8 (nm : Names) (op : Op) (dst : Option Nat) : List Nat :=
 match op with
 | .store _ _ _ => []
 | _ => [keyOf nm dst]
def foot (nm : Names) (o : Oper) : Option (List Nat × List Nat) :=
 match vQ nm o with
 | .n => some ([], [])
 | .a => some ([], [keyOf nm o.dst])
 | .r => (afC nm.fp (ahh o.op o.dst)).map fun F => (F, [])
 | .w => (afC nm.fp (ahh o.op o.dst)).map fun F => (F, ae8 nm o.op o.dst ++ (if (KR F && (XC nm o.op o.dst).isSome) = true then [] else F))
def avN (a b : List Nat) : Bool := a.all fun k => !b.contains k
def apJ (x y : Option (List Nat × List Nat)) : Bool :=
 match x, y with
 | some (rx, wx), some (ry, wy) => avN wx ry && avN wx wy && avN wy rx
 | _, _ => false
def abe (nm : Names) (ops : Array Oper) (x y : Oper) : Bool :=
 x.apart ops y && ((aid (vQ nm x) (vQ nm y) && (vQ nm x != .a || vQ nm y != .a || keyOf nm x.dst != keyOf nm y.dst)) || apJ (foot nm x) (foot nm y))
theorem aa2 {a b : List Nat} (h : avN a b = true) {k : Nat} (ha : k ∈ a) : k ∉ b := by
 have := List.all_eq_true.1 h k ha
 simpa using this
theorem XK {i : Nat} {o : Oper} {s : St} {e : Eff} (h : Jz P nm i o s e) :
  ((vQ nm o = .n ∨ vQ nm o = .r) → e.lay = []) ∧ (vQ nm o = .a → s.sto.find (keyOf nm o.dst) = none ∧ ∃ x, e.lay = [(keyOf nm o.dst, s.nx + i, x)]) :=
 ⟨fun hc => by
  obtain ⟨h1, h2⟩ := YW (o := o) (fun e => by rcases hc with hc | hc <;> rw [e] at hc <;> cases hc)
  rw [h2] at hc
  have h3 := h.2.2
  rw [h1, ai5 hc] at h3
  exact asU hc h3, fun hc => by
  obtain ⟨g1, g2⟩ := YW (o := o) (fun e => by rw [e] at hc; cases hc)
  rw [g2] at hc
  have g3 := h.2.2
  rw [g1] at g3
  obtain ⟨e0, h0, hor⟩ := aht (A := fun as => as) g3
  obtain ⟨h1, x, h2⟩ := avz hc h0
  refine ⟨h.1 h1, ?_⟩
  rcases hor with rfl | ⟨k, g, x0, x', h3, h4⟩
  ·exact ⟨x, h2⟩
  ·rw [h3] at h2; cases h2; exact ⟨x', h4⟩⟩
theorem ar5 {op : Op} (h : aaC op = true) : Zp op = .a := by cases op <;> first | rfl | cases h
theorem anO {o : Oper} (h : aaC o.op = true) : vQ nm o = .a := by
 have h1 := ar5 h
 unfold vQ
 cases hc : XC nm o.op o.dst with
 | none => exact h1
 | some l =>
  unfold XC at hc
  split at hc
  ·rename_i c heq; rw [heq] at h; cases h
  ·cases hc
theorem aiW {ops : List Oper} {i : Nat} {o : Oper} {s : St} {e : Eff} (h : Step P nm ops i o s e) :
  ((vQ nm o = .n ∨ vQ nm o = .r) → e.lay = []) ∧ (vQ nm o = .a → e.lay = [] ∨ (s.sto.find (keyOf nm o.dst) = none ∧ ∃ x, e.lay = [(keyOf nm o.dst, s.nx + i, x)])) := by
 unfold Step at h
 split at h
 ·exact ⟨(XK h).1, fun hc => .inr ((XK h).2 hc)⟩
 ·obtain ⟨d, b, hd, hb, hor⟩ := h
  rcases hor with ⟨_, h2⟩ | ⟨_, rfl⟩
  ·exact ⟨(XK h2).1, fun hc => .inr ((XK h2).2 hc)⟩
  ·exact ⟨fun _ => rfl, fun _ => .inl rfl⟩
theorem XR {F : List Nat} {s : St} : ∀ (l : List Operand), JH F s l = true → ∀ x ∈ l, ∀ k, (s.ev x).top = some k → k ∈ F
 | [], _, x, hx, _, _ => by cases hx
 | y :: l, h, x, hx, k, hk => by
  simp only [JH, Bool.and_eq_true] at h
  rcases List.mem_cons.1 hx with rfl | hx
  ·rw [hk] at h
   simpa [at7] using h.1
  ·exact XR l h.2 x hx k hk
theorem apE {o : Oper} {s : St} {R W : List Nat} (hf : foot nm o = some (R, W)) (hfp : agt o s (afC nm.fp (ahh o.op o.dst))) : (vQ nm o = .n ∨ vQ nm o = .a) ∨ ∀ x ∈ o.op.operands, ∀ k, (s.ev x).top = some k → k ∈ R := by
 unfold foot at hf
 cases hc : vQ nm o with
 | n => exact .inl (.inl rfl)
 | a => exact .inl (.inr rfl)
 | r =>
  simp only [hc] at hf
  cases hF : afC nm.fp (ahh o.op o.dst) with
  | none => simp [hF] at hf
  | some F =>
   simp only [hF, Option.map_some, Option.some.injEq, Prod.mk.injEq] at hf
   obtain ⟨rfl, rfl⟩ := hf
   rw [hF] at hfp
   exact .inr fun x hx => XR _ hfp x (by simpa using hx)
 | w =>
  simp only [hc] at hf
  cases hF : afC nm.fp (ahh o.op o.dst) with
  | none => simp [hF] at hf
  | some F =>
   simp only [hF, Option.map_some, Option.some.injEq, Prod.mk.injEq] at hf
   obtain ⟨rfl, rfl⟩ := hf
   rw [hF] at hfp
   exact .inr fun x hx => XR _ hfp x (by simpa using hx)
theorem ab8 {fnd : Fnd} {k g t : Nat} {s x : PV} {e : Eff} (h : (Zi P fnd k g t s x).does P (fun as => as) e) : e.lay = [] ∨ ∃ k' g' z, e.lay = [(k', g', z)] ∧ (k' = k ∨ s.top = some k') := by
 unfold Zi at h
 split at h
 ·simp only at h
  split at h
  ·exact h.elim
  ·obtain ⟨_, h⟩ := h
   split at h
   ·obtain ⟨_, h⟩ := h
    cases h
    exact .inr ⟨_, _, _, rfl, .inl rfl⟩
   ·rename_i k' g' n
    split at h
    ·obtain ⟨_, h⟩ := h
     split at h
     ·obtain ⟨_, h⟩ := h
      cases h
      exact .inr ⟨_, _, _, rfl, .inr rfl⟩
     ·obtain ⟨_, h⟩ := h
      cases h
      exact .inr ⟨_, _, _, rfl, .inr rfl⟩
    ·split at h
     ·obtain ⟨_, h⟩ := h
      cases h
      exact .inr ⟨_, _, _, rfl, .inr rfl⟩
     ·exact h.elim
    ·exact h.elim
   ·obtain ⟨_, h⟩ := h
    cases h
    exact .inl rfl
   ·exact h.elim
 ·exact h.elim
theorem amx {fnd : Fnd} {t : Nat} {x v : PV} {e : Eff} (h : (Zc P fnd t x v).does P (fun as => as) e) : e.lay = [] ∨ ∃ k' g' z, e.lay = [(k', g', z)] ∧ x.top = some k' := by
 unfold Zc at h
 split at h
 ·exact h.elim
 ·obtain ⟨_, h⟩ := h
  split at h
  ·split at h
   ·obtain ⟨_, h⟩ := h
    cases h
    exact .inr ⟨_, _, _, rfl, rfl⟩
   ·exact h.elim
  ·split at h
   ·obtain ⟨_, h⟩ := h
    split at h
    ·obtain ⟨_, h⟩ := h
     cases h
     exact .inr ⟨_, _, _, rfl, rfl⟩
    ·obtain ⟨_, h⟩ := h
     cases h
     exact .inr ⟨_, _, _, rfl, rfl⟩
   ·exact h.elim
  ·exact h.elim
theorem ane {fnd : Fnd} {x : PV} {e : Eff} (h : (Vk fnd x).does P (fun as => as) e) : e.lay = [] ∨ ∃ k' g' z, e.lay = [(k', g', z)] ∧ x.top = some k' := by
 unfold Vk at h
 split at h
 ·split at h
  ·obtain ⟨_, h⟩ := h
   split at h
   ·cases h
    exact .inr ⟨_, _, _, rfl, rfl⟩
   ·cases h
    exact .inl rfl
  ·exact h.elim
 ·exact h.elim
theorem ayL {s : St} {k g : Nat} {op : Op} {e : Eff} (hc : Zp op = .w) (h : (vK P true s k g op).does P (fun as => as) e) : e.lay = [] ∨ ∃ k' g' z, e.lay = [(k', g', z)] ∧ ((k' = k ∧ ∀ t a v, op ≠ .store t a v) ∨ ∃ x ∈ op.operands, (s.ev x).top = some k') := by
 cases op <;> simp only [Zp, reduceCtorEq] at hc <;> simp only [vK] at h
 case store ty x v =>
  rcases amx h with h1 | ⟨k', g', z, h1, h2⟩
  ·exact .inl h1
  ·exact .inr ⟨k', g', z, h1, .inr ⟨x, by simp [Op.operands], h2⟩⟩
 case next it b =>
  cases b with
  | true =>
   rcases ane h with h1 | ⟨k', g', z, h1, h2⟩
   ·exact .inl h1
   ·exact .inr ⟨k', g', z, h1, .inr ⟨it, by simp [Op.operands], h2⟩⟩
  | false => exact h.elim
 case call c =>
  cases hcc : c.callee with
  | value f => simp [hcc] at hc
  | invoke r m => simp [hcc] at hc
  | builtin b =>
   simp only [hcc] at h hc
   cases b <;> simp only [reduceCtorEq] at hc
   unfold yz at h
   simp only at h
   split at h
   ·rename_i ts t1 t2 _
    split at h
    ·rename_i as a1 a2 heq
     split at h
     ·rcases ab8 h with h1 | ⟨k', g', z, h1, h2 | h2⟩
      ·exact .inl h1
      ·exact .inr ⟨k', g', z, h1, .inl ⟨h2, fun _ _ _ hh => by cases hh⟩⟩
      ·refine .inr ⟨k', g', z, h1, .inr ?_⟩
       have : a1 ∈ c.args.toList.map s.ev := by rw [heq]; simp
       obtain ⟨x, hx, rfl⟩ := List.mem_map.1 this
       exact ⟨x, by simp only [Op.operands, Call.operands, Array.mem_append]; exact .inr (by simpa using hx), h2⟩
     ·rcases ab8 h with h1 | ⟨k', g', z, h1, h2 | h2⟩
      ·exact .inl h1
      ·exact .inr ⟨k', g', z, h1, .inl ⟨h2, fun _ _ _ hh => by cases hh⟩⟩
      ·refine .inr ⟨k', g', z, h1, .inr ?_⟩
       have : a1 ∈ c.args.toList.map s.ev := by rw [heq]; simp
       obtain ⟨x, hx, rfl⟩ := List.mem_map.1 this
       exact ⟨x, by simp only [Op.operands, Call.operands, Array.mem_append]; exact .inr (by simpa using hx), h2⟩
     ·exact h.elim
    ·exact h.elim
   ·exact h.elim
theorem apB {op : Op} {dst : Option Nat} (h : ∀ t a v, op ≠ .store t a v) : keyOf nm dst ∈ ae8 nm op dst := by
 unfold ae8
 split
 ·exact (h _ _ _ rfl).elim
 ·simp
theorem akL {ops : List Oper} {i : Nat} {o : Oper} {s : St} {e : Eff} {R W : List Nat} (hf : foot nm o = some (R, W)) (h : Step P nm ops i o s e) : ∀ x ∈ e.lay, x.1 ∈ W := by
 have run : Jz P nm i o s e → ∀ x ∈ e.lay, x.1 ∈ W := by
  intro hr
  unfold foot at hf
  cases hc : vQ nm o with
  | n => rw [(XK hr).1 (.inl hc)]; simp
  | r => rw [(XK hr).1 (.inr hc)]; simp
  | a =>
   simp only [hc, Option.some.injEq, Prod.mk.injEq] at hf
   obtain ⟨rfl, rfl⟩ := hf
   obtain ⟨_, x, hx⟩ := (XK hr).2 hc
   rw [hx]
   simp
  | w =>
   simp only [hc] at hf
   cases hF : afC nm.fp (ahh o.op o.dst) with
   | none => simp [hF] at hf
   | some F =>
    simp only [hF, Option.map_some, Option.some.injEq, Prod.mk.injEq] at hf
    obtain ⟨rfl, rfl⟩ := hf
    have hfp := hr.2.1
    rw [hF] at hfp
    have hd := hr.2.2
    cases hcf : XC nm o.op o.dst with
    | none =>
     rw [hcf] at hd
     have hc' : Zp o.op = .w := by
      unfold vQ at hc
      rw [hcf] at hc
      exact hc
     obtain ⟨e0, h0, hor⟩ := aht (A := fun as => as) hd
     rw [Option.isSome_none, Bool.and_false, if_neg Bool.false_ne_true]
     have hl0 : e0.lay = [] ∨ ∃ k' g' z, e0.lay = [(k', g', z)] ∧ k' ∈ ae8 nm o.op o.dst ++ F := by
      rcases ayL hc' h0 with h1 | ⟨k', g', z, h1, ⟨rfl, hns⟩ | ⟨x, hx, hk⟩⟩
      ·exact .inl h1
      ·exact .inr ⟨_, _, _, h1, List.mem_append_left _ (apB hns)⟩
      ·exact .inr ⟨_, _, _, h1, by simp [XR _ hfp x (by simpa using hx) k' hk]⟩
     rcases hor with rfl | ⟨k, g, x0, x, h1, h2⟩
     ·rcases hl0 with h3 | ⟨k', g', z, h3, h4⟩
      ·rw [h3]; simp
      ·rw [h3]; simpa using h4
     ·rcases hl0 with h3 | ⟨k', g', z, h3, h4⟩
      ·rw [h3] at h1; cases h1
      ·rw [h3] at h1; cases h1; rw [h2]; simpa using h4
    | some l =>
     rw [hcf] at hd
     obtain ⟨_, c, f, e1, e2, e3⟩ := aif (q := true) hcf
     rw [aku e1] at hF
     rw [hF] at e3
     cases e3
     rw [e1, aiA e2] at hd
     have hres : vK P true s (keyOf nm o.dst) (s.nx + i) (.call c) = .bad ∨ ∃ f' args, vK P true s (keyOf nm o.dst) (s.nx + i) (.call c) = .call f' args := by
      simp only [vK, e2]
      split
      ·exact .inr ⟨_, _, rfl⟩
      ·exact .inl rfl
     rcases hres with hres | ⟨f', args, hres⟩
     ·rw [hres] at hd; exact hd.elim
     ·rw [hres] at hd
      obtain ⟨ks, es, args', r, es', h1, _, _, _, _, _, _, _, rfl⟩ := hd
      intro x hx
      by_cases hq : KR F = true
      ·rw [if_pos hq] at hx
       rcases anC _ _ _ _ _ x hx with h2 | ⟨y, h2, h3⟩
       ·rw [h2]; simp [e1, ae8]
       ·cases h2
      rw [if_neg hq] at hx
      rw [if_neg (by simp [hq])]
      rcases anC _ _ _ _ _ x hx with h2 | ⟨y, h2, h3⟩
      ·rw [h2]; simp [e1, ae8]
      ·have : y.1 ∈ (zZ (s.nx + i) ks es').map (·.1) := List.mem_map.2 ⟨y, h2, rfl⟩
       rw [Kc] at this
       obtain ⟨z, h4, h5⟩ := List.mem_map.1 this
       have := h1 z h4
       rw [h5, h3] at this
       simp [this]
 unfold Step at h
 split at h
 ·exact run h
 ·obtain ⟨d, b, hd, hb, hor⟩ := h
  rcases hor with ⟨_, h2⟩ | ⟨_, rfl⟩
  ·exact run h2
  ·simp
theorem aka {ops : Array Oper} {i : Nat} {o : Oper} {s t : St} {e : Eff} {R W : List Nat} (hf : foot nm o = some (R, W)) (henv : ∀ d ∈ o.looksAt ops, s.env.get d = t.env.get d) (hnx : s.nx = t.nx)
  (hfind : ∀ k ∈ R, s.sto.find k = t.sto.find k) (hkey : aaC o.op = true → s.sto.find (keyOf nm o.dst) = none → t.sto.find (keyOf nm o.dst) = none) (h : Step P nm ops.toList i o s e) : Step P nm ops.toList i o t e := by
 refine ag0 henv (fun hev hr => ?_) h
 refine ⟨fun hl => hkey hl (hr.1 hl), JB hev hr.2.1, ?_⟩
 rw [← hnx]
 have hd := hr.2.2
 cases hcf : XC nm o.op o.dst with
 | some l =>
  rw [hcf] at hd
  obtain ⟨_, c, f, e1, e2, e3⟩ := aif (q := true) hcf
  have hR : ∀ j ∈ l, s.sto.find j = t.sto.find j := by
   intro j hj
   refine hfind j ?_
   unfold foot at hf
   have hc : vQ nm o = .w := by unfold vQ; rw [hcf]
   simp only [hc, aku e1, e3, Option.map_some, Option.some.injEq, Prod.mk.injEq] at hf
   rw [← hf.1]
   exact hj
  rw [← Jp (op := o.op) (.inl (by rw [e1]; simp [Zp, e2])) hev]
  exact JC (fun l' hl' j hj => by cases hl'; exact hR j hj) hd
 | none =>
  rw [hcf] at hd
  have hcl : vQ nm o = Zp o.op := by unfold vQ; rw [hcf]
  rcases apE hf hr.2.1 with hc | hR
  ·rw [hcl] at hc
   rw [← Jp hc hev]; exact hd
  ·rw [← apT hev fun x hx k hk => hfind k (hR x hx k hk)]; exact hd
theorem VW {s : St} {dst : Option Nat} {e : Eff} {W : List Nat} (h : ∀ x ∈ e.lay, x.1 ∈ W) {k : Nat} (hk : k ∉ W) : (s.app dst e).sto.find k = s.sto.find k := by
 rw [yG]
 exact anj _ _ _ fun x hx e => hk (e ▸ h x hx)
theorem aru {ops : Array Oper} {ix iy : Nat} {x y : Oper} {s : St} {ex ey : Eff} (hap : x.apart ops y = true) (hm : apJ (foot nm x) (foot nm y) = true) (hx : Step P nm ops.toList ix x s ex) (hy : Step P nm ops.toList iy y (s.app x.dst ex) ey) :
  Step P nm ops.toList iy y s ey ∧ Step P nm ops.toList ix x (s.app y.dst ey) ex ∧ Same ((s.app x.dst ex).app y.dst ey) ((s.app y.dst ey).app x.dst ex) := by
 obtain ⟨a1, a2, a3⟩ := Oper.apart_spec hap
 unfold apJ at hm
 split at hm
 case h_2 => cases hm
 rename_i rx wx ry wy hfx hfy
 simp only [Bool.and_eq_true] at hm
 obtain ⟨⟨d1, d2⟩, d3⟩ := hm
 have hlx := akL hfx hx
 have hly := akL hfy hy
 have h1 : Step P nm ops.toList iy y s ey := by
  refine aka hfy (fun d hd => ?_) (Yf _ _ _) (fun k hk => ?_) (fun hl h0 => ?_) hy
  ·rw [Jv, if_neg]
   intro hxd
   exact a1 d hxd hd
  ·refine VW hlx fun hw => aa2 d1 hw hk
  ·rw [yG] at h0
   exact aeO _ _ _ h0
 refine ⟨h1, ?_, ?_⟩
 ·refine aka hfx (fun d hd => ?_) (Yf _ _ _).symm (fun k hk => ?_) (fun hl h0 => ?_) hx
  ·rw [Jv, if_neg]
   intro hyd
   exact a3 d hyd hd
  ·exact (VW hly fun hw => aa2 d3 hw hk).symm
  ·rw [VW hly]
   ·exact h0
   ·intro hw
    have hwx : keyOf nm x.dst ∈ wx := by
     have hc := anO (nm := nm) hl
     unfold foot at hfx
     simp only [hc, Option.some.injEq, Prod.mk.injEq] at hfx
     obtain ⟨_, rfl⟩ := hfx
     simp
    exact aa2 d2 hwx hw
 ·refine ⟨fun i => ?_, ?_, by simp only [Yf]⟩
  ·simp only [Jv]
   by_cases hi : y.dst = some i
   ·by_cases hi' : x.dst = some i
    ·exact (a2 i hi' hi).elim
    ·simp [hi, hi']
   ·simp [hi]
  ·funext j
   by_cases hjx : j ∈ wx
   ·have hjy : j ∉ wy := aa2 d2 hjx
    rw [VW hly hjy, yG, yG, VW hly hjy]
   ·rw [VW hlx hjx, yG, VW hlx hjx, yG]
theorem swap {ops : Array Oper} {ix iy : Nat} {x y : Oper} {s : St} {ex ey : Eff} (hm : abe nm ops x y = true) (hx : Step P nm ops.toList ix x s ex) (hy : Step P nm ops.toList iy y (s.app x.dst ex) ey) :
  Step P nm ops.toList iy y s ey ∧ Step P nm ops.toList ix x (s.app y.dst ey) ex ∧ Same ((s.app x.dst ex).app y.dst ey) ((s.app y.dst ey).app x.dst ex) := by
 simp only [abe, Bool.and_eq_true, Bool.or_eq_true, bne_iff_ne, ne_eq] at hm
 obtain ⟨hap, ⟨hsw, hkey⟩ | hfoot⟩ := hm
 case inr => exact aru hap hfoot hx hy
 obtain ⟨a1, a2, a3⟩ := Oper.apart_spec hap
 have hlx := aiW hx
 have hly := aiW hy
 have hxnone : vQ nm x = .n ∨ vQ nm x = .r → (s.app x.dst ex).sto.find = s.sto.find := fun hc => Kj _ _ _ (hlx.1 hc)
 have h1 : Step P nm ops.toList iy y s ey := by
  refine ag0 (fun d hd => ?_) (fun hev hr => ?_) hy
  ·rw [Jv]
   rw [if_neg]
   intro hxd
   exact a1 d hxd hd
  ·refine ⟨fun hl => ?_, JB hev hr.2.1, ?_⟩
   ·have h0 := hr.1 hl
    rw [yG] at h0
    exact aeO _ _ _ h0
   ·rw [← Yf s x.dst ex]
    have hcases : (vQ nm x = .n ∨ vQ nm x = .r) ∨ (vQ nm y = .n ∨ vQ nm y = .a) := by
     cases hcx : vQ nm x <;> cases hcy : vQ nm y <;> simp_all [aid]
    rcases hcases with hc | hc
    ·rw [← Qu hev (hxnone hc)]; exact JC (fun _ _ j _ => by rw [hxnone hc]) hr.2.2
    ·obtain ⟨g1, g2⟩ := YW (nm := nm) (o := y) (fun e => by rcases hc with hc | hc <;> rw [e] at hc <;> cases hc)
     have hd := hr.2.2
     rw [g1] at hd ⊢
     rw [g2] at hc
     rw [← Jp hc hev]; exact hd
 have hly' := aiW h1
 refine ⟨h1, ?_, ?_⟩
 ·
  refine ag0 (fun d hd => ?_) (fun hev hr => ?_) hx
  ·rw [Jv]
   rw [if_neg]
   intro hyd
   exact a3 d hyd hd
  ·have hyl : vQ nm y = .n ∨ vQ nm y = .r → (s.app y.dst ey).sto.find = s.sto.find := fun hc => Kj _ _ _ (hly'.1 hc)
   refine ⟨fun hl => ?_, JB hev hr.2.1, ?_⟩
   ·have hca := anO (nm := nm) hl
    have h0 := hr.1 hl
    have hcy : vQ nm y = .n ∨ vQ nm y = .a := by
     cases hcy : vQ nm y <;> simp_all [aid]
    rcases hcy with hc | hc
    ·rw [hyl (.inl hc)]; exact h0
    ·rcases hly'.2 hc with hn | ⟨hfr, z, hz⟩
     ·rw [Kj _ _ _ hn]; exact h0
     ·rw [ab4 _ _ _ hz]
      rcases hkey with (hk | hk) | hk
      ·exact (hk hca).elim
      ·exact (hk hc).elim
      ·rw [if_neg hk]; exact h0
   ·rw [Yf s y.dst ey]
    have hcases : (vQ nm y = .n ∨ vQ nm y = .r) ∨ (vQ nm x = .n ∨ vQ nm x = .a) ∨ (vQ nm x = .r ∧ vQ nm y = .a) := by
     cases hcx : vQ nm x <;> cases hcy : vQ nm y <;> simp_all [aid]
    rcases hcases with hc | hc | ⟨hc, hc'⟩
    ·rw [← Qu hev (hyl hc).symm]; exact JC (fun _ _ j _ => by rw [hyl hc]) hr.2.2
    ·obtain ⟨g1, g2⟩ := YW (nm := nm) (o := x) (fun e => by rcases hc with hc | hc <;> rw [e] at hc <;> cases hc)
     have hd := hr.2.2
     rw [g1] at hd ⊢
     rw [g2] at hc
     rw [← Jp hc hev]; exact hd
    ·obtain ⟨g1, g2⟩ := YW (nm := nm) (o := x) (fun e => by rw [e] at hc; cases hc)
     have hr2 := hr.2.2
     rw [g1] at hr2 ⊢
     rw [g2] at hc
     rw [ai5 (.inr hc)] at hr2 ⊢
     refine auZ hc hev (fun j v hj => ?_) hr2
     rcases hly'.2 hc' with hn | ⟨hfr, z, hz⟩
     ·rw [Kj _ _ _ hn]; exact hj
     ·rw [ab4 _ _ _ hz, if_neg]
      ·exact hj
      ·intro hjk
       rw [hjk, hfr] at hj
       cases hj
 ·
  refine ⟨fun i => ?_, ?_, by simp only [Yf]⟩
  ·simp only [Jv]
   by_cases hi : y.dst = some i
   ·by_cases hi' : x.dst = some i
    ·exact (a2 i hi' hi).elim
    ·simp [hi, hi']
   ·simp [hi]
  ·funext j
   simp only [yG]
   by_cases hex : ex.lay = []
   ·simp only [hex, ahV]
   ·by_cases hey : ey.lay = []
    ·simp only [hey, ahV]
    ·have hcx : vQ nm x = .a ∧ vQ nm y = .a := by
      have nx : ¬ (vQ nm x = .n ∨ vQ nm x = .r) := fun h => hex (hlx.1 h)
      have ny : ¬ (vQ nm y = .n ∨ vQ nm y = .r) := fun h => hey (hly.1 h)
      cases hcx : vQ nm x <;> cases hcy : vQ nm y <;> simp_all [aid]
     rcases hlx.2 hcx.1 with hn | ⟨_, z, hz⟩
     ·exact (hex hn).elim
     ·rcases hly.2 hcx.2 with hn | ⟨_, z', hz'⟩
      ·exact (hey hn).elim
      ·have hne : keyOf nm x.dst ≠ keyOf nm y.dst := by
        rcases hkey with (hk | hk) | hk
        ·exact (hk hcx.1).elim
        ·exact (hk hcx.2).elim
        ·exact hk
       simp only [hz, hz', ahV]
       by_cases hj : j = keyOf nm y.dst
       ·subst hj
        simp [Ne.symm hne]
       ·simp [hj]
end
end Go.Proofs.YtclohbgnaopjfaaDoor
namespace Go.Proofs.YtclohbgnaopjfaaDoor
set_option linter.unusedSimpArgs false
set_option linter.unusedVariables false
open Go
section
variable {P : Program} {nm : Names}
def am3 (P : Program) (nm : Names) (ops : Array Oper) : List Nat → St → St → Prop
 | [], s, t => Same s t
 | i :: l, s, t => ∃ o e, ops[i]? = some o ∧ Step P nm ops.toList i o s e ∧ am3 P nm ops l (s.app o.dst e) t
theorem akf {ops : Array Oper} : ∀ (l : List Nat) {s s' t : St}, Same s s' → am3 P nm ops l s t → am3 P nm ops l s' t
 | [], _, _, _, h, hr => h.symm.trans hr
 | i :: l, _, _, _, h, ⟨o, e, h1, h2, h3⟩ => ⟨o, e, h1, arV h h2, akf l (as4 h _ _) h3⟩
theorem afT {ops : Array Oper} {i : Nat} {y : Oper} (hy : ops[i]? = some y) : ∀ (pre post : List Nat) {s t : St}, (∀ j ∈ pre, ∀ x, ops[j]? = some x → abe nm ops x y = true) →
  am3 P nm ops (pre ++ i :: post) s t → am3 P nm ops (i :: (pre ++ post)) s t
 | [], _, _, _, _, h => h
 | j :: pre, post, s, t, hsw, ⟨x, ex, h1, h2, h3⟩ => by
  obtain ⟨y', ey, h4, h5, h6⟩ := afT hy pre post (fun j' hj' => hsw j' (by simp [hj'])) h3
  rw [hy] at h4
  cases h4
  obtain ⟨q1, q2, q3⟩ := swap (hsw j (by simp) x h1) h2 h5
  exact ⟨y, ey, hy, q1, x, ex, h1, q2, akf _ q3 h6⟩
theorem aiK {ops : Array Oper} {K : St → Prop} : ∀ (l : List Oper) (i : Nat) (s : St), (∀ j, l[j]? = ops[i + j]?) → jf P true nm ops.toList l i s K → ∃ t, am3 P nm ops (List.range' i l.length) s t ∧ K t
 | [], _, s, _, h => ⟨s, Same.refl s, h⟩
 | o :: l, i, s, hl, h => by
  obtain ⟨e, h1, h2⟩ := ar3 h
  obtain ⟨t, h3, h4⟩ := aiK l (i + 1) _ (fun j => by have := hl (j + 1); simpa [Nat.add_assoc, Nat.add_comm 1 j] using this) h2
  refine ⟨t, ?_, h4⟩
  rw [List.length_cons, List.range'_succ]
  exact ⟨o, e, by have := hl 0; simpa using this.symm, h1, h3⟩
def before (ops : Array Oper) : Nat → Nat → Nat → Bool
 | 0, _, _ => false
 | f + 1, j, i => match ops[i]? with
  | none => false
  | some o => o.after.toList.any fun e => Region.binds .any e && (e.on == j || (decide (j < e.on) && before ops f j e.on))
theorem aeh {ops : Array Oper} {R : List Nat} (hcl : ∀ j, j ∉ R → ∀ o, ops[j]? = some o → ∀ e ∈ o.after, Region.binds .any e = true → e.on ∉ R) : ∀ (f j i : Nat), before ops f j i = true →
  (∀ o, ops[i]? = some o → ∀ e ∈ o.after, Region.binds .any e = true → e.on ∉ R) → j ∉ R
 | 0, _, _, h, _ => by simp [before] at h
 | f + 1, j, i, h, hi => by
  unfold before at h
  split at h
  ·cases h
  ·rename_i o ho
   obtain ⟨e, he, hb⟩ := List.any_eq_true.1 h
   simp only [Bool.and_eq_true, Bool.or_eq_true, beq_iff_eq] at hb
   have h1 := hi o ho e (by simpa using he) hb.1
   rcases hb.2 with h2 | h2
   ·rw [← h2]; exact h1
   ·exact aeh hcl f j e.on h2.2 fun o ho e' he' hb' => hcl _ h1 o ho e' he' hb'
def aly (nm : Names) (ops : Array Oper) : Bool := (List.range ops.size).all fun i => match ops[i]? with
 | none => true
 | some o => (o.after.all fun e => !Region.binds .any e || decide (e.on < i)) && (List.range i).all fun j => match ops[j]? with
  | none => true
  | some x => abe nm ops x o || before ops ops.size j i
theorem akk {ops : Array Oper} (h : aly nm ops = true) {i : Nat} {o : Oper} (ho : ops[i]? = some o) :
  (∀ e ∈ o.after, Region.binds .any e = true → e.on < i) ∧ ∀ j x, j < i → ops[j]? = some x → abe nm ops x o = true ∨ before ops ops.size j i = true := by
 have hlt : i < ops.size := (Array.getElem?_eq_some_iff.1 ho).1
 have := List.all_eq_true.1 h i (List.mem_range.2 hlt)
 simp only [ho, Bool.and_eq_true] at this
 obtain ⟨h1, h2⟩ := this
 refine ⟨fun e he hb => ?_, fun j x hj hx => ?_⟩
 ·have := Array.all_eq_true_iff_forall_mem.1 h1 e he
  simpa [hb] using this
 ·have := List.all_eq_true.1 h2 j (List.mem_range.2 hj)
  simpa only [hx, Bool.or_eq_true] using this
theorem Rel.same {B : Base} {F : Nat → Prop} {H : Imm} {L : Lay} {s t : St} {a : Act} {w : World} (h : Rel B F H L s a w) (hs : Same s t) : Rel B F H L t a w :=
 { h with env := fun i => by rw [← hs.env i]; exact h.env i, sto := fun k g e he => h.sto k g e (by rw [hs.sto]; exact he) }
theorem asr {B : Base} {ops : Array Oper} {nt n0 : Nat} {df : List Deferred} (hok : aod nt nm ops.toList = true) (hdr : aly nm ops = true) {Q : Exit → Act → World → Prop} {t : St}
  (hQ : ∀ a' w' H' L', Rel B (fun g => n0 + ops.size ≤ g) H' L' t a' w' → a'.defers = df → a'.tmps.size = nt → Q .normal a' w') :
  ∀ (fuel : Nat) (R : List Nat) (listed : Array Bool) (H : Imm) (L : Lay) (s : St) (a : Act) (w : World), R.length = fuel → listed.size = ops.size → (∀ j, j < ops.size → (listed.getD j true = false ↔ j ∈ R)) → R.Pairwise (· < ·) → (∀ j ∈ R, j < ops.size) → (∀ j, j ∉ R → ∀ o, ops[j]? = some o → ∀ e ∈ o.after, Region.binds .any e = true → e.on ∉ R) →
   s.nx = n0 → a.tmps.size = nt → a.defers = df → Rel B (fun g => n0 + ops.size ≤ g ∨ ∃ i ∈ R, g = n0 + i) H L s a w → am3 P nm ops R s t → wpAny P .any ops Q fuel listed a w := by
 intro fuel
 induction fuel with
 | zero =>
  intro R listed H L s a w hlen hsz hR hsort hlt hcl hn ht hdf hrel hruns
  have : R = [] := List.eq_nil_of_length_eq_zero hlen
  subst this
  refine ⟨?_, hQ a w H L ((hrel.less fun g hg => .inl hg).same hruns) hdf ht⟩
  unfold Region.ready
  simp only [List.filter_eq_nil_iff, List.mem_range]
  intro i hi
  have := (hR i hi).1
  cases hl : listed.getD i true with
  | true => simp
  | false => exact absurd (this hl) (by simp)
 | succ fuel ih =>
  intro R listed H L s a w hlen hsz hR hsort hlt hcl hn ht hdf hrel hruns
  refine ⟨fun hready => ?_, fun i hi => ?_⟩
  ·
   exfalso
   match R, hlen with
   | i :: R', _ =>
    have hi : i < ops.size := hlt i (by simp)
    have hmem : i ∈ Region.ready .any ops listed := by
     refine mem_ready.2 ⟨(hR i hi).2 (by simp), ops[i], Array.getElem?_eq_getElem hi, fun e he hb => ?_⟩
     have hlt' := (akk hdr (Array.getElem?_eq_getElem hi)).1 e he hb
     have hnotin : e.on ∉ i :: R' := by
      intro hin
      rcases List.mem_cons.1 hin with h | h
      ·omega
      ·have := (List.pairwise_cons.1 hsort).1 e.on h
       omega
     have hes : e.on < ops.size := by omega
     have hd : listed.getD e.on true = true := by
      cases hl : listed.getD e.on true with
      | true => rfl
      | false => exact absurd ((hR e.on hes).1 hl) hnotin
     unfold Array.getD at hd ⊢
     split at hd
     ·rename_i hlt2; simp only [hlt2, dif_pos]; exact hd
     ·omega
    rw [hready] at hmem
    cases hmem
  ·obtain ⟨hun, o, ho, hedges⟩ := mem_ready.1 hi
   have his : i < ops.size := (Array.getElem?_eq_some_iff.1 ho).1
   have hiR : i ∈ R := (hR i his).1 hun
   obtain ⟨pre, post, hsplit⟩ := List.append_of_mem hiR
   subst hsplit
   have hdone : ∀ e ∈ o.after, Region.binds .any e = true → e.on ∉ pre ++ i :: post := by
    intro e he hb hin
    have h1 := hedges e he hb
    have h2 := (hR e.on (hlt _ hin)).2 hin
    unfold Array.getD at h1 h2
    split at h1
    ·rename_i hlt2
     simp only [hlt2, dif_pos] at h2
     rw [h2] at h1
     cases h1
    ·cases h1
   have hsw : ∀ j ∈ pre, ∀ x, ops[j]? = some x → abe nm ops x o = true := by
    intro j hj x hx
    have hji : j < i := by
     have := List.pairwise_append.1 hsort
     exact this.2.2 j hj i (by simp)
    rcases (akk hdr ho).2 j x hji hx with h | h
    ·exact h
    ·exact absurd (by simp [hj]) (aeh hcl _ _ _ h fun o2 ho2 e he hb => by
      rw [ho] at ho2
      cases ho2
      exact hdone e he hb)
   obtain ⟨o', e, ho', hstep, hrest⟩ := afT ho pre post hsw hruns
   rw [ho] at ho'
   cases ho'
   obtain ⟨hk, hd⟩ := aoF hok (o := o) (by rw [← Array.getElem?_toList] at ho; exact List.mem_of_getElem? ho)
   unfold wpOp
   simp only [ho]
   refine aii (q := true) (nm := nm) (K := fun s' => s' = s.app o.dst e) hrel (ops := ops) (i := i) (o := o) (.inr ⟨i, by simp, by rw [hn]⟩) hk (by rw [ht]; exact hd) (asD hstep rfl) _ Q ?_
   rintro a' w' H' L' s' hR' hd' hs' rfl hnx'
   have hlen' : (pre ++ post).length = fuel := by simp at hlen ⊢; omega
   refine ih (pre ++ post) _ H' L' _ a' w' hlen' (by simpa using hsz) ?_ ?_ ?_ ?_ (by omega) (by omega) (by rw [hd', hdf]) (hR'.less ?_) hrest
   ·intro j hj
    by_cases hji : j = i
    ·subst hji
     constructor
     ·intro h
      unfold Array.getD at h
      simp [hsz, hj] at h
     ·intro h
      exfalso
      have hp := List.pairwise_append.1 hsort
      rcases List.mem_append.1 h with h | h
      ·have := hp.2.2 j h j (by simp); omega
      ·have := (List.pairwise_cons.1 hp.2.1).1 j h; omega
    ·have hget : (listed.setIfInBounds i true).getD j true = listed.getD j true := getD_set_ne true (Ne.symm hji)
     rw [hget, hR j hj]
     simp [hji]
   ·exact hsort.sublist (List.Sublist.append (List.Sublist.refl _) (List.sublist_cons_self _ _))
   ·intro j hj
    refine hlt j ?_
    rcases List.mem_append.1 hj with h | h <;> simp [h]
   ·intro j hj o2 ho2 e2 he2 hb2 hin
    have hin' : e2.on ∈ pre ++ i :: post := by
     rcases List.mem_append.1 hin with h | h <;> simp [h]
    by_cases hji : j = i
    ·subst hji
     rw [ho] at ho2
     cases ho2
     exact hdone e2 he2 hb2 hin'
    ·refine hcl j (fun hjm => hj ?_) o2 ho2 e2 he2 hb2 hin'
     simp only [List.mem_append, List.mem_cons] at hjm ⊢
     rcases hjm with h | h | h
     ·exact .inl h
     ·exact absurd h hji
     ·exact .inr h
   ·rintro g (hg | ⟨j, hj, rfl⟩)
    ·exact ⟨.inl hg, by omega⟩
    ·refine ⟨.inr ⟨j, by rcases List.mem_append.1 hj with h | h <;> simp [h], rfl⟩, ?_⟩
     rw [hn]
     intro h
     have hji : j = i := by omega
     subst hji
     have hp := List.pairwise_append.1 hsort
     rcases List.mem_append.1 hj with h | h
     ·have := hp.2.2 j h j (by simp); omega
     ·have := (List.pairwise_cons.1 hp.2.1).1 j h; omega
end
end Go.Proofs.YtclohbgnaopjfaaDoor
namespace Go.Proofs.YtclohbgnaopjfaaDoor
set_option linter.unusedSimpArgs false
set_option linter.unusedVariables false
open Go
section
variable {B : Base} {X : Cx} {nt : Nat} {df : List Deferred}
def codeOk (nt : Nat) (nm : Names) : Code → Bool
 | .region _ ops draw => aod nt nm ops.toList && (!draw || aly nm ops)
 | .seq a b => codeOk nt nm a && codeOk nt nm b
 | .cond _ a b => codeOk nt nm a && codeOk nt nm b
 | .block _ c => codeOk nt nm c
 | .loop c => codeOk nt nm c
 | .scope c => codeOk nt nm c
 | _ => true
def lift (B : Base) (nt : Nat) (df : List Deferred) (Q : qF → St → Prop) : Exit → Act → World → Prop := fun e a w =>
 ∃ H L s, Rel B (fun g => s.nx ≤ g) H L s a w ∧ a.tmps.size = nt ∧ a.defers = df ∧ match e with
  | .normal => Q .normal s
  | .exit id => Q (.exit id) s
  | .goto l => Q (.goto l) s
  | .ret => Q .ret s
  | _ => False
theorem YS (env : Env) : ∀ (l : List Nat) (i : Nat), (Q6 env l).get i = env.get i ∨ (Q6 env l).get i = .undef
 | [], i => .inr rfl
 | j :: l, i => by
  simp only [Q6, Env.get]
  split
  ·rename_i h; subst h; exact .inl rfl
  ·exact YS env l i
theorem Wl (sto : Sto) : ∀ (l : List Nat) (k : Nat) (v : Nat × Ent), (yO sto l).find k = some v → sto.find k = some v
 | [], k, v, h => by simp [yO, Sto.find] at h
 | j :: l, k, v, h => by
  simp only [yO] at h
  split at h
  ·rename_i x hx
   simp only [Sto.find] at h
   split at h
   ·rename_i hk
    subst hk
    rw [hx, h]
   ·exact Wl sto l k v h
  ·exact Wl sto l k v h
theorem Rel.sub {F : Nat → Prop} {H : Imm} {L : Lay} {s t : St} {a : Act} {w : World} (h : Rel B F H L s a w) (he : ∀ i, t.env.get i = s.env.get i ∨ t.env.get i = .undef) (hs : ∀ k v, t.sto.find k = some v → s.sto.find k = some v) : Rel B F H L t a w :=
  { h with
    env := fun i => by
      rcases he i with h1 | h1
      · rw [h1]; exact h.env i
      · rw [h1]; exact .undef _ _
    sto := fun k g e hf => h.sto k g e (hs k _ hf) }
theorem Rel.aiq {H : Imm} {L : Lay} {s : St} {a : Act} {w : World} (h : Rel B (fun g => s.nx ≤ g) H L s a w) (d k sz : Nat) : ∃ H' L', Rel B (fun g => (s.aiq d k sz).nx ≤ g) H' L' (s.aiq d k sz) a w := by
 unfold St.aiq
 split
 ·rename_i hn
  split
  ·rename_i hk
   let sl : Slot := ⟨s.nx, none, 0, sz⟩
   have hset := h.VX (sl := sl) (k := k) (e := .row false sz []) (H' := H) (w' := w) (Nat.le_refl _) (.refl _) h.agree (fun b c hc => .inl hc) (Nat.le_refl _) (fun _ _ _ => rfl) rfl rfl rfl (by simp [sl])
    ⟨rfl, by simp, by simp, .inl ⟨rfl, rfl⟩⟩
   have hslot := h.env d
   rw [hn] at hslot
   generalize hv : a.tmps.getD d undef = v at hslot
   cases hslot
   refine ⟨H, _, { hset.less (F' := fun g => s.nx + 1 ≤ g) ?_ with env := fun i => ?_ }⟩
   ·intro g hg
    have hg' : s.nx + 1 ≤ g := hg
    exact ⟨show s.nx ≤ g by omega, by simp only [sl]; omega⟩
   ·show Rep H _ _ (if i = d then PV.row k s.nx 0 else s.env.get i)
    split
    ·rename_i hi
     rw [hi, hv]
     refine .row _ _ _ _ _ (.inr rfl) ⟨_, _, rfl⟩ fun s' hs' _ => ?_
     simp only [if_true, Option.some.injEq] at hs'
     subst hs'
     rfl
    ·exact hset.env i
  ·exact ⟨H, L, h⟩
 ·exact ⟨H, L, h⟩
theorem zI.set {H : Imm} {L : Lay} {vs : List Value} {ps : List PV} (h : zI H L vs ps) : ∀ (c : Nat) (p : PV), (∀ v, vs[c]? = some v → Rep H L v p) → zI H L vs (ps.set c p) := by
 induction ps generalizing vs with
 | nil => intro c p _; simpa using h
 | cons q ps ih =>
  intro c p hp
  cases h with
  | cons _ v _ vs _ h t =>
   cases c with
   | zero => exact .cons _ _ _ _ _ (hp v rfl) t
   | succ c => exact .cons _ _ _ _ _ h (ih t c p fun v hv => hp v (by simpa using hv))
theorem zI.at {H : Imm} {L : Lay} {vs : List Value} {ps : List PV} (h : zI H L vs ps) {c : Nat} {p : PV} (hc : ps[c]? = some p) {v : Value} (hv : vs[c]? = some v) : Rep H L v p := by
 induction ps generalizing vs c with
 | nil => simp at hc
 | cons q ps ih =>
  cases h with
  | cons _ u _ vs _ h t =>
   cases c with
   | zero => simp at hc hv; subst hc hv; exact h
   | succ c => exact ih t (by simpa using hc) (by simpa using hv)
theorem Rel.K9 {H : Imm} {L : Lay} {s : St} {a : Act} {w : World} (h : Rel B (fun g => s.nx ≤ g) H L s a w) (k c k' sz : Nat) : ∃ H' L', Rel B (fun g => (s.K9 k c k' sz).nx ≤ g) H' L' (s.K9 k c k' sz) a w := by
 unfold St.K9
 split
 ·rename_i g tv cs hf
  split
  ·rename_i hn
   split
   ·rename_i hk
    obtain ⟨hk, hne⟩ := hk
    let sl : Slot := ⟨s.nx, none, 0, sz⟩
    have hset := h.VX (sl := sl) (k := k') (e := .row false sz []) (H' := H) (w' := w) (Nat.le_refl _) (.refl _) h.agree (fun b c hc => .inl hc) (Nat.le_refl _) (fun _ _ _ => rfl) rfl rfl rfl (by simp [sl])
     ⟨rfl, by simp, by simp, .inl ⟨rfl, rfl⟩⟩
    have hf' : (s.sto.upd k' s.nx (.row false sz [])).find k = some (g, .var tv cs) := by rw [Sto.qC _ _ _ _ _ hne]; exact hf
    obtain ⟨sv, e1, e2, b, vs, t, e3, e4, e5, e6⟩ := hset.sto k g _ hf'
    subst e2
    have hold := hset.VQ (k := k) (sl := sv) (e := .var tv (cs.set c (.row k' s.nx 0))) (H' := H) (w' := w) e1 (.refl _) hset.agree (fun b c hc => .inl hc) (Nat.le_refl _) (fun _ _ _ => rfl) rfl rfl rfl
     ⟨b, vs, t, e3, e4, e5, e6.set c _ fun v hv => by
      have := e6.at hn hv
      cases this
      refine .row _ _ _ _ _ (.inr rfl) ⟨_, _, rfl⟩ fun s' hs' _ => ?_
      simp only [if_true, Option.some.injEq] at hs'
      subst hs'
      rfl⟩
    refine ⟨H, _, { hold.less (F' := fun g => s.nx + 1 ≤ g) ?_ with }⟩
    intro g hg
    have hg' : s.nx + 1 ≤ g := hg
    exact ⟨show s.nx ≤ g by omega, by simp only [sl]; omega⟩
   ·exact ⟨H, L, h⟩
  ·exact ⟨H, L, h⟩
 ·exact ⟨H, L, h⟩
theorem Rel.abE {H : Imm} {L : Lay} {s : St} {a : Act} {w : World} (h : Rel B (fun g => s.nx ≤ g) H L s a w) (k c k' bt : Nat) : ∃ H' L', Rel B (fun g => (s.abE k c k' bt).nx ≤ g) H' L' (s.abE k c k' bt) a w := by
 unfold St.abE
 split
 ·rename_i g tv cs hf
  split
  ·rename_i hn
   split
   ·rename_i hk
    obtain ⟨hk, hne⟩ := hk
    let sl : Slot := ⟨s.nx, none, 0, 1⟩
    have hset := h.VX (sl := sl) (k := k') (e := .bytes bt []) (H' := H) (w' := w) (Nat.le_refl _) (.refl _) h.agree (fun b c hc => .inl hc) (Nat.le_refl _) (fun _ _ _ => rfl) rfl rfl rfl (by simp [sl])
     ⟨rfl, by simp, .inl ⟨rfl, rfl⟩⟩
    have hf' : (s.sto.upd k' s.nx (.bytes bt [])).find k = some (g, .var tv cs) := by rw [Sto.qC _ _ _ _ _ hne]; exact hf
    obtain ⟨sv, e1, e2, b, vs, t, e3, e4, e5, e6⟩ := hset.sto k g _ hf'
    subst e2
    have hold := hset.VQ (k := k) (sl := sv) (e := .var tv (cs.set c (.row k' s.nx 0))) (H' := H) (w' := w) e1 (.refl _) hset.agree (fun b c hc => .inl hc) (Nat.le_refl _) (fun _ _ _ => rfl) rfl rfl rfl
     ⟨b, vs, t, e3, e4, e5, e6.set c _ fun v hv => by
      have := e6.at hn hv
      cases this
      refine .row _ _ _ _ _ (.inr rfl) ⟨_, _, rfl⟩ fun s' hs' _ => ?_
      simp only [if_true, Option.some.injEq] at hs'
      subst hs'
      rfl⟩
    refine ⟨H, _, { hold.less (F' := fun g => s.nx + 1 ≤ g) ?_ with }⟩
    intro g hg
    have hg' : s.nx + 1 ≤ g := hg
    exact ⟨show s.nx ≤ g by omega, by simp only [sl]; omega⟩
   ·exact ⟨H, L, h⟩
  ·exact ⟨H, L, h⟩
 ·exact ⟨H, L, h⟩
def Lay.ren (L : Lay) (k k' : Nat) : Lay := ⟨L.used, fun j => if j = k' then L.at_ k else if j = k then Option.none else L.at_ j⟩
mutual
theorem Rep.ren {H : Imm} {L : Lay} {k k' : Nat} {v : Value} {p : PV} (hs : p.speaks k' = false) : Rep H L v p → Rep H (L.ren k k') v (p.ren k k')
 | .undef _ v => .undef _ v
 | .bool _ b => .bool _ b
 | .int _ k n => .int _ k n
 | .str _ s => .str _ s
 | .kS _ => .kS _
 | .wN _ a c sz => .wN _ a c sz
 | .list _ b off len cap sz c vs xs h hlen hcap hsz h1 hv hr => .list _ b off len cap sz c vs xs h hlen hcap hsz h1 hv hr
 | .row _ v j g n hu hx h => by
  simp only [PV.speaks, beq_eq_false_iff_ne, ne_eq] at hs
  refine .row _ _ _ _ _ hu hx fun s hs' hg => h s ?_ hg
  simp only [Lay.ren] at hs'
  by_cases hj : j = k
  ·simp only [hj, if_true] at hs' ⊢; exact hs'
  ·simpa [hj, hs] using hs'
 | .agg _ vs ps h => .agg _ vs _ (zI.ren (by simpa [PV.speaks] using hs) h)
 | .tup _ vs ps h => .tup _ vs _ (zI.ren (by simpa [PV.speaks] using hs) h)
 | .ref _ b off c vs ps h hv hr => .ref _ b off c vs ps h hv hr
 | .box _ v j g off hu hx h => by
  simp only [PV.speaks, beq_eq_false_iff_ne, ne_eq] at hs
  refine .box _ _ _ _ _ hu hx fun s b hs' hg => h s b ?_ hg
  simp only [Lay.ren] at hs'
  by_cases hj : j = k
  ·simp only [hj, if_true] at hs' ⊢; exact hs'
  ·simpa [hj, hs] using hs'
 | .elt _ v j g i off hu hx h => by
  simp only [PV.speaks, beq_eq_false_iff_ne, ne_eq] at hs
  refine .elt _ _ _ _ _ _ hu hx fun s b hs' hg => h s b ?_ hg
  simp only [Lay.ren] at hs'
  by_cases hj : j = k
  ·simp only [hj, if_true] at hs' ⊢; exact hs'
  ·simpa [hj, hs] using hs'
 | .jP _ v j g hu hx h => by
  simp only [PV.speaks, beq_eq_false_iff_ne, ne_eq] at hs
  refine .jP _ _ _ _ hu hx (h.imp id fun h s b hs' hg => h s b ?_ hg)
  simp only [Lay.ren] at hs'
  by_cases hj : j = k
  ·simp only [hj, if_true] at hs' ⊢; exact hs'
  ·simpa [hj, hs] using hs'
 | .fn _ f vs ps h => .fn _ f vs _ (zI.ren (by simpa [PV.speaks] using hs) h)
 | .aaQ _ => .aaQ _
 | .aaE _ => .aaE _
 | .YQ _ => .YQ _
 | .iface _ t v p h => .iface _ t v _ (Rep.ren (by simpa [PV.speaks] using hs) h)
theorem zI.ren {H : Imm} {L : Lay} {k k' : Nat} {vs : List Value} {ps : List PV} (hs : Zm k' ps = false) : zI H L vs ps → zI H (L.ren k k') vs (aoY k k' ps)
 | .nil _ => .nil _
 | .cons _ v p vs ps h t => by
  simp only [Zm, Bool.or_eq_false_iff] at hs
  exact .cons _ _ _ _ _ (Rep.ren hs.1 h) (zI.ren hs.2 t)
end
theorem aio {k k' : Nat} : ∀ (e : Env) (i : Nat), J9 k' e = false → (aeL k k' e).get i = (e.get i).ren k k' ∧ (e.get i).speaks k' = false
 | [], i, _ => ⟨rfl, rfl⟩
 | (j, v) :: r, i, h => by
  simp only [J9, Bool.or_eq_false_iff] at h
  simp only [aeL, Env.get]
  split
  ·exact ⟨rfl, h.1⟩
  ·exact aio r i h.2
theorem agv {k k' : Nat} : ∀ (sto : Sto), Xp k' sto = false → ∀ (j g : Nat) (e : Ent), (afD k k' sto).find j = some (g, e) → ∃ i e0, sto.find i = some (g, e0) ∧ j = (if i = k then k' else i) ∧ e = e0.ren k k' ∧ e0.speaks k' = false ∧ i ≠ k'
 | [], _, j, g, e, h => by simp [afD, Sto.find] at h
 | (i, g0, e0) :: r, hs, j, g, e, h => by
  simp only [Xp, Bool.or_eq_false_iff, beq_eq_false_iff_ne, ne_eq] at hs
  have h' : (if j = (if i = k then k' else i) then some (g0, e0.ren k k') else (afD k k' r).find j) = some (g, e) := h
  by_cases hj : j = (if i = k then k' else i)
  ·rw [if_pos hj] at h'
   cases h'
   exact ⟨i, e0, by simp [Sto.find], hj, rfl, hs.1.2, hs.1.1⟩
  ·rw [if_neg hj] at h'
   obtain ⟨i', e', h1, h2, h3, h4, h5⟩ := agv r hs.2 j g e h'
   refine ⟨i', e', ?_, h2, h3, h4, h5⟩
   show (if i' = i then some (g0, e0) else Sto.find r i') = _
   rw [if_neg]
   ·exact h1
   ·intro hi
    subst hi
    exact hj h2
theorem wL.ren {H : Imm} {L : Lay} {w : World} {sl : Slot} {e : Ent} {k k' : Nat} (hs : e.speaks k' = false) (h : wL H L w sl e) : wL H (L.ren k k') w sl (e.ren k k') := by
 match e with
 | .var tv cs =>
  obtain ⟨b, vs, t, h1, h2, h3, h4⟩ := h
  exact ⟨b, vs, t, h1, h2, h3, h4.ren hs⟩
 | .row false sz xs => exact h
 | .row true sz xs => exact h
 | .iter s pos => exact h
 | .gone => trivial
 | .moved sz xs => exact h
 | .bytes _ _ => exact h
 | .XX _ _ => exact h
theorem Rel.ren {H : Imm} {L : Lay} {s : St} {a : Act} {w : World} {F : Nat → Prop} (h : Rel B F H L s a w) (k k' : Nat) : ∃ H' L', Rel B F H' L' (s.ren k k') a w := by
 unfold St.ren
 split
 ·rename_i hc
  simp only [Bool.and_eq_true, decide_eq_true_eq, Bool.not_eq_true'] at hc
  obtain ⟨⟨⟨hk, hk'⟩, he⟩, hs⟩ := hc
  have hat : ∀ j sl, (L.ren k k').at_ j = some sl → ∃ i, L.at_ i = some sl ∧ ((j = k' ∧ i = k) ∨ (j = i ∧ j ≠ k' ∧ j ≠ k)) := by
   intro j sl hj
   simp only [Lay.ren] at hj
   split at hj
   ·rename_i h1; exact ⟨k, hj, .inl ⟨h1, rfl⟩⟩
   ·rename_i h1
    split at hj
    ·cases hj
    ·rename_i h2; exact ⟨j, hj, .inr ⟨rfl, h1, h2⟩⟩
  refine ⟨H, L.ren k k', { env := fun i => ?_, agree := h.agree, sto := ?_, sep := ?_, low := ?_, used := ?_, free := h.free, mine := ?_, zero := h.zero, Xk := ?_, grow := h.grow, imm := h.imm, ext := h.ext }⟩
  ·obtain ⟨h1, h2⟩ := aio (k := k) s.env i he
   show Rep H _ _ ((aeL k k' s.env).get i)
   rw [h1]
   exact (h.env i).ren h2
  ·intro j g e hj
   obtain ⟨i, e0, h1, h2, rfl, h4, h5⟩ := agv s.sto hs j g e hj
   obtain ⟨sl, q1, q2, q3⟩ := h.sto i g e0 h1
   refine ⟨sl, ?_, q2, q3.ren h4⟩
   subst h2
   simp only [Lay.ren]
   by_cases hi : i = k
   ·simp [hi, hi ▸ q1]
   ·simp [hi, h5, q1]
  ·intro j j' sl sl' b h1 h2 h3 h4
   obtain ⟨i, e1, e2⟩ := hat j sl h1
   obtain ⟨i', e3, e4⟩ := hat j' sl' h2
   have := h.sep i i' sl sl' b e1 e3 h3 h4
   subst this
   rcases e2 with ⟨rfl, rfl⟩ | ⟨rfl, e5, e6⟩ <;> rcases e4 with ⟨rfl, e7⟩ | ⟨rfl, e8, e9⟩ <;> first | rfl | (exact (e9 rfl).elim) | (exact (e6 e7).elim)
  ·intro j sl b h1 h2
   obtain ⟨i, e1, e2⟩ := hat j sl h1
   exact h.low i sl b e1 h2
  ·intro j sl h1
   obtain ⟨i, e1, e2⟩ := hat j sl h1
   exact h.used i sl e1
  ·intro j sl b h1 h2
   obtain ⟨i, e1, e2⟩ := hat j sl h1
   rcases h.mine i sl b e1 h2 with h3 | ⟨h3, h4⟩
   ·exact .inl h3
   ·rcases e2 with ⟨rfl, rfl⟩ | ⟨rfl, e5, e6⟩
    ·omega
    ·exact .inr ⟨h3, h4⟩
  ·intro j sl hj h1 h0
   obtain ⟨i, e1, e2⟩ := hat j sl h1
   rcases e2 with ⟨rfl, rfl⟩ | ⟨rfl, e5, e6⟩
   ·omega
   ·exact h.Xk _ sl hj e1 h0
 ·exact ⟨H, L, h⟩
theorem St.axN (s : St) (k k' : Nat) : (s.ren k k').nx = s.nx := by
 unfold St.ren; split <;> rfl
theorem St.as8 (s : St) (k c : Nat) : (s.agz k c).nx = s.nx := by
 unfold St.agz
 repeat' split
 all_goals rfl
theorem Rel.agz {H : Imm} {L : Lay} {s : St} {a : Act} {w : World} {F : Nat → Prop} (h : Rel B F H L s a w) (k c : Nat) : Rel B F H L (s.agz k c) a w := by
 have put : ∀ (g tv : Nat) (cs : List PV) (p : PV), s.sto.find k = some (g, .var tv cs) → cs[c]? = some p → (∀ v, Rep H L v p → Rep H L v (.jP k g)) → Rel B F H L { s with sto := s.sto.upd k g (.var tv (cs.set c (.jP k g))) } a w := by
  intro g tv cs p hf hn hp
  obtain ⟨sv, e1, e2, b, vs, t, e3, e4, e5, e6⟩ := h.sto k g _ hf
  subst e2
  exact h.VQ (k := k) (sl := sv) (e := .var tv (cs.set c (.jP k sv.gen))) (H' := H) (w' := w) e1 (.refl _) h.agree (fun b c hc => .inl hc) (Nat.le_refl _) (fun _ _ _ => rfl) rfl rfl rfl
   ⟨b, vs, t, e3, e4, e5, e6.set c _ fun v hv => hp v (e6.at hn hv)⟩
 unfold St.agz
 split
 ·rename_i g tv cs hf
  obtain ⟨sv, e1, e2, _⟩ := h.sto k g _ hf
  have hu : L.used g := by rw [← e2]; exact h.used _ _ e1
  split
  ·rename_i hn
   refine put g _ cs _ hf hn fun v hv => ?_
   cases hv
   exact .jP _ _ _ _ hu ⟨_, rfl⟩ (.inl rfl)
  ·rename_i k' g' hn
   split
   ·rename_i hc
    obtain ⟨rfl, rfl⟩ := hc
    refine put _ _ cs _ hf hn fun v hv => ?_
    cases hv with
    | box _ _ _ _ _ hu hs hx => exact .jP _ _ _ _ hu hs (.inr hx)
   ·exact h
  ·exact h
 ·exact h
theorem Rel.fact {H : Imm} {L : Lay} {s : St} {a : Act} {w : World} (h : Rel B (fun g => s.nx ≤ g) H L s a w) (x : alA) : ∃ H' L', Rel B (fun g => (s.fact x).nx ≤ g) H' L' (s.fact x) a w := by
 cases x with
 | thaw d k sz => exact h.aiq d k sz
 | K9 k c k' sz => exact h.K9 k c k' sz
 | abE k c k' bt => exact h.abE k c k' bt
 | nrm d l =>
  obtain ⟨H', h1⟩ := h.aeu d l
  exact ⟨H', L, by rw [show (s.fact (.nrm d l)).nx = s.nx from St.aqV s d l]; exact h1⟩
 | self k c => exact ⟨H, L, by rw [show (s.fact (.self k c)).nx = s.nx from St.as8 s k c]; exact h.agz k c⟩
 | ren k k' =>
  obtain ⟨H', L', h1⟩ := h.ren k k'
  exact ⟨H', L', by rw [show (s.fact (.ren k k')).nx = s.nx from St.axN s k k']; exact h1⟩
theorem Rel.told {s t : St} (ht : Told s t) : ∀ {H : Imm} {L : Lay} {a : Act} {w : World}, Rel B (fun g => s.nx ≤ g) H L s a w → ∃ H' L', Rel B (fun g => t.nx ≤ g) H' L' t a w := by
 induction ht with
 | less hl => intro H L a w h; exact ⟨H, L, by rw [hl.nx]; exact h.sub hl.env hl.sto⟩
 | fact s x => intro H L a w h; exact h.fact x
 | trans _ _ ih1 ih2 =>
  intro H L a w h
  obtain ⟨H1, L1, h1⟩ := ih1 h
  exact ih2 h1
theorem Rel.facts : ∀ (l : List alA) {H : Imm} {L : Lay} {s : St} {a : Act} {w : World}, Rel B (fun g => s.nx ≤ g) H L s a w → ∃ H' L', Rel B (fun g => (s.facts l).nx ≤ g) H' L' (s.facts l) a w
 | [], H, L, _, _, _, h => ⟨H, L, h⟩
 | x :: l, _, _, _, _, _, h => by
  obtain ⟨H1, L1, h1⟩ := h.fact x
  exact Rel.facts l h1
theorem Rel.fin {H : Imm} {L : Lay} {s : St} {a : Act} {w : World} {n : Nat} (an : Ann) (h : Rel B (fun g => s.nx + n ≤ g) H L s a w) : ∃ H' L', Rel B (fun g => (s.fin n an).nx ≤ g) H' L' (s.fin n an) a w := by
 have h0 : Rel B (fun g => ({ s with nx := s.nx + n } : St).nx ≤ g) H L { s with nx := s.nx + n } a w := { h with }
 obtain ⟨H', L', h1⟩ := h0.facts an.acts
 obtain ⟨H2, L2, h2⟩ := Rel.facts an.last (s := (({ s with nx := s.nx + n } : St).facts an.acts).keep an) (h1.sub (fun i => YS _ _ i) (fun k v hk => Wl _ _ k v hk))
 exact ⟨H2, L2, h2.sub (t := s.fin n an) (fun i => .inl rfl) (fun k v hk => Wl _ _ k v hk)⟩
theorem alY {P : Program} {nm : Names} (hm : P.follows .mixedOrders = true) {id : Nat} {ops : Array Oper} {draw : Bool} {Q : Exit → Act → World → Prop} {K : St → Prop} (hok : aod nt nm ops.toList = true) (hdr : draw = true → aly nm ops = true)
  {H : Imm} {L : Lay} {s : St} {a : Act} {w : World} (hR : Rel B (fun g => s.nx ≤ g) H L s a w) (ht : a.tmps.size = nt) (hd : a.defers = df) (h : jf P draw nm ops.toList ops.toList 0 s K)
  (hQ : ∀ a' w' H' L' s', Rel B (fun g => s'.nx + ops.size ≤ g) H' L' s' a' w' → a'.tmps.size = nt → a'.defers = df → K s' → Q .normal a' w') : (Code.region id ops draw).wp P Q a w := by
 cases draw with
 | false =>
  refine wp_region_list (ajS (q := false) (nt := nt) (nm := nm) (n0 := s.nx) (df := df) hok ops.toList 0 H L s a w (fun _ h => h) rfl ht hd (by simpa using hR) h ?_)
  intro a' w' H' L' s' h1 h2 h3 h4 h5
  refine hQ a' w' H' L' s' (h1.less ?_) h3 h2 h4
  intro g hg
  have hg' : s'.nx + ops.size ≤ g := hg
  show s.nx + (0 + ops.toList.length) ≤ g
  simp only [Array.length_toList]
  omega
 | true =>
  refine wp_region_any hm ?_
  obtain ⟨t, h1, h2⟩ := aiK ops.toList 0 s (fun j => by simp) h
  have hR' : Rel B (fun g => s.nx + ops.size ≤ g ∨ ∃ i ∈ List.range ops.size, g = s.nx + i) H L s a { w with drawn := w.drawn + 1 } := by
   refine (hR.quiet (.refl _) (hR.agree.quiet (Quiet.drew w)) (fun b c hc => .inl hc) (Quiet.drew w)).less ?_
   rintro g (hg | ⟨i, hi, rfl⟩)
   ·show s.nx ≤ g; omega
   ·show s.nx ≤ s.nx + i; omega
  refine asr (nt := nt) (nm := nm) (df := df) (n0 := s.nx) hok (hdr rfl) (t := t) (fun a' w' H' L' h1' h2' h3' => ?_) ops.size (List.range ops.size) (Array.replicate ops.size false) H L s a _ (by simp) (by simp) (fun j hj => by simp [hj]) (by
   rw [List.range_eq_range']; exact List.pairwise_lt_range') (by simp) (fun j hj o ho => absurd (List.mem_range.2 (Array.getElem?_eq_some_iff.1 ho).1) hj) rfl ht hd hR' (by rw [List.range_eq_range']; simpa using h1)
  have hnx : t.nx = s.nx := by
   have : ∀ (l : List Nat) (s t : St), am3 P nm ops l s t → t.nx = s.nx := by
    intro l
    induction l with
    | nil => intro s t h; exact h.nx.symm
    | cons i l ih =>
     intro s t ⟨o, e, _, _, h3⟩
     rw [ih _ _ h3, Yf]
   exact this _ _ _ h1
  exact hQ a' w' H' L' t (h1'.less fun g hg => by
   have hg' : t.nx + ops.size ≤ g := hg
   show s.nx + ops.size ≤ g
   omega) h3' h2' h2
theorem afg (hm : X.P.follows .mixedOrders = true) : ∀ (c : Code) (Q : qF → St → Prop) (H : Imm) (L : Lay) (s : St) (a : Act) (w : World), codeOk nt X.nm c = true → Rel B (fun g => s.nx ≤ g) H L s a w → a.tmps.size = nt → a.defers = df →
  awp X c Q s → c.wp X.P (lift B nt df Q) a w := by
 intro c
 induction c with
 | skip => intro Q H L s a w _ hR ht hd h; exact wp_skip ⟨H, L, s, hR, ht, hd, h⟩
 | label l => intro Q H L s a w _ hR ht hd h; exact wp_label ⟨H, L, s, hR, ht, hd, h⟩
 | exit id => intro Q H L s a w _ hR ht hd h; exact wp_exit ⟨H, L, s, hR, ht, hd, h⟩
 | goto l => intro Q H L s a w _ hR ht hd h; exact wp_goto ⟨H, L, s, hR, ht, hd, h⟩
 | ret => intro Q H L s a w _ hR ht hd h; exact wp_ret ⟨H, L, s, hR, ht, hd, h⟩
 | scope c ih =>
  intro Q H L s a w hok hR ht hd h
  refine wp_scope_straight (wp_mono (ih _ H L s a w hok hR ht hd h) ?_)
  rintro e a' w' ⟨H', L', s', h1, h2, h3, h4⟩
  cases e with
  | normal => exact ⟨H', L', s', h1, h2, h3, h4⟩
  | exit id => exact ⟨H', L', s', h1, h2, h3, h4⟩
  | goto l => exact h4.elim
  | ret => exact ⟨H', L', s', h1, h2, h3, h4⟩
  | panic ch => exact h4.elim
  | outgrown => exact h4.elim
 | refuse why => intro Q H L s a w _ hR ht hd h; exact h.elim
 | rangeFunc f ps c1 c2 ih1 ih2 => intro Q H L s a w _ hR ht hd h; exact h.elim
 | region id ops draw =>
  intro Q H L s1 a w hok hR ht hd h
  obtain ⟨s, hl0, h⟩ := h
  obtain ⟨H, L, hR⟩ := Rel.told hl0 hR
  simp only [codeOk, Bool.and_eq_true, Bool.or_eq_true, Bool.not_eq_true'] at hok
  refine alY (nm := X.nm) (df := df) hm hok.1 (fun hdraw => by rcases hok.2 with h1 | h1 <;> first | exact h1 | (rw [hdraw] at h1; cases h1)) hR ht hd h ?_
  intro a' w' H' L' s' h1 h2 h3 h4
  obtain ⟨H2, L2, h5⟩ := h1.fin (X.an id)
  exact ⟨H2, L2, _, h5, h2, h3, h4⟩
 | seq x y ihx ihy =>
  intro Q H L s a w hok hR ht hd h
  simp only [codeOk, Bool.and_eq_true] at hok
  refine wp_seq (wp_mono (ihx _ H L s a w hok.1 hR ht hd h) ?_)
  rintro e a' w' ⟨H', L', s', h1, h2, h3, h4⟩
  cases e with
  | normal =>
   obtain ⟨t, hl, h4⟩ := h4
   obtain ⟨H2, L2, h5⟩ := Rel.told hl h1
   exact ihy _ H2 L2 t a' w' hok.2 h5 h2 h3 h4
  | exit id => exact ⟨H', L', s', h1, h2, h3, h4⟩
  | goto l => exact ⟨H', L', s', h1, h2, h3, h4⟩
  | ret => exact ⟨H', L', s', h1, h2, h3, h4⟩
  | panic ch => exact h4.elim
  | outgrown => exact h4.elim
 | cond v x y ihx ihy =>
  intro Q H L s a w hok hR ht hd h
  simp only [codeOk, Bool.and_eq_true] at hok
  have hv := hR.eval v
  simp only [awp, aiP] at h
  split at h
  ·rename_i b hb
   rw [hb] at hv
   generalize hav : a.eval v = av at hv
   cases hv
   refine wp_cond hav ?_
   cases b with
   | true => exact ihx _ H L s a w hok.1 hR ht hd (by simpa using h)
   | false => exact ihy _ H L s a w hok.2 hR ht hd (by simpa using h)
  ·exact h.elim
 | block id c ih =>
  intro Q H L s a w hok hR ht hd h
  refine wp_block (wp_mono (ih _ H L s a w hok hR ht hd h) ?_)
  rintro e a' w' ⟨H', L', s', h1, h2, h3, h4⟩
  cases e with
  | normal => exact ⟨H', L', s', h1, h2, h3, h4⟩
  | exit id' =>
   simp only [qF.inBlock] at h4
   simp only [Exit.inBlock]
   split
   ·rename_i he
    rw [if_pos he] at h4
    exact ⟨H', L', s', h1, h2, h3, h4⟩
   ·rename_i he
    rw [if_neg he] at h4
    exact ⟨H', L', s', h1, h2, h3, h4⟩
  | goto l => exact ⟨H', L', s', h1, h2, h3, h4⟩
  | ret => exact ⟨H', L', s', h1, h2, h3, h4⟩
  | panic ch => exact h4.elim
  | outgrown => exact h4.elim
 | loop c ih =>
  intro Q H L s1 a w hok hR1 ht hd h
  obtain ⟨s, hl0, h⟩ := h
  obtain ⟨H, L, hR⟩ := Rel.told hl0 hR1
  let I : St → Prop := fun s => ∀ (H : Imm) (L : Lay) (a : Act) (w : World), Rel B (fun g => s.nx ≤ g) H L s a w → a.tmps.size = nt → a.defers = df → ∀ (b : Frame) (k : List Item) (cs : List Frame),
   ∃ e a' w', lift B nt df Q e a' w' ∧ Arrives X.P (lone (b.at a (.code c :: .inLoop c :: k)) cs w) b k cs e a' w'
  have hI : I s := by
   refine h I fun s hs H L a w hR ht hd b k cs => ?_
   obtain ⟨e, a₁, w₁, ⟨H', L', s', h1, h2, h3, h4⟩, harr⟩ := ih _ H L s a w hok hR ht hd hs b (.inLoop c :: k) cs
   cases e with
   | normal =>
    obtain ⟨t, hl, h4⟩ := h4
    obtain ⟨H2, L2, h5⟩ := Rel.told hl h1
    obtain ⟨e₂, a₂, w₂, hq₂, harr₂⟩ := h4 H2 L2 a₁ w₁ h5 h2 h3 b k cs
    exact ⟨e₂, a₂, w₂, hq₂, .of_steps (Steps.trans harr (.one step_inLoop)) harr₂⟩
   | exit id => exact ⟨.exit id, a₁, w₁, ⟨H', L', s', h1, h2, h3, h4⟩, .pass (x := .inLoop c) rfl (fun _ _ => .inl (by simp)) harr⟩
   | goto l => exact ⟨.goto l, a₁, w₁, ⟨H', L', s', h1, h2, h3, h4⟩, .pass (x := .inLoop c) rfl (fun _ _ => .inl (by simp)) harr⟩
   | ret => exact ⟨.ret, a₁, w₁, ⟨H', L', s', h1, h2, h3, h4⟩, .pass (x := .inLoop c) rfl (fun _ _ => .inl (by simp)) harr⟩
   | panic ch => exact h4.elim
   | outgrown => exact h4.elim
  intro b k cs
  obtain ⟨e, a', w', hq, harr⟩ := hI H L a w hR ht hd b k cs
  exact ⟨e, a', w', hq, .of_steps (.one step_loop) harr⟩
end
end Go.Proofs.YtclohbgnaopjfaaDoor
namespace Go.Proofs.YtclohbgnaopjfaaDoor
set_option linter.unusedSimpArgs false
set_option linter.unusedVariables false
open Go
mutual
theorem Wk.acK {p q : PV} : Wk p q → q.pure = true → p.pure = true
 | .refl _, h => h
 | .nil _, _ => rfl
 | .list _ _ _ _, _ => rfl
 | .agg _ _ hw, h => by simp only [PV.pure] at h ⊢; exact WkL.acK hw h
 | .tup _ _ hw, h => by simp only [PV.pure] at h ⊢; exact WkL.acK hw h
theorem WkL.acK {ps qs : List PV} : WkL ps qs → yj qs = true → yj ps = true
 | .nil, _ => rfl
 | .cons _ _ _ _ hw ht, h => by
  simp only [yj, Bool.and_eq_true] at h ⊢
  exact ⟨Wk.acK hw h.1, WkL.acK ht h.2⟩
end
def arN : PV → List Nat
 | .tup vs => vs.flatMap aas
 | p => aas p
section
variable {B : Base} {F : Nat → Prop} {H : Imm} {L : Lay} {s : St} {a : Act} {w : World}
theorem aix (h : Rel B F H L s a w) {fnd : Nat → Option (Nat × Ent)} {ks : List Nat} (hfr : ∀ j g f sz xs, fnd j = some (g, .row f sz xs) → j ∈ ks → j < 1000 → s.sto.find j = some (g, .row true sz xs))
  {v : Value} {p : PV} (hv : Rep H L v p) (hk : ∀ j ∈ arN p, j ∈ ks) (hp : (Qb fnd p).pure = true) : Rep H Lay.none v (Qb fnd p) := by
 unfold Qb at hp ⊢
 split at hp
 ·rename_i cs
  cases hv with
  | tup _ vs _ hr => exact .tup _ _ _ (ae3 h hfr hr (by simpa [arN] using hk) (by simpa [PV.pure] using hp))
 ·rename_i hne
  refine ah7 h hfr hv (fun j hj => hk j ?_) hp
  cases p <;> first
   | exact hj
   | exact (hne _ rfl).elim
def axH : List Value → Value
 | [v] => v
 | vs => .tuple vs.toArray
theorem avU {vs : List Value} {ps : List PV} (h : zI H L vs ps) : Rep H L (axH vs) (je ps) := by
 match ps, h with
 | [], .nil _ => exact .tup _ _ _ (.nil _)
 | [p], .cons _ v _ _ _ h (.nil _) => exact h
 | p :: p' :: ps, .cons _ v _ _ _ h (.cons _ v' _ vs _ h' t) => exact .tup _ _ _ (.cons _ _ _ _ _ h (.cons _ _ _ _ _ h' t))
def aoy (tmps : Array Value) : ResultVar → Sem Value
 | .tmp t => pure (tmps.getD t undef)
 | .cell a t => do loadVar t (← asAddr (tmps.getD a undef))
theorem at6 {P : Program} (h : Rel B F H L s a w) (r : RV) {p : PV} (hr : xE P s r = some p) : ∃ v, (aoy a.tmps r.var).run P w = .ok v w ∧ Rep H L v p := by
 cases r with
 | tmp t =>
  simp only [xE, Option.some.injEq] at hr
  subst hr
  exact ⟨_, rfl, h.env t⟩
 | cell t ty =>
  simp only [xE] at hr
  split at hr
  ·cases hr
  ·rename_i hkd
   have hk : (zH P ty).kd ≠ .none := hkd
   have hx := h.env t
   unfold vg at hr
   split at hr
   ·rename_i k g heq
    rw [heq] at hx
    generalize hv : a.tmps.getD t undef = v at hx
    split at hr
    ·rename_i g' tv cs hf
     split at hr
     ·rename_i hc
      obtain ⟨rfl, hlen, hpos⟩ := hc
      obtain ⟨sl, h1, h2, b, vs, et, h3, h4, h5, h6⟩ := h.sto k g _ hf
      cases hx with
      | box _ _ _ _ _ hu hs hx =>
       have hv' := hx sl b h1 h2 h3
       subst hv'
       cases ha : (zH P ty).agg with
       | true =>
        simp only [ha, Option.some.injEq] at hr
        subst hr
        have hl := VK (P := P) hk b 0 vs.toArray tv (0, 0) h5
        have hvl := h6.length
        have := hl.1 ha vs (by omega) (fun i hi => by simp)
        refine ⟨.agg vs.toArray, ?_, .agg _ _ _ h6⟩
        simp only [aoy, RV.var, hv, asAddr, pure_bind]
        exact this
       | false =>
        simp only [ha] at hr
        match cs, hr, hlen with
        | c :: cs, hr, hlen =>
         simp only [List.head?_cons, Option.some.injEq] at hr
         subst hr
         cases h6 with
         | cons _ u _ us _ hu1 hu2 =>
          have hl := VK (P := P) hk b 0 (u :: us).toArray tv (0, 0) h5
          refine ⟨u, ?_, hu1⟩
          simp only [aoy, RV.var, hv, asAddr, pure_bind]
          exact hl.2 ha u (by simp)
     ·cases hr
    ·cases hr
   ·cases hr
theorem ak4 {P : Program} (h : Rel B F H L s a w) : ∀ (rs : List RV) {ps : List PV}, wR P s rs = some ps → ∃ vs, ((rs.map RV.var).mapM (aoy a.tmps)).run P w = .ok vs w ∧ zI H L vs ps
 | [], ps, hr => by
  simp only [wR, Option.some.injEq] at hr
  subst hr
  exact ⟨[], rfl, .nil _⟩
 | r :: rs, ps, hr => by
  simp only [wR] at hr
  split at hr
  ·rename_i p hp
   split at hr
   ·rename_i qs hq
    cases hr
    obtain ⟨v, h1, h2⟩ := at6 h r hp
    obtain ⟨vs, h3, h4⟩ := ak4 h rs hq
    refine ⟨v :: vs, ?_, .cons _ _ _ _ _ h2 h4⟩
    rw [List.map_cons, List.mapM_cons]
    simp only [Sem.run_bind, Sem.run_pure, h1, Result.andThen_ok, h3]
   ·cases hr
  ·cases hr
theorem afS {P : Program} {fn : Func} {rs : List RV} (hres : fn.results = (rs.map RV.var).toArray) (h : Rel B F H L s a w) {ps : List PV} (hr : wR P s rs = some ps) : ∃ v, (results fn a.tmps).run P w = .ok v w ∧ Rep H L v (je ps) := by
 obtain ⟨vs, h1, h2⟩ := ak4 h rs hr
 refine ⟨axH vs, ?_, avU h2⟩
 have hsem : results fn a.tmps = (do
   let vs ← fn.results.mapM (aoy a.tmps)
   pure (if h : vs.size = 1 then vs[0] else .tuple vs)) := by
  unfold results
  congr 1
 rw [hsem, Sem.run_bind, Array.mapM_eq_mapM_toList, hres, Sem.run_map]
 rw [show ((rs.map RV.var).toArray).toList = rs.map RV.var from rfl, h1]
 simp only [Result.andThen_ok, Sem.run_pure]
 congr 1
 unfold axH
 match vs with
 | [] => simp
 | [v] => simp
 | v :: v' :: vs => simp
theorem ajN {m : Nat → Nat × Nat} {n : Nat} : ∀ (ks : List (Nat × Nat)) (es : List Ent) (i : Nat) (sto : Sto), afm m n sto i ks es → ks.length = es.length ∧ ∀ (j k g : Nat) (e : Ent), ks[j]? = some (k, g) → es[j]? = some e →
  k = jG (i + j) ∧ sto.find k = some (g, e.inst m) ∧ e.wY n = true ∧ (e.moves = true ∨ g = 0)
 | [], [], i, sto, _ => ⟨rfl, fun j k g e h => by simp at h⟩
 | [], _ :: _, i, sto, h => h.elim
 | (_, _) :: _, [], i, sto, h => h.elim
 | (k', g') :: ks, e' :: es, i, sto, hk => by
  obtain ⟨h1, h2, h3, h4, h5⟩ := hk
  obtain ⟨q1, q2⟩ := ajN ks es (i + 1) sto h5
  refine ⟨by simp [q1], fun j k g e hj he => ?_⟩
  cases j with
  | zero =>
   simp only [List.getElem?_cons_zero, Option.some.injEq, Prod.mk.injEq] at hj he
   obtain ⟨rfl, rfl⟩ := hj
   subst he
   exact ⟨h1, h2, h3, by simpa using h4⟩
  | succ j =>
   have := q2 j k g e (by simpa using hj) (by simpa using he)
   rw [show i + (j + 1) = i + 1 + j by omega]
   exact this
theorem afX : ∀ (es : List Ent) (i k : Nat), (acE i es).find k = if jG i ≤ k then (es[k - jG i]?).map fun e => (0, e) else none
 | [], i, k => by simp [acE, Sto.find]
 | e :: es, i, k => by
  have ih := afX es (i + 1) k
  simp only [acE, Sto.find]
  by_cases h1 : k = jG i
  ·subst h1; simp
  ·simp only [h1, if_false, ih]
   by_cases h2 : jG i ≤ k
   ·have h3 : jG (i + 1) ≤ k := by unfold jG at *; omega
    have h4 : k - jG i = (k - jG (i + 1)) + 1 := by unfold jG at *; omega
    simp [h2, h3, h4]
   ·have h3 : ¬ jG (i + 1) ≤ k := by unfold jG at *; omega
    simp [h2, h3]
theorem Y1 : ∀ (args : List PV) (i j : Nat), (Jq i args).get j = if i ≤ j then args.getD (j - i) .undef else .undef
 | [], i, j => by simp [Jq, Env.get]
 | p :: ps, i, j => by
  have ih := Y1 ps (i + 1) j
  simp only [Jq, Env.get]
  by_cases h1 : j = i
  ·subst h1; simp
  ·simp only [h1, if_false, ih]
   by_cases h2 : i ≤ j
   ·have h3 : i + 1 ≤ j := by omega
    have h4 : j - i = (j - (i + 1)) + 1 := by omega
    simp [h2, h3, h4]
   ·have h3 : ¬ i + 1 ≤ j := by omega
    simp [h2, h3]
end
theorem ahj {H : Imm} {L : Lay} {p : PV} {qs : List PV} : ∀ (ps : List PV) {vs : List Value}, zI H L vs (ps ++ p :: qs) → ∃ a u c, vs = a ++ u :: c ∧ zI H L a ps ∧ Rep H L u p ∧ zI H L c qs
 | [], _, .cons _ v _ vs _ h t => ⟨[], v, vs, rfl, .nil _, h, t⟩
 | q :: ps, _, .cons _ v _ vs _ h t => by
  obtain ⟨a, u, c, rfl, h1, h2, h3⟩ := ahj ps t
  exact ⟨v :: a, u, c, rfl, .cons _ _ _ _ _ h h1, h2, h3⟩
theorem ahO {X : Cx} {C : Array Value → World → (Ending → World → Prop) → Prop} {fn : Func} {c : Code} {args : List PV} {es es' : List Ent} {r : PV} {rs : List RV}
    (hC : ∀ (vs : Array Value) (w : World) (R : Ending → World → Prop), c.wp X.P (bodyPost X.P fn R) { tmps := vs ++ Array.replicate (fn.ntmps - vs.size) undef, defers := [] } w → C vs w R) (hm : X.P.follows .mixedOrders = true) (hres : fn.results = (rs.map RV.var).toArray) (hok : codeOk fn.ntmps X.nm c = true) (hargs : args.length ≤ fn.ntmps)
    (hlen : es'.length = es.length) (hpure : ∀ e ∈ es', e.wY es.length = true) (h : awp X c (zS X.P rs r es') (zR args es)) : BCG C args es r es' := by
  intro H w ss vs hA hG hsl hss hdist hents hvs
  have hvl := hvs.length
  refine hC _ _ _ (wp_mono (afg (B := ⟨w, H, ss, hG⟩) (nt := fn.ntmps) (df := []) hm c _ H (jV ss) (zR args es) _ w hok ?_ ?_ rfl h) ?_)
  · have hextat : ∀ k sl, (jV ss).at_ k = some sl → 1000 ≤ k ∧ ss[k - 1000]? = some sl := by
      intro k sl hk
      simp only [jV] at hk
      split at hk
      · rename_i hle; exact ⟨hle, hk⟩
      · cases hk
    refine
      { env := fun i => ?_, agree := hA, sto := ?_, sep := ?_, low := ?_, used := ?_, free := ?_, mine := ?_, zero := rfl, Xk := ?_, grow := .refl _, imm := fun b c hc => .inl hc
        ext := ⟨Nat.le_refl _, fun _ _ _ => rfl, rfl, rfl, rfl⟩ }
    · show Rep H _ _ ((Jq 0 args).get i)
      rw [Y1]
      simp only [Nat.zero_le, if_true, Nat.sub_zero]
      by_cases hi : i < args.length
      · obtain ⟨v, hv1, hv2⟩ := hvs.get i hi
        have : (vs.toArray ++ Array.replicate (fn.ntmps - vs.toArray.size) undef).getD i undef = v := by
          have hget : (vs.toArray ++ Array.replicate (fn.ntmps - vs.toArray.size) undef)[i]? = some v := by
            rw [Array.getElem?_append_left (by simp; omega)]
            simpa using hv1
          rw [Array.getD_eq_getD_getElem?, hget]
          rfl
        rw [this]
        exact hv2
      · have : args.getD i .undef = .undef := by simp [List.getD, List.getElem?_eq_none (Nat.le_of_not_lt hi)]
        rw [this]
        exact .undef _ _
    · intro k g e hk
      simp only [zR, afX] at hk
      split at hk
      · rename_i hle
        simp only [jG, Nat.add_zero] at hk hle
        cases he : es[k - 1000]? with
        | none => simp [he] at hk
        | some e' =>
          simp only [he, Option.map_some, Option.some.injEq, Prod.mk.injEq] at hk
          obtain ⟨rfl, rfl⟩ := hk
          have hlt : k - 1000 < ss.length := by rw [hsl]; exact yL he
          refine ⟨ss[k - 1000], ?_, (hss _ (List.getElem_mem hlt)).1, hents _ _ _ (List.getElem?_eq_getElem hlt) he⟩
          simp only [jV, hle, if_true]
          exact List.getElem?_eq_getElem hlt
      · cases hk
    · intro k k' sl sl' b h1 h2 h3 h4
      obtain ⟨q1, q2⟩ := hextat k sl h1
      obtain ⟨q3, q4⟩ := hextat k' sl' h2
      have := hdist _ _ _ _ b q2 q4 h3 h4
      omega
    · intro k sl b h1 h2
      obtain ⟨q1, q2⟩ := hextat k sl h1
      exact (hss sl (List.mem_of_getElem? q2)).2 b h2
    · intro k sl h1
      obtain ⟨q1, q2⟩ := hextat k sl h1
      exact (hss sl (List.mem_of_getElem? q2)).1
    · intro g hg hu
      have hg' : 1 ≤ g := hg
      have hu' : g = 0 := hu
      omega
    · intro k sl b h1 h2
      obtain ⟨q1, q2⟩ := hextat k sl h1
      exact .inr ⟨q1, sl, q2, h2⟩
    · intro k sl _ h1 _
      exact (hextat k sl h1).2
  · show (vs.toArray ++ Array.replicate (fn.ntmps - vs.toArray.size) undef).size = fn.ntmps
    simp
    omega
  · rintro e a' w' ⟨H', L', s', hR, ht, hd, hQ⟩
    have key : ∀ (H' : Imm) (L' : Lay) (s' : St), Rel ⟨w, H, ss, hG⟩ (fun g => s'.nx ≤ g) H' L' s' a' w' → ad9 X.P rs r es' s' → a'.defers = [] ∧ ∃ v, (results fn a'.tmps).run X.P w' = .ok v w' ∧
        ∃ v' H2 ss', Ending.returned v = .returned v' ∧ Grow H H2 ∧ Agree H2 w' ∧ (∀ b c, H2 b = some c → H b = some c ∨ w.heap.size ≤ b) ∧ Ext (fun b => ∃ s ∈ ss, s.block = some b) w w' ∧
          ajK w.heap.size w' es' ss ss' ∧ (∀ (i : Nat) (s : Slot) (e : Ent), ss'[i]? = some s → es'[i]? = some e → wL H2 (jV ss') w' s e) ∧ acV H2 w' w.heap.size v' r := by
      intro H' L' s' hR hq
      unfold ad9 at hq
      split at hq
      case h_2 => exact hq.elim
      rename_i ps hps
      obtain ⟨hret, ks, hents'⟩ := hq
      obtain ⟨v, hrun, hrep⟩ := afS hres hR hps
      obtain ⟨hkl, hat⟩ := ajN ks es' 0 s'.sto hents'
      generalize je ps = pv at hret hrep
      let ss' : List Slot := ks.map fun x => match L'.at_ x.1 with | some sl => { sl with gen := 0 } | none => ⟨0, none, 0, 0⟩
      have hsl' : ss'.length = ks.length := by simp [ss']
      refine ⟨hd, v, hrun, v, ?_⟩
      have fin : ∀ {H2 : Imm} {s2 : St}, Rel ⟨w, H, ss, hG⟩ (fun g => s'.nx ≤ g) H2 L' s2 a' w' → (∀ k, 1000 ≤ k → s2.sto.find k = s'.sto.find k) →
          ajK w.heap.size w' es' ss ss' ∧ ∀ (i : Nat) (s : Slot) (e : Ent), ss'[i]? = some s → es'[i]? = some e → wL H2 (jV ss') w' s e := by
        intro H2 s2 hR2 hsame
        have look : ∀ (i k g : Nat), ks[i]? = some (k, g) → ∃ e sl, es'[i]? = some e ∧ k = jG i ∧ e.wY es'.length = true ∧ (e.moves = true ∨ g = 0) ∧ L'.at_ k = some sl ∧ sl.gen = g ∧ wL H2 L' w' sl (e.inst (qV ks)) ∧ ss'[i]? = some { sl with gen := 0 } := by
          intro i k g hi
          have hlt : i < es'.length := by rw [← hkl]; exact yL hi
          have he : es'[i]? = some es'[i] := List.getElem?_eq_getElem hlt
          obtain ⟨q1, q2, q3, q4⟩ := hat i k g _ hi he
          rw [Nat.zero_add] at q1
          rw [← hsame k (by rw [q1]; simp [jG])] at q2
          obtain ⟨sl, e1, e2, e3⟩ := hR2.sto _ _ _ q2
          refine ⟨_, sl, he, q1, q3, q4, e1, e2, e3, ?_⟩
          simp only [ss', List.getElem?_map, hi, Option.map_some, e1]
        have ofs : ∀ (i : Nat) (s : Slot), ss'[i]? = some s → ∃ k g, ks[i]? = some (k, g) := by
          intro i s hs
          have : i < ks.length := by rw [← hsl']; exact yL hs
          exact ⟨ks[i].1, ks[i].2, by simp [List.getElem?_eq_getElem this]⟩
        have tied : ait L' ks ss' := by
          refine ⟨hsl', fun i k g x hi hx => ?_⟩
          obtain ⟨e, sl, _, _, _, _, e1, e2, _, e3⟩ := look i k g hi
          rw [e3] at hx
          cases hx
          exact ⟨sl, e1, e2, rfl⟩
        refine ⟨⟨by omega, fun x hx => ?_, fun x hx b hb => ?_, fun i j si sj b h1 h2 h3 h4 => ?_, fun i x x' e h1 h2 h3 => ?_⟩, fun i x e hx he => ?_⟩
        · obtain ⟨y, _, rfl⟩ := List.mem_map.1 hx
          split <;> rfl
        · obtain ⟨i, hi⟩ := List.mem_iff_getElem?.1 hx
          obtain ⟨k, g, hk⟩ := ofs i x hi
          obtain ⟨e, sl, _, _, _, _, e1, e2, _, e3⟩ := look i k g hk
          rw [hi] at e3
          cases e3
          exact hR2.low k sl b e1 hb
        · obtain ⟨k, g, hk⟩ := ofs i si h1
          obtain ⟨k', g', hk'⟩ := ofs j sj h2
          obtain ⟨e, sl, _, r1, _, _, e1, e2, _, e3⟩ := look i k g hk
          obtain ⟨e', sl', _, r1', _, _, e1', e2', _, e3'⟩ := look j k' g' hk'
          rw [h1] at e3
          rw [h2] at e3'
          cases e3
          cases e3'
          have := hR2.sep k k' sl sl' b e1 e1' h3 h4
          rw [r1, r1'] at this
          simpa [jG] using this
        · obtain ⟨k, g, hk⟩ := ofs i x' h2
          obtain ⟨e', sl, r0, r1, _, r2, e1, e2, _, e3⟩ := look i k g hk
          rw [h3] at r0
          cases r0
          rw [h2] at e3
          cases e3
          by_cases hg : sl.gen = 0
          · have := hR2.Xk k sl (by rw [r1]; simp [jG]) e1 hg
            have hki : k - 1000 = i := by rw [r1]; simp [jG]
            rw [hki] at this
            have h1' : (⟨w, H, ss, hG⟩ : Base).ss[i]? = some x := h1
            rw [this] at h1'
            cases h1'
            exact .inl (by rw [← hg])
          · refine .inr ⟨r2.resolve_right fun h => hg (e2.trans h), fun b hb => ?_⟩
            rcases hR2.mine k sl b e1 hb with h6 | ⟨_, o, h6, h7⟩
            · exact .inr h6
            · have hki : k - 1000 = i := by rw [r1]; simp [jG]
              rw [hki] at h6
              have h6' : ss[i]? = some o := h6
              rw [h1] at h6'
              cases h6'
              exact .inl h7
        · obtain ⟨k, g, hk⟩ := ofs i x hx
          obtain ⟨e', sl, r0, r1, r3, r2, e1, e2, e4, e3⟩ := look i k g hk
          rw [he] at r0
          cases r0
          rw [hx] at e3
          cases e3
          exact e4.Yt tied (by rw [hkl]; exact r3)
      rcases hret with ⟨hw, hp⟩ | ⟨k, g, sz, xs, hvr, hk, hfind, rfl⟩ | ⟨sz, hvr, rfl⟩ | ⟨k, g, ty, cs, hvr, hk, hfind, hp, rfl⟩ | ⟨k, g, ty, pre, post, k', g', sz, xs, hvr, hk, hk', hne, hf1, hf2, hp1, hp2, rfl⟩
      · obtain ⟨H2, hR2, hG⟩ := hR.frz (arN pv)
        obtain ⟨f1, f2⟩ := fin hR2 (fun k hk => by
          simp only [adW]
          cases hq : s'.sto.find k with
          | none => rfl
          | some x =>
            obtain ⟨g, x⟩ := x
            cases x <;> simp only
            rw [if_neg]
            omega)
        refine ⟨H2, ss', rfl, hR2.grow, hR2.agree, hR2.imm, hR2.ext, f1, f2, ?_⟩
        · have hpur := aix hR2 (fnd := s'.sto.find) (ks := arN pv) (Xl s'.sto _) (hrep.mono hG (.refl _)) (fun j hj => hj) (hw.acK hp)
          have := hpur.wk hw
          cases r <;> first
            | exact this
            | simp [PV.pure] at hp
      · obtain ⟨f1, f2⟩ := fin hR (fun _ _ => rfl)
        refine ⟨H', ss', rfl, hR.grow, hR.agree, hR.imm, hR.ext, f1, f2, ?_⟩
        obtain ⟨sl, e1, e2, e3, e4, e5, e6⟩ := hR.sto k g _ hfind
        rw [hvr] at hrep
        cases hrep with
        | row _ _ _ _ _ hu hs hx =>
          have hvv := hx sl e1 e2
          refine ⟨e4, ?_⟩
          rcases e6 with ⟨e6, e7⟩ | ⟨b, vs', rest, t, g1, g2, g3, g4, g5, g6⟩
          · have hx0 : xs = [] := List.eq_nil_of_length_eq_zero (by omega)
            subst hx0
            refine .inl ⟨rfl, ?_⟩
            rw [hvv, e6, e7]
            rfl
          · refine .inr ⟨b, sl.cap, vs', rest, t, ?_, g2, ?_, g3, g4, g5, g6, e5⟩
            · rcases hR.mine k sl b e1 g1 with h1 | h1
              · exact h1
              · omega
            · rw [hvv, g1]
              rfl
      · obtain ⟨f1, f2⟩ := fin hR (fun _ _ => rfl)
        refine ⟨H', ss', rfl, hR.grow, hR.agree, hR.imm, hR.ext, f1, f2, ?_⟩
        rw [hvr] at hrep
        cases hrep
        exact ⟨by simp, .inl ⟨rfl, rfl⟩⟩
      · obtain ⟨H2, hR2, hG, sl, b, vs, e1, e2, e3, e4, e5⟩ := hR.av4 hk hfind hp
        obtain ⟨f1, f2⟩ := fin hR2 (fun j hj => by
          exact Sto.qC _ _ _ _ _ (by omega))
        refine ⟨H2, ss', rfl, hR2.grow, hR2.agree, hR2.imm, hR2.ext, f1, f2, ?_⟩
        rw [hvr] at hrep
        cases hrep with
        | box _ _ _ _ _ hu hs hx =>
          have hvv := hx sl b e1 e2 e3
          subst hvv
          exact .ref _ b 0 _ vs _ e4 (fun i hi => by simp) e5
      · obtain ⟨f1, f2⟩ := fin hR (fun _ _ => rfl)
        refine ⟨H', ss', rfl, hR.grow, hR.agree, hR.imm, hR.ext, f1, f2, ?_⟩
        obtain ⟨sl, e1, e2, b, cv, _, g1, g2, g3, g4⟩ := hR.sto k g _ hf1
        obtain ⟨sl', d1, d2, d3, d4, d5, d6⟩ := hR.sto k' g' _ hf2
        rw [hvr] at hrep
        cases hrep with
        | box _ _ _ _ _ hu hs hx =>
          have hvv := hx sl b e1 e2 g1
          subst hvv
          obtain ⟨vs, u, us, rfl, r1, r2, r3⟩ := ahj pre g4
          have mine' : ∀ (j : Nat) (x : Slot) (c : Nat), j < 1000 → L'.at_ j = some x → x.block = some c → w.heap.size ≤ c := by
            intro j x c hj hx hc
            rcases hR.mine j x c hx hc with h1 | h1
            · exact h1
            · omega
          cases r2 with
          | row _ _ _ _ _ hu' hs' hx' =>
            have huu := hx' sl' d1 d2
            refine ⟨b, vs, us, u, mine' k sl b hk e1 g1, g2, rfl, g3, r1.pure hp1, r3.pure hp2, ⟨d4, ?_⟩, ?_⟩
            · rcases d6 with ⟨d6, d7⟩ | ⟨c, vs', rest, t, q1, q2, q3, q4, q5, q6⟩
              · have hx0 : xs = [] := List.eq_nil_of_length_eq_zero (by omega)
                subst hx0
                refine .inl ⟨rfl, ?_⟩
                rw [huu, d6, d7]
                rfl
              · refine .inr ⟨c, sl'.cap, vs', rest, t, mine' k' sl' c hk' d1 q1, q2, ?_, q3, q4, q5, q6, d5⟩
                rw [huu, q1]
                rfl
            · intro c l m hc hcb
              rw [huu] at hc
              simp only [Value.slice.injEq] at hc
              obtain ⟨hc, _⟩ := hc
              cases hb : sl'.block with
              | none => rw [hb] at hc; cases hc
              | some c' =>
                rw [hb] at hc
                simp only [Option.map_some, Option.some.injEq] at hc
                subst hc
                exact hne (hR.sep k k' sl sl' b e1 d1 g1 (hb.trans (congrArg some hcb)))
    cases e with
    | normal =>
      obtain ⟨t, hl, hk⟩ := hQ
      obtain ⟨H2, L2, hR2⟩ := hR.told hl
      exact key _ _ _ hR2 hk
    | ret => exact key _ _ _ hR hQ
    | exit id => exact hQ.elim
    | goto l => exact hQ.elim
    | panic ch => exact hQ.elim
    | outgrown => exact hQ.elim
theorem Qo {X : Cx} {f : Nat} {fn : Func} {c : Code} {args : List PV} {es es' : List Ent} {r : PV} {rs : List RV} (hm : X.P.follows .mixedOrders = true) (hf : X.P.funcs[f]? = some fn) (hb : fn.body = some c)
  (hname : (fn.name == "runtime.NumGoroutine") = false) (hres : fn.results = (rs.map RV.var).toArray) (hok : codeOk fn.ntmps X.nm c = true) (hargs : args.length ≤ fn.ntmps)
  (hlen : es'.length = es.length) (hpure : ∀ e ∈ es', e.wY es.length = true) (h : awp X c (zS X.P rs r es') (zR args es)) : BC X.P f args es r es' :=
 ⟨⟨fn, hf, by simp [hb], hname⟩, ⟨hlen, hpure⟩, ahO (C := Calls X.P f) (fun _ _ _ h => calls_of_wp hf hb h) hm hres hok hargs hlen hpure h⟩
theorem asI {X : Cx} {f : Nat} {fn : Func} {c : Code} {args : List PV} {es es' : List Ent} {r : PV} {rs : List RV} (hm : X.P.follows .mixedOrders = true) (hf : X.P.funcs[f]? = some fn) (hb : fn.body = some c)
  (hres : fn.results = (rs.map RV.var).toArray) (hok : codeOk fn.ntmps X.nm c = true) (hargs : args.length ≤ fn.ntmps)
  (hlen : es'.length = es.length) (hpure : ∀ e ∈ es', e.wY es.length = true) (h : awp X c (zS X.P rs r es') (zR args es)) : BD X.P f args es r es' :=
 ⟨⟨hlen, hpure⟩, ahO (C := fun vs w R => CallsD X.P f vs .returning w fun e u' w' => u' = .returning ∧ R e w') (fun _ _ _ h => callsD_of_wp hf hb h) hm hres hok hargs hlen hpure h⟩
theorem zK {X : Cx} {f : Nat} {fn : Func} {c : Code} {args : List PV} {r : PV} {rs : List RV} (hm : X.P.follows .mixedOrders = true) (hf : X.P.funcs[f]? = some fn) (hb : fn.body = some c)
  (hname : (fn.name == "runtime.NumGoroutine") = false) (hres : fn.results = (rs.map RV.var).toArray) (hok : codeOk fn.ntmps X.nm c = true) (hargs : args.length ≤ fn.ntmps)
  (h : awp X c (zS X.P rs r []) (zR args [])) : PC X.P f args r :=
 Qo hm hf hb hname hres hok hargs rfl (by simp) h
end Go.Proofs.YtclohbgnaopjfaaDoor
namespace Go.Proofs.YtclohbgnaopjfaaDoor
set_option linter.unusedSimpArgs false
set_option linter.unusedVariables false
open Go
theorem aoj {X : Cx} : ∀ (c : Code) {Q Q' : qF → St → Prop} (s : St) (_ : ∀ e s, Q e s → Q' e s), awp X c Q s → awp X c Q' s := by
 intro c
 induction c with
 | skip => intro Q Q' s hQ h; exact hQ _ _ h
 | label l => intro Q Q' s hQ h; exact hQ _ _ h
 | exit id => intro Q Q' s hQ h; exact hQ _ _ h
 | goto l => intro Q Q' s hQ h; exact hQ _ _ h
 | ret => intro Q Q' s hQ h; exact hQ _ _ h
 | scope c ih =>
  intro Q Q' s hQ h
  refine ih s ?_ h
  intro e s h
  cases e <;> first
   | exact hQ _ _ h
   | exact h
 | refuse why => intro Q Q' s hQ h; exact h
 | rangeFunc f ps c1 c2 ih1 ih2 => intro Q Q' s hQ h; exact h
 | region id ops draw => intro Q Q' s hQ h; obtain ⟨t, hl, h⟩ := h; exact ⟨t, hl, acu _ _ _ (fun s' h' => hQ _ _ h') h⟩
 | seq x y ihx ihy =>
  intro Q Q' s hQ h
  refine ihx s ?_ h
  intro e s h
  cases e <;> first
   | exact hQ _ _ h
   | (obtain ⟨t, hl, h⟩ := h; exact ⟨t, hl, ihy t hQ h⟩)
 | cond v x y ihx ihy =>
  intro Q Q' s hQ h
  simp only [awp, aiP] at h ⊢
  split
  ·rename_i b hb
   rw [hb] at h
   simp only at h
   split
   ·rename_i hb'; rw [if_pos hb'] at h; exact ihx s hQ h
   ·rename_i hb'; rw [if_neg hb'] at h; exact ihy s hQ h
  ·rename_i hb
   split at h
   ·rename_i b hb'; exact (hb b hb').elim
   ·exact h
 | block id c ih =>
  intro Q Q' s hQ h
  refine ih s ?_ h
  intro e s h
  cases e with
  | exit id' =>
   simp only [qF.inBlock] at h ⊢
   split
   ·rename_i he; rw [if_pos he] at h; exact hQ _ _ h
   ·rename_i he; rw [if_neg he] at h; exact hQ _ _ h
  | normal => exact hQ _ _ h
  | goto l => exact hQ _ _ h
  | ret => exact hQ _ _ h
 | loop c ih =>
  intro Q Q' s hQ h
  obtain ⟨t, hl, h⟩ := h
  refine ⟨t, hl, fun I hI => ?_⟩
  refine h I fun s hs => hI s (ih s ?_ hs)
  intro e s h
  cases e <;> first
   | exact hQ _ _ h
   | exact h
theorem Less.refl (s : St) : Less s s := ⟨fun _ => .inl rfl, fun _ _ h => h, rfl⟩
theorem Less.trans {s t u : St} (h : Less s t) (h' : Less t u) : Less s u :=
  ⟨fun i => by rcases h'.env i with h1 | h1
               · rw [h1]; exact h.env i
               · exact .inr h1, fun k v hv => h.sto k v (h'.sto k v hv), h'.nx.trans h.nx⟩
theorem anW (s : St) (l ks : List Nat) : Less s (s.cut l ks) := ⟨fun i => YS _ _ i, fun k v h => Wl _ _ k v h, rfl⟩
theorem zG {K : St → Prop} {s : St} (h : K s) : kC K s := ⟨s, .less (.refl s), h⟩
theorem atH {K : St → Prop} {s t : St} (hl : Less s t) (h : K t) : kC K s := ⟨t, .less hl, h⟩
theorem ku {X : Cx} {c : Code} {Q : qF → St → Prop} {s : St} (h : awp X c Q s) : kC (awp X c Q) s := ⟨s, .less (.refl s), h⟩
theorem zm {X : Cx} {a b : Code} {Q : qF → St → Prop} {s : St} (h : awp X a (qF.then (kC (awp X b Q)) Q) s) : awp X (.seq a b) Q s := h
theorem zA {X : Cx} {id : Nat} {c : Code} {Q : qF → St → Prop} {s : St} (h : awp X c (qF.inBlock id Q) s) : awp X (.block id c) Q s := h
theorem akT {X : Cx} {c : Code} {Q : qF → St → Prop} {s : St} (h : awp X c (qF.noGoto Q) s) : awp X (.scope c) Q s := h
theorem zu {X : Cx} {id : Nat} {ops : Array Oper} {draw : Bool} {Q : qF → St → Prop} {s : St}
  (h : ∀ (K : Env → Sto → Prop) (m : Nat), (∀ e t, (∀ n, Q .normal ⟨e, t, n⟩) → K e t) → jf X.P draw X.nm ops.toList ops.toList 0 s fun s' => K (s'.fin m (X.an id)).env (s'.fin m (X.an id)).sto) : awp X (.region id ops draw) Q s := by
 exact ⟨s, .less (.refl s), acu _ _ _ (fun s' hs' => hs' _) (h (fun e t => ∀ n, Q .normal ⟨e, t, n⟩) ops.size fun e t h => h)⟩
theorem amW {X : Cx} {id : Nat} {ops : Array Oper} {draw : Bool} {Q : qF → St → Prop} {s : St} (x : alA) (h : awp X (.region id ops draw) Q (s.fact x)) : awp X (.region id ops draw) Q s := by
 obtain ⟨t, hl, h⟩ := h
 exact ⟨t, .trans (.fact s x) hl, h⟩
theorem apP {X : Cx} {id : Nat} {ops : Array Oper} {draw : Bool} {b : Code} {Q : qF → St → Prop} {s : St} (x : alA) (h : awp X (.seq (.region id ops draw) b) Q (s.fact x)) : awp X (.seq (.region id ops draw) b) Q s :=
 amW (Q := qF.then (kC (awp X b Q)) Q) x h
theorem zb {X : Cx} {id : Nat} {ops : Array Oper} {draw : Bool} {b : Code} {Q : qF → St → Prop} {s : St}
  (h : ∀ (K : Env → Sto → Prop) (m : Nat), (∀ e t, (∀ n, awp X b Q ⟨e, t, n⟩) → K e t) → jf X.P draw X.nm ops.toList ops.toList 0 s fun s' => K (s'.fin m (X.an id)).env (s'.fin m (X.an id)).sto) : awp X (.seq (.region id ops draw) b) Q s :=
 zm (zu fun K m hK => h K m fun e t he => hK e t fun n => zG (he n))
theorem zk {X : Cx} {Q : qF → St → Prop} {s : St} (h : Q .ret s) : awp X .ret Q s := h
theorem zy {X : Cx} {Q : qF → St → Prop} {s : St} (h : Q .normal s) : awp X .skip Q s := h
theorem akW {X : Cx} {l : Nat} {Q : qF → St → Prop} {s : St} (h : Q .normal s) : awp X (.label l) Q s := h
theorem zU {X : Cx} {id : Nat} {Q : qF → St → Prop} {s : St} (h : Q (.exit id) s) : awp X (.exit id) Q s := h
theorem arh {id : Nat} {Q : qF → St → Prop} {s : St} (h : Q .normal s) : qF.inBlock id Q (.exit id) s := by
 simp only [qF.inBlock, if_true]; exact h
theorem avF {id id' : Nat} {Q : qF → St → Prop} {s : St} (hn : (id' == id) = false) (h : Q (.exit id') s) : qF.inBlock id Q (.exit id') s := by
 simp only [qF.inBlock]; rw [if_neg (by simpa using hn)]; exact h
theorem aei {P : Program} {rs : List RV} {r : PV} {s : St} {vs : List PV} (hv : wR P s rs = some vs) (h : atU s (je vs) r) : zS P rs r [] .ret s := by
 show ad9 P rs r [] s
 unfold ad9
 rw [hv]
 exact ⟨h, [], trivial⟩
def afO (sto : Sto) : Nat → List Ent → List (Nat × Nat)
 | _, [] => []
 | i, _ :: es => (jG i, stampOf (sto.find (jG i))) :: afO sto (i + 1) es
where stampOf : Option (Nat × Ent) → Nat
 | some (g, _) => g
 | none => 0
theorem arA {P : Program} {rs : List RV} {r : PV} {s : St} {vs : List PV} {es' : List Ent} (hv : wR P s rs = some vs) (h : atU s (je vs) r) (he : afm (qV (afO s.sto 0 es')) es'.length s.sto 0 (afO s.sto 0 es') es') : zS P rs r es' .ret s := by
 show ad9 P rs r es' s
 unfold ad9
 rw [hv]
 exact ⟨h, _, he⟩
theorem YT {P : Program} {rs : List RV} {r : PV} {s : St} {es' : List Ent} (h : zS P rs r es' .ret s) : zS P rs r es' .normal s := zG (K := ad9 P rs r es') h
theorem qE {P : Program} {rs : List RV} {r : PV} {s t : St} {es' : List Ent} (hl : Told s t) (h : zS P rs r es' .normal t) : zS P rs r es' .normal s := by
 obtain ⟨u, h1, h2⟩ := h
 exact ⟨u, .trans hl h1, h2⟩
theorem zn {X : Cx} {v : Operand} {x y : Code} {Q : qF → St → Prop} {s : St} (hv : s.ev v = .bool true) (h : awp X x Q s) : awp X (.cond v x y) Q s := by
 simp only [awp, hv, aiP, if_true]; exact h
theorem zi {X : Cx} {v : Operand} {x y : Code} {Q : qF → St → Prop} {s : St} (hv : s.ev v = .bool false) (h : awp X y Q s) : awp X (.cond v x y) Q s := by
 simp only [awp, hv, aiP, Bool.false_eq_true, if_false]; exact h
theorem aw1 {s : St} {t : Nat} : s.ev (.tmp t) = s.env.get t := rfl
theorem auy {s : St} {v : Value} : s.ev (.const v) = ofConst v := rfl
theorem avt {s : St} {f : Nat} : s.ev (.func f) = .fn f [] := rfl
section
variable {P : Program} {q : Bool} {nm : Names} {ops : List Oper}
def VC (P : Program) (q : Bool) (nm : Names) (ops r : List Oper) (i : Nat) (s : St) (dst : Option Nat) (k g : Nat) (res : Res) (K : St → Prop) : Prop :=
 res.wp P q s dst k g fun s' => jf P q nm ops r (i + 1) (s'.Ws q nm.nf dst) K
def akr (P : Program) (q : Bool) (nm : Names) (ops r : List Oper) (i : Nat) (s : St) (dst : Option Nat) (k g : Nat) (fp : Option (List Nat)) (res : Res) (K : St → Prop) : Prop :=
 wpQ P q fp s dst k g res fun s' => jf P q nm ops r (i + 1) (s'.Ws q nm.nf dst) K
theorem ao3 {r : List Oper} {i : Nat} {s : St} {dst : Option Nat} {k g : Nat} {res : Res} {K : St → Prop} : akr P q nm ops r i s dst k g none res K = VC P q nm ops r i s dst k g res K := propext ⟨fun h => h, fun h => h⟩
theorem ay9 {op : Op} {dst : Option Nat} : fOf false nm op dst = none := rfl
theorem ax0 {op : Op} {dst : Option Nat} : fOf true nm op dst = XC nm op dst := rfl
theorem avZ {i : Nat} {s : St} {K : St → Prop} : jf P q nm ops [] i s K = K s := propext ⟨fun h => h, fun h => h⟩
theorem awn {dst : Option Nat} {op : Op} {ty : Nat} {pos : String} {aft : Array Edge} {r : List Oper} {i : Nat} {s : St} {K : St → Prop} :
  jf P q nm ops (⟨dst, op, ty, pos, aft, none⟩ :: r) i s K = ((q = true → aaC op = true → s.sto.find (keyOf nm dst) = none) ∧ avS q nm ⟨dst, op, ty, pos, aft, none⟩ s ∧ akr P q nm ops r i s dst (keyOf nm dst) (s.nx + i) (fOf q nm op dst) (QD q (nfD nm dst) op (vK P q s (keyOf nm dst) (s.nx + i) op)) K) := propext ⟨fun h => h, fun h => h⟩
theorem awF {l : Nf} {op : Op} {r : Res} : QD false l op r = r := by unfold QD; split <;> simp_all
theorem awt {q : Bool} {op : Op} {r : Res} : QD q [] op r = r := by unfold QD; split <;> simp_all
theorem avu {x : Option Nat} {l : Nf} {t n : Nat} {p : Array (Nat × Operand)} {r : Res} : QD true (x :: l) (.buildSlice t n p) r = r.shut := rfl
theorem awl {x : Option Nat} {l : Nf} {as : Array Operand} {ts : Array Nat} {r : Res} : QD true (x :: l) (.call { callee := .builtin .append, args := as, argTypes := ts }) r = r.shut := rfl
theorem ath {nm : Names} {d : Nat} : nfD nm (some d) = ajp nm.nf d := rfl
theorem atc {nm : Names} : nfD nm none = [] := rfl
theorem as5 {r : List Oper} {i : Nat} {s : St} {dst : Option Nat} {k g : Nat} {v : PV} {K : St → Prop} : VC P q nm ops r i s dst k g (.val v) K = jf P q nm ops r (i + 1) ((s.put dst v).Ws q nm.nf dst) K := propext ⟨fun h => h, fun h => h⟩
theorem aub {r : List Oper} {i : Nat} {s : St} {dst : Option Nat} {k g k' g' : Nat} {v : PV} {e : Ent} {K : St → Prop} : VC P q nm ops r i s dst k g (.eff v k' g' e) K = jf P q nm ops r (i + 1) (((s.put dst v).set k' g' e).Ws q nm.nf dst) K := propext ⟨fun h => h, fun h => h⟩
theorem arz {r : List Oper} {i : Nat} {s : St} {dst : Option Nat} {k g : Nat} {p : Prop} {res : Res} {K : St → Prop} : VC P q nm ops r i s dst k g (.need p res) K = (p ∧ VC P q nm ops r i s dst k g res K) := propext ⟨fun h => h, fun h => h⟩
theorem ar8 {r : List Oper} {i : Nat} {s : St} {dst : Option Nat} {k g : Nat} {p : Prop} {b : Bool} {K : St → Prop} : VC P q nm ops r i s dst k g (.acF p b) K = (q = false ∧ (p → jf P q nm ops r (i + 1) ((s.put dst (.bool b)).Ws q nm.nf dst) K) ∧ jf P q nm ops r (i + 1) ((s.put dst (.bool !b)).Ws q nm.nf dst) K) := propext ⟨fun h => h, fun h => h⟩
theorem atA {r : List Oper} {i : Nat} {s : St} {dst : Option Nat} {k g : Nat} {K : St → Prop} : VC P q nm ops r i s dst k g .bad K = False := propext ⟨fun h => h, fun h => h⟩
def ah9 (ops : List Oper) (s : St) (j : Nat) : PV :=
 match Qq ops j with
 | some d => s.env.get d
 | none => .undef
def XG (P : Program) (q : Bool) (nm : Names) (ops : List Oper) (o : Oper) (r : List Oper) (i : Nat) (s : St) (b : PV) (want : Bool) (K : St → Prop) : Prop :=
 match gate want b with
 | some true => jf P q nm ops ({ o with guard := none } :: r) i s K
 | some false => jf P q nm ops r (i + 1) (s.put o.dst (.tup [])) K
 | none => False
theorem asw {dst : Option Nat} {op : Op} {ty : Nat} {pos : String} {aft : Array Edge} {r : List Oper} {i j : Nat} {want : Bool} {s : St} {K : St → Prop} :
  jf P q nm ops (⟨dst, op, ty, pos, aft, some (j, want)⟩ :: r) i s K = XG P q nm ops ⟨dst, op, ty, pos, aft, none⟩ r i s (ah9 ops s j) want K := by
 simp only [jf, ajc, XG, ah9]
 cases Qq ops j <;> rfl
theorem auR {o : Oper} {r : List Oper} {i : Nat} {s : St} {K : St → Prop} : XG P q nm ops o r i s (.bool true) true K = jf P q nm ops ({ o with guard := none } :: r) i s K := propext ⟨fun h => h, fun h => h⟩
theorem as3 {o : Oper} {r : List Oper} {i : Nat} {s : St} {K : St → Prop} : XG P q nm ops o r i s (.bool false) false K = jf P q nm ops ({ o with guard := none } :: r) i s K := propext ⟨fun h => h, fun h => h⟩
theorem as2 {o : Oper} {r : List Oper} {i : Nat} {s : St} {K : St → Prop} : XG P q nm ops o r i s (.bool true) false K = jf P q nm ops r (i + 1) (s.put o.dst (.tup [])) K := propext ⟨fun h => h, fun h => h⟩
theorem atn {o : Oper} {r : List Oper} {i : Nat} {s : St} {K : St → Prop} : XG P q nm ops o r i s (.bool false) true K = jf P q nm ops r (i + 1) (s.put o.dst (.tup [])) K := propext ⟨fun h => h, fun h => h⟩
theorem atM {o : Oper} {r : List Oper} {i : Nat} {s : St} {K : St → Prop} {want : Bool} : XG P q nm ops o r i s (.tup []) want K = jf P q nm ops r (i + 1) (s.put o.dst (.tup [])) K := propext ⟨fun h => h, fun h => h⟩
theorem ari {r : List Oper} {i : Nat} {s : St} {dst : Option Nat} {k g f : Nat} {args args' as : List PV} {v : PV} {ks : List Nat} {K : St → Prop} (hc : PC P f args' v) (ha : args.map (YI s.sto.find) = as) (hw : WkL as args') (hp : yj as = true) (hk : args.flatMap aas = ks)
  (hq : (!q || (ks.isEmpty && xk v)) = true) (h : jf P q nm ops r (i + 1) ((({ s with sto := Sto.frz ks s.sto } : St).back dst k g v).Ws q nm.nf dst) K) : VC P q nm ops r i s dst k g (.call f args) K := by
 subst ha hk
 refine .inl ⟨args', v, fun hq' => ?_, hp, hw, hc, h⟩
 subst hq'
 simpa using hq
theorem ao6 {r : List Oper} {i : Nat} {s : St} {dst : Option Nat} {k g f : Nat} {args args' : List PV} {v : PV} {es es' : List Ent} {K : St → Prop} (ks : List (Nat × Nat)) (hc : BC P f args' es v es') (hf : findAll (qV ks) ks.length s.sto ks es) (hn : (ks.map (·.1)).Nodup)
  (he : xK ks.length args' = true) (hw : WkL args (Z7 (qV ks) args')) (hm : (xk v || !qQ es') = true)
  (h : jf P false nm ops r (i + 1) ((({ s with sto := kN s.sto (zZ g ks es') (es'.map (Ent.inst (qV (zZ g ks es')))) } : St).back dst k g v).Ws false nm.nf dst) K) : VC P false nm ops r i s dst k g (.call f args) K :=
 .inr ⟨rfl, ks, es, args', v, es', hf, hn, he, hw, hc, hm, h⟩
theorem apU {r : List Oper} {i : Nat} {s : St} {dst : Option Nat} {k g f : Nat} {args args' : List PV} {v : PV} {es es' : List Ent} {fp : List Nat} {K : St → Prop} (ks : List (Nat × Nat)) (hfp : ∀ x ∈ ks, x.1 ∈ fp) (hc : BC P f args' es v es') (hf : findAll (qV ks) ks.length s.sto ks es) (hn : (ks.map (·.1)).Nodup)
  (he : xK ks.length args' = true) (hw : WkL args (Z7 (qV ks) args')) (hm : ((xk v || !qQ es') && anz v) = true) (hQ : KR fp = false)
  (h : jf P q nm ops r (i + 1) ((({ s with sto := kN s.sto (zZ g ks es') (es'.map (Ent.inst (qV (zZ g ks es')))) } : St).back dst k g v).Ws q nm.nf dst) K) : akr P q nm ops r i s dst k g (some fp) (.call f args) K :=
 ⟨ks, es, args', v, es', hfp, hf, hn, he, hw, hc, hm, fun h' => (by rw [hQ] at h'; cases h'), by
  unfold St.quiet
  rw [hQ]
  exact h⟩
theorem am4 {r : List Oper} {i : Nat} {s : St} {dst : Option Nat} {k g f : Nat} {args args' : List PV} {v : PV} {es : List Ent} {fp : List Nat} {K : St → Prop} (ks : List (Nat × Nat)) (hfp : ∀ x ∈ ks, x.1 ∈ fp) (hc : BC P f args' es v es) (hf : findAll (qV ks) ks.length s.sto ks es) (hn : (ks.map (·.1)).Nodup)
  (he : xK ks.length args' = true) (hw : WkL args (Z7 (qV ks) args')) (hm : (!qQ es && anz v) = true) (hQ : KR fp = true)
  (h : jf P q nm ops r (i + 1) ((s.back dst k g v).Ws q nm.nf dst) K) : akr P q nm ops r i s dst k g (some fp) (.call f args) K := by
 simp only [Bool.and_eq_true, Bool.not_eq_true'] at hm
 refine ⟨ks, es, args', v, es, hfp, hf, hn, he, hw, hc, by rw [hm.1, hm.2]; simp, fun _ => ⟨rfl, hm.1⟩, ?_⟩
 unfold St.quiet
 rw [if_pos hQ]
 exact h
end
theorem axf {nm : Names} {o : Oper} {s : St} : avS false nm o s = True := rfl
theorem axM {nm : Names} {o : Oper} {s : St} : avS true nm o s = agt o s (afC nm.fp (ahh o.op o.dst)) := rfl
theorem avH {o : Oper} {s : St} : agt o s none = True := rfl
theorem avM {o : Oper} {s : St} {F : List Nat} : agt o s (some F) = (JH F s o.op.operands.toList = true) := rfl
theorem axA {fp : List (Nat × List Nat)} : afC fp none = none := rfl
theorem axI {fp : List (Nat × List Nat)} {d : Nat} : afC fp (some d) = arC fp d := rfl
theorem aoM {t : Nat} {x : Operand} : (Op.slice t x none none none).operands.toList = [x] := rfl
theorem apl {t : Nat} {x y : Operand} : (Op.slice t x (some y) none none).operands.toList = [x, y] := rfl
theorem aph {t : Nat} {x y : Operand} : (Op.slice t x none (some y) none).operands.toList = [x, y] := rfl
theorem aoR {t : Nat} {x y z : Operand} : (Op.slice t x (some y) (some z) none).operands.toList = [x, y, z] := rfl
theorem asa {t : Nat} {x y : Operand} : (Op.store t x y).operands.toList = [x, y] := rfl
theorem atQ {t : Nat} {x : Operand} : (Op.load t x).operands.toList = [x] := rfl
theorem au7 {a b : Nat} {x : Operand} : (Op.convert a b x).operands.toList = [x] := rfl
theorem asq {t f : Nat} {x : Operand} : (Op.fieldAddr t x f).operands.toList = [x] := rfl
theorem arq {t : Nat} {x i : Operand} : (Op.indexAddr t x i).operands.toList = [x, i] := rfl
theorem apd {x y : Operand} {ts : Array Nat} : (Op.call { callee := .builtin .append, args := #[x, y], argTypes := ts }).operands.toList = [x, y] := rfl
theorem axQ {d : Nat} : arC [] d = none := rfl
theorem axV {j d : Nat} {l : List Nat} {r : List (Nat × List Nat)} : arC ((j, l) :: r) d = if d = j then some l else arC r d := rfl
theorem aw2 {nf : List (Nat × Nf)} {d : Option Nat} {s : St} : s.Ws true nf d = s := rfl
theorem arW {nf : List (Nat × Nf)} {s : St} : s.Ws false nf none = s := rfl
theorem ary {nf : List (Nat × Nf)} {d : Nat} {s : St} : s.Ws false nf (some d) = s.avX d (ajp nf d) := rfl
theorem atP {d : Nat} {s : St} : s.avX d [] = s := rfl
theorem art {d : Nat} {x : Option Nat} {l : Nf} {s : St} : s.avX d (x :: l) = s.aeu d (x :: l) := rfl
theorem atl {d : Nat} : ajp [] d = [] := rfl
theorem arQ {j d : Nat} {l : Nf} {r : List (Nat × Nf)} : ajp ((j, l) :: r) d = if d = j then l else ajp r d := rfl
theorem WkL.refl : ∀ (l : List PV), WkL l l
 | [] => .nil
 | p :: l => .cons _ _ _ _ (.refl p) (WkL.refl l)
theorem PC.list {P : Program} {f : Nat} {args : List PV} {sz : Nat} {xs : List PV} (h : PC P f args (.own sz xs)) : PC P f args (.list sz xs) := by
 obtain ⟨h1, h2, h3⟩ := h
 refine ⟨h1, h2, fun H w ss vs ha hg hl hb hd he hr => ?_⟩
 refine (h3 H w ss vs ha hg hl hb hd he hr).mono fun e w' ⟨v, H', ss', e1, e2, e3, e4, e5, eM, e6, e7⟩ => ?_
 have hss : ss = [] := List.eq_nil_of_length_eq_zero (by simpa using hl)
 subst hss
 obtain ⟨g1, g2⟩ := e7
 rcases g2 with ⟨rfl, rfl⟩ | ⟨b, cap, us, rest, t, k1, k2, rfl, k4, k5, k6, k7, k8⟩
 ·exact ⟨_, H', ss', e1, e2, e3, e4, e5, eM, by simp, .wN _ _ _ _⟩
 ·refine ⟨_, fun b' => if b' = b then some (us ++ rest).toArray else H' b', ss', e1, fun b' c hc => ?_, fun b' c hc => ?_, fun b' c hc => ?_, e5, eM, by simp, ?_⟩
  ·show (if b' = b then some (us ++ rest).toArray else H' b') = some c
   rw [if_neg (fun hbb => by subst hbb; have := e2 _ _ hc; rw [k2] at this; cases this)]
   exact e2 _ _ hc
  ·simp only at hc
   split at hc
   ·rename_i hbb
    subst hbb
    cases hc
    exact ⟨t, (0, 0), k4⟩
   ·exact e3 _ _ hc
  ·simp only at hc
   split at hc
   ·rename_i hbb
    subst hbb
    exact .inr k1
   ·exact e4 _ _ hc
  ·refine Rep.list _ b 0 xs.length cap sz (us ++ rest).toArray us xs (by simp) rfl k8 g1 k5 (fun i hi => ?_) (k6.mono (fun b' c hc => ?_) (.refl _))
   ·simp [List.getElem?_append_left hi]
   ·show (if b' = b then some (us ++ rest).toArray else H' b') = some c
    rw [if_neg (fun hbb => by subst hbb; rw [k2] at hc; cases hc)]
    exact hc
theorem awX {n : Int} (h : -9223372036854775808 ≤ n ∧ n ≤ 9223372036854775807) : IntKind.wrap .i64 n = n := by
 rw [IntKind.wrap_i64]; omega
theorem more {α : Type} {pre suf : List α} (hb : decide ((pre.length : Int) < ((pre ++ suf).length : Int)) = true) : ∃ r s', suf = r :: s' := by
 have := of_decide_eq_true hb
 cases suf with
 | nil => simp at this
 | cons r s' => exact ⟨r, s', rfl⟩
end Go.Proofs.YtclohbgnaopjfaaDoor
namespace Go.Proofs.YtclohbgnaopjfaaDoor
set_option linter.unusedSimpArgs false
set_option linter.unusedVariables false
open Go
attribute [go_sem] ao3 ay9 ax0 XC St.abE St.agz PV.inst Z7 PV.wY xK Ent.inst Ent.wY Ent.moves zZ qQ afm afO afO.stampOf jG qV findAll kN kP awF awt avu awl ath atc Res.shut am9 amT anJ ahz anb Bool.false_and Bool.true_and bne_self_eq_false avZ awn asw ah9 auR as3 as2 atn atM as5 aub arz atA ar8 vK yz St.put St.set aw1 auy avt Env.get Sto.find Sto.upd keyOf aaC Qq PV.lies PV.leaf PV.cells PV.pure ofConst Wh yQ Yy Zc setCells kv Xd xu Xv ajX Z5 aj3 ai4 zOk afK aop anQ aoN alR Vu ai2 akY jq strOf jY KG Zi elems apM ae9 J5 JZ QT Ka Vk QB St.fin St.keep St.sort St.facts St.fact St.aiq St.K9 St.aeu aw2 arW ary atP art atl arQ atK auQ asu arv amQ apG St.ren J9 Xp aeL afD PV.speaks Zm PV.ren aoY Ent.speaks Ent.ren axf axM ahh awL asa avH avM axA axI axQ axV JH at7 PV.top List.contains_cons List.contains_nil aoM apl aph aoR atQ au7 asq arq apd List.toList_toArray Q6 yO YI abm aas amy Sto.frz Sto.amb St.back ck xk zR Jq acE id List.map_cons List.map_nil List.getElem?_cons_zero List.getElem?_cons_succ List.getElem?_nil List.getD_cons_zero List.getD_cons_succ List.getD_nil List.drop_zero List.drop_succ_cons List.drop_nil List.take_zero List.take_succ_cons List.take_nil List.length_cons List.length_nil List.all_cons List.all_nil List.cons_append List.nil_append List.append_nil List.headD_cons List.replicate_succ List.replicate_zero List.set_cons_zero List.set_cons_succ Option.map_some Option.map_none Option.bind_some Option.bind_none Bool.false_eq_true ne_eq not_true_eq_false not_false_eq_true forall_const true_and and_true and_self Nat.add_zero Nat.zero_add Bool.and_true Bool.true_and Bool.true_or Bool.false_or adR amD Bool.not_true Bool.not_false decide_true decide_false eq_self implies_true true_implies false_implies Int.toNat_natCast beq_self_eq_true Int.le_refl Nat.le_refl Nat.lt_add_one Nat.succ_ne_self Int.natCast_nonneg yj List.flatMap_cons List.flatMap_nil List.length_map
end Go.Proofs.YtclohbgnaopjfaaDoor
namespace Go.Proofs.YtclohbgnaopjfaaDoor
set_option linter.unusedSimpArgs false
set_option linter.unusedVariables false
open Go
def Lay.dm (L : Lay) (k0 k1 : Nat) (s0 s1 : Slot) : Lay := ⟨L.used, fun j => if j = 1000 then some { s0 with gen := 0 } else if j = 1001 then some { s1 with gen := 0 } else if j = k0 ∨ j = k1 then Option.none else L.at_ j⟩
def apD (p : PV) : Bool := !p.speaks 1000 && !p.speaks 1001
theorem aqL {L : Lay} {k0 k1 : Nat} {s0 s1 s : Slot} {j : Nat} (h0 : j ≠ 1000) (h1 : j ≠ 1001) (h : (L.dm k0 k1 s0 s1).at_ j = some s) : L.at_ j = some s := by
 simp only [Lay.dm, h0, h1, if_false] at h
 split at h
 ·cases h
 ·exact h
mutual
theorem Rep.dm {H : Imm} {L : Lay} {k0 k1 : Nat} {s0 s1 : Slot} {v : Value} {p : PV} (h0 : p.speaks 1000 = false) (h1 : p.speaks 1001 = false) : Rep H L v p → Rep H (L.dm k0 k1 s0 s1) v p
 | .undef _ v => .undef _ v
 | .bool _ b => .bool _ b
 | .int _ k n => .int _ k n
 | .str _ s => .str _ s
 | .kS _ => .kS _
 | .wN _ a c sz => .wN _ a c sz
 | .list _ b off len cap sz c vs xs h hlen hcap hsz hc hv hr => .list _ b off len cap sz c vs xs h hlen hcap hsz hc hv hr
 | .row _ v j g n hu hx h => by
  simp only [PV.speaks, beq_eq_false_iff_ne, ne_eq] at h0 h1
  exact .row _ _ _ _ _ hu hx fun s hs' hg => h s (aqL h0 h1 hs') hg
 | .agg _ vs ps h => .agg _ vs _ (zI.dm (by simpa [PV.speaks] using h0) (by simpa [PV.speaks] using h1) h)
 | .tup _ vs ps h => .tup _ vs _ (zI.dm (by simpa [PV.speaks] using h0) (by simpa [PV.speaks] using h1) h)
 | .ref _ b off c vs ps h hv hr => .ref _ b off c vs ps h hv hr
 | .box _ v j g off hu hx h => by
  simp only [PV.speaks, beq_eq_false_iff_ne, ne_eq] at h0 h1
  exact .box _ _ _ _ _ hu hx fun s b hs' hg => h s b (aqL h0 h1 hs') hg
 | .elt _ v j g i off hu hx h => by
  simp only [PV.speaks, beq_eq_false_iff_ne, ne_eq] at h0 h1
  exact .elt _ _ _ _ _ _ hu hx fun s b hs' hg => h s b (aqL h0 h1 hs') hg
 | .jP _ v j g hu hx h => by
  simp only [PV.speaks, beq_eq_false_iff_ne, ne_eq] at h0 h1
  exact .jP _ _ _ _ hu hx (h.imp id fun h s b hs' hg => h s b (aqL h0 h1 hs') hg)
 | .fn _ f vs ps h => .fn _ f vs _ (zI.dm (by simpa [PV.speaks] using h0) (by simpa [PV.speaks] using h1) h)
 | .aaQ _ => .aaQ _
 | .aaE _ => .aaE _
 | .YQ _ => .YQ _
 | .iface _ t v p h => .iface _ t v _ (Rep.dm (by simpa [PV.speaks] using h0) (by simpa [PV.speaks] using h1) h)
theorem zI.dm {H : Imm} {L : Lay} {k0 k1 : Nat} {s0 s1 : Slot} {vs : List Value} {ps : List PV} (h0 : Zm 1000 ps = false) (h1 : Zm 1001 ps = false) : zI H L vs ps → zI H (L.dm k0 k1 s0 s1) vs ps
 | .nil _ => .nil _
 | .cons _ v p vs ps h t => by
  simp only [Zm, Bool.or_eq_false_iff] at h0 h1
  exact .cons _ _ _ _ _ (Rep.dm h0.1 h1.1 h) (zI.dm h0.2 h1.2 t)
end
def aaJ : Ent → Bool
 | .var _ cs => !Zm 1000 cs && !Zm 1001 cs
 | _ => true
theorem wL.dm {H : Imm} {L : Lay} {w : World} {sl : Slot} {e : Ent} {k0 k1 : Nat} {s0 s1 : Slot} (hq : aaJ e = true) (h : wL H L w sl e) : wL H (L.dm k0 k1 s0 s1) w sl e := by
 match e with
 | .var tv cs =>
  obtain ⟨b, vs, t, h1, h2, h3, h4⟩ := h
  simp only [aaJ, Bool.and_eq_true, Bool.not_eq_true'] at hq
  exact ⟨b, vs, t, h1, h2, h3, h4.dm hq.1 hq.2⟩
 | .row false sz xs => exact h
 | .row true sz xs => exact h
 | .iter s pos => exact h
 | .gone => trivial
 | .moved sz xs => exact h
 | .bytes _ _ => exact h
 | .XX _ _ => exact h
def St.dm (s : St) (i0 i1 ty0 ty1 : Nat) (cs0 cs1 : List PV) (l m : List Nat) : St :=
 ⟨(i0, .box 1000 0 0) :: (i1, .box 1001 0 0) :: Q6 s.env l, (1000, 0, .var ty0 cs0) :: (1001, 0, .var ty1 cs1) :: yO s.sto m, s.nx⟩
structure aw3 (s : St) (i0 i1 k0 k1 g0 g1 ty0 ty1 : Nat) (cs0 cs1 : List PV) (l m : List Nat) : Prop where
 e0 : s.env.get i0 = .box k0 g0 0
 e1 : s.env.get i1 = .box k1 g1 0
 f0 : s.sto.find k0 = some (g0, .var ty0 cs0)
 f1 : s.sto.find k1 = some (g1, .var ty1 cs1)
 ne : k0 ≠ k1
 lt0 : k0 < 1000
 lt1 : k1 < 1000
 q0 : aaJ (.var ty0 cs0) = true
 q1 : aaJ (.var ty1 cs1) = true
 ql : (l.all fun i => apD (s.env.get i)) = true
 qm : (m.all fun k => decide (k < 1000) && decide (k ≠ k0) && decide (k ≠ k1) && (match s.sto.find k with | some (_, e) => aaJ e | none => true)) = true
theorem Rel.dm {w0 : World} {H0 : Imm} {G : au8 H0} {H : Imm} {L : Lay} {s : St} {a : Act} {w : World} (h : Rel ⟨w0, H0, [], G⟩ (fun g => s.nx ≤ g) H L s a w)
    {i0 i1 k0 k1 g0 g1 ty0 ty1 : Nat} {cs0 cs1 : List PV} {l m : List Nat} (ok : aw3 s i0 i1 k0 k1 g0 g1 ty0 ty1 cs0 cs1 l m) :
    ∃ (L' : Lay) (s0 s1 : Slot) (b0 b1 : Nat), s0.gen = 0 ∧ s1.gen = 0 ∧ s0.block = some b0 ∧ s1.block = some b1 ∧ w0.heap.size ≤ b0 ∧ w0.heap.size ≤ b1 ∧
      a.tmps.getD i0 undef = .pointer (some ⟨b0, 0, none⟩) ∧ a.tmps.getD i1 undef = .pointer (some ⟨b1, 0, none⟩) ∧
      Rel ⟨w0, H0, [s0, s1], G⟩ (fun g => s.nx ≤ g) H L' (s.dm i0 i1 ty0 ty1 cs0 cs1 l m) a w := by
  obtain ⟨sl0, a0, a0g, b0, vs0, t0, p0, p1, p2, p3⟩ := h.sto k0 g0 _ ok.f0
  obtain ⟨sl1, a1, a1g, b1, vs1, t1, r0, r1, r2, r3⟩ := h.sto k1 g1 _ ok.f1
  have hb0 : w0.heap.size ≤ b0 := by
    rcases h.mine k0 sl0 b0 a0 p0 with h' | ⟨h', _⟩
    · exact h'
    · have := ok.lt0; omega
  have hb1 : w0.heap.size ≤ b1 := by
    rcases h.mine k1 sl1 b1 a1 r0 with h' | ⟨h', _⟩
    · exact h'
    · have := ok.lt1; omega
  have hbne : b0 ≠ b1 := fun e => ok.ne (h.sep k0 k1 sl0 sl1 b0 a0 a1 p0 (e ▸ r0))
  have hp0 : a.tmps.getD i0 undef = .pointer (some ⟨b0, 0, none⟩) := by
    have := h.env i0
    rw [ok.e0] at this
    generalize a.tmps.getD i0 undef = v at this
    cases this with
    | box _ _ _ _ _ hu hs hx => exact hx sl0 b0 a0 a0g p0
  have hp1 : a.tmps.getD i1 undef = .pointer (some ⟨b1, 0, none⟩) := by
    have := h.env i1
    rw [ok.e1] at this
    generalize a.tmps.getD i1 undef = v at this
    cases this with
    | box _ _ _ _ _ hu hs hx => exact hx sl1 b1 a1 a1g r0
  have hat : ∀ j sl, (L.dm k0 k1 sl0 sl1).at_ j = some sl → (j = 1000 ∧ sl = { sl0 with gen := 0 }) ∨ (j = 1001 ∧ sl = { sl1 with gen := 0 }) ∨ (j ≠ 1000 ∧ j ≠ 1001 ∧ j ≠ k0 ∧ j ≠ k1 ∧ L.at_ j = some sl) := by
    intro j sl hj
    by_cases h0 : j = 1000
    · subst h0
      simp only [Lay.dm, if_true, Option.some.injEq] at hj
      exact .inl ⟨rfl, hj.symm⟩
    · by_cases h1 : j = 1001
      · subst h1
        have : (L.dm k0 k1 sl0 sl1).at_ 1001 = some { sl1 with gen := 0 } := rfl
        rw [this, Option.some.injEq] at hj
        exact .inr (.inl ⟨rfl, hj.symm⟩)
      · simp only [Lay.dm, h0, h1, if_false] at hj
        by_cases h2 : j = k0 ∨ j = k1
        · rw [if_pos h2] at hj; cases hj
        · rw [if_neg h2] at hj
          exact .inr (.inr ⟨h0, h1, fun e => h2 (.inl e), fun e => h2 (.inr e), hj⟩)
  refine ⟨L.dm k0 k1 sl0 sl1, { sl0 with gen := 0 }, { sl1 with gen := 0 }, b0, b1, rfl, rfl, p0, r0, hb0, hb1, hp0, hp1, ?_⟩
  have bx0 : Rep H (L.dm k0 k1 sl0 sl1) (.pointer (some ⟨b0, 0, none⟩)) (.box 1000 0 0) := by
    refine .box _ _ _ _ _ h.zero ⟨_, rfl⟩ fun s b hs hg hb => ?_
    rcases hat 1000 s hs with ⟨_, rfl⟩ | ⟨e, _⟩ | ⟨e, _⟩
    · simp only at hb
      rw [p0] at hb
      cases hb
      rfl
    · cases e
    · exact (e rfl).elim
  have bx1 : Rep H (L.dm k0 k1 sl0 sl1) (.pointer (some ⟨b1, 0, none⟩)) (.box 1001 0 0) := by
    refine .box _ _ _ _ _ h.zero ⟨_, rfl⟩ fun s b hs hg hb => ?_
    rcases hat 1001 s hs with ⟨e, _⟩ | ⟨_, rfl⟩ | ⟨_, e, _⟩
    · cases e
    · simp only at hb
      rw [r0] at hb
      cases hb
      rfl
    · exact (e rfl).elim
  have hk : ∀ (l : List Nat), (l.all fun i => apD (s.env.get i)) = true → ∀ i, Rep H (L.dm k0 k1 sl0 sl1) (a.tmps.getD i undef) ((Q6 s.env l).get i) := by
    intro l
    induction l with
    | nil => intro _ i; exact .undef _ _
    | cons j l ih =>
      intro hq i
      simp only [List.all_cons, Bool.and_eq_true] at hq
      simp only [Q6, Env.get]
      by_cases hij : i = j
      · subst hij
        rw [if_pos rfl]
        have hqq := hq.1
        simp only [apD, Bool.and_eq_true, Bool.not_eq_true'] at hqq
        exact (h.env i).dm hqq.1 hqq.2
      · rw [if_neg hij]
        exact ih hq.2 i
  have hsto : ∀ (m : List Nat), (m.all fun k => decide (k < 1000) && decide (k ≠ k0) && decide (k ≠ k1) && (match s.sto.find k with | some (_, e) => aaJ e | none => true)) = true →
      ∀ k g e, (yO s.sto m).find k = some (g, e) → k < 1000 ∧ k ≠ k0 ∧ k ≠ k1 ∧ aaJ e = true ∧ s.sto.find k = some (g, e) := by
    intro m
    induction m with
    | nil => intro _ k g e hk; simp [yO, Sto.find] at hk
    | cons j m ih =>
      intro hq k g e hk
      simp only [List.all_cons, Bool.and_eq_true, decide_eq_true_eq] at hq
      obtain ⟨⟨⟨⟨q1, q2⟩, q3⟩, q4⟩, hq'⟩ := hq
      have hq'' : (m.all fun k => decide (k < 1000) && decide (k ≠ k0) && decide (k ≠ k1) && (match s.sto.find k with | some (_, e) => aaJ e | none => true)) = true := by
        simpa [List.all_eq_true] using hq'
      simp only [yO] at hk
      cases hj : s.sto.find j with
      | none => rw [hj] at hk; exact ih hq'' k g e hk
      | some x =>
        rw [hj] at hk
        simp only [Sto.find] at hk
        by_cases hkj : k = j
        · subst hkj
          rw [if_pos rfl, Option.some.injEq] at hk
          rw [hj, hk] at q4
          exact ⟨q1, q2, q3, q4, by rw [hj, hk]⟩
        · rw [if_neg hkj] at hk
          exact ih hq'' k g e hk
  refine
    { env := fun i => ?_, agree := h.agree, sto := ?_, sep := ?_, low := ?_, used := ?_, free := h.free, mine := ?_, zero := h.zero, Xk := ?_, grow := h.grow, imm := h.imm
      ext := h.ext.weaken fun b hb => ?_ }
  · show Rep H _ _ (Env.get ((i0, .box 1000 0 0) :: (i1, .box 1001 0 0) :: Q6 s.env l) i)
    simp only [Env.get]
    by_cases hi0 : i = i0
    · rw [if_pos hi0, hi0, hp0]; exact bx0
    · rw [if_neg hi0]
      by_cases hi1 : i = i1
      · rw [if_pos hi1, hi1, hp1]; exact bx1
      · rw [if_neg hi1]; exact hk l ok.ql i
  · intro k g e hke
    change Sto.find ((1000, 0, .var ty0 cs0) :: (1001, 0, .var ty1 cs1) :: yO s.sto m) k = some (g, e) at hke
    simp only [Sto.find] at hke
    by_cases hk0 : k = 1000
    · rw [if_pos hk0, Option.some.injEq, Prod.mk.injEq] at hke
      obtain ⟨rfl, rfl⟩ := hke
      subst hk0
      exact ⟨_, rfl, rfl, wL.dm ok.q0 (show wL H L w { sl0 with gen := 0 } (.var ty0 cs0) from ⟨b0, vs0, t0, p0, p1, p2, p3⟩)⟩
    · rw [if_neg hk0] at hke
      by_cases hk1 : k = 1001
      · rw [if_pos hk1, Option.some.injEq, Prod.mk.injEq] at hke
        obtain ⟨rfl, rfl⟩ := hke
        subst hk1
        exact ⟨_, rfl, rfl, wL.dm ok.q1 (show wL H L w { sl1 with gen := 0 } (.var ty1 cs1) from ⟨b1, vs1, t1, r0, r1, r2, r3⟩)⟩
      · rw [if_neg hk1] at hke
        obtain ⟨c1, c2, c3, c4, c5⟩ := hsto m ok.qm k g e hke
        obtain ⟨sl, e1, e2, e3⟩ := h.sto k g e c5
        refine ⟨sl, ?_, e2, e3.dm c4⟩
        simp only [Lay.dm, hk0, hk1, if_false, c2, c3, or_self]
        exact e1
  · intro k k' sl sl' b h1 h2 h3 h4
    rcases hat k sl h1 with ⟨rfl, rfl⟩ | ⟨rfl, rfl⟩ | ⟨n1, n2, n3, n4, h5⟩ <;> rcases hat k' sl' h2 with ⟨rfl, rfl⟩ | ⟨rfl, rfl⟩ | ⟨m1, m2, m3, m4, h6⟩
    · rfl
    · simp only at h3 h4; rw [p0] at h3; rw [r0] at h4; cases h3; cases h4; exact (hbne rfl).elim
    · exact (m3 (h.sep k' k0 sl' sl0 b h6 a0 h4 h3)).elim
    · simp only at h3 h4; rw [r0] at h3; rw [p0] at h4; cases h3; cases h4; exact (hbne rfl).elim
    · rfl
    · exact (m4 (h.sep k' k1 sl' sl1 b h6 a1 h4 h3)).elim
    · exact (n3 (h.sep k k0 sl sl0 b h5 a0 h3 h4)).elim
    · exact (n4 (h.sep k k1 sl sl1 b h5 a1 h3 h4)).elim
    · exact h.sep k k' sl sl' b h5 h6 h3 h4
  · intro k sl b h1 h2
    rcases hat k sl h1 with ⟨rfl, rfl⟩ | ⟨rfl, rfl⟩ | ⟨_, _, _, _, h5⟩
    · exact h.low k0 sl0 b a0 h2
    · exact h.low k1 sl1 b a1 h2
    · exact h.low k sl b h5 h2
  · intro k sl h1
    rcases hat k sl h1 with ⟨rfl, rfl⟩ | ⟨rfl, rfl⟩ | ⟨_, _, _, _, h5⟩
    · exact h.zero
    · exact h.zero
    · exact h.used k sl h5
  · intro k sl b h1 h2
    rcases hat k sl h1 with ⟨rfl, rfl⟩ | ⟨rfl, rfl⟩ | ⟨_, _, _, _, h5⟩
    · exact .inr ⟨Nat.le_refl _, _, rfl, h2⟩
    · exact .inr ⟨by omega, _, rfl, h2⟩
    · rcases h.mine k sl b h5 h2 with h6 | ⟨_, o, h6, _⟩
      · exact .inl h6
      · simp at h6
  · intro k sl hk h1 hg
    rcases hat k sl h1 with ⟨rfl, rfl⟩ | ⟨rfl, rfl⟩ | ⟨n1, n2, n3, n4, h5⟩
    · rfl
    · rfl
    · have := h.Xk k sl hk h5 hg
      simp at this
  · obtain ⟨x, hx, _⟩ := hb
    simp at hx
abbrev dKs : List (Nat × Nat) := [(1000, 0), (1001, 0)]
abbrev aqr : List PV := [.box 1000 0 0, .box 1001 0 0]
def St.Jb (s : St) (es' : List Ent) (rd : PV) : St := (({ s with sto := kN s.sto (zZ s.nx dKs es') (es'.map (Ent.inst (qV (zZ s.nx dKs es')))) } : St).back none 0 s.nx rd)
def auj (P : Program) (D : Nat) (rs : List RV) (r : PV) : qF → St → Prop
 | .ret, s => ∃ es rd es', BD P D aqr es rd es' ∧ findAll (qV dKs) 2 s.sto dKs es ∧ (xk rd || !qQ es') = true ∧
   (match wR P (s.Jb es' rd) rs with
    | some vs => Wk (Qb (s.Jb es' rd).sto.find (je vs)) r
    | none => False) ∧ r.pure = true
 | _, _ => False
def midD (X : Cx) (D t i0 i1 : Nat) (c : Code) (rs : List RV) (r : PV) : qF → St → Prop
 | .normal, s => kC (fun s => ∃ k0 k1 g0 g1 ty0 ty1 cs0 cs1 l m, aw3 s i0 i1 k0 k1 g0 g1 ty0 ty1 cs0 cs1 l m ∧ (s.dm i0 i1 ty0 ty1 cs0 cs1 l m).env.get t = .undef ∧ awp X c (auj X.P D rs r) (s.dm i0 i1 ty0 ty1 cs0 cs1 l m)) s
 | _, _ => False
theorem aoK {X : Cx} {f D t i0 i1 id : Nat} {fn : Func} {c0 c1 : Code} {o1 o2 : Oper} {args : List PV} {r : PV} {rs : List RV} (hm : X.P.follows .mixedOrders = true) (hf : X.P.funcs[f]? = some fn)
    (hb : fn.body = some (.seq c0 (.seq (.region id #[o1, o2] false) c1)))
    (h1 : o1.op = .makeFunc (.func D) #[] #[.tmp i0, .tmp i1] ∧ o1.dst = some t ∧ o1.guard = none) (h2 : (∃ ts, o2.op = .defer { callee := .value (.tmp t), args := #[], argTypes := ts }) ∧ o2.dst = none ∧ o2.guard = none)
    (hname : (fn.name == "runtime.NumGoroutine") = false) (hD : Wn X.P D) (hres : fn.results = (rs.map RV.var).toArray) (hok : codeOk fn.ntmps X.nm c0 = true) (hok1 : codeOk fn.ntmps X.nm c1 = true) (hargs : args.length ≤ fn.ntmps)
    (hlt : t < fn.ntmps)
    (h : awp X c0 (midD X D t i0 i1 c1 rs r) (zR args [])) : PC X.P f args r := by
  obtain ⟨h1a, h1b, h1c⟩ := h1
  obtain ⟨⟨ts, h2a⟩, h2b, h2c⟩ := h2
  refine ⟨⟨fn, hf, by simp [hb], hname⟩, ⟨rfl, by simp⟩, ?_⟩
  intro H w ss vs hA hG hsl _ _ _ hvs
  have hss : ss = [] := List.eq_nil_of_length_eq_zero (by simpa using hsl)
  subst hss
  have hvl := hvs.length
  obtain ⟨RR, hRR⟩ : ∃ RR : Ending → World → Prop, RR = fun e w' => ∃ v H' ss', e = .returned v ∧ Grow H H' ∧ Agree H' w' ∧ (∀ b c, H' b = some c → H b = some c ∨ w.heap.size ≤ b) ∧
      Ext (fun b => ∃ s ∈ ([] : List Slot), s.block = some b) w w' ∧ ajK w.heap.size w' [] [] ss' ∧ (∀ (i : Nat) (s : Slot) (e : Ent), ss'[i]? = some s → ([] : List Ent)[i]? = some e → wL H' (jV ss') w' s e) ∧
      acV H' w' w.heap.size v r := ⟨_, rfl⟩
  suffices hcalls : Calls X.P f vs.toArray w RR by rw [hRR] at hcalls; exact hcalls
  refine calls_of_wp_defers hf hb (wp_seq (wp_mono (afg (B := ⟨w, H, [], hG⟩) (nt := fn.ntmps) (df := []) hm c0 _ H (jV []) (zR args []) _ w hok ?_ ?_ rfl h) ?_))
  · have hno : ∀ k sl, ¬ (jV []).at_ k = some sl := by
      intro k sl hk
      simp [jV] at hk
    refine
      { env := fun i => ?_, agree := hA, sto := ?_, sep := ?_, low := ?_, used := ?_, free := ?_, mine := ?_, zero := rfl, Xk := ?_, grow := .refl _, imm := fun b c hc => .inl hc
        ext := ⟨Nat.le_refl _, fun _ _ _ => rfl, rfl, rfl, rfl⟩ }
    · show Rep H _ _ ((Jq 0 args).get i)
      rw [Y1]
      simp only [Nat.zero_le, if_true, Nat.sub_zero]
      by_cases hi : i < args.length
      · obtain ⟨v, hv1, hv2⟩ := hvs.get i hi
        have : (vs.toArray ++ Array.replicate (fn.ntmps - vs.toArray.size) undef).getD i undef = v := by
          have hget : (vs.toArray ++ Array.replicate (fn.ntmps - vs.toArray.size) undef)[i]? = some v := by
            rw [Array.getElem?_append_left (by simp; omega)]
            simpa using hv1
          rw [Array.getD_eq_getD_getElem?, hget]
          rfl
        rw [this]
        exact hv2
      · have : args.getD i .undef = .undef := by simp [List.getD, List.getElem?_eq_none (Nat.le_of_not_lt hi)]
        rw [this]
        exact .undef _ _
    · intro k g e hk
      simp [zR, acE, Sto.find] at hk
    · intro k k' sl sl' b h1 _ _ _; exact (hno _ _ h1).elim
    · intro k sl b h1 _; exact (hno _ _ h1).elim
    · intro k sl h1; exact (hno _ _ h1).elim
    · intro g hg hu
      have hg' : 1 ≤ g := hg
      have hu' : g = 0 := hu
      omega
    · intro k sl b h1 _; exact (hno _ _ h1).elim
    · intro k sl _ h1 _; exact (hno _ _ h1).elim
  · show (vs.toArray ++ Array.replicate (fn.ntmps - vs.toArray.size) undef).size = fn.ntmps
    simp
    omega
  · rintro e a w1 ⟨H1, L1, s, hR, ht, hd, hq⟩
    cases e with
    | normal =>
      obtain ⟨s', hl, k0, k1, g0, g1, ty0, ty1, cs0, cs1, l, m, ok, htu, hc1⟩ := hq
      obtain ⟨H2, L2, hR2⟩ := Rel.told hl hR
      obtain ⟨L3, s0, s1, b0, b1, z0, z1, p0, p1, q0, q1, v0, v1, hR3⟩ := hR2.dm ok
      generalize hfv : Value.func (.func D) #[] #[.pointer (some ⟨b0, 0, none⟩), .pointer (some ⟨b1, 0, none⟩)] = fv
      generalize hdd : ({ target := .fn (.func D) #[.pointer (some ⟨b0, 0, none⟩), .pointer (some ⟨b1, 0, none⟩)], args := #[] } : Deferred) = d
      have ev0 : a.eval (.tmp i0) = .pointer (some ⟨b0, 0, none⟩) := v0
      have ev1 : a.eval (.tmp i1) = .pointer (some ⟨b1, 0, none⟩) := v1
      have e1 : (execOp a.eval o1).run X.P w1 = .ok (.value fv) w1 := by
        simp [execOp, h1a, Instr.makeFunc, ev0, ev1, ← hfv]
      have hat : (a.put (some t) fv).eval (.tmp t) = fv := by
        show (a.tmps.setIfInBounds t fv).getD t undef = fv
        rw [Array.getD_eq_getD_getElem?, Array.getElem?_setIfInBounds_self_of_lt (by rw [ht]; exact hlt)]
        rfl
      have e2 : (execOp (a.put (some t) fv).eval o2).run X.P w1 = .ok (.defer d) w1 := by
        have e3 : Deferred.ofValue ((a.put (some t) fv).eval (.tmp t)) #[] = pure d := by rw [hat, ← hfv, ← hdd]; simp [Deferred.ofValue]
        simp only [execOp, h2a, resolve]
        rw [show (#[] : Array Operand).map (a.put (some t) fv).eval = #[] by simp, e3]
        simp
      refine wp_seq (wp_region ?_)
      have hr : List.range (#[o1, o2] : Array Oper).size = [0, 1] := rfl
      rw [hr]
      have w1' : ∀ y, Region.wanted o1 y = true := fun y => by simp [Region.wanted, h1c]
      have w2' : ∀ y, Region.wanted o2 y = true := fun y => by simp [Region.wanted, h2c]
      have g1' : (#[o1, o2] : Array Oper)[0]? = some o1 := rfl
      have g2' : (#[o1, o2] : Array Oper)[1]? = some o2 := rfl
      simp only [wpOps, g1', g2', w1', w2', if_true]
      refine .inl ?_
      unfold Oper.wp
      rw [e1, Oper.upon_value, h1b]
      refine .inl ?_
      rw [e2, Oper.upon_defer, h2b]
      show c1.wp X.P (bodyPostD X.P fn _) _ w1
      have hda : (a.put (some t) fv).defers = [] := by rw [Act.put_defers]; exact hd
      have hR4 : Rel ⟨w, H, [s0, s1], hG⟩ (fun g => (s'.dm i0 i1 ty0 ty1 cs0 cs1 l m).nx ≤ g) H2 L3 (s'.dm i0 i1 ty0 ty1 cs0 cs1 l m) (({ (a.put (some t) fv) with defers := d :: (a.put (some t) fv).defers } : Act).put none undef) w1 :=
        { hR3 with
          env := fun i => by
            show Rep _ _ ((a.tmps.setIfInBounds t fv).getD i undef) _
            by_cases hi : i = t
            · rw [hi, htu]; exact .undef _ _
            · have : (a.tmps.setIfInBounds t fv).getD i undef = a.tmps.getD i undef := by
                rw [Array.getD_eq_getD_getElem?, Array.getD_eq_getD_getElem?, Array.getElem?_setIfInBounds_ne (by omega)]
              rw [this]
              exact hR3.env i }
      refine wp_mono (afg (B := ⟨w, H, [s0, s1], hG⟩) (nt := fn.ntmps) (df := [d]) hm c1 _ H2 L3 _ _ w1 hok1 hR4 ?_ ?_ hc1) ?_
      · show (a.tmps.setIfInBounds t fv).size = fn.ntmps
        rw [Array.size_setIfInBounds]; exact ht
      · show d :: (a.put (some t) fv).defers = [d]
        rw [hda]
      · rintro e a' w' ⟨H5, L5, s5, hR5, ht5, hd5, hq5⟩
        cases e with
        | ret =>
          obtain ⟨es, rd, es', hBD, hfind, hno, hres5, hpure⟩ := hq5
          show Leaves X.P fn a'.tmps RR a'.defers .returning w'
          rw [hd5, ← hdd]
          refine leaves_cons (f := D) (args := #[.pointer (some ⟨b0, 0, none⟩), .pointer (some ⟨b1, 0, none⟩)]) (by simp) ?_ ?_
          · have : (#[] : Array Value) ++ #[Value.pointer (some ⟨b0, 0, none⟩), Value.pointer (some ⟨b1, 0, none⟩)] = #[.pointer (some ⟨b0, 0, none⟩), .pointer (some ⟨b1, 0, none⟩)] := by simp
            show (callFunc D (#[] ++ _)).run X.P w' = _
            rw [this]
            exact aeE hD _
          · have hbx : zI H5 L5 [.pointer (some ⟨b0, 0, none⟩), .pointer (some ⟨b1, 0, none⟩)] aqr := by
              refine .cons _ _ _ _ _ (.box _ _ _ _ _ hR5.zero ⟨_, rfl⟩ fun sl b hs hg hb => ?_) (.cons _ _ _ _ _ (.box _ _ _ _ _ hR5.zero ⟨_, rfl⟩ fun sl b hs hg hb => ?_) (.nil _))
              · have := hR5.Xk 1000 sl (by omega) hs hg
                have e0 : s0 = sl := by simpa using this
                rw [← e0, p0] at hb
                cases hb
                rfl
              · have := hR5.Xk 1001 sl (by omega) hs hg
                have e0 : s1 = sl := by simpa using this
                rw [← e0, p1] at hb
                cases hb
                rfl
            refine CallsD.mono (akw (C := fun vs w R => CallsD X.P D vs .returning w fun e u' w' => u' = .returning ∧ R e w') (fun _ _ _ _ hx hmn => hx.mono fun e u' w' ⟨hu, hr⟩ => ⟨hu, hmn e w' hr⟩) (dst := none) (k := 0) (g := s5.nx) (K := fun s => s = s5.Jb es' rd)
              hR5 (Nat.le_refl _) (by omega) (by simp) aqr [.pointer (some ⟨b0, 0, none⟩), .pointer (some ⟨b1, 0, none⟩)] hbx hfind (by decide) rfl (.refl _) hBD hno rfl
              (fun e w'' => match e with
                | .returned _ => Leaves X.P fn a'.tmps RR [] .returning w''
                | _ => False) ?_) ?_
            · intro v w'' H6 L6 s6 hR6 hs6
              subst hs6
              have hR6' : Rel ⟨w, H, [s0, s1], hG⟩ (fun x => s5.nx ≤ x ∧ x ≠ s5.nx) H6 L6 (s5.Jb es' rd) a' w'' := hR6
              split at hres5
              case h_2 => exact hres5.elim
              rename_i ps hps
              obtain ⟨v', hrun, hrep⟩ := afS hres hR6' hps
              refine ⟨v', hrun, ?_⟩
              rw [hRR]
              refine ⟨v', ?_⟩
              generalize je ps = pv at hres5 hrep
              obtain ⟨H7, hR7, hG7⟩ := hR6'.frz (arN pv)
              have hext : Ext (fun b => ∃ s ∈ ([] : List Slot), s.block = some b) w w'' := by
                refine ⟨hR7.ext.size, fun b hb _ => hR7.ext.old b hb ?_, hR7.ext.out, hR7.ext.os, hR7.ext.tape⟩
                rintro ⟨x, hx, hxb⟩
                have hx' : x = s0 ∨ x = s1 := by simpa using hx
                rcases hx' with rfl | rfl
                · rw [p0] at hxb; cases hxb; omega
                · rw [p1] at hxb; cases hxb; omega
              refine ⟨H7, [], rfl, hR7.grow, hR7.agree, hR7.imm, hext, ⟨rfl, by simp, by simp, ?_, by simp⟩, by simp, ?_⟩
              · intro i j si sj b h1 _ _ _
                simp at h1
              · have hpur := aix hR7 (fnd := (s5.Jb es' rd).sto.find) (ks := arN pv) (Xl (s5.Jb es' rd).sto _) (hrep.mono hG7 (.refl _)) (fun j hj => hj) (hres5.acK hpure)
                have := hpur.wk hres5
                cases r <;> first
                  | exact this
                  | simp [PV.pure] at hpure
            · rintro e u' w'' ⟨rfl, hr⟩
              cases e with
              | returned v => exact hr
              | panicked ch => exact hr.elim
              | outgrown => exact hr.elim
        | normal => exact hq5.elim
        | exit id => exact hq5.elim
        | goto l => exact hq5.elim
        | panic ch => exact hq5.elim
        | outgrown => exact hq5.elim
    | exit id => exact hq.elim
    | goto l => exact hq.elim
    | ret => exact hq.elim
    | panic ch => exact hq.elim
    | outgrown => exact hq.elim
theorem axi {X : Cx} {D t i0 i1 : Nat} {c : Code} {rs : List RV} {r : PV} {s : St} (k0 k1 g0 g1 ty0 ty1 : Nat) (cs0 cs1 : List PV) (l m : List Nat) (ok : aw3 s i0 i1 k0 k1 g0 g1 ty0 ty1 cs0 cs1 l m) (hu : (s.dm i0 i1 ty0 ty1 cs0 cs1 l m).env.get t = .undef)
  (h : awp X c (auj X.P D rs r) (s.dm i0 i1 ty0 ty1 cs0 cs1 l m)) : midD X D t i0 i1 c rs r .normal s :=
 ⟨s, .less (.refl s), k0, k1, g0, g1, ty0, ty1, cs0, cs1, l, m, ok, hu, h⟩
theorem WQ {P : Program} {D : Nat} {rs : List RV} {r rd : PV} {es es' : List Ent} {s : St} (hD : BD P D aqr es rd es') (hf : findAll (qV dKs) 2 s.sto dKs es) (hno : (xk rd || !qQ es') = true)
  (h : match wR P (s.Jb es' rd) rs with
    | some vs => Wk (Qb (s.Jb es' rd).sto.find (je vs)) r
    | none => False) (hp : r.pure = true) : auj P D rs r .ret s := ⟨es, rd, es', hD, hf, hno, h, hp⟩
end Go.Proofs.YtclohbgnaopjfaaDoor
