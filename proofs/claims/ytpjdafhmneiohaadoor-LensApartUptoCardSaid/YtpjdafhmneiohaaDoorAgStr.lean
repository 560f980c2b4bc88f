/- strings.Split, strings.Cut, strings.IndexAny by the kit's contracts. -/
import Derived.Test.YtpjdafhmneiohaaDoorAgLib
import Derived.Shelf.Strings.Split
import Derived.Shelf.Strings.Cut
import Derived.Shelf.Strings.IndexAnyAll
namespace Go.Proofs.YtpjdafhmneiohaaDoor
set_option linter.unusedSimpArgs false
set_option linter.unusedVariables false
open Go Go.RowKit

theorem below_drewN (n0 : Nat) (w : World) (n : Nat) : Below n0 w (w.drewN n) :=
  { size := Nat.le_refl _, block := fun _ _ => rfl, output := rfl, os := rfl, tape := rfl }

theorem lib_cut {P : Program} {f : Nat} (hc : Callable P f) (gm : ∀ w, GW w → ∃ m, w.cell? ⟨2, 0, none⟩ = some (.int .i64 m))
    (c1 : ∀ (s sep : ByteArray) (m : Int) (w : World) (_ : s.size < 4294967281) (_ : w.cell? ⟨2, 0, none⟩ = some (.int .i64 m)),
      Calls P f #[.string s, .string sep] w fun e w' => e = .returned (.tuple #[.string ⟨(Lib.cut s.data.toList sep.data.toList).1.toArray⟩, .string ⟨(Lib.cut s.data.toList sep.data.toList).2.1.toArray⟩, .bool (Lib.cut s.data.toList sep.data.toList).2.2]) ∧ ∃ n, w' = w.drewN n)
    (s sep : Str) (R : Str × Str × Bool) (hh : chk (s.length < 4294967281) (some (Lib.cut s sep)) = some R) : PC P f [.str s, .str sep] (.tup [.str R.1, .str R.2.1, .bool R.2.2]) := by
  obtain ⟨h1, hR⟩ := chk_some hh
  cases hR
  refine pc_of_calls hc (fun _ _ _ _ h => h) fun H w vs hA hG hr => ?_
  obtain ⟨v, u, rfl, g1, g2⟩ := repL_two hr
  obtain rfl := rep_str g1
  obtain rfl := rep_str g2
  obtain ⟨m, hm⟩ := gm w hG
  refine ⟨_, .tup _ [.string (ba (Lib.cut s sep).1), .string (ba (Lib.cut s sep).2.1), .bool (Lib.cut s sep).2.2] _ (.cons _ _ _ _ _ (.str _ _) (.cons _ _ _ _ _ (.str _ _) (.cons _ _ _ _ _ (.bool _ _) (.nil _)))), ?_⟩
  refine (c1 (ba s) (ba sep) m w (by rw [ba_size]; exact h1) hm).mono ?_
  rintro e w' ⟨rfl, n, rfl⟩
  exact ⟨rfl, below_drewN _ _ _⟩

theorem lib_indexAny {P : Program} {f : Nat} (hc : Callable P f)
    (c1 : ∀ (s chars : ByteArray) (w : World) (_ : s.size < 4294967281) (_ : chars.size < 4294967281) (_ : ∀ (j : Nat) b, s.data.toList[j]? = some b → b.toNat < 128) (_ : ∀ (j : Nat) b, chars.data.toList[j]? = some b → b.toNat < 128),
      Calls P f #[.string s, .string chars] w fun e w' => e = .returned (.int .i64 (Lib.indexAny s.data.toList chars.data.toList)) ∧ Below w.heap.size w w')
    (s cut : Str) (R : Int) (hh : chk (s.length < 4294967281 ∧ cut.length < 4294967281 ∧ s.all (fun b => decide (b.toNat < 128)) = true ∧ cut.all (fun b => decide (b.toNat < 128)) = true) (some (Lib.indexAny s cut)) = some R) : PC P f [.str s, .str cut] (.int .i64 R) := by
  obtain ⟨⟨h1, h2, h3, h4⟩, hR⟩ := chk_some hh
  cases hR
  refine pc_of_calls hc (fun _ _ _ _ h => h) fun H w vs hA hG hr => ?_
  obtain ⟨v, u, rfl, g1, g2⟩ := repL_two hr
  obtain rfl := rep_str g1
  obtain rfl := rep_str g2
  exact ⟨_, .int _ _ _, c1 (ba s) (ba cut) w (by rw [ba_size]; exact h1) (by rw [ba_size]; exact h2) (fun j b hb => by
    have := List.all_eq_true.1 h3 b (List.mem_of_getElem? hb)
    simpa using this) fun j b hb => by
    have := List.all_eq_true.1 h4 b (List.mem_of_getElem? hb)
    simpa using this⟩

/-- What strings.Split answers. -/
def splitL (s sep : Str) : List Str := (Lib.splitB (ba sep) 0 (Lib.countB (ba s) (ba sep)) (ba s)).map (·.data.toList)
theorem repL_bas (H : Imm) (L : Lay) : ∀ l : List ByteArray, RepL H L (l.map Value.string) ((l.map (·.data.toList)).map PV.str)
  | [] => .nil _
  | x :: l => by
    have : Value.string x = .string ⟨x.data.toList.toArray⟩ := by cases x; simp
    exact .cons _ _ _ _ _ (this ▸ .str _ _) (repL_bas H L l)
theorem lib_split {P : Program} {f t : Nat} (hc : Callable P f) (gm : ∀ w, GW w → ∃ m, w.cell? ⟨2, 0, none⟩ = some (.int .i64 m))
    (c1 : ∀ (s sep : ByteArray) (m : Int) (w : World) (_ : s.size < 4294967281) (_ : w.cell? ⟨2, 0, none⟩ = some (.int .i64 m)) (_ : 1 ≤ sep.size),
      Calls P f #[.string s, .string sep] w fun e w' => e = .returned (.slice (some ⟨w.heap.size, 0, none⟩) (Lib.countB s sep + 1) (Lib.countB s sep + 1)) ∧ w' = w.alloc (.cells ((Lib.splitB sep 0 (Lib.countB s sep) s).map Value.string).toArray t))
    (s sep : Str) (R : List Str) (hh : chk (s.length < 4294967281 ∧ 1 ≤ sep.length) (some (splitL s sep)) = some R) : PC P f [.str s, .str sep] (.own 1 (R.map PV.str)) := by
  obtain ⟨⟨h1, h2⟩, hR⟩ := chk_some hh
  cases hR
  refine ⟨hc, ⟨rfl, by simp⟩, fun H w ss vs hA hG hl _ _ _ hr => ?_⟩
  have hss : ss = [] := List.eq_nil_of_length_eq_zero (by simpa using hl)
  subst hss
  obtain ⟨v, u, rfl, g1, g2⟩ := repL_two hr
  obtain rfl := rep_str g1
  obtain rfl := rep_str g2
  obtain ⟨m, hm⟩ := gm w (hG w hA)
  refine (c1 (ba s) (ba sep) m w (by rw [ba_size]; exact h1) hm (by rw [ba_size]; exact h2)).mono ?_
  rintro e w' ⟨rfl, rfl⟩
  have hlow : H w.heap.size = none := by
    cases hn : H w.heap.size with
    | none => rfl
    | some c =>
      obtain ⟨t, fr, ht'⟩ := hA _ _ hn
      have := (Array.getElem?_eq_some_iff.1 ht').1
      omega
  have hlen := Lib.splitB_all (ba sep) (by rw [ba_size]; exact h2) 0 _ (ba s) rfl
  have hq : Ext (fun _ => False) w (w.alloc (.cells ((Lib.splitB (ba sep) 0 (Lib.countB (ba s) (ba sep)) (ba s)).map Value.string).toArray t)) := Quiet.alloc _ _
  have hxl : (((splitL s sep).map PV.str).length) = Lib.countB (ba s) (ba sep) + 1 := by unfold splitL; rw [List.length_map, List.length_map, hlen]
  refine ⟨_, H, [], rfl, fun _ _ h => h, hA.quiet hq, fun b c hc => .inl hc, hq.weaken fun b hb => hb.elim, ⟨rfl, by simp, by simp, fun i j si sj b h => by simp at h, by simp⟩, by simp, ?_, .inr ⟨w.heap.size, Lib.countB (ba s) (ba sep) + 1, (Lib.splitB (ba sep) 0 (Lib.countB (ba s) (ba sep)) (ba s)).map Value.string, [], t, Nat.le_refl _, hlow, ?_, ?_, ?_, ?_, ?_, ?_⟩⟩
  · intro x hx
    obtain ⟨y, _, rfl⟩ := List.mem_map.1 hx
    rfl
  · rw [hxl]
  · show ((w.heap.push (.cells ((Lib.splitB (ba sep) 0 (Lib.countB (ba s) (ba sep)) (ba s)).map Value.string).toArray t))[w.heap.size]?) = _
    rw [Array.getElem?_push_size, List.append_nil]
  · intro v hv
    obtain ⟨y, _, rfl⟩ := List.mem_map.1 hv
    rfl
  · rw [flat_str]
    exact repL_bas H _ _
  · rw [hxl]; simp
  · rw [hxl]; exact Nat.le_refl _

end Go.Proofs.YtpjdafhmneiohaaDoor
