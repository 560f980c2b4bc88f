/- NodeWrong, plainly. -/
import Derived.Test.YtlgjbmgmoaphjaaDoorNodeShown
namespace Go.Proofs.YtlgjbmgmoaphjaaDoor
set_option linter.unusedSimpArgs false
set_option linter.unusedVariables false
open Go

abbrev bads : List api_Node := [({ Kind := ([116, 101, 120, 116] : Str), Text := ([] : Str), Marks := [], Attrs := [], Kids := [] } : api_Node), ({ Kind := ([116, 101, 120, 116] : Str), Text := ([97] : Str), Marks := [([105] : Str), ([98] : Str)], Attrs := [], Kids := [] } : api_Node), ({ Kind := ([112] : Str), Text := ([] : Str), Marks := [], Attrs := [({ Name := ([98] : Str), Value := ([] : Str) } : api_Attr), ({ Name := ([97] : Str), Value := ([] : Str) } : api_Attr)], Kids := [] } : api_Node), ({ Kind := ([80] : Str), Text := ([] : Str), Marks := [], Attrs := [], Kids := [] } : api_Node), ({ Kind := ([112] : Str), Text := ([] : Str), Marks := [], Attrs := [], Kids := [({ Kind := ([116, 101, 120, 116] : Str), Text := ([97] : Str), Marks := [], Attrs := [], Kids := [] } : api_Node), ({ Kind := ([116, 101, 120, 116] : Str), Text := ([98] : Str), Marks := [], Attrs := [], Kids := [] } : api_Node)] } : api_Node), ({ Kind := ([116, 101, 120, 116] : Str), Text := ([255] : Str), Marks := [], Attrs := [], Kids := [] } : api_Node), ({ Kind := ([112] : Str), Text := ([120] : Str), Marks := [], Attrs := [], Kids := [] } : api_Node)]
theorem bad_form : (bads.all fun b => !formB b) = true := by decide +kernel
theorem bad_wt : (bads.all fun b => decide (nwt b ≤ 100)) = true := by decide +kernel

theorem NodeWrong_true (l : List diptychlaw1_Cell) (what : Int) (hl : l.length ≤ 9223372036854775807) (h : ∀ y ∈ l, cellIn y) (ha : -9223372036854775808 ≤ what ∧ what ≤ 9223372036854775807) : diptychlaw1_NodeWrong l what = some true := by
  obtain ⟨ks, e1, e2⟩ := doc_eq l hl h
  have hw := e2.wt
  have hkl := nwts_len ks
  unfold diptychlaw1_NodeWrong
  rw [shown1_eq]
  simp only [Option.bind_some, Bool.not_true, Bool.false_eq_true, if_false]
  obtain ⟨p, ep, bp⟩ := pick_eq what (bads.length : Int) ha (by decide)
  rw [ep]
  simp only [Option.bind_some]
  obtain ⟨b, eb, mb⟩ := rd_lit bads p (by omega)
  rw [eb]
  simp only [Option.bind_some]
  have f1 : formB b = false := by have := List.all_eq_true.1 bad_form b mb; simpa using this
  have w1 : nwt b ≤ 100 := by have := List.all_eq_true.1 bad_wt b mb; simpa using this
  have c1 : checkN b = 2 := by unfold checkN; rw [if_pos f1]
  rw [e1]
  simp only [Option.bind_some]
  rw [app_eq (by simp; omega)]
  simp only [Option.bind_some, List.nil_append]
  rw [app_eq (by simp; omega)]
  simp only [Option.bind_some]
  rw [check_eq b (by omega), c1]
  simp only [Option.bind_some, beq_self_eq_true, if_true]
  generalize hn : ({ Kind := sDoc, Text := [], Marks := [], Attrs := [], Kids := ks ++ [({ Kind := ([113] : Str), Text := ([] : Str), Marks := [], Attrs := [], Kids := [] } : api_Node), b] } : api_Node) = n
  have wn : nwt n ≤ 1099511627776 := by
    rw [← hn]
    simp only [nwt, nwts_app, nwts, strsW, attrsW, List.length_cons, List.length_nil]
    omega
  have hb : b ∈ n.Kids := by rw [← hn]; simp
  have ht : isT n = false := by rw [← hn]; rfl
  have fn : formB n = false := by
    rw [Bool.eq_false_iff]
    intro hf
    have := forms_kids hf ht b hb
    rw [f1] at this
    cases this
  have cn : checkN n = 2 := by unfold checkN; rw [if_pos fn]
  rw [check_eq n wn, cn]
  simp only [Option.bind_some, beq_self_eq_true, if_true]
  rw [right_eq n wn, cn]
  rfl

end Go.Proofs.YtlgjbmgmoaphjaaDoor
