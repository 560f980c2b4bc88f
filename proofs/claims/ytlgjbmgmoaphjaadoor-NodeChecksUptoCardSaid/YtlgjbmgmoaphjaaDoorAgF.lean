/- The functions of the program, written over numbers and rows. -/
import Derived.Test.YtlgjbmgmoaphjaaDoorAgT
import Derived.Test.YtlgjbmgmoaphjaaDoorAgBld
import Derived.Test.YtlgjbmgmoaphjaaDoorAgLib
namespace Go.Proofs.YtlgjbmgmoaphjaaDoor
set_option linter.unusedSimpArgs false
set_option linter.unusedVariables false
open Go
set_option maxRecDepth 100000

noncomputable def node_isText (n_1 : api_Node) : Option Bool :=
  some (n_1.Kind == ([116, 101, 120, 116] : Str))
noncomputable def unicode_utf8_RuneCountInString_l0 (s_1 : Str) : Nat → Int → Nat → Option Int
  | 0, _, _ => none
  | k + 1, n_2, v_3 =>
    if (decide (v_3 < s_1.length)) = true then
      unicode_utf8_RuneCountInString_l0 s_1 k (w64 (n_2 + (1 : Int))) (v_3 + runeW s_1 v_3)
    else
      some n_2
noncomputable def unicode_utf8_RuneCountInString (s_1 : Str) : Option Int :=
  (lim fun k => unicode_utf8_RuneCountInString_l0 s_1 k (0 : Int) 0).bind fun n_4 =>
  some n_4
noncomputable def node_Total_l0 (node_Size_r : api_Node → Option Int) : List api_Node → Int → Int → Option Int
  | [], v_5, many_4 =>
    some many_4
  | y_8 :: suf, v_5, many_4 =>
    (node_Size_r y_8).bind fun size_9 =>
    node_Total_l0 node_Size_r suf (v_5 + 1) (w64 (many_4 + size_9))
mutual
noncomputable def node_Size_k : Nat → api_Node → Option Int
  | 0, _ => none
  | kr + 1, n_1 =>
    (node_isText n_1).bind fun istext_2 =>
    if (istext_2) = true then
      (unicode_utf8_RuneCountInString n_1.Text).bind fun runeco_3 =>
      some runeco_3
    else
      ((node_Total_k kr) n_1.Kids).bind fun total_4 =>
      some (w64 ((2 : Int) + total_4))
noncomputable def node_Total_k : Nat → (List api_Node) → Option Int
  | 0, _ => none
  | kr + 1, l_1 =>
    (chk (l_1.length ≤ 9223372036854775807) (node_Total_l0 (node_Size_k kr) l_1 (0 : Int) (0 : Int))).bind fun many_10 =>
    some many_10
end
noncomputable def node_Size (n_1 : api_Node) : Option Int := lim fun kr => node_Size_k kr n_1
noncomputable def node_Total (l_1 : (List api_Node)) : Option Int := lim fun kr => node_Total_k kr l_1
noncomputable def node_Depth_l0 (node_Depth_r : api_Node → Option Int) : List api_Node → Int → Int → Option Int
  | [], v_6, deepest_5 =>
    some deepest_5
  | y_9 :: suf, v_6, deepest_5 =>
    (node_Depth_r y_9).bind fun depth_10 =>
    node_Depth_l0 node_Depth_r suf (v_6 + 1) (if depth_10 > deepest_5 then depth_10 else deepest_5)
noncomputable def node_Depth_k : Nat → api_Node → Option Int
  | 0, _ => none
  | kr + 1, n_1 =>
    (node_isText n_1).bind fun istext_2 =>
    if (istext_2) = true then
      some (0 : Int)
    else
      (chk (n_1.Kids.length ≤ 9223372036854775807) (node_Depth_l0 (node_Depth_k kr) n_1.Kids (0 : Int) (0 : Int))).bind fun deepest_11 =>
      some (w64 (deepest_11 + (1 : Int)))
noncomputable def node_Depth (n_1 : api_Node) : Option Int := lim fun kr => node_Depth_k kr n_1
noncomputable def strings_Trim (s : Str) (cutset : Str) : Option Str :=
  chk (s.length ≤ 9223372036854775807 ∧ cutset.length < 4294967281 ∧ cutset.all (fun b => decide (b.toNat < 128)) = true) (some (Lib.trimS s cutset))
noncomputable def node_Name (s_1 : Str) : Option Bool :=
  (strings_Trim s_1 ([97, 98, 99, 100, 101, 102, 103, 104, 105, 106, 107, 108, 109, 110, 111, 112, 113, 114, 115, 116, 117, 118, 119, 120, 121, 122] : Str)).bind fun trim_2 =>
  if (trim_2 == ([] : Str)) = true then
    if (!(s_1 == ([] : Str))) = true then
      if (decide ((s_1.length : Int) ≤ (8 : Int))) = true then
        some (!(s_1 == ([116, 101, 120, 116] : Str)))
      else
        some false
    else
      some false
  else
    some false
noncomputable def unicode_utf8_ValidString (s : Str) : Option Bool :=
  chk (s.length ≤ 9223372036854775807) (some (Lib.validD s))
noncomputable def node_Value (s_1 : Str) : Option Bool :=
  if (decide ((s_1.length : Int) ≤ (40 : Int))) = true then
    (unicode_utf8_ValidString s_1).bind fun valids_2 =>
    some valids_2
  else
    some false
noncomputable def slices_Equal_string_l0 (s2_2 : (List Str)) : List Str → Int → Option (Bool ⊕ Unit)
  | [], v_5 =>
    some (.inr ())
  | y_8 :: suf, v_5 =>
    (rd s2_2 v_5).bind fun x_9 =>
    if (!(y_8 == x_9)) = true then
      some (.inl false)
    else
      slices_Equal_string_l0 s2_2 suf (v_5 + 1)
noncomputable def slices_Equal_string (s1_1 : (List Str)) (s2_2 : (List Str)) : Option Bool :=
  if ((s1_1.length : Int) != (s2_2.length : Int)) = true then
    some false
  else
    (chk (s1_1.length ≤ 9223372036854775807) (slices_Equal_string_l0 s2_2 s1_1 (0 : Int))).bind fun e => match e with
    | .inl res_10 =>
      some res_10
    | .inr _ =>
      some true
noncomputable def node_alike (a_1 : api_Node) (b_2 : api_Node) : Option Bool :=
  (node_isText a_1).bind fun istext_3 =>
  if (istext_3) = true then
    (node_isText b_2).bind fun istext_4 =>
    if (istext_4) = true then
      (slices_Equal_string a_1.Marks b_2.Marks).bind fun string_5 =>
      some string_5
    else
      some false
  else
    some false
noncomputable def node_rise_l0 (l_1 : (List Str)) : List Str → Int → Option (Bool ⊕ Unit)
  | [], v_5 =>
    some (.inr ())
  | y_9 :: suf, v_5 =>
    (node_Name y_9).bind fun name_10 =>
    if (!name_10) = true then
      some (.inl false)
    else
      if (decide (v_5 > (0 : Int))) = true then
        (rd l_1 (w64 (v_5 - (1 : Int)))).bind fun x_11 =>
        if ((Op.bytesLess y_9 x_11 || y_9 == x_11)) = true then
          some (.inl false)
        else
          node_rise_l0 l_1 suf (v_5 + 1)
      else
        node_rise_l0 l_1 suf (v_5 + 1)
noncomputable def node_rise (l_1 : (List Str)) : Option Bool :=
  (chk (l_1.length ≤ 9223372036854775807) (node_rise_l0 l_1 l_1 (0 : Int))).bind fun e => match e with
  | .inl res_12 =>
    some res_12
  | .inr _ =>
    some true
noncomputable def node_formed_l0 : List api_Attr → Int → (List Str) → Option (Bool ⊕ (List Str))
  | [], v_8, names_9 =>
    some (.inr names_9)
  | y_13 :: suf, v_8, names_9 =>
    (node_Value y_13.Value).bind fun value_14 =>
    if (!value_14) = true then
      some (.inl false)
    else
      (app 16 names_9 [y_13.Name]).bind fun l_15 =>
      node_formed_l0 suf (v_8 + 1) l_15
noncomputable def node_formed_l1 (n_1 : api_Node) (node_formed_r : api_Node → Option Bool) : List api_Node → Int → Option (Bool ⊕ Unit)
  | [], v_26 =>
    some (.inr ())
  | y_31 :: suf, v_26 =>
    (node_formed_r y_31).bind fun formed_32 =>
    if (!formed_32) = true then
      some (.inl false)
    else
      if (decide (v_26 > (0 : Int))) = true then
        (rd n_1.Kids (w64 (v_26 - (1 : Int)))).bind fun x_33 =>
        (node_alike x_33 y_31).bind fun alike_34 =>
        if (alike_34) = true then
          some (.inl false)
        else
          node_formed_l1 n_1 node_formed_r suf (v_26 + 1)
      else
        node_formed_l1 n_1 node_formed_r suf (v_26 + 1)
noncomputable def node_formed_k : Nat → api_Node → Option Bool
  | 0, _ => none
  | kr + 1, n_1 =>
    (node_isText n_1).bind fun istext_2 =>
    if (istext_2) = true then
      if (!(n_1.Text == ([] : Str))) = true then
        (unicode_utf8_ValidString n_1.Text).bind fun valids_3 =>
        if (valids_3) = true then
          (node_rise n_1.Marks).bind fun rise_4 =>
          if (rise_4) = true then
            some ((w64 ((n_1.Attrs.length : Int) + (n_1.Kids.length : Int))) == (0 : Int))
          else
            some false
        else
          some false
      else
        some false
    else
      (chk (n_1.Attrs.length ≤ 9223372036854775807) (node_formed_l0 n_1.Attrs (0 : Int) [])).bind fun e => match e with
      | .inl res_16 =>
        some res_16
      | .inr names_19 =>
        (node_Name n_1.Kind).bind fun name_20 =>
        if (!name_20) = true then
          some false
        else
          if (!(n_1.Text == ([] : Str))) = true then
            some false
          else
            if (decide ((n_1.Marks.length : Int) > (0 : Int))) = true then
              some false
            else
              (node_rise names_19).bind fun rise_21 =>
              if (!rise_21) = true then
                some false
              else
                (chk (n_1.Kids.length ≤ 9223372036854775807) (node_formed_l1 n_1 (node_formed_k kr) n_1.Kids (0 : Int))).bind fun e => match e with
                | .inl res_35 =>
                  some res_35
                | .inr _ =>
                  some true
noncomputable def node_formed (n_1 : api_Node) : Option Bool := lim fun kr => node_formed_k kr n_1
noncomputable def node_Check (n_1 : api_Node) : Option Int :=
  (node_formed n_1).bind fun formed_2 =>
  if (!formed_2) = true then
    some (2 : Int)
  else
    (node_Depth n_1).bind fun depth_3 =>
    if (decide (depth_3 > (40 : Int))) = true then
      some (4 : Int)
    else
      (node_Size n_1).bind fun size_4 =>
      if (decide (size_4 > (4000 : Int))) = true then
        some (5 : Int)
      else
        some (0 : Int)
noncomputable def node_Right (n_1 : api_Node) : Option Bool :=
  (node_Check n_1).bind fun check_2 =>
  some (check_2 == (0 : Int))
noncomputable def diptychlaw1_shown : Option Bool :=
  (node_Size ({ Kind := ([100, 111, 99] : Str), Text := ([] : Str), Marks := [], Attrs := [], Kids := [({ Kind := ([112, 97, 114, 97] : Str), Text := ([] : Str), Marks := [], Attrs := [], Kids := [({ Kind := ([116, 101, 120, 116] : Str), Text := ([104, 105] : Str), Marks := [], Attrs := [], Kids := [] } : api_Node)] } : api_Node)] } : api_Node)).bind fun size_1 =>
  if (size_1 == (6 : Int)) = true then
    (node_Depth ({ Kind := ([100, 111, 99] : Str), Text := ([] : Str), Marks := [], Attrs := [], Kids := [({ Kind := ([112, 97, 114, 97] : Str), Text := ([] : Str), Marks := [], Attrs := [], Kids := [({ Kind := ([116, 101, 120, 116] : Str), Text := ([104, 105] : Str), Marks := [], Attrs := [], Kids := [] } : api_Node)] } : api_Node)] } : api_Node)).bind fun depth_2 =>
    if (depth_2 == (2 : Int)) = true then
      (node_Right ({ Kind := ([100, 111, 99] : Str), Text := ([] : Str), Marks := [], Attrs := [], Kids := [({ Kind := ([112, 97, 114, 97] : Str), Text := ([] : Str), Marks := [], Attrs := [], Kids := [({ Kind := ([116, 101, 120, 116] : Str), Text := ([104, 105] : Str), Marks := [], Attrs := [], Kids := [] } : api_Node)] } : api_Node)] } : api_Node)).bind fun right_3 =>
      some right_3
    else
      some false
  else
    some false
noncomputable def diptychlaw1_pick (c_1 : Int) (n_2 : Int) : Option Int :=
  if (decide (c_1 < (0 : Int))) = true then
    chk (n_2 ≠ 0) (
      some ((w64 (0 - (w64 (c_1 + (1 : Int))))).tmod n_2))
  else
    chk (n_2 ≠ 0) (
      some (c_1.tmod n_2))
noncomputable def diptychref1_sameNames_l0 (b_2 : (List Str)) : List Str → Int → Option (Bool ⊕ Unit)
  | [], i_5 =>
    some (.inr ())
  | y_8 :: suf, i_5 =>
    (rd b_2 i_5).bind fun x_9 =>
    if (!(y_8 == x_9)) = true then
      some (.inl false)
    else
      diptychref1_sameNames_l0 b_2 suf (i_5 + 1)
noncomputable def diptychref1_sameNames (a_1 : (List Str)) (b_2 : (List Str)) : Option Bool :=
  if ((a_1.length : Int) != (b_2.length : Int)) = true then
    some false
  else
    (chk (a_1.length ≤ 9223372036854775807) (diptychref1_sameNames_l0 b_2 a_1 (0 : Int))).bind fun e => match e with
    | .inl res_10 =>
      some res_10
    | .inr _ =>
      some true
noncomputable def diptychref1_Join_l0 : List api_Node → Int → (List api_Node) → Option (List api_Node)
  | [], i_13, out_14 =>
    some out_14
  | y_26 :: suf, i_13, out_14 =>
    ((
        if (y_26.Kind == ([116, 101, 120, 116] : Str)) = true then
          if (y_26.Text == ([] : Str)) = true then
            some (.inl ())
          else
            some (.inr ())
        else
          some (.inr ())) : Option (Unit ⊕ Unit)).bind fun e => match e with
    | .inl _ =>
      diptychref1_Join_l0 suf (i_13 + 1) out_14
    | .inr _ =>
      if (y_26.Kind == ([116, 101, 120, 116] : Str)) = true then
        if (decide ((w64 ((out_14.length : Int) - (1 : Int))) ≥ (0 : Int))) = true then
          (rd out_14 (w64 ((out_14.length : Int) - (1 : Int)))).bind fun x_28 =>
          if (x_28.Kind == ([116, 101, 120, 116] : Str)) = true then
            (diptychref1_sameNames x_28.Marks y_26.Marks).bind fun samena_29 =>
            if (samena_29) = true then
              chk (x_28.Text.length + y_26.Text.length ≤ 9223372036854775807) (
                (sl out_14 (0 : Int) (w64 ((out_14.length : Int) - (1 : Int)))).bind fun s_30 =>
                (app 104 ([] : List api_Node) s_30).bind fun l_31 =>
                (app 104 l_31 [{ y_26 with Text := x_28.Text ++ y_26.Text }]).bind fun l_32 =>
                diptychref1_Join_l0 suf (i_13 + 1) l_32)
            else
              (app 104 out_14 [y_26]).bind fun l_33 =>
              diptychref1_Join_l0 suf (i_13 + 1) l_33
          else
            (app 104 out_14 [y_26]).bind fun l_34 =>
            diptychref1_Join_l0 suf (i_13 + 1) l_34
        else
          (app 104 out_14 [y_26]).bind fun l_35 =>
          diptychref1_Join_l0 suf (i_13 + 1) l_35
      else
        (app 104 out_14 [y_26]).bind fun l_36 =>
        diptychref1_Join_l0 suf (i_13 + 1) l_36
noncomputable def diptychref1_Join (l_1 : (List api_Node)) : Option (List api_Node) :=
  (chk (l_1.length ≤ 9223372036854775807) (diptychref1_Join_l0 l_1 (0 : Int) [])).bind fun out_39 =>
  some out_39
noncomputable def diptychlaw1_made_l0 : List diptychlaw1_Cell → Int → (List api_Node) → Option (List api_Node)
  | [], i_26, out_27 =>
    some out_27
  | y_52 :: suf, i_26, out_27 =>
    if (decide (i_26 < (19 : Int))) = true then
      (diptychlaw1_pick y_52.A (4 : Int)).bind fun pick_53 =>
      (rd [([112, 97, 114, 97] : Str), ([105, 116, 101, 109] : Str), ([108, 105, 115, 116] : Str), ([110, 111, 116, 101] : Str)] pick_53).bind fun x_54 =>
      ((
          (diptychlaw1_pick y_52.B (3 : Int)).bind fun pick_55 =>
          if (pick_55 == (1 : Int)) = true then
            (diptychlaw1_pick (w64 (y_52.B.tdiv (3 : Int))) (5 : Int)).bind fun pick_56 =>
            (rd [([97] : Str), ([98, 99] : Str), ([195, 169] : Str), ([120, 32, 121] : Str), ([230, 151, 165, 230, 156, 172] : Str)] pick_56).bind fun x_57 =>
            some [({ Name := ([97, 108, 105, 103, 110] : Str), Value := x_57 } : api_Attr)]
          else
            some []) : Option (List api_Attr)).bind fun n_58 =>
      (diptychlaw1_pick y_52.Op (8 : Int)).bind fun pick_59 =>
      ((
          if (pick_59 == (0 : Int)) = true then
            some (pick_59 == (0 : Int))
          else
            if (pick_59 == (1 : Int)) = true then
              some (pick_59 == (1 : Int))
            else
              if (pick_59 == (2 : Int)) = true then
                some (pick_59 == (2 : Int))
              else
                some (pick_59 == (3 : Int))) : Option Bool).bind fun v_60 =>
      if (v_60) = true then
        (diptychlaw1_pick y_52.A (5 : Int)).bind fun pick_61 =>
        (rd [([97] : Str), ([98, 99] : Str), ([195, 169] : Str), ([120, 32, 121] : Str), ([230, 151, 165, 230, 156, 172] : Str)] pick_61).bind fun x_62 =>
        ((
            (diptychlaw1_pick y_52.B (3 : Int)).bind fun pick_63 =>
            if (pick_63 == (1 : Int)) = true then
              some [([98] : Str)]
            else
              some []) : Option (List Str)).bind fun n_64 =>
        (diptychlaw1_pick y_52.B (3 : Int)).bind fun pick_65 =>
        if (pick_65 == (2 : Int)) = true then
          (app 104 out_27 [({ Kind := ([116, 101, 120, 116] : Str), Text := x_62, Marks := [([98] : Str), ([105] : Str)], Attrs := [], Kids := [] } : api_Node)]).bind fun l_66 =>
          diptychlaw1_made_l0 suf (i_26 + 1) l_66
        else
          (app 104 out_27 [({ Kind := ([116, 101, 120, 116] : Str), Text := x_62, Marks := n_64, Attrs := [], Kids := [] } : api_Node)]).bind fun l_67 =>
          diptychlaw1_made_l0 suf (i_26 + 1) l_67
      else
        ((
            if (pick_59 == (4 : Int)) = true then
              some (pick_59 == (4 : Int))
            else
              if (pick_59 == (5 : Int)) = true then
                some (pick_59 == (5 : Int))
              else
                some (pick_59 == (6 : Int))) : Option Bool).bind fun v_68 =>
        if (v_68) = true then
          (diptychlaw1_pick (w64 (y_52.B.tdiv (3 : Int))) (w64 ((if (6 : Int) < (out_27.length : Int) then (6 : Int) else (out_27.length : Int)) + (1 : Int)))).bind fun pick_69 =>
          (sl out_27 (w64 ((out_27.length : Int) - pick_69)) (out_27.length : Int)).bind fun s_70 =>
          (diptychref1_Join s_70).bind fun join_71 =>
          (sl out_27 (0 : Int) (w64 ((out_27.length : Int) - pick_69))).bind fun s_72 =>
          (app 104 ([] : List api_Node) s_72).bind fun l_73 =>
          (app 104 l_73 [({ Kind := x_54, Text := ([] : Str), Marks := [], Attrs := n_58, Kids := join_71 } : api_Node)]).bind fun l_74 =>
          diptychlaw1_made_l0 suf (i_26 + 1) l_74
        else
          (app 104 out_27 [({ Kind := x_54, Text := ([] : Str), Marks := [], Attrs := n_58, Kids := [] } : api_Node)]).bind fun l_75 =>
          diptychlaw1_made_l0 suf (i_26 + 1) l_75
    else
      some out_27
noncomputable def diptychlaw1_made (l_1 : (List diptychlaw1_Cell)) : Option (List api_Node) :=
  (chk (l_1.length ≤ 9223372036854775807) (diptychlaw1_made_l0 l_1 (0 : Int) [])).bind fun out_78 =>
  (diptychref1_Join out_78).bind fun join_79 =>
  some join_79
noncomputable def node_Join_l0 : List api_Node → Int → (List api_Node) → Option (List api_Node)
  | [], v_14, out_15 =>
    some out_15
  | y_28 :: suf, v_14, out_15 =>
    (node_isText y_28).bind fun istext_29 =>
    if (istext_29) = true then
      if (y_28.Text == ([] : Str)) = true then
        node_Join_l0 suf (v_14 + 1) out_15
      else
        if (decide ((w64 ((out_15.length : Int) - (1 : Int))) ≥ (0 : Int))) = true then
          (rd out_15 (w64 ((out_15.length : Int) - (1 : Int)))).bind fun x_30 =>
          (node_alike x_30 y_28).bind fun alike_31 =>
          if (alike_31) = true then
            chk (x_30.Text.length + y_28.Text.length ≤ 9223372036854775807) (
              (wr out_15 (w64 ((out_15.length : Int) - (1 : Int))) ({ y_28 with Text := x_30.Text ++ y_28.Text })).bind fun l_32 =>
              node_Join_l0 suf (v_14 + 1) l_32)
          else
            (app 104 out_15 [y_28]).bind fun l_33 =>
            node_Join_l0 suf (v_14 + 1) l_33
        else
          (app 104 out_15 [y_28]).bind fun l_34 =>
          node_Join_l0 suf (v_14 + 1) l_34
    else
      if (decide ((w64 ((out_15.length : Int) - (1 : Int))) ≥ (0 : Int))) = true then
        (rd out_15 (w64 ((out_15.length : Int) - (1 : Int)))).bind fun x_35 =>
        (node_alike x_35 y_28).bind fun alike_36 =>
        if (alike_36) = true then
          chk (x_35.Text.length + y_28.Text.length ≤ 9223372036854775807) (
            (wr out_15 (w64 ((out_15.length : Int) - (1 : Int))) ({ y_28 with Text := x_35.Text ++ y_28.Text })).bind fun l_37 =>
            node_Join_l0 suf (v_14 + 1) l_37)
        else
          (app 104 out_15 [y_28]).bind fun l_38 =>
          node_Join_l0 suf (v_14 + 1) l_38
      else
        (app 104 out_15 [y_28]).bind fun l_39 =>
        node_Join_l0 suf (v_14 + 1) l_39
noncomputable def node_Join (l_1 : (List api_Node)) : Option (List api_Node) :=
  (chk (l_1.length ≤ 9223372036854775807) (node_Join_l0 l_1 (0 : Int) [])).bind fun out_42 =>
  some out_42
noncomputable def diptychref1_Same_l0 (b_2 : api_Node) : List api_Attr → Int → Option (Bool ⊕ Unit)
  | [], i_6 =>
    some (.inr ())
  | y_9 :: suf, i_6 =>
    (rd b_2.Attrs i_6).bind fun x_10 =>
    if ((((y_9.Name == x_10.Name) && (y_9.Value == x_10.Value)) != true)) = true then
      some (.inl false)
    else
      diptychref1_Same_l0 b_2 suf (i_6 + 1)
noncomputable def diptychref1_SameAll_l0 (b_2 : (List api_Node)) (diptychref1_Same_r : api_Node → api_Node → Option Bool) : List api_Node → Int → Option (Bool ⊕ Unit)
  | [], i_6 =>
    some (.inr ())
  | y_10 :: suf, i_6 =>
    (rd b_2 i_6).bind fun x_11 =>
    (diptychref1_Same_r y_10 x_11).bind fun same_12 =>
    if (!same_12) = true then
      some (.inl false)
    else
      diptychref1_SameAll_l0 b_2 diptychref1_Same_r suf (i_6 + 1)
mutual
noncomputable def diptychref1_Same_k : Nat → api_Node → api_Node → Option Bool
  | 0, _, _ => none
  | kr + 1, a_1, b_2 =>
    if (!(a_1.Kind == b_2.Kind)) = true then
      some false
    else
      if (!(a_1.Text == b_2.Text)) = true then
        some false
      else
        (diptychref1_sameNames a_1.Marks b_2.Marks).bind fun samena_3 =>
        if (!samena_3) = true then
          some false
        else
          if ((a_1.Attrs.length : Int) != (b_2.Attrs.length : Int)) = true then
            some false
          else
            (chk (a_1.Attrs.length ≤ 9223372036854775807) (diptychref1_Same_l0 b_2 a_1.Attrs (0 : Int))).bind fun e => match e with
            | .inl res_11 =>
              some res_11
            | .inr _ =>
              ((diptychref1_SameAll_k kr) a_1.Kids b_2.Kids).bind fun sameal_14 =>
              some sameal_14
noncomputable def diptychref1_SameAll_k : Nat → (List api_Node) → (List api_Node) → Option Bool
  | 0, _, _ => none
  | kr + 1, a_1, b_2 =>
    if ((a_1.length : Int) != (b_2.length : Int)) = true then
      some false
    else
      (chk (a_1.length ≤ 9223372036854775807) (diptychref1_SameAll_l0 b_2 (diptychref1_Same_k kr) a_1 (0 : Int))).bind fun e => match e with
      | .inl res_13 =>
        some res_13
      | .inr _ =>
        some true
end
noncomputable def diptychref1_Same (a_1 : api_Node) (b_2 : api_Node) : Option Bool := lim fun kr => diptychref1_Same_k kr a_1 b_2
noncomputable def diptychref1_SameAll (a_1 : (List api_Node)) (b_2 : (List api_Node)) : Option Bool := lim fun kr => diptychref1_SameAll_k kr a_1 b_2
noncomputable def strings_Builder_copyCheck_x (l : Str) : Option (List UInt8) :=
  some l
noncomputable def strings_Builder_WriteString_x (s_1 : Str) (l_2 : (List UInt8)) : Option (Int × (List UInt8)) :=
  (strings_Builder_copyCheck_x l_2).bind fun l_3 =>
  (app 1 l_3 s_1).bind fun l_4 =>
  some ((s_1.length : Int), l_4)
noncomputable def node_Words_1_x_l0 (node_Words_1_x_r : api_Node → (List UInt8) → Option (List UInt8)) : List api_Node → Int → (List UInt8) → Option (List UInt8)
  | [], v_8, v_9 =>
    some v_9
  | y_12 :: suf, v_8, v_9 =>
    (node_Words_1_x_r y_12 v_9).bind fun l_13 =>
    node_Words_1_x_l0 node_Words_1_x_r suf (v_8 + 1) l_13
noncomputable def node_Words_1_x_k : Nat → api_Node → (List UInt8) → Option (List UInt8)
  | 0, _, _ => none
  | kr + 1, n_1, l_2 =>
    (node_isText n_1).bind fun istext_3 =>
    if (istext_3) = true then
      (strings_Builder_WriteString_x n_1.Text l_2).bind fun (r_4, l_5) =>
      some l_5
    else
      (chk (n_1.Kids.length ≤ 9223372036854775807) (node_Words_1_x_l0 (node_Words_1_x_k kr) n_1.Kids (0 : Int) l_2)).bind fun v_16 =>
      some v_16
noncomputable def node_Words_1_x (n_1 : api_Node) (l_2 : (List UInt8)) : Option (List UInt8) := lim fun kr => node_Words_1_x_k kr n_1 l_2
noncomputable def strings_Builder_String_x (l : Str) : Option (Str × (List UInt8)) :=
  chk (l.length ≤ 9223372036854775807) (some (l, l))
noncomputable def node_Words (n_1 : api_Node) : Option Str :=
  (node_Words_1_x n_1 ([] : Str)).bind fun l_2 =>
  (strings_Builder_String_x l_2).bind fun (r_3, l_4) =>
  some r_3
noncomputable def diptychlaw1_NodeTwice (l_1 : (List diptychlaw1_Cell)) (by_2 : Int) : Option Bool :=
  (diptychlaw1_shown).bind fun shown_3 =>
  if (!shown_3) = true then
    some false
  else
    (diptychlaw1_made l_1).bind fun made_4 =>
    (sl made_4 (if (if (made_4.length : Int) < by_2 then (made_4.length : Int) else by_2) > (0 : Int) then (if (made_4.length : Int) < by_2 then (made_4.length : Int) else by_2) else (0 : Int)) (made_4.length : Int)).bind fun s_5 =>
    (app 104 ([] : List api_Node) s_5).bind fun l_6 =>
    (sl made_4 (0 : Int) (if (if (made_4.length : Int) < by_2 then (made_4.length : Int) else by_2) > (0 : Int) then (if (made_4.length : Int) < by_2 then (made_4.length : Int) else by_2) else (0 : Int))).bind fun s_7 =>
    (app 104 l_6 s_7).bind fun l_8 =>
    (node_Join l_8).bind fun join_9 =>
    (node_Join join_9).bind fun join_10 =>
    (diptychref1_SameAll join_9 join_10).bind fun sameal_11 =>
    if (sameal_11) = true then
      (node_Total join_9).bind fun total_12 =>
      (node_Total l_8).bind fun total_13 =>
      if (total_12 == total_13) = true then
        (node_Words ({ Kind := ([100, 111, 99] : Str), Text := ([] : Str), Marks := [], Attrs := [], Kids := join_9 } : api_Node)).bind fun words_14 =>
        (node_Words ({ Kind := ([100, 111, 99] : Str), Text := ([] : Str), Marks := [], Attrs := [], Kids := l_8 } : api_Node)).bind fun words_15 =>
        if (words_14 == words_15) = true then
          (node_Check ({ Kind := ([100, 111, 99] : Str), Text := ([] : Str), Marks := [], Attrs := [], Kids := join_9 } : api_Node)).bind fun check_16 =>
          if (check_16 == (0 : Int)) = true then
            (node_Size ({ Kind := ([100, 111, 99] : Str), Text := ([] : Str), Marks := [], Attrs := [], Kids := join_9 } : api_Node)).bind fun size_17 =>
            (node_Total join_9).bind fun total_18 =>
            some (size_17 == (w64 ((2 : Int) + total_18)))
          else
            some false
        else
          some false
      else
        some false
    else
      some false
noncomputable def diptychlaw1_light_l0 : List Str → Int → Int → Option Int
  | [], i_5, left_4 =>
    some left_4
  | y_7 :: suf, i_5, left_4 =>
    if (decide (left_4 > (0 : Int))) = true then
      diptychlaw1_light_l0 suf (i_5 + 1) (w64 ((w64 (left_4 - (1 : Int))) - (y_7.length : Int)))
    else
      some left_4
noncomputable def diptychlaw1_light_l1 : List api_Attr → Int → Int → Option Int
  | [], i_13, left_12 =>
    some left_12
  | y_15 :: suf, i_13, left_12 =>
    if (decide (left_12 > (0 : Int))) = true then
      diptychlaw1_light_l1 suf (i_13 + 1) (w64 ((w64 ((w64 (left_12 - (1 : Int))) - (y_15.Name.length : Int))) - (y_15.Value.length : Int)))
    else
      some left_12
noncomputable def diptychlaw1_light_l2 (diptychlaw1_light_r : api_Node → Int → Option Int) : List api_Node → Int → Int → Option Int
  | [], i_22, left_21 =>
    some left_21
  | y_25 :: suf, i_22, left_21 =>
    if (decide (left_21 > (0 : Int))) = true then
      (diptychlaw1_light_r y_25 left_21).bind fun light_26 =>
      diptychlaw1_light_l2 diptychlaw1_light_r suf (i_22 + 1) light_26
    else
      some left_21
noncomputable def diptychlaw1_light_k : Nat → api_Node → Int → Option Int
  | 0, _, _ => none
  | kr + 1, n_1, left_2 =>
    (chk (n_1.Marks.length ≤ 9223372036854775807) (diptychlaw1_light_l0 n_1.Marks (0 : Int) (w64 ((w64 ((w64 (left_2 - (1 : Int))) - (n_1.Kind.length : Int))) - (n_1.Text.length : Int))))).bind fun left_8 =>
    (chk (n_1.Attrs.length ≤ 9223372036854775807) (diptychlaw1_light_l1 n_1.Attrs (0 : Int) left_8)).bind fun left_16 =>
    (chk (n_1.Kids.length ≤ 9223372036854775807) (diptychlaw1_light_l2 (diptychlaw1_light_k kr) n_1.Kids (0 : Int) left_16)).bind fun left_27 =>
    if (decide (left_27 < (1 : Int))) = true then
      some (-1 : Int)
    else
      some left_27
noncomputable def diptychlaw1_light (n_1 : api_Node) (left_2 : Int) : Option Int := lim fun kr => diptychlaw1_light_k kr n_1 left_2
noncomputable def diptychref1_Name_l0 (s_1 : Str) : Nat → Int → Option (Bool ⊕ Unit)
  | 0, _ => none
  | k + 1, i_2 =>
    if (decide (i_2 < (s_1.length : Int))) = true then
      chk (0 ≤ i_2 ∧ i_2 < (s_1.length : Int)) (
        if (decide (((s_1.getD i_2.toNat 0).toNat : Int) < (97 : Int))) = true then
          some (.inl false)
        else
          chk (0 ≤ i_2 ∧ i_2 < (s_1.length : Int)) (
            if (decide (((s_1.getD i_2.toNat 0).toNat : Int) > (122 : Int))) = true then
              some (.inl false)
            else
              diptychref1_Name_l0 s_1 k (w64 (i_2 + (1 : Int)))))
    else
      some (.inr ())
noncomputable def diptychref1_Name (s_1 : Str) : Option Bool :=
  (lim fun k => diptychref1_Name_l0 s_1 k (0 : Int)).bind fun e => match e with
  | .inl res_3 =>
    some res_3
  | .inr _ =>
    if (decide ((s_1.length : Int) ≥ (1 : Int))) = true then
      if (decide ((s_1.length : Int) ≤ (8 : Int))) = true then
        some (!(s_1 == ([116, 101, 120, 116] : Str)))
      else
        some false
    else
      some false
noncomputable def diptychref1_runes (s_1 : Str) : Option ((List Int) × Bool) :=
  some (runes s_1, (runesStr (runes s_1)) == s_1)
noncomputable def diptychref1_formed (s_1 : Str) : Option Bool :=
  (diptychref1_runes s_1).bind fun (r_2, r_3) =>
  some r_3
noncomputable def diptychref1_Value (s_1 : Str) : Option Bool :=
  if (decide ((s_1.length : Int) ≤ (40 : Int))) = true then
    (diptychref1_formed s_1).bind fun formed_2 =>
    some formed_2
  else
    some false
noncomputable def diptychref1_Total_l0 (diptychref1_Size_r : api_Node → Option Int) : List api_Node → Int → Int → Option Int
  | [], i_5, many_4 =>
    some many_4
  | y_8 :: suf, i_5, many_4 =>
    (diptychref1_Size_r y_8).bind fun size_9 =>
    diptychref1_Total_l0 diptychref1_Size_r suf (i_5 + 1) (w64 (many_4 + size_9))
mutual
noncomputable def diptychref1_Total_k : Nat → (List api_Node) → Option Int
  | 0, _ => none
  | kr + 1, l_1 =>
    (chk (l_1.length ≤ 9223372036854775807) (diptychref1_Total_l0 (diptychref1_Size_k kr) l_1 (0 : Int) (0 : Int))).bind fun many_10 =>
    some many_10
noncomputable def diptychref1_Size_k : Nat → api_Node → Option Int
  | 0, _ => none
  | kr + 1, n_1 =>
    if (n_1.Kind == ([116, 101, 120, 116] : Str)) = true then
      (diptychref1_runes n_1.Text).bind fun (r_2, r_3) =>
      some (r_2.length : Int)
    else
      ((diptychref1_Total_k kr) n_1.Kids).bind fun total_4 =>
      some (w64 ((2 : Int) + total_4))
end
noncomputable def diptychref1_Total (l_1 : (List api_Node)) : Option Int := lim fun kr => diptychref1_Total_k kr l_1
noncomputable def diptychref1_Size (n_1 : api_Node) : Option Int := lim fun kr => diptychref1_Size_k kr n_1
noncomputable def diptychref1_Depth_l0 (diptychref1_Depth_r : api_Node → Option Int) : List api_Node → Int → Int → Option Int
  | [], i_5, d_4 =>
    some d_4
  | y_8 :: suf, i_5, d_4 =>
    (diptychref1_Depth_r y_8).bind fun depth_9 =>
    diptychref1_Depth_l0 diptychref1_Depth_r suf (i_5 + 1) (if depth_9 > d_4 then depth_9 else d_4)
noncomputable def diptychref1_Depth_k : Nat → api_Node → Option Int
  | 0, _ => none
  | kr + 1, n_1 =>
    if (n_1.Kind == ([116, 101, 120, 116] : Str)) = true then
      some (0 : Int)
    else
      (chk (n_1.Kids.length ≤ 9223372036854775807) (diptychref1_Depth_l0 (diptychref1_Depth_k kr) n_1.Kids (0 : Int) (0 : Int))).bind fun d_10 =>
      some (w64 (d_10 + (1 : Int)))
noncomputable def diptychref1_Depth (n_1 : api_Node) : Option Int := lim fun kr => diptychref1_Depth_k kr n_1
noncomputable def diptychref1_rise_l0 (l_1 : (List Str)) : List Str → Int → Option (Bool ⊕ Unit)
  | [], i_5 =>
    some (.inr ())
  | y_9 :: suf, i_5 =>
    (diptychref1_Name y_9).bind fun name_10 =>
    if (!name_10) = true then
      some (.inl false)
    else
      if (decide (i_5 > (0 : Int))) = true then
        (rd l_1 (w64 (i_5 - (1 : Int)))).bind fun x_11 =>
        if ((Op.bytesLess y_9 x_11 || y_9 == x_11)) = true then
          some (.inl false)
        else
          diptychref1_rise_l0 l_1 suf (i_5 + 1)
      else
        diptychref1_rise_l0 l_1 suf (i_5 + 1)
noncomputable def diptychref1_rise (l_1 : (List Str)) : Option Bool :=
  (chk (l_1.length ≤ 9223372036854775807) (diptychref1_rise_l0 l_1 l_1 (0 : Int))).bind fun e => match e with
  | .inl res_12 =>
    some res_12
  | .inr _ =>
    some true
noncomputable def diptychref1_Formed_l0 : List api_Attr → Int → (List Str) → Option (Bool ⊕ (List Str))
  | [], i_7, names_8 =>
    some (.inr names_8)
  | y_12 :: suf, i_7, names_8 =>
    (app 16 names_8 [y_12.Name]).bind fun l_13 =>
    (diptychref1_Value y_12.Value).bind fun value_14 =>
    if (!value_14) = true then
      some (.inl false)
    else
      diptychref1_Formed_l0 suf (i_7 + 1) l_13
noncomputable def diptychref1_Formed_l1 (n_1 : api_Node) (diptychref1_Formed_r : api_Node → Option Bool) : List api_Node → Int → Option (Bool ⊕ Unit)
  | [], i_25 =>
    some (.inr ())
  | y_30 :: suf, i_25 =>
    (diptychref1_Formed_r y_30).bind fun formed_31 =>
    if (!formed_31) = true then
      some (.inl false)
    else
      if (decide (i_25 > (0 : Int))) = true then
        if (y_30.Kind == ([116, 101, 120, 116] : Str)) = true then
          (rd n_1.Kids (w64 (i_25 - (1 : Int)))).bind fun x_32 =>
          if (x_32.Kind == ([116, 101, 120, 116] : Str)) = true then
            (diptychref1_sameNames y_30.Marks x_32.Marks).bind fun samena_33 =>
            if (samena_33) = true then
              some (.inl false)
            else
              diptychref1_Formed_l1 n_1 diptychref1_Formed_r suf (i_25 + 1)
          else
            diptychref1_Formed_l1 n_1 diptychref1_Formed_r suf (i_25 + 1)
        else
          diptychref1_Formed_l1 n_1 diptychref1_Formed_r suf (i_25 + 1)
      else
        diptychref1_Formed_l1 n_1 diptychref1_Formed_r suf (i_25 + 1)
noncomputable def diptychref1_Formed_k : Nat → api_Node → Option Bool
  | 0, _ => none
  | kr + 1, n_1 =>
    if (n_1.Kind == ([116, 101, 120, 116] : Str)) = true then
      if (!(n_1.Text == ([] : Str))) = true then
        (diptychref1_formed n_1.Text).bind fun formed_2 =>
        if (formed_2) = true then
          (diptychref1_rise n_1.Marks).bind fun rise_3 =>
          if (rise_3) = true then
            if ((n_1.Attrs.length : Int) == (0 : Int)) = true then
              some ((n_1.Kids.length : Int) == (0 : Int))
            else
              some false
          else
            some false
        else
          some false
      else
        some false
    else
      (chk (n_1.Attrs.length ≤ 9223372036854775807) (diptychref1_Formed_l0 n_1.Attrs (0 : Int) [])).bind fun e => match e with
      | .inl res_15 =>
        some res_15
      | .inr names_18 =>
        (diptychref1_Name n_1.Kind).bind fun name_19 =>
        if (!name_19) = true then
          some false
        else
          if (!(n_1.Text == ([] : Str))) = true then
            some false
          else
            if (decide ((n_1.Marks.length : Int) > (0 : Int))) = true then
              some false
            else
              (diptychref1_rise names_18).bind fun rise_20 =>
              if (!rise_20) = true then
                some false
              else
                (chk (n_1.Kids.length ≤ 9223372036854775807) (diptychref1_Formed_l1 n_1 (diptychref1_Formed_k kr) n_1.Kids (0 : Int))).bind fun e => match e with
                | .inl res_34 =>
                  some res_34
                | .inr _ =>
                  some true
noncomputable def diptychref1_Formed (n_1 : api_Node) : Option Bool := lim fun kr => diptychref1_Formed_k kr n_1
noncomputable def diptychref1_Check (n_1 : api_Node) : Option Int :=
  (diptychref1_Formed n_1).bind fun formed_2 =>
  if (!formed_2) = true then
    some (2 : Int)
  else
    (diptychref1_Depth n_1).bind fun depth_3 =>
    if (decide (depth_3 > (40 : Int))) = true then
      some (4 : Int)
    else
      (diptychref1_Size n_1).bind fun size_4 =>
      if (decide (size_4 > (4000 : Int))) = true then
        some (5 : Int)
      else
        some (0 : Int)
noncomputable def diptychref1_Words_l0 (diptychref1_Words_r : api_Node → Option Str) : List api_Node → Int → Str → Option Str
  | [], i_5, s_4 =>
    some s_4
  | y_8 :: suf, i_5, s_4 =>
    (diptychref1_Words_r y_8).bind fun words_9 =>
    chk (s_4.length + words_9.length ≤ 9223372036854775807) (
      diptychref1_Words_l0 diptychref1_Words_r suf (i_5 + 1) (s_4 ++ words_9))
noncomputable def diptychref1_Words_k : Nat → api_Node → Option Str
  | 0, _ => none
  | kr + 1, n_1 =>
    if (n_1.Kind == ([116, 101, 120, 116] : Str)) = true then
      some n_1.Text
    else
      (chk (n_1.Kids.length ≤ 9223372036854775807) (diptychref1_Words_l0 (diptychref1_Words_k kr) n_1.Kids (0 : Int) ([] : Str))).bind fun s_10 =>
      some s_10
noncomputable def diptychref1_Words (n_1 : api_Node) : Option Str := lim fun kr => diptychref1_Words_k kr n_1
noncomputable def diptychlaw1_NodeChecks (n_1 : api_Node) (s_2 : Str) : Option Bool :=
  (diptychlaw1_shown).bind fun shown_3 =>
  if (!shown_3) = true then
    some shown_3
  else
    (diptychlaw1_light n_1 (2000 : Int)).bind fun light_4 =>
    if (decide (light_4 < (0 : Int))) = true then
      some shown_3
    else
      if (decide ((s_2.length : Int) > (500 : Int))) = true then
        some shown_3
      else
        (node_Name s_2).bind fun name_5 =>
        (diptychref1_Name s_2).bind fun name_6 =>
        if (((name_5 == name_6) != false)) = true then
          (node_Value s_2).bind fun value_7 =>
          (diptychref1_Value s_2).bind fun value_8 =>
          if (((value_7 == value_8) != false)) = true then
            (node_Check n_1).bind fun check_9 =>
            (diptychref1_Check n_1).bind fun check_10 =>
            if (check_9 == check_10) = true then
              (node_Right n_1).bind fun right_11 =>
              (diptychref1_Check n_1).bind fun check_12 =>
              if (((right_11 == (check_12 == (0 : Int))) != false)) = true then
                (node_Size n_1).bind fun size_13 =>
                (diptychref1_Size n_1).bind fun size_14 =>
                if (size_13 == size_14) = true then
                  (node_Depth n_1).bind fun depth_15 =>
                  (diptychref1_Depth n_1).bind fun depth_16 =>
                  if (depth_15 == depth_16) = true then
                    (node_Words n_1).bind fun words_17 =>
                    (diptychref1_Words n_1).bind fun words_18 =>
                    if (words_17 == words_18) = true then
                      (node_Total n_1.Kids).bind fun total_19 =>
                      (diptychref1_Total n_1.Kids).bind fun total_20 =>
                      some (total_19 == total_20)
                    else
                      some false
                  else
                    some false
                else
                  some false
              else
                some false
            else
              some false
          else
            some false
        else
          some false

end Go.Proofs.YtlgjbmgmoaphjaaDoor
