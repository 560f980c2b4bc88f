/- The functions of the program, written over numbers and rows. -/
import Derived.Test.YtlgjbmgmoaphjaaDoorAgT
import Derived.Test.YtlgjbmgmoaphjaaDoorAgLib
namespace Go.Proofs.YtlgjbmgmoaphjaaDoor
set_option linter.unusedSimpArgs false
set_option linter.unusedVariables false
open Go
set_option maxRecDepth 100000

noncomputable def node_isText (n_1 : api_Node) : Option Bool :=
  some (n_1.Kind == ([116, 101, 120, 116] : Str))
noncomputable def unicode_utf8_RuneCountInString_l0 (s_1 : Str) : Nat → Int → Nat → Option Int
  | 0, _, _ => none
  | k + 1, n_2, v_3 =>
    if (decide (v_3 < s_1.length)) = true then
      unicode_utf8_RuneCountInString_l0 s_1 k (w64 (n_2 + (1 : Int))) (v_3 + runeW s_1 v_3)
    else
      some n_2
noncomputable def unicode_utf8_RuneCountInString (s_1 : Str) : Option Int :=
  (lim fun k => unicode_utf8_RuneCountInString_l0 s_1 k (0 : Int) 0).bind fun n_4 =>
  some n_4
noncomputable def node_Total_l0 (node_Size_r : api_Node → Option Int) : List api_Node → Int → Int → Option Int
  | [], v_5, many_4 =>
    some many_4
  | y_8 :: suf, v_5, many_4 =>
    (node_Size_r y_8).bind fun size_9 =>
    node_Total_l0 node_Size_r suf (v_5 + 1) (w64 (many_4 + size_9))
mutual
noncomputable def node_Total_k : Nat → (List api_Node) → Option Int
  | 0, _ => none
  | kr + 1, l_1 =>
    (chk (l_1.length ≤ 9223372036854775807) (node_Total_l0 (node_Size_k kr) l_1 (0 : Int) (0 : Int))).bind fun many_10 =>
    some many_10
noncomputable def node_Size_k : Nat → api_Node → Option Int
  | 0, _ => none
  | kr + 1, n_1 =>
    (node_isText n_1).bind fun istext_2 =>
    if (istext_2) = true then
      (unicode_utf8_RuneCountInString n_1.Text).bind fun runeco_3 =>
      some runeco_3
    else
      ((node_Total_k kr) n_1.Kids).bind fun total_4 =>
      some (w64 ((2 : Int) + total_4))
end
noncomputable def node_Total (l_1 : (List api_Node)) : Option Int := lim fun kr => node_Total_k kr l_1
noncomputable def node_Size (n_1 : api_Node) : Option Int := lim fun kr => node_Size_k kr n_1
noncomputable def node_Depth_l0 (node_Depth_r : api_Node → Option Int) : List api_Node → Int → Int → Option Int
  | [], v_6, deepest_5 =>
    some deepest_5
  | y_9 :: suf, v_6, deepest_5 =>
    (node_Depth_r y_9).bind fun depth_10 =>
    node_Depth_l0 node_Depth_r suf (v_6 + 1) (if depth_10 > deepest_5 then depth_10 else deepest_5)
noncomputable def node_Depth_k : Nat → api_Node → Option Int
  | 0, _ => none
  | kr + 1, n_1 =>
    (node_isText n_1).bind fun istext_2 =>
    if (istext_2) = true then
      some (0 : Int)
    else
      (chk (n_1.Kids.length ≤ 9223372036854775807) (node_Depth_l0 (node_Depth_k kr) n_1.Kids (0 : Int) (0 : Int))).bind fun deepest_11 =>
      some (w64 (deepest_11 + (1 : Int)))
noncomputable def node_Depth (n_1 : api_Node) : Option Int := lim fun kr => node_Depth_k kr n_1
noncomputable def strings_Trim (s : Str) (cutset : Str) : Option Str :=
  chk (s.length ≤ 9223372036854775807 ∧ cutset.length < 4294967281 ∧ cutset.all (fun b => decide (b.toNat < 128)) = true) (some (Lib.trimS s cutset))
noncomputable def node_Name (s_1 : Str) : Option Bool :=
  (strings_Trim s_1 ([97, 98, 99, 100, 101, 102, 103, 104, 105, 106, 107, 108, 109, 110, 111, 112, 113, 114, 115, 116, 117, 118, 119, 120, 121, 122] : Str)).bind fun trim_2 =>
  if (trim_2 == ([] : Str)) = true then
    if (!(s_1 == ([] : Str))) = true then
      if (decide ((s_1.length : Int) ≤ (8 : Int))) = true then
        some (!(s_1 == ([116, 101, 120, 116] : Str)))
      else
        some false
    else
      some false
  else
    some false
noncomputable def unicode_utf8_ValidString (s : Str) : Option Bool :=
  chk (s.length ≤ 9223372036854775807) (some (Lib.validD s))
noncomputable def node_Value (s_1 : Str) : Option Bool :=
  if (decide ((s_1.length : Int) ≤ (40 : Int))) = true then
    (unicode_utf8_ValidString s_1).bind fun valids_2 =>
    some valids_2
  else
    some false
noncomputable def slices_Equal_string_l0 (s2_2 : (List Str)) : List Str → Int → Option (Bool ⊕ Unit)
  | [], v_5 =>
    some (.inr ())
  | y_8 :: suf, v_5 =>
    (rd s2_2 v_5).bind fun x_9 =>
    if (!(y_8 == x_9)) = true then
      some (.inl false)
    else
      slices_Equal_string_l0 s2_2 suf (v_5 + 1)
noncomputable def slices_Equal_string (s1_1 : (List Str)) (s2_2 : (List Str)) : Option Bool :=
  if ((s1_1.length : Int) != (s2_2.length : Int)) = true then
    some false
  else
    (chk (s1_1.length ≤ 9223372036854775807) (slices_Equal_string_l0 s2_2 s1_1 (0 : Int))).bind fun e => match e with
    | .inl res_10 =>
      some res_10
    | .inr _ =>
      some true
noncomputable def node_alike (a_1 : api_Node) (b_2 : api_Node) : Option Bool :=
  (node_isText a_1).bind fun istext_3 =>
  if (istext_3) = true then
    (node_isText b_2).bind fun istext_4 =>
    if (istext_4) = true then
      (slices_Equal_string a_1.Marks b_2.Marks).bind fun string_5 =>
      some string_5
    else
      some false
  else
    some false
noncomputable def node_rise_l0 (l_1 : (List Str)) : List Str → Int → Option (Bool ⊕ Unit)
  | [], v_5 =>
    some (.inr ())
  | y_9 :: suf, v_5 =>
    (node_Name y_9).bind fun name_10 =>
    if (!name_10) = true then
      some (.inl false)
    else
      if (decide (v_5 > (0 : Int))) = true then
        (rd l_1 (w64 (v_5 - (1 : Int)))).bind fun x_11 =>
        if ((Op.bytesLess y_9 x_11 || y_9 == x_11)) = true then
          some (.inl false)
        else
          node_rise_l0 l_1 suf (v_5 + 1)
      else
        node_rise_l0 l_1 suf (v_5 + 1)
noncomputable def node_rise (l_1 : (List Str)) : Option Bool :=
  (chk (l_1.length ≤ 9223372036854775807) (node_rise_l0 l_1 l_1 (0 : Int))).bind fun e => match e with
  | .inl res_12 =>
    some res_12
  | .inr _ =>
    some true
noncomputable def node_formed_l0 : List api_Attr → Int → (List Str) → Option (Bool ⊕ (List Str))
  | [], v_8, names_9 =>
    some (.inr names_9)
  | y_13 :: suf, v_8, names_9 =>
    (node_Value y_13.Value).bind fun value_14 =>
    if (!value_14) = true then
      some (.inl false)
    else
      (app 16 names_9 [y_13.Name]).bind fun l_15 =>
      node_formed_l0 suf (v_8 + 1) l_15
noncomputable def node_formed_l1 (n_1 : api_Node) (node_formed_r : api_Node → Option Bool) : List api_Node → Int → Option (Bool ⊕ Unit)
  | [], v_26 =>
    some (.inr ())
  | y_31 :: suf, v_26 =>
    (node_formed_r y_31).bind fun formed_32 =>
    if (!formed_32) = true then
      some (.inl false)
    else
      if (decide (v_26 > (0 : Int))) = true then
        (rd n_1.Kids (w64 (v_26 - (1 : Int)))).bind fun x_33 =>
        (node_alike x_33 y_31).bind fun alike_34 =>
        if (alike_34) = true then
          some (.inl false)
        else
          node_formed_l1 n_1 node_formed_r suf (v_26 + 1)
      else
        node_formed_l1 n_1 node_formed_r suf (v_26 + 1)
noncomputable def node_formed_k : Nat → api_Node → Option Bool
  | 0, _ => none
  | kr + 1, n_1 =>
    (node_isText n_1).bind fun istext_2 =>
    if (istext_2) = true then
      if (!(n_1.Text == ([] : Str))) = true then
        (unicode_utf8_ValidString n_1.Text).bind fun valids_3 =>
        if (valids_3) = true then
          (node_rise n_1.Marks).bind fun rise_4 =>
          if (rise_4) = true then
            some ((w64 ((n_1.Attrs.length : Int) + (n_1.Kids.length : Int))) == (0 : Int))
          else
            some false
        else
          some false
      else
        some false
    else
      (chk (n_1.Attrs.length ≤ 9223372036854775807) (node_formed_l0 n_1.Attrs (0 : Int) [])).bind fun e => match e with
      | .inl res_16 =>
        some res_16
      | .inr names_19 =>
        (node_Name n_1.Kind).bind fun name_20 =>
        if (!name_20) = true then
          some false
        else
          if (!(n_1.Text == ([] : Str))) = true then
            some false
          else
            if (decide ((n_1.Marks.length : Int) > (0 : Int))) = true then
              some false
            else
              (node_rise names_19).bind fun rise_21 =>
              if (!rise_21) = true then
                some false
              else
                (chk (n_1.Kids.length ≤ 9223372036854775807) (node_formed_l1 n_1 (node_formed_k kr) n_1.Kids (0 : Int))).bind fun e => match e with
                | .inl res_35 =>
                  some res_35
                | .inr _ =>
                  some true
noncomputable def node_formed (n_1 : api_Node) : Option Bool := lim fun kr => node_formed_k kr n_1
noncomputable def node_Check (n_1 : api_Node) : Option Int :=
  (node_formed n_1).bind fun formed_2 =>
  if (!formed_2) = true then
    some (2 : Int)
  else
    (node_Depth n_1).bind fun depth_3 =>
    if (decide (depth_3 > (40 : Int))) = true then
      some (4 : Int)
    else
      (node_Size n_1).bind fun size_4 =>
      if (decide (size_4 > (4000 : Int))) = true then
        some (5 : Int)
      else
        some (0 : Int)
noncomputable def node_Right (n_1 : api_Node) : Option Bool :=
  (node_Check n_1).bind fun check_2 =>
  some (check_2 == (0 : Int))
noncomputable def diptychlaw1_shown : Option Bool :=
  (node_Size ({ Kind := ([100, 111, 99] : Str), Text := ([] : Str), Marks := [], Attrs := [], Kids := [({ Kind := ([112, 97, 114, 97] : Str), Text := ([] : Str), Marks := [], Attrs := [], Kids := [({ Kind := ([116, 101, 120, 116] : Str), Text := ([104, 105] : Str), Marks := [], Attrs := [], Kids := [] } : api_Node)] } : api_Node)] } : api_Node)).bind fun size_1 =>
  if (size_1 == (6 : Int)) = true then
    (node_Depth ({ Kind := ([100, 111, 99] : Str), Text := ([] : Str), Marks := [], Attrs := [], Kids := [({ Kind := ([112, 97, 114, 97] : Str), Text := ([] : Str), Marks := [], Attrs := [], Kids := [({ Kind := ([116, 101, 120, 116] : Str), Text := ([104, 105] : Str), Marks := [], Attrs := [], Kids := [] } : api_Node)] } : api_Node)] } : api_Node)).bind fun depth_2 =>
    if (depth_2 == (2 : Int)) = true then
      (node_Right ({ Kind := ([100, 111, 99] : Str), Text := ([] : Str), Marks := [], Attrs := [], Kids := [({ Kind := ([112, 97, 114, 97] : Str), Text := ([] : Str), Marks := [], Attrs := [], Kids := [({ Kind := ([116, 101, 120, 116] : Str), Text := ([104, 105] : Str), Marks := [], Attrs := [], Kids := [] } : api_Node)] } : api_Node)] } : api_Node)).bind fun right_3 =>
      some right_3
    else
      some false
  else
    some false
noncomputable def diptychlaw1_pick (c_1 : Int) (n_2 : Int) : Option Int :=
  if (decide (c_1 < (0 : Int))) = true then
    chk (n_2 ≠ 0) (
      some ((w64 (0 - (w64 (c_1 + (1 : Int))))).tmod n_2))
  else
    chk (n_2 ≠ 0) (
      some (c_1.tmod n_2))
noncomputable def diptychref1_sameNames_l0 (b_2 : (List Str)) : List Str → Int → Option (Bool ⊕ Unit)
  | [], i_5 =>
    some (.inr ())
  | y_8 :: suf, i_5 =>
    (rd b_2 i_5).bind fun x_9 =>
    if (!(y_8 == x_9)) = true then
      some (.inl false)
    else
      diptychref1_sameNames_l0 b_2 suf (i_5 + 1)
noncomputable def diptychref1_sameNames (a_1 : (List Str)) (b_2 : (List Str)) : Option Bool :=
  if ((a_1.length : Int) != (b_2.length : Int)) = true then
    some false
  else
    (chk (a_1.length ≤ 9223372036854775807) (diptychref1_sameNames_l0 b_2 a_1 (0 : Int))).bind fun e => match e with
    | .inl res_10 =>
      some res_10
    | .inr _ =>
      some true
noncomputable def diptychref1_Join_l0 : List api_Node → Int → (List api_Node) → Option (List api_Node)
  | [], i_13, out_14 =>
    some out_14
  | y_26 :: suf, i_13, out_14 =>
    ((
        if (y_26.Kind == ([116, 101, 120, 116] : Str)) = true then
          if (y_26.Text == ([] : Str)) = true then
            some (.inl ())
          else
            some (.inr ())
        else
          some (.inr ())) : Option (Unit ⊕ Unit)).bind fun e => match e with
    | .inl _ =>
      diptychref1_Join_l0 suf (i_13 + 1) out_14
    | .inr _ =>
      if (y_26.Kind == ([116, 101, 120, 116] : Str)) = true then
        if (decide ((w64 ((out_14.length : Int) - (1 : Int))) ≥ (0 : Int))) = true then
          (rd out_14 (w64 ((out_14.length : Int) - (1 : Int)))).bind fun x_28 =>
          if (x_28.Kind == ([116, 101, 120, 116] : Str)) = true then
            (diptychref1_sameNames x_28.Marks y_26.Marks).bind fun samena_29 =>
            if (samena_29) = true then
              chk (x_28.Text.length + y_26.Text.length ≤ 9223372036854775807) (
                (sl out_14 (0 : Int) (w64 ((out_14.length : Int) - (1 : Int)))).bind fun s_30 =>
                (app 104 ([] : List api_Node) s_30).bind fun l_31 =>
                (app 104 l_31 [{ y_26 with Text := x_28.Text ++ y_26.Text }]).bind fun l_32 =>
                diptychref1_Join_l0 suf (i_13 + 1) l_32)
            else
              (app 104 out_14 [y_26]).bind fun l_33 =>
              diptychref1_Join_l0 suf (i_13 + 1) l_33
          else
            (app 104 out_14 [y_26]).bind fun l_34 =>
            diptychref1_Join_l0 suf (i_13 + 1) l_34
        else
          (app 104 out_14 [y_26]).bind fun l_35 =>
          diptychref1_Join_l0 suf (i_13 + 1) l_35
      else
        (app 104 out_14 [y_26]).bind fun l_36 =>
        diptychref1_Join_l0 suf (i_13 + 1) l_36
noncomputable def diptychref1_Join (l_1 : (List api_Node)) : Option (List api_Node) :=
  (chk (l_1.length ≤ 9223372036854775807) (diptychref1_Join_l0 l_1 (0 : Int) [])).bind fun out_39 =>
  some out_39
noncomputable def diptychlaw1_made_l0 : List diptychlaw1_Cell → Int → (List api_Node) → Option (List api_Node)
  | [], i_26, out_27 =>
    some out_27
  | y_52 :: suf, i_26, out_27 =>
    if (decide (i_26 < (19 : Int))) = true then
      (diptychlaw1_pick y_52.A (4 : Int)).bind fun pick_53 =>
      (rd [([112, 97, 114, 97] : Str), ([105, 116, 101, 109] : Str), ([108, 105, 115, 116] : Str), ([110, 111, 116, 101] : Str)] pick_53).bind fun x_54 =>
      ((
          (diptychlaw1_pick y_52.B (3 : Int)).bind fun pick_55 =>
          if (pick_55 == (1 : Int)) = true then
            (diptychlaw1_pick (w64 (y_52.B.tdiv (3 : Int))) (5 : Int)).bind fun pick_56 =>
            (rd [([97] : Str), ([98, 99] : Str), ([195, 169] : Str), ([120, 32, 121] : Str), ([230, 151, 165, 230, 156, 172] : Str)] pick_56).bind fun x_57 =>
            some [({ Name := ([97, 108, 105, 103, 110] : Str), Value := x_57 } : api_Attr)]
          else
            some []) : Option (List api_Attr)).bind fun n_58 =>
      (diptychlaw1_pick y_52.Op (8 : Int)).bind fun pick_59 =>
      ((
          if (pick_59 == (0 : Int)) = true then
            some (pick_59 == (0 : Int))
          else
            if (pick_59 == (1 : Int)) = true then
              some (pick_59 == (1 : Int))
            else
              if (pick_59 == (2 : Int)) = true then
                some (pick_59 == (2 : Int))
              else
                some (pick_59 == (3 : Int))) : Option Bool).bind fun v_60 =>
      if (v_60) = true then
        (diptychlaw1_pick y_52.A (5 : Int)).bind fun pick_61 =>
        (rd [([97] : Str), ([98, 99] : Str), ([195, 169] : Str), ([120, 32, 121] : Str), ([230, 151, 165, 230, 156, 172] : Str)] pick_61).bind fun x_62 =>
        ((
            (diptychlaw1_pick y_52.B (3 : Int)).bind fun pick_63 =>
            if (pick_63 == (1 : Int)) = true then
              some [([98] : Str)]
            else
              some []) : Option (List Str)).bind fun n_64 =>
        (diptychlaw1_pick y_52.B (3 : Int)).bind fun pick_65 =>
        if (pick_65 == (2 : Int)) = true then
          (app 104 out_27 [({ Kind := ([116, 101, 120, 116] : Str), Text := x_62, Marks := [([98] : Str), ([105] : Str)], Attrs := [], Kids := [] } : api_Node)]).bind fun l_66 =>
          diptychlaw1_made_l0 suf (i_26 + 1) l_66
        else
          (app 104 out_27 [({ Kind := ([116, 101, 120, 116] : Str), Text := x_62, Marks := n_64, Attrs := [], Kids := [] } : api_Node)]).bind fun l_67 =>
          diptychlaw1_made_l0 suf (i_26 + 1) l_67
      else
        ((
            if (pick_59 == (4 : Int)) = true then
              some (pick_59 == (4 : Int))
            else
              if (pick_59 == (5 : Int)) = true then
                some (pick_59 == (5 : Int))
              else
                some (pick_59 == (6 : Int))) : Option Bool).bind fun v_68 =>
        if (v_68) = true then
          (diptychlaw1_pick (w64 (y_52.B.tdiv (3 : Int))) (w64 ((if (6 : Int) < (out_27.length : Int) then (6 : Int) else (out_27.length : Int)) + (1 : Int)))).bind fun pick_69 =>
          (sl out_27 (w64 ((out_27.length : Int) - pick_69)) (out_27.length : Int)).bind fun s_70 =>
          (diptychref1_Join s_70).bind fun join_71 =>
          (sl out_27 (0 : Int) (w64 ((out_27.length : Int) - pick_69))).bind fun s_72 =>
          (app 104 ([] : List api_Node) s_72).bind fun l_73 =>
          (app 104 l_73 [({ Kind := x_54, Text := ([] : Str), Marks := [], Attrs := n_58, Kids := join_71 } : api_Node)]).bind fun l_74 =>
          diptychlaw1_made_l0 suf (i_26 + 1) l_74
        else
          (app 104 out_27 [({ Kind := x_54, Text := ([] : Str), Marks := [], Attrs := n_58, Kids := [] } : api_Node)]).bind fun l_75 =>
          diptychlaw1_made_l0 suf (i_26 + 1) l_75
    else
      some out_27
noncomputable def diptychlaw1_made (l_1 : (List diptychlaw1_Cell)) : Option (List api_Node) :=
  (chk (l_1.length ≤ 9223372036854775807) (diptychlaw1_made_l0 l_1 (0 : Int) [])).bind fun out_78 =>
  (diptychref1_Join out_78).bind fun join_79 =>
  some join_79
noncomputable def node_Join_l0 : List api_Node → Int → (List api_Node) → Option (List api_Node)
  | [], v_14, out_15 =>
    some out_15
  | y_28 :: suf, v_14, out_15 =>
    (node_isText y_28).bind fun istext_29 =>
    if (istext_29) = true then
      if (y_28.Text == ([] : Str)) = true then
        node_Join_l0 suf (v_14 + 1) out_15
      else
        if (decide ((w64 ((out_15.length : Int) - (1 : Int))) ≥ (0 : Int))) = true then
          (rd out_15 (w64 ((out_15.length : Int) - (1 : Int)))).bind fun x_30 =>
          (node_alike x_30 y_28).bind fun alike_31 =>
          if (alike_31) = true then
            chk (x_30.Text.length + y_28.Text.length ≤ 9223372036854775807) (
              (wr out_15 (w64 ((out_15.length : Int) - (1 : Int))) ({ y_28 with Text := x_30.Text ++ y_28.Text })).bind fun l_32 =>
              node_Join_l0 suf (v_14 + 1) l_32)
          else
            (app 104 out_15 [y_28]).bind fun l_33 =>
            node_Join_l0 suf (v_14 + 1) l_33
        else
          (app 104 out_15 [y_28]).bind fun l_34 =>
          node_Join_l0 suf (v_14 + 1) l_34
    else
      if (decide ((w64 ((out_15.length : Int) - (1 : Int))) ≥ (0 : Int))) = true then
        (rd out_15 (w64 ((out_15.length : Int) - (1 : Int)))).bind fun x_35 =>
        (node_alike x_35 y_28).bind fun alike_36 =>
        if (alike_36) = true then
          chk (x_35.Text.length + y_28.Text.length ≤ 9223372036854775807) (
            (wr out_15 (w64 ((out_15.length : Int) - (1 : Int))) ({ y_28 with Text := x_35.Text ++ y_28.Text })).bind fun l_37 =>
            node_Join_l0 suf (v_14 + 1) l_37)
        else
          (app 104 out_15 [y_28]).bind fun l_38 =>
          node_Join_l0 suf (v_14 + 1) l_38
      else
        (app 104 out_15 [y_28]).bind fun l_39 =>
        node_Join_l0 suf (v_14 + 1) l_39
noncomputable def node_Join (l_1 : (List api_Node)) : Option (List api_Node) :=
  (chk (l_1.length ≤ 9223372036854775807) (node_Join_l0 l_1 (0 : Int) [])).bind fun out_42 =>
  some out_42
noncomputable def diptychref1_Same_l0 (b_2 : api_Node) : List api_Attr → Int → Option (Bool ⊕ Unit)
  | [], i_6 =>
    some (.inr ())
  | y_9 :: suf, i_6 =>
    (rd b_2.Attrs i_6).bind fun x_10 =>
    if ((((y_9.Name == x_10.Name) && (y_9.Value == x_10.Value)) != true)) = true then
      some (.inl false)
    else
      diptychref1_Same_l0 b_2 suf (i_6 + 1)
noncomputable def diptychref1_SameAll_l0 (b_2 : (List api_Node)) (diptychref1_Same_r : api_Node → api_Node → Option Bool) : List api_Node → Int → Option (Bool ⊕ Unit)
  | [], i_6 =>
    some (.inr ())
  | y_10 :: suf, i_6 =>
    (rd b_2 i_6).bind fun x_11 =>
    (diptychref1_Same_r y_10 x_11).bind fun same_12 =>
    if (!same_12) = true then
      some (.inl false)
    else
      diptychref1_SameAll_l0 b_2 diptychref1_Same_r suf (i_6 + 1)
mutual
noncomputable def diptychref1_Same_k : Nat → api_Node → api_Node → Option Bool
  | 0, _, _ => none
  | kr + 1, a_1, b_2 =>
    if (!(a_1.Kind == b_2.Kind)) = true then
      some false
    else
      if (!(a_1.Text == b_2.Text)) = true then
        some false
      else
        (diptychref1_sameNames a_1.Marks b_2.Marks).bind fun samena_3 =>
        if (!samena_3) = true then
          some false
        else
          if ((a_1.Attrs.length : Int) != (b_2.Attrs.length : Int)) = true then
            some false
          else
            (chk (a_1.Attrs.length ≤ 9223372036854775807) (diptychref1_Same_l0 b_2 a_1.Attrs (0 : Int))).bind fun e => match e with
            | .inl res_11 =>
              some res_11
            | .inr _ =>
              ((diptychref1_SameAll_k kr) a_1.Kids b_2.Kids).bind fun sameal_14 =>
              some sameal_14
noncomputable def diptychref1_SameAll_k : Nat → (List api_Node) → (List api_Node) → Option Bool
  | 0, _, _ => none
  | kr + 1, a_1, b_2 =>
    if ((a_1.length : Int) != (b_2.length : Int)) = true then
      some false
    else
      (chk (a_1.length ≤ 9223372036854775807) (diptychref1_SameAll_l0 b_2 (diptychref1_Same_k kr) a_1 (0 : Int))).bind fun e => match e with
      | .inl res_13 =>
        some res_13
      | .inr _ =>
        some true
end
noncomputable def diptychref1_Same (a_1 : api_Node) (b_2 : api_Node) : Option Bool := lim fun kr => diptychref1_Same_k kr a_1 b_2
noncomputable def diptychref1_SameAll (a_1 : (List api_Node)) (b_2 : (List api_Node)) : Option Bool := lim fun kr => diptychref1_SameAll_k kr a_1 b_2
noncomputable def diptychlaw1_NodeTurns_l3 (y_35 : api_Node) : List Int → Int → (List api_Node) → Option (List api_Node)
  | [], j_39, cut_40 =>
    some cut_40
  | y_43 :: suf, j_39, cut_40 =>
    (sl (runes y_35.Text) j_39 (j_39 + 1)).bind fun s_44 =>
    (app 104 cut_40 [({ Kind := ([116, 101, 120, 116] : Str), Text := runesStr s_44, Marks := y_35.Marks, Attrs := [], Kids := [] } : api_Node)]).bind fun l_45 =>
    diptychlaw1_NodeTurns_l3 y_35 suf (j_39 + 1) l_45
noncomputable def diptychlaw1_NodeTurns_l0 : List api_Node → Int → (List api_Node) → Option (List api_Node)
  | [], i_19, cut_20 =>
    some cut_20
  | y_35 :: suf, i_19, cut_20 =>
    if (!(y_35.Kind == ([116, 101, 120, 116] : Str))) = true then
      (app 104 cut_20 [y_35]).bind fun l_36 =>
      diptychlaw1_NodeTurns_l0 suf (i_19 + 1) l_36
    else
      (chk ((runes y_35.Text).length ≤ 9223372036854775807) (diptychlaw1_NodeTurns_l3 y_35 (runes y_35.Text) (0 : Int) cut_20)).bind fun cut_48 =>
      diptychlaw1_NodeTurns_l0 suf (i_19 + 1) cut_48
noncomputable def diptychlaw1_NodeTurns (l_1 : (List diptychlaw1_Cell)) (at_2 : Int) : Option Bool :=
  (diptychlaw1_shown).bind fun shown_3 =>
  if (!shown_3) = true then
    some false
  else
    (diptychlaw1_made l_1).bind fun made_4 =>
    (chk (made_4.length ≤ 9223372036854775807) (diptychlaw1_NodeTurns_l0 made_4 (0 : Int) [])).bind fun cut_51 =>
    (diptychlaw1_pick at_2 (w64 ((cut_51.length : Int) + (1 : Int)))).bind fun pick_52 =>
    (sl cut_51 (0 : Int) pick_52).bind fun s_53 =>
    (node_Join s_53).bind fun join_54 =>
    (app 104 ([] : List api_Node) join_54).bind fun l_55 =>
    (sl cut_51 pick_52 (cut_51.length : Int)).bind fun s_56 =>
    (node_Join s_56).bind fun join_57 =>
    (app 104 l_55 join_57).bind fun l_58 =>
    (node_Join cut_51).bind fun join_59 =>
    (diptychref1_SameAll join_59 made_4).bind fun sameal_60 =>
    if (sameal_60) = true then
      (node_Join l_58).bind fun join_61 =>
      (diptychref1_SameAll join_61 made_4).bind fun sameal_62 =>
      some sameal_62
    else
      some false
noncomputable def diptychlaw1_doc (l_1 : (List diptychlaw1_Cell)) : Option api_Node :=
  (diptychlaw1_made l_1).bind fun made_2 =>
  some ({ Kind := ([100, 111, 99] : Str), Text := ([] : Str), Marks := [], Attrs := [], Kids := made_2 } : api_Node)
noncomputable def diptychlaw1_NodeWrong (l_1 : (List diptychlaw1_Cell)) (what_2 : Int) : Option Bool :=
  (diptychlaw1_shown).bind fun shown_3 =>
  if (!shown_3) = true then
    some false
  else
    (diptychlaw1_pick what_2 ([({ Kind := ([116, 101, 120, 116] : Str), Text := ([] : Str), Marks := [], Attrs := [], Kids := [] } : api_Node), ({ Kind := ([116, 101, 120, 116] : Str), Text := ([97] : Str), Marks := [([105] : Str), ([98] : Str)], Attrs := [], Kids := [] } : api_Node), ({ Kind := ([112] : Str), Text := ([] : Str), Marks := [], Attrs := [({ Name := ([98] : Str), Value := ([] : Str) } : api_Attr), ({ Name := ([97] : Str), Value := ([] : Str) } : api_Attr)], Kids := [] } : api_Node), ({ Kind := ([80] : Str), Text := ([] : Str), Marks := [], Attrs := [], Kids := [] } : api_Node), ({ Kind := ([112] : Str), Text := ([] : Str), Marks := [], Attrs := [], Kids := [({ Kind := ([116, 101, 120, 116] : Str), Text := ([97] : Str), Marks := [], Attrs := [], Kids := [] } : api_Node), ({ Kind := ([116, 101, 120, 116] : Str), Text := ([98] : Str), Marks := [], Attrs := [], Kids := [] } : api_Node)] } : api_Node), ({ Kind := ([116, 101, 120, 116] : Str), Text := ([255] : Str), Marks := [], Attrs := [], Kids := [] } : api_Node), ({ Kind := ([112] : Str), Text := ([120] : Str), Marks := [], Attrs := [], Kids := [] } : api_Node)].length : Int)).bind fun pick_4 =>
    (rd [({ Kind := ([116, 101, 120, 116] : Str), Text := ([] : Str), Marks := [], Attrs := [], Kids := [] } : api_Node), ({ Kind := ([116, 101, 120, 116] : Str), Text := ([97] : Str), Marks := [([105] : Str), ([98] : Str)], Attrs := [], Kids := [] } : api_Node), ({ Kind := ([112] : Str), Text := ([] : Str), Marks := [], Attrs := [({ Name := ([98] : Str), Value := ([] : Str) } : api_Attr), ({ Name := ([97] : Str), Value := ([] : Str) } : api_Attr)], Kids := [] } : api_Node), ({ Kind := ([80] : Str), Text := ([] : Str), Marks := [], Attrs := [], Kids := [] } : api_Node), ({ Kind := ([112] : Str), Text := ([] : Str), Marks := [], Attrs := [], Kids := [({ Kind := ([116, 101, 120, 116] : Str), Text := ([97] : Str), Marks := [], Attrs := [], Kids := [] } : api_Node), ({ Kind := ([116, 101, 120, 116] : Str), Text := ([98] : Str), Marks := [], Attrs := [], Kids := [] } : api_Node)] } : api_Node), ({ Kind := ([116, 101, 120, 116] : Str), Text := ([255] : Str), Marks := [], Attrs := [], Kids := [] } : api_Node), ({ Kind := ([112] : Str), Text := ([120] : Str), Marks := [], Attrs := [], Kids := [] } : api_Node)] pick_4).bind fun x_5 =>
    (diptychlaw1_doc l_1).bind fun doc_6 =>
    (app 104 ([] : List api_Node) doc_6.Kids).bind fun l_7 =>
    (app 104 l_7 [({ Kind := ([113] : Str), Text := ([] : Str), Marks := [], Attrs := [], Kids := [] } : api_Node), x_5]).bind fun l_8 =>
    (node_Check x_5).bind fun check_9 =>
    if (check_9 == (2 : Int)) = true then
      (node_Check ({ doc_6 with Kids := l_8 })).bind fun check_10 =>
      if (check_10 == (2 : Int)) = true then
        (node_Right ({ doc_6 with Kids := l_8 })).bind fun right_11 =>
        some (!right_11)
      else
        some false
    else
      some false

end Go.Proofs.YtlgjbmgmoaphjaaDoor
