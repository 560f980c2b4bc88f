/- The functions of the program, written over numbers and rows. -/
import Derived.Test.YtblielhogcnnkaaDoorAgT
import Derived.Test.YtblielhogcnnkaaDoorAgLib
namespace Go.Proofs.YtblielhogcnnkaaDoor
set_option linter.unusedSimpArgs false
set_option linter.unusedVariables false
open Go
set_option maxRecDepth 100000

noncomputable def slices_Clone_string (l : (List Str)) : Option (List Str) :=
  app 16 [] l
noncomputable def slices_Clone_api_Attr (l : (List api_Attr)) : Option (List api_Attr) :=
  app 32 [] l
noncomputable def slices_Clone_api_Node (l : (List api_Node)) : Option (List api_Node) :=
  app 104 [] l
noncomputable def node_Copy_l0 (node_4 : (List api_Node)) (node_Copy_r : api_Node → Option api_Node) : Nat → Int → (List api_Node) → Option (List api_Node)
  | 0, _, _ => none
  | k + 1, v_8, v_9 =>
    if (decide (v_8 < (node_4.length : Int))) = true then
      (rd v_9 v_8).bind fun x_10 =>
      (node_Copy_r x_10).bind fun copy_11 =>
      (wr v_9 v_8 copy_11).bind fun l_12 =>
      node_Copy_l0 node_4 node_Copy_r k (w64 (v_8 + (1 : Int))) l_12
    else
      some v_9
noncomputable def node_Copy_k : Nat → api_Node → Option api_Node
  | 0, _ => none
  | kr + 1, n_1 =>
    (slices_Clone_string n_1.Marks).bind fun string_2 =>
    (slices_Clone_api_Attr n_1.Attrs).bind fun attr_3 =>
    (slices_Clone_api_Node n_1.Kids).bind fun node_4 =>
    (lim fun k => node_Copy_l0 node_4 (node_Copy_k kr) k (0 : Int) node_4).bind fun v_15 =>
    some ({ Kind := n_1.Kind, Text := n_1.Text, Marks := string_2, Attrs := attr_3, Kids := v_15 } : api_Node)
noncomputable def node_Copy (n_1 : api_Node) : Option api_Node := lim fun kr => node_Copy_k kr n_1
noncomputable def node_isText (n_1 : api_Node) : Option Bool :=
  some (n_1.Kind == ([116, 101, 120, 116] : Str))
noncomputable def unicode_utf8_RuneCountInString_l0 (s_1 : Str) : Nat → Int → Nat → Option Int
  | 0, _, _ => none
  | k + 1, n_2, v_3 =>
    if (decide (v_3 < s_1.length)) = true then
      unicode_utf8_RuneCountInString_l0 s_1 k (w64 (n_2 + (1 : Int))) (v_3 + runeW s_1 v_3)
    else
      some n_2
noncomputable def unicode_utf8_RuneCountInString (s_1 : Str) : Option Int :=
  (lim fun k => unicode_utf8_RuneCountInString_l0 s_1 k (0 : Int) 0).bind fun n_4 =>
  some n_4
noncomputable def node_Total_l0 (node_Size_r : api_Node → Option Int) : List api_Node → Int → Int → Option Int
  | [], v_5, many_4 =>
    some many_4
  | y_8 :: suf, v_5, many_4 =>
    (node_Size_r y_8).bind fun size_9 =>
    node_Total_l0 node_Size_r suf (v_5 + 1) (w64 (many_4 + size_9))
mutual
noncomputable def node_Size_k : Nat → api_Node → Option Int
  | 0, _ => none
  | kr + 1, n_1 =>
    (node_isText n_1).bind fun istext_2 =>
    if (istext_2) = true then
      (unicode_utf8_RuneCountInString n_1.Text).bind fun runeco_3 =>
      some runeco_3
    else
      ((node_Total_k kr) n_1.Kids).bind fun total_4 =>
      some (w64 ((2 : Int) + total_4))
noncomputable def node_Total_k : Nat → (List api_Node) → Option Int
  | 0, _ => none
  | kr + 1, l_1 =>
    (chk (l_1.length ≤ 9223372036854775807) (node_Total_l0 (node_Size_k kr) l_1 (0 : Int) (0 : Int))).bind fun many_10 =>
    some many_10
end
noncomputable def node_Size (n_1 : api_Node) : Option Int := lim fun kr => node_Size_k kr n_1
noncomputable def node_Total (l_1 : (List api_Node)) : Option Int := lim fun kr => node_Total_k kr l_1
noncomputable def node_Depth_l0 (node_Depth_r : api_Node → Option Int) : List api_Node → Int → Int → Option Int
  | [], v_6, deepest_5 =>
    some deepest_5
  | y_9 :: suf, v_6, deepest_5 =>
    (node_Depth_r y_9).bind fun depth_10 =>
    node_Depth_l0 node_Depth_r suf (v_6 + 1) (if depth_10 > deepest_5 then depth_10 else deepest_5)
noncomputable def node_Depth_k : Nat → api_Node → Option Int
  | 0, _ => none
  | kr + 1, n_1 =>
    (node_isText n_1).bind fun istext_2 =>
    if (istext_2) = true then
      some (0 : Int)
    else
      (chk (n_1.Kids.length ≤ 9223372036854775807) (node_Depth_l0 (node_Depth_k kr) n_1.Kids (0 : Int) (0 : Int))).bind fun deepest_11 =>
      some (w64 (deepest_11 + (1 : Int)))
noncomputable def node_Depth (n_1 : api_Node) : Option Int := lim fun kr => node_Depth_k kr n_1
noncomputable def strings_Trim (s : Str) (cutset : Str) : Option Str :=
  chk (s.length ≤ 9223372036854775807 ∧ cutset.length < 4294967281 ∧ cutset.all (fun b => decide (b.toNat < 128)) = true) (some (Lib.trimS s cutset))
noncomputable def node_Name (s_1 : Str) : Option Bool :=
  (strings_Trim s_1 ([97, 98, 99, 100, 101, 102, 103, 104, 105, 106, 107, 108, 109, 110, 111, 112, 113, 114, 115, 116, 117, 118, 119, 120, 121, 122] : Str)).bind fun trim_2 =>
  if (trim_2 == ([] : Str)) = true then
    if (!(s_1 == ([] : Str))) = true then
      if (decide ((s_1.length : Int) ≤ (8 : Int))) = true then
        some (!(s_1 == ([116, 101, 120, 116] : Str)))
      else
        some false
    else
      some false
  else
    some false
noncomputable def unicode_utf8_ValidString (s : Str) : Option Bool :=
  chk (s.length ≤ 9223372036854775807) (some (Lib.validD s))
noncomputable def node_Value (s_1 : Str) : Option Bool :=
  if (decide ((s_1.length : Int) ≤ (40 : Int))) = true then
    (unicode_utf8_ValidString s_1).bind fun valids_2 =>
    some valids_2
  else
    some false
noncomputable def node_rise_l0 (l_1 : (List Str)) : List Str → Int → Option (Bool ⊕ Unit)
  | [], v_5 =>
    some (.inr ())
  | y_9 :: suf, v_5 =>
    (node_Name y_9).bind fun name_10 =>
    if (!name_10) = true then
      some (.inl false)
    else
      if (decide (v_5 > (0 : Int))) = true then
        (rd l_1 (w64 (v_5 - (1 : Int)))).bind fun x_11 =>
        if ((Op.bytesLess y_9 x_11 || y_9 == x_11)) = true then
          some (.inl false)
        else
          node_rise_l0 l_1 suf (v_5 + 1)
      else
        node_rise_l0 l_1 suf (v_5 + 1)
noncomputable def node_rise (l_1 : (List Str)) : Option Bool :=
  (chk (l_1.length ≤ 9223372036854775807) (node_rise_l0 l_1 l_1 (0 : Int))).bind fun e => match e with
  | .inl res_12 =>
    some res_12
  | .inr _ =>
    some true
noncomputable def slices_Equal_string_l0 (s2_2 : (List Str)) : List Str → Int → Option (Bool ⊕ Unit)
  | [], v_5 =>
    some (.inr ())
  | y_8 :: suf, v_5 =>
    (rd s2_2 v_5).bind fun x_9 =>
    if (!(y_8 == x_9)) = true then
      some (.inl false)
    else
      slices_Equal_string_l0 s2_2 suf (v_5 + 1)
noncomputable def slices_Equal_string (s1_1 : (List Str)) (s2_2 : (List Str)) : Option Bool :=
  if ((s1_1.length : Int) != (s2_2.length : Int)) = true then
    some false
  else
    (chk (s1_1.length ≤ 9223372036854775807) (slices_Equal_string_l0 s2_2 s1_1 (0 : Int))).bind fun e => match e with
    | .inl res_10 =>
      some res_10
    | .inr _ =>
      some true
noncomputable def node_alike (a_1 : api_Node) (b_2 : api_Node) : Option Bool :=
  (node_isText a_1).bind fun istext_3 =>
  if (istext_3) = true then
    (node_isText b_2).bind fun istext_4 =>
    if (istext_4) = true then
      (slices_Equal_string a_1.Marks b_2.Marks).bind fun string_5 =>
      some string_5
    else
      some false
  else
    some false
noncomputable def node_formed_l0 : List api_Attr → Int → (List Str) → Option (Bool ⊕ (List Str))
  | [], v_8, names_9 =>
    some (.inr names_9)
  | y_13 :: suf, v_8, names_9 =>
    (node_Value y_13.Value).bind fun value_14 =>
    if (!value_14) = true then
      some (.inl false)
    else
      (app 16 names_9 [y_13.Name]).bind fun l_15 =>
      node_formed_l0 suf (v_8 + 1) l_15
noncomputable def node_formed_l1 (n_1 : api_Node) (node_formed_r : api_Node → Option Bool) : List api_Node → Int → Option (Bool ⊕ Unit)
  | [], v_26 =>
    some (.inr ())
  | y_31 :: suf, v_26 =>
    (node_formed_r y_31).bind fun formed_32 =>
    if (!formed_32) = true then
      some (.inl false)
    else
      if (decide (v_26 > (0 : Int))) = true then
        (rd n_1.Kids (w64 (v_26 - (1 : Int)))).bind fun x_33 =>
        (node_alike x_33 y_31).bind fun alike_34 =>
        if (alike_34) = true then
          some (.inl false)
        else
          node_formed_l1 n_1 node_formed_r suf (v_26 + 1)
      else
        node_formed_l1 n_1 node_formed_r suf (v_26 + 1)
noncomputable def node_formed_k : Nat → api_Node → Option Bool
  | 0, _ => none
  | kr + 1, n_1 =>
    (node_isText n_1).bind fun istext_2 =>
    if (istext_2) = true then
      if (!(n_1.Text == ([] : Str))) = true then
        (unicode_utf8_ValidString n_1.Text).bind fun valids_3 =>
        if (valids_3) = true then
          (node_rise n_1.Marks).bind fun rise_4 =>
          if (rise_4) = true then
            some ((w64 ((n_1.Attrs.length : Int) + (n_1.Kids.length : Int))) == (0 : Int))
          else
            some false
        else
          some false
      else
        some false
    else
      (chk (n_1.Attrs.length ≤ 9223372036854775807) (node_formed_l0 n_1.Attrs (0 : Int) ([] : List Str))).bind fun e => match e with
      | .inl res_16 =>
        some res_16
      | .inr names_19 =>
        (node_Name n_1.Kind).bind fun name_20 =>
        if (!name_20) = true then
          some false
        else
          if (!(n_1.Text == ([] : Str))) = true then
            some false
          else
            if (decide ((n_1.Marks.length : Int) > (0 : Int))) = true then
              some false
            else
              (node_rise names_19).bind fun rise_21 =>
              if (!rise_21) = true then
                some false
              else
                (chk (n_1.Kids.length ≤ 9223372036854775807) (node_formed_l1 n_1 (node_formed_k kr) n_1.Kids (0 : Int))).bind fun e => match e with
                | .inl res_35 =>
                  some res_35
                | .inr _ =>
                  some true
noncomputable def node_formed (n_1 : api_Node) : Option Bool := lim fun kr => node_formed_k kr n_1
noncomputable def node_Check (n_1 : api_Node) : Option Int :=
  (node_formed n_1).bind fun formed_2 =>
  if (!formed_2) = true then
    some (2 : Int)
  else
    (node_Depth n_1).bind fun depth_3 =>
    if (decide (depth_3 > (40 : Int))) = true then
      some (4 : Int)
    else
      (node_Size n_1).bind fun size_4 =>
      if (decide (size_4 > (4000 : Int))) = true then
        some (5 : Int)
      else
        some (0 : Int)
noncomputable def node_Right (n_1 : api_Node) : Option Bool :=
  (node_Check n_1).bind fun check_2 =>
  some (check_2 == (0 : Int))
noncomputable def diff_alike_1 (x_1 : api_Attr) (y_2 : api_Attr) : Option Bool :=
  some (x_1.Name == y_2.Name)
noncomputable def slices_EqualFunc_api_Attr_diff_alike_1_l0 (s2_2 : (List api_Attr)) : List api_Attr → Int → Option (Bool ⊕ Unit)
  | [], v_6 =>
    some (.inr ())
  | y_10 :: suf, v_6 =>
    (rd s2_2 v_6).bind fun x_11 =>
    (diff_alike_1 y_10 x_11).bind fun f1_12 =>
    if (!f1_12) = true then
      some (.inl false)
    else
      slices_EqualFunc_api_Attr_diff_alike_1_l0 s2_2 suf (v_6 + 1)
noncomputable def slices_EqualFunc_api_Attr_diff_alike_1 (s1_1 : (List api_Attr)) (s2_2 : (List api_Attr)) : Option Bool :=
  if ((s1_1.length : Int) != (s2_2.length : Int)) = true then
    some false
  else
    (chk (s1_1.length ≤ 9223372036854775807) (slices_EqualFunc_api_Attr_diff_alike_1_l0 s2_2 s1_1 (0 : Int))).bind fun e => match e with
    | .inl res_13 =>
      some res_13
    | .inr _ =>
      some true
noncomputable def diff_alike (a_1 : api_Node) (b_2 : api_Node) : Option Bool :=
  if (a_1.Kind == b_2.Kind) = true then
    if (!(a_1.Kind == ([116, 101, 120, 116] : Str))) = true then
      (slices_EqualFunc_api_Attr_diff_alike_1 a_1.Attrs b_2.Attrs).bind fun attr_3 =>
      some attr_3
    else
      some false
  else
    some false
noncomputable def slices_Equal_api_Attr_l0 (s2_2 : (List api_Attr)) : List api_Attr → Int → Option (Bool ⊕ Unit)
  | [], v_5 =>
    some (.inr ())
  | y_8 :: suf, v_5 =>
    (rd s2_2 v_5).bind fun x_9 =>
    if ((((y_8.Name == x_9.Name) && (y_8.Value == x_9.Value)) != true)) = true then
      some (.inl false)
    else
      slices_Equal_api_Attr_l0 s2_2 suf (v_5 + 1)
noncomputable def slices_Equal_api_Attr (s1_1 : (List api_Attr)) (s2_2 : (List api_Attr)) : Option Bool :=
  if ((s1_1.length : Int) != (s2_2.length : Int)) = true then
    some false
  else
    (chk (s1_1.length ≤ 9223372036854775807) (slices_Equal_api_Attr_l0 s2_2 s1_1 (0 : Int))).bind fun e => match e with
    | .inl res_10 =>
      some res_10
    | .inr _ =>
      some true
noncomputable def slices_EqualFunc_api_Node_node_Same_l0 (s2_2 : (List api_Node)) (node_Same_r : api_Node → api_Node → Option Bool) : List api_Node → Int → Option (Bool ⊕ Unit)
  | [], v_6 =>
    some (.inr ())
  | y_10 :: suf, v_6 =>
    (rd s2_2 v_6).bind fun x_11 =>
    (node_Same_r y_10 x_11).bind fun same_12 =>
    if (!same_12) = true then
      some (.inl false)
    else
      slices_EqualFunc_api_Node_node_Same_l0 s2_2 node_Same_r suf (v_6 + 1)
mutual
noncomputable def slices_EqualFunc_api_Node_node_Same_k : Nat → (List api_Node) → (List api_Node) → Option Bool
  | 0, _, _ => none
  | kr + 1, s1_1, s2_2 =>
    if ((s1_1.length : Int) != (s2_2.length : Int)) = true then
      some false
    else
      (chk (s1_1.length ≤ 9223372036854775807) (slices_EqualFunc_api_Node_node_Same_l0 s2_2 (node_Same_k kr) s1_1 (0 : Int))).bind fun e => match e with
      | .inl res_13 =>
        some res_13
      | .inr _ =>
        some true
noncomputable def node_Same_k : Nat → api_Node → api_Node → Option Bool
  | 0, _, _ => none
  | kr + 1, a_1, b_2 =>
    if (a_1.Kind == b_2.Kind) = true then
      if (a_1.Text == b_2.Text) = true then
        (slices_Equal_string a_1.Marks b_2.Marks).bind fun string_3 =>
        if (string_3) = true then
          (slices_Equal_api_Attr a_1.Attrs b_2.Attrs).bind fun attr_4 =>
          if (attr_4) = true then
            ((slices_EqualFunc_api_Node_node_Same_k kr) a_1.Kids b_2.Kids).bind fun node_5 =>
            some node_5
          else
            some false
        else
          some false
      else
        some false
    else
      some false
end
noncomputable def slices_EqualFunc_api_Node_node_Same (s1_1 : (List api_Node)) (s2_2 : (List api_Node)) : Option Bool := lim fun kr => slices_EqualFunc_api_Node_node_Same_k kr s1_1 s2_2
noncomputable def node_Same (a_1 : api_Node) (b_2 : api_Node) : Option Bool := lim fun kr => node_Same_k kr a_1 b_2
noncomputable def diff_change_set_xx_l0 (Attrs_9 : (List api_Attr)) (at__11 : Int) : List api_Attr → Int → (List step_Step) → Option (List step_Step)
  | [], v_20, v_21 =>
    some v_21
  | y_25 :: suf, v_20, v_21 =>
    if (decide (v_20 < (Attrs_9.length : Int))) = true then
      (rd Attrs_9 v_20).bind fun x_26 =>
      if (!(x_26.Value == y_25.Value)) = true then
        (app 80 v_21 [({ Kind := (97 : Int), From := w64 (at__11 - (1 : Int)), To := (0 : Int), Nodes := [], Name := y_25.Name, Value := x_26.Value } : step_Step)]).bind fun l_27 =>
        diff_change_set_xx_l0 Attrs_9 at__11 suf (v_20 + 1) l_27
      else
        diff_change_set_xx_l0 Attrs_9 at__11 suf (v_20 + 1) v_21
    else
      diff_change_set_xx_l0 Attrs_9 at__11 suf (v_20 + 1) v_21
noncomputable def diff_change_set_xx (Kind_1 : Str) (Text_2 : Str) (Marks_3 : (List Str)) (Attrs_4 : (List api_Attr)) (Kids_5 : (List api_Node)) (Kind_6 : Str) (Text_7 : Str) (Marks_8 : (List Str)) (Attrs_9 : (List api_Attr)) (Kids_10 : (List api_Node)) (at__11 : Int) (head_12 : Int) (m_13 : Int) (n_14 : Int) (l_15 : (List Int)) (l_16 : (List step_Step)) : Option (Str × Str × (List Str) × (List api_Attr) × (List api_Node) × Str × Str × (List Str) × (List api_Attr) × (List api_Node) × Int × Int × Int × Int × (List Int) × (List step_Step)) :=
  (chk (Attrs_4.length ≤ 9223372036854775807) (diff_change_set_xx_l0 Attrs_9 at__11 Attrs_4 (0 : Int) l_16)).bind fun v_30 =>
  some (Kind_1, Text_2, Marks_3, Attrs_4, Kids_5, Kind_6, Text_7, Marks_8, Attrs_9, Kids_10, at__11, head_12, m_13, n_14, l_15, v_30)
noncomputable def diff_of_l3 (Kids_63 : (List api_Node)) (Kids_68 : (List api_Node)) : Nat → Int → Option Int
  | 0, _ => none
  | k + 1, c_78 =>
    if (decide (c_78 < (if (Kids_68.length : Int) < (Kids_63.length : Int) then (Kids_68.length : Int) else (Kids_63.length : Int)))) = true then
      (rd Kids_63 c_78).bind fun x_79 =>
      (rd Kids_68 c_78).bind fun x_80 =>
      (node_Same x_79 x_80).bind fun same_81 =>
      if (same_81) = true then
        diff_of_l3 Kids_63 Kids_68 k (w64 (c_78 + (1 : Int)))
      else
        some c_78
    else
      some c_78
noncomputable def diff_of_l4 (Kids_63 : (List api_Node)) (Kids_68 : (List api_Node)) (c_83 : Int) : Nat → Int → Option Int
  | 0, _ => none
  | k + 1, tail_87 =>
    if (decide (tail_87 < (w64 ((if (Kids_68.length : Int) < (Kids_63.length : Int) then (Kids_68.length : Int) else (Kids_63.length : Int)) - c_83)))) = true then
      (rd Kids_63 (w64 ((w64 ((Kids_63.length : Int) - (1 : Int))) - tail_87))).bind fun x_88 =>
      (rd Kids_68 (w64 ((w64 ((Kids_68.length : Int) - (1 : Int))) - tail_87))).bind fun x_89 =>
      (node_Same x_88 x_89).bind fun same_90 =>
      if (same_90) = true then
        diff_of_l4 Kids_63 Kids_68 c_83 k (w64 (tail_87 + (1 : Int)))
      else
        some tail_87
    else
      some tail_87
noncomputable def diff_of_l0 : Nat → Str → Str → (List Str) → (List api_Attr) → (List api_Node) → Str → Str → (List Str) → (List api_Attr) → (List api_Node) → Int → Int → Int → Int → (List Int) → (List step_Step) → Option ((List api_Node) × (List api_Node) × Str × Str × (List Str) × (List api_Attr) × Str × Str × (List Str) × (List api_Attr) × Int × Int × Int × Int × (List Int) × (List step_Step))
  | 0, _, _, _, _, _, _, _, _, _, _, _, _, _, _, _, _ => none
  | k + 1, c_43, c_44, c_45, c_46, c_47, c_48, c_49, c_50, c_51, c_52, c_53, c_54, c_55, c_56, v_57, v_58 =>
    (diff_change_set_xx c_43 c_44 c_45 c_46 c_47 c_48 c_49 c_50 c_51 c_52 c_53 c_54 c_55 c_56 v_57 v_58).bind fun (Kind_59, Text_60, Marks_61, Attrs_62, Kids_63, Kind_64, Text_65, Marks_66, Attrs_67, Kids_68, at__69, head_70, m_71, n_72, l_73, l_74) =>
    chk (v_57.length = l_73.length) (
      (lim fun k => diff_of_l3 Kids_63 Kids_68 k (0 : Int)).bind fun c_83 =>
      (lim fun k => diff_of_l4 Kids_63 Kids_68 c_83 k (0 : Int)).bind fun tail_91 =>
      if ((w64 ((w64 ((Kids_63.length : Int) - c_83)) - tail_91)) != (1 : Int)) = true then
        some (Kids_63, Kids_68, Kind_59, Text_60, Marks_61, Attrs_62, Kind_64, Text_65, Marks_66, Attrs_67, at__69, c_83, w64 ((w64 ((Kids_63.length : Int) - c_83)) - tail_91), w64 ((w64 ((Kids_68.length : Int) - c_83)) - tail_91), l_73, l_74)
      else
        if ((w64 ((w64 ((Kids_68.length : Int) - c_83)) - tail_91)) != (1 : Int)) = true then
          some (Kids_63, Kids_68, Kind_59, Text_60, Marks_61, Attrs_62, Kind_64, Text_65, Marks_66, Attrs_67, at__69, c_83, w64 ((w64 ((Kids_63.length : Int) - c_83)) - tail_91), w64 ((w64 ((Kids_68.length : Int) - c_83)) - tail_91), l_73, l_74)
        else
          (rd Kids_63 c_83).bind fun x_93 =>
          (rd Kids_68 c_83).bind fun x_94 =>
          (diff_alike x_93 x_94).bind fun alike_95 =>
          if (!alike_95) = true then
            some (Kids_63, Kids_68, Kind_59, Text_60, Marks_61, Attrs_62, Kind_64, Text_65, Marks_66, Attrs_67, at__69, c_83, w64 ((w64 ((Kids_63.length : Int) - c_83)) - tail_91), w64 ((w64 ((Kids_68.length : Int) - c_83)) - tail_91), l_73, l_74)
          else
            (app 8 l_73 [c_83]).bind fun l_96 =>
            (sl Kids_63 (0 : Int) c_83).bind fun s_97 =>
            (node_Total s_97).bind fun total_98 =>
            diff_of_l0 k x_93.Kind x_93.Text x_93.Marks x_93.Attrs x_93.Kids x_94.Kind x_94.Text x_94.Marks x_94.Attrs x_94.Kids (w64 (at__69 + (w64 (total_98 + (1 : Int))))) c_83 (w64 ((w64 ((Kids_63.length : Int) - c_83)) - tail_91)) (w64 ((w64 ((Kids_68.length : Int) - c_83)) - tail_91)) l_96 l_74)
noncomputable def diff_of (a_1 : api_Node) (b_2 : api_Node) : Option diff_change :=
  (lim fun k => diff_of_l0 k a_1.Kind a_1.Text a_1.Marks a_1.Attrs a_1.Kids b_2.Kind b_2.Text b_2.Marks b_2.Attrs b_2.Kids (0 : Int) (0 : Int) (0 : Int) (0 : Int) ([] : List Int) ([] : List step_Step)).bind fun (x_99, y_100, c_102, c_103, c_104, c_105, c_106, c_107, c_108, c_109, c_110, c_111, c_112, c_113, v_114, v_115) =>
  some ({ a := ({ Kind := c_102, Text := c_103, Marks := c_104, Attrs := c_105, Kids := x_99 } : api_Node), b := ({ Kind := c_106, Text := c_107, Marks := c_108, Attrs := c_109, Kids := y_100 } : api_Node), path := v_114, at_ := c_110, head := c_111, m := c_112, n := c_113, attrs := v_115 } : diff_change)
noncomputable def diff_Steps (a_1 : api_Node) (b_2 : api_Node) : Option ((List step_Step) × Int) :=
  (node_Right a_1).bind fun right_3 =>
  if (!right_3) = true then
    some ([], (1 : Int))
  else
    (node_Right b_2).bind fun right_4 =>
    if (!right_4) = true then
      some ([], (1 : Int))
    else
      (diff_alike a_1 b_2).bind fun alike_5 =>
      if (!alike_5) = true then
        some ([], (1 : Int))
      else
        (diff_of a_1 b_2).bind fun of_6 =>
        if ((w64 (of_6.m + of_6.n)) == (0 : Int)) = true then
          some (of_6.attrs, (0 : Int))
        else
          (sl of_6.a.Kids (0 : Int) of_6.head).bind fun s_7 =>
          (node_Total s_7).bind fun total_8 =>
          (sl of_6.a.Kids of_6.head (w64 (of_6.head + of_6.m))).bind fun s_9 =>
          (node_Total s_9).bind fun total_10 =>
          (sl of_6.b.Kids of_6.head (w64 (of_6.head + of_6.n))).bind fun s_11 =>
          (node_Copy ({ Kind := ([] : Str), Text := ([] : Str), Marks := [], Attrs := [], Kids := s_11 } : api_Node)).bind fun copy_12 =>
          (app 80 of_6.attrs [({ Kind := (114 : Int), From := w64 (of_6.at_ + total_8), To := w64 ((w64 (of_6.at_ + total_8)) + total_10), Nodes := copy_12.Kids, Name := ([] : Str), Value := ([] : Str) } : step_Step)]).bind fun l_13 =>
          some (l_13, (0 : Int))
noncomputable def diptychlaw18_shown : Option Bool :=
  (diff_Steps ({ Kind := ([100, 111, 99] : Str), Text := ([] : Str), Marks := [], Attrs := [], Kids := [({ Kind := ([112] : Str), Text := ([] : Str), Marks := [], Attrs := [], Kids := [({ Kind := ([116, 101, 120, 116] : Str), Text := ([104, 105] : Str), Marks := [], Attrs := [], Kids := [] } : api_Node)] } : api_Node), ({ Kind := ([113] : Str), Text := ([] : Str), Marks := [], Attrs := [], Kids := [] } : api_Node)] } : api_Node) ({ Kind := ([100, 111, 99] : Str), Text := ([] : Str), Marks := [], Attrs := [], Kids := [({ Kind := ([112] : Str), Text := ([] : Str), Marks := [], Attrs := [], Kids := [({ Kind := ([116, 101, 120, 116] : Str), Text := ([104, 111] : Str), Marks := [], Attrs := [], Kids := [] } : api_Node)] } : api_Node), ({ Kind := ([113] : Str), Text := ([] : Str), Marks := [], Attrs := [], Kids := [] } : api_Node)] } : api_Node)).bind fun (r_1, r_2) =>
  if (r_2 == (0 : Int)) = true then
    if ((r_1.length : Int) == (1 : Int)) = true then
      (rd r_1 (0 : Int)).bind fun x_3 =>
      if (x_3.Kind == (114 : Int)) = true then
        if (x_3.From == (1 : Int)) = true then
          if (x_3.To == (3 : Int)) = true then
            if ((x_3.Nodes.length : Int) == (1 : Int)) = true then
              (rd x_3.Nodes (0 : Int)).bind fun x_4 =>
              some (x_4.Text == ([104, 111] : Str))
            else
              some false
          else
            some false
        else
          some false
      else
        some false
    else
      some false
  else
    some false
noncomputable def diptychlaw18_light_l0 : List Str → Int → Int → Option Int
  | [], i_5, left_4 =>
    some left_4
  | y_7 :: suf, i_5, left_4 =>
    if (decide (left_4 > (0 : Int))) = true then
      diptychlaw18_light_l0 suf (i_5 + 1) (w64 ((w64 (left_4 - (1 : Int))) - (y_7.length : Int)))
    else
      some left_4
noncomputable def diptychlaw18_light_l1 : List api_Attr → Int → Int → Option Int
  | [], i_13, left_12 =>
    some left_12
  | y_15 :: suf, i_13, left_12 =>
    if (decide (left_12 > (0 : Int))) = true then
      diptychlaw18_light_l1 suf (i_13 + 1) (w64 ((w64 ((w64 (left_12 - (1 : Int))) - (y_15.Name.length : Int))) - (y_15.Value.length : Int)))
    else
      some left_12
noncomputable def diptychlaw18_light_l2 (diptychlaw18_light_r : api_Node → Int → Option Int) : List api_Node → Int → Int → Option Int
  | [], i_22, left_21 =>
    some left_21
  | y_25 :: suf, i_22, left_21 =>
    if (decide (left_21 > (0 : Int))) = true then
      (diptychlaw18_light_r y_25 left_21).bind fun light_26 =>
      diptychlaw18_light_l2 diptychlaw18_light_r suf (i_22 + 1) light_26
    else
      some left_21
noncomputable def diptychlaw18_light_k : Nat → api_Node → Int → Option Int
  | 0, _, _ => none
  | kr + 1, n_1, left_2 =>
    (chk (n_1.Marks.length ≤ 9223372036854775807) (diptychlaw18_light_l0 n_1.Marks (0 : Int) (w64 ((w64 ((w64 (left_2 - (1 : Int))) - (n_1.Kind.length : Int))) - (n_1.Text.length : Int))))).bind fun left_8 =>
    (chk (n_1.Attrs.length ≤ 9223372036854775807) (diptychlaw18_light_l1 n_1.Attrs (0 : Int) left_8)).bind fun left_16 =>
    (chk (n_1.Kids.length ≤ 9223372036854775807) (diptychlaw18_light_l2 (diptychlaw18_light_k kr) n_1.Kids (0 : Int) left_16)).bind fun left_27 =>
    if (decide (left_27 < (1 : Int))) = true then
      some (-1 : Int)
    else
      some left_27
noncomputable def diptychlaw18_light (n_1 : api_Node) (left_2 : Int) : Option Int := lim fun kr => diptychlaw18_light_k kr n_1 left_2
noncomputable def diptychref18_alike_l0 (b_2 : api_Node) : List api_Attr → Int → Option (Bool ⊕ Unit)
  | [], i_5 =>
    some (.inr ())
  | y_8 :: suf, i_5 =>
    (rd b_2.Attrs i_5).bind fun x_9 =>
    if (!(y_8.Name == x_9.Name)) = true then
      some (.inl false)
    else
      diptychref18_alike_l0 b_2 suf (i_5 + 1)
noncomputable def diptychref18_alike (a_1 : api_Node) (b_2 : api_Node) : Option Bool :=
  if (a_1.Kind == ([116, 101, 120, 116] : Str)) = true then
    some false
  else
    if (b_2.Kind == ([116, 101, 120, 116] : Str)) = true then
      some false
    else
      if (!(a_1.Kind == b_2.Kind)) = true then
        some false
      else
        if ((a_1.Attrs.length : Int) != (b_2.Attrs.length : Int)) = true then
          some false
        else
          (chk (a_1.Attrs.length ≤ 9223372036854775807) (diptychref18_alike_l0 b_2 a_1.Attrs (0 : Int))).bind fun e => match e with
          | .inl res_10 =>
            some res_10
          | .inr _ =>
            some true
noncomputable def diptychref1_sameNames_l0 (b_2 : (List Str)) : List Str → Int → Option (Bool ⊕ Unit)
  | [], i_5 =>
    some (.inr ())
  | y_8 :: suf, i_5 =>
    (rd b_2 i_5).bind fun x_9 =>
    if (!(y_8 == x_9)) = true then
      some (.inl false)
    else
      diptychref1_sameNames_l0 b_2 suf (i_5 + 1)
noncomputable def diptychref1_sameNames (a_1 : (List Str)) (b_2 : (List Str)) : Option Bool :=
  if ((a_1.length : Int) != (b_2.length : Int)) = true then
    some false
  else
    (chk (a_1.length ≤ 9223372036854775807) (diptychref1_sameNames_l0 b_2 a_1 (0 : Int))).bind fun e => match e with
    | .inl res_10 =>
      some res_10
    | .inr _ =>
      some true
noncomputable def diptychref1_SameAll_l0 (b_2 : (List api_Node)) (diptychref1_Same_r : api_Node → api_Node → Option Bool) : List api_Node → Int → Option (Bool ⊕ Unit)
  | [], i_6 =>
    some (.inr ())
  | y_10 :: suf, i_6 =>
    (rd b_2 i_6).bind fun x_11 =>
    (diptychref1_Same_r y_10 x_11).bind fun same_12 =>
    if (!same_12) = true then
      some (.inl false)
    else
      diptychref1_SameAll_l0 b_2 diptychref1_Same_r suf (i_6 + 1)
noncomputable def diptychref1_Same_l0 (b_2 : api_Node) : List api_Attr → Int → Option (Bool ⊕ Unit)
  | [], i_6 =>
    some (.inr ())
  | y_9 :: suf, i_6 =>
    (rd b_2.Attrs i_6).bind fun x_10 =>
    if ((((y_9.Name == x_10.Name) && (y_9.Value == x_10.Value)) != true)) = true then
      some (.inl false)
    else
      diptychref1_Same_l0 b_2 suf (i_6 + 1)
mutual
noncomputable def diptychref1_SameAll_k : Nat → (List api_Node) → (List api_Node) → Option Bool
  | 0, _, _ => none
  | kr + 1, a_1, b_2 =>
    if ((a_1.length : Int) != (b_2.length : Int)) = true then
      some false
    else
      (chk (a_1.length ≤ 9223372036854775807) (diptychref1_SameAll_l0 b_2 (diptychref1_Same_k kr) a_1 (0 : Int))).bind fun e => match e with
      | .inl res_13 =>
        some res_13
      | .inr _ =>
        some true
noncomputable def diptychref1_Same_k : Nat → api_Node → api_Node → Option Bool
  | 0, _, _ => none
  | kr + 1, a_1, b_2 =>
    if (!(a_1.Kind == b_2.Kind)) = true then
      some false
    else
      if (!(a_1.Text == b_2.Text)) = true then
        some false
      else
        (diptychref1_sameNames a_1.Marks b_2.Marks).bind fun samena_3 =>
        if (!samena_3) = true then
          some false
        else
          if ((a_1.Attrs.length : Int) != (b_2.Attrs.length : Int)) = true then
            some false
          else
            (chk (a_1.Attrs.length ≤ 9223372036854775807) (diptychref1_Same_l0 b_2 a_1.Attrs (0 : Int))).bind fun e => match e with
            | .inl res_11 =>
              some res_11
            | .inr _ =>
              ((diptychref1_SameAll_k kr) a_1.Kids b_2.Kids).bind fun sameal_14 =>
              some sameal_14
end
noncomputable def diptychref1_SameAll (a_1 : (List api_Node)) (b_2 : (List api_Node)) : Option Bool := lim fun kr => diptychref1_SameAll_k kr a_1 b_2
noncomputable def diptychref1_Same (a_1 : api_Node) (b_2 : api_Node) : Option Bool := lim fun kr => diptychref1_Same_k kr a_1 b_2
noncomputable def diptychref18_Where_l0 (b_2 : api_Node) : List api_Node → Int → Option Int
  | [], head_6 =>
    some head_6
  | y_10 :: suf, head_6 =>
    if (decide (head_6 < (b_2.Kids.length : Int))) = true then
      (rd b_2.Kids head_6).bind fun x_11 =>
      (diptychref1_Same y_10 x_11).bind fun same_12 =>
      if (same_12) = true then
        diptychref18_Where_l0 b_2 suf (head_6 + 1)
      else
        some head_6
    else
      some head_6
noncomputable def diptychref18_Where_l1 (a_1 : api_Node) (b_2 : api_Node) (head_13 : Int) : Nat → Int → Int → Option (Int × Int)
  | 0, _, _ => none
  | k + 1, x_18, y_19 =>
    if (decide (x_18 > head_13)) = true then
      if (decide (y_19 > head_13)) = true then
        (rd a_1.Kids (w64 (x_18 - (1 : Int)))).bind fun x_20 =>
        (rd b_2.Kids (w64 (y_19 - (1 : Int)))).bind fun x_21 =>
        (diptychref1_Same x_20 x_21).bind fun same_22 =>
        if (same_22) = true then
          diptychref18_Where_l1 a_1 b_2 head_13 k (w64 (x_18 - (1 : Int))) (w64 (y_19 - (1 : Int)))
        else
          some (x_18, y_19)
      else
        some (x_18, y_19)
    else
      some (x_18, y_19)
noncomputable def diptychref18_Where_k : Nat → api_Node → api_Node → Option ((List Int) × Int × Int × Int)
  | 0, _, _ => none
  | kr + 1, a_1, b_2 =>
    (chk (a_1.Kids.length ≤ 9223372036854775807) (diptychref18_Where_l0 b_2 a_1.Kids (0 : Int))).bind fun head_13 =>
    (lim fun k => diptychref18_Where_l1 a_1 b_2 head_13 k (a_1.Kids.length : Int) (b_2.Kids.length : Int)).bind fun (x_23, y_24) =>
    if (x_23 == (w64 (head_13 + (1 : Int)))) = true then
      if (y_24 == (w64 (head_13 + (1 : Int)))) = true then
        (rd a_1.Kids head_13).bind fun x_26 =>
        (rd b_2.Kids head_13).bind fun x_27 =>
        (diptychref18_alike x_26 x_27).bind fun alike_28 =>
        if (alike_28) = true then
          ((diptychref18_Where_k kr) x_26 x_27).bind fun (r_29, r_30, r_31, r_32) =>
          (app 8 [head_13] r_29).bind fun l_33 =>
          some (l_33, r_30, r_31, r_32)
        else
          some ([], head_13, w64 (x_23 - head_13), w64 (y_24 - head_13))
      else
        some ([], head_13, w64 (x_23 - head_13), w64 (y_24 - head_13))
    else
      some ([], head_13, w64 (x_23 - head_13), w64 (y_24 - head_13))
noncomputable def diptychref18_Where (a_1 : api_Node) (b_2 : api_Node) : Option ((List Int) × Int × Int × Int) := lim fun kr => diptychref18_Where_k kr a_1 b_2
noncomputable def diptychref1_Depth_l0 (diptychref1_Depth_r : api_Node → Option Int) : List api_Node → Int → Int → Option Int
  | [], i_5, d_4 =>
    some d_4
  | y_8 :: suf, i_5, d_4 =>
    (diptychref1_Depth_r y_8).bind fun depth_9 =>
    diptychref1_Depth_l0 diptychref1_Depth_r suf (i_5 + 1) (if depth_9 > d_4 then depth_9 else d_4)
noncomputable def diptychref1_Depth_k : Nat → api_Node → Option Int
  | 0, _ => none
  | kr + 1, n_1 =>
    if (n_1.Kind == ([116, 101, 120, 116] : Str)) = true then
      some (0 : Int)
    else
      (chk (n_1.Kids.length ≤ 9223372036854775807) (diptychref1_Depth_l0 (diptychref1_Depth_k kr) n_1.Kids (0 : Int) (0 : Int))).bind fun d_10 =>
      some (w64 (d_10 + (1 : Int)))
noncomputable def diptychref1_Depth (n_1 : api_Node) : Option Int := lim fun kr => diptychref1_Depth_k kr n_1
noncomputable def diptychref1_runes (s_1 : Str) : Option ((List Int) × Bool) :=
  some (runes s_1, (runesStr (runes s_1)) == s_1)
noncomputable def diptychref1_formed (s_1 : Str) : Option Bool :=
  (diptychref1_runes s_1).bind fun (r_2, r_3) =>
  some r_3
noncomputable def diptychref1_Name_l0 (s_1 : Str) : Nat → Int → Option (Bool ⊕ Unit)
  | 0, _ => none
  | k + 1, i_2 =>
    if (decide (i_2 < (s_1.length : Int))) = true then
      chk (0 ≤ i_2 ∧ i_2 < (s_1.length : Int)) (
        if (decide (((s_1.getD i_2.toNat 0).toNat : Int) < (97 : Int))) = true then
          some (.inl false)
        else
          chk (0 ≤ i_2 ∧ i_2 < (s_1.length : Int)) (
            if (decide (((s_1.getD i_2.toNat 0).toNat : Int) > (122 : Int))) = true then
              some (.inl false)
            else
              diptychref1_Name_l0 s_1 k (w64 (i_2 + (1 : Int)))))
    else
      some (.inr ())
noncomputable def diptychref1_Name (s_1 : Str) : Option Bool :=
  (lim fun k => diptychref1_Name_l0 s_1 k (0 : Int)).bind fun e => match e with
  | .inl res_3 =>
    some res_3
  | .inr _ =>
    if (decide ((s_1.length : Int) ≥ (1 : Int))) = true then
      if (decide ((s_1.length : Int) ≤ (8 : Int))) = true then
        some (!(s_1 == ([116, 101, 120, 116] : Str)))
      else
        some false
    else
      some false
noncomputable def diptychref1_rise_l0 (l_1 : (List Str)) : List Str → Int → Option (Bool ⊕ Unit)
  | [], i_5 =>
    some (.inr ())
  | y_9 :: suf, i_5 =>
    (diptychref1_Name y_9).bind fun name_10 =>
    if (!name_10) = true then
      some (.inl false)
    else
      if (decide (i_5 > (0 : Int))) = true then
        (rd l_1 (w64 (i_5 - (1 : Int)))).bind fun x_11 =>
        if ((Op.bytesLess y_9 x_11 || y_9 == x_11)) = true then
          some (.inl false)
        else
          diptychref1_rise_l0 l_1 suf (i_5 + 1)
      else
        diptychref1_rise_l0 l_1 suf (i_5 + 1)
noncomputable def diptychref1_rise (l_1 : (List Str)) : Option Bool :=
  (chk (l_1.length ≤ 9223372036854775807) (diptychref1_rise_l0 l_1 l_1 (0 : Int))).bind fun e => match e with
  | .inl res_12 =>
    some res_12
  | .inr _ =>
    some true
noncomputable def diptychref1_Value (s_1 : Str) : Option Bool :=
  if (decide ((s_1.length : Int) ≤ (40 : Int))) = true then
    (diptychref1_formed s_1).bind fun formed_2 =>
    some formed_2
  else
    some false
noncomputable def diptychref1_Formed_l0 : List api_Attr → Int → (List Str) → Option (Bool ⊕ (List Str))
  | [], i_7, names_8 =>
    some (.inr names_8)
  | y_12 :: suf, i_7, names_8 =>
    (app 16 names_8 [y_12.Name]).bind fun l_13 =>
    (diptychref1_Value y_12.Value).bind fun value_14 =>
    if (!value_14) = true then
      some (.inl false)
    else
      diptychref1_Formed_l0 suf (i_7 + 1) l_13
noncomputable def diptychref1_Formed_l1 (n_1 : api_Node) (diptychref1_Formed_r : api_Node → Option Bool) : List api_Node → Int → Option (Bool ⊕ Unit)
  | [], i_25 =>
    some (.inr ())
  | y_30 :: suf, i_25 =>
    (diptychref1_Formed_r y_30).bind fun formed_31 =>
    if (!formed_31) = true then
      some (.inl false)
    else
      if (decide (i_25 > (0 : Int))) = true then
        if (y_30.Kind == ([116, 101, 120, 116] : Str)) = true then
          (rd n_1.Kids (w64 (i_25 - (1 : Int)))).bind fun x_32 =>
          if (x_32.Kind == ([116, 101, 120, 116] : Str)) = true then
            (diptychref1_sameNames y_30.Marks x_32.Marks).bind fun samena_33 =>
            if (samena_33) = true then
              some (.inl false)
            else
              diptychref1_Formed_l1 n_1 diptychref1_Formed_r suf (i_25 + 1)
          else
            diptychref1_Formed_l1 n_1 diptychref1_Formed_r suf (i_25 + 1)
        else
          diptychref1_Formed_l1 n_1 diptychref1_Formed_r suf (i_25 + 1)
      else
        diptychref1_Formed_l1 n_1 diptychref1_Formed_r suf (i_25 + 1)
noncomputable def diptychref1_Formed_k : Nat → api_Node → Option Bool
  | 0, _ => none
  | kr + 1, n_1 =>
    if (n_1.Kind == ([116, 101, 120, 116] : Str)) = true then
      if (!(n_1.Text == ([] : Str))) = true then
        (diptychref1_formed n_1.Text).bind fun formed_2 =>
        if (formed_2) = true then
          (diptychref1_rise n_1.Marks).bind fun rise_3 =>
          if (rise_3) = true then
            if ((n_1.Attrs.length : Int) == (0 : Int)) = true then
              some ((n_1.Kids.length : Int) == (0 : Int))
            else
              some false
          else
            some false
        else
          some false
      else
        some false
    else
      (chk (n_1.Attrs.length ≤ 9223372036854775807) (diptychref1_Formed_l0 n_1.Attrs (0 : Int) ([] : List Str))).bind fun e => match e with
      | .inl res_15 =>
        some res_15
      | .inr names_18 =>
        (diptychref1_Name n_1.Kind).bind fun name_19 =>
        if (!name_19) = true then
          some false
        else
          if (!(n_1.Text == ([] : Str))) = true then
            some false
          else
            if (decide ((n_1.Marks.length : Int) > (0 : Int))) = true then
              some false
            else
              (diptychref1_rise names_18).bind fun rise_20 =>
              if (!rise_20) = true then
                some false
              else
                (chk (n_1.Kids.length ≤ 9223372036854775807) (diptychref1_Formed_l1 n_1 (diptychref1_Formed_k kr) n_1.Kids (0 : Int))).bind fun e => match e with
                | .inl res_34 =>
                  some res_34
                | .inr _ =>
                  some true
noncomputable def diptychref1_Formed (n_1 : api_Node) : Option Bool := lim fun kr => diptychref1_Formed_k kr n_1
noncomputable def diptychref1_Total_l0 (diptychref1_Size_r : api_Node → Option Int) : List api_Node → Int → Int → Option Int
  | [], i_5, many_4 =>
    some many_4
  | y_8 :: suf, i_5, many_4 =>
    (diptychref1_Size_r y_8).bind fun size_9 =>
    diptychref1_Total_l0 diptychref1_Size_r suf (i_5 + 1) (w64 (many_4 + size_9))
mutual
noncomputable def diptychref1_Total_k : Nat → (List api_Node) → Option Int
  | 0, _ => none
  | kr + 1, l_1 =>
    (chk (l_1.length ≤ 9223372036854775807) (diptychref1_Total_l0 (diptychref1_Size_k kr) l_1 (0 : Int) (0 : Int))).bind fun many_10 =>
    some many_10
noncomputable def diptychref1_Size_k : Nat → api_Node → Option Int
  | 0, _ => none
  | kr + 1, n_1 =>
    if (n_1.Kind == ([116, 101, 120, 116] : Str)) = true then
      (diptychref1_runes n_1.Text).bind fun (r_2, r_3) =>
      some (r_2.length : Int)
    else
      ((diptychref1_Total_k kr) n_1.Kids).bind fun total_4 =>
      some (w64 ((2 : Int) + total_4))
end
noncomputable def diptychref1_Total (l_1 : (List api_Node)) : Option Int := lim fun kr => diptychref1_Total_k kr l_1
noncomputable def diptychref1_Size (n_1 : api_Node) : Option Int := lim fun kr => diptychref1_Size_k kr n_1
noncomputable def diptychref1_Check (n_1 : api_Node) : Option Int :=
  (diptychref1_Formed n_1).bind fun formed_2 =>
  if (!formed_2) = true then
    some (2 : Int)
  else
    (diptychref1_Depth n_1).bind fun depth_3 =>
    if (decide (depth_3 > (40 : Int))) = true then
      some (4 : Int)
    else
      (diptychref1_Size n_1).bind fun size_4 =>
      if (decide (size_4 > (4000 : Int))) = true then
        some (5 : Int)
      else
        some (0 : Int)
noncomputable def diptychref4_Inner_l0 : List Int → Int → api_Node → Option ((api_Node × Int) ⊕ api_Node)
  | [], i_6, n_5 =>
    some (.inr n_5)
  | y_9 :: suf, i_6, n_5 =>
    if (decide (y_9 < (0 : Int))) = true then
      some (.inl (({ Kind := ([] : Str), Text := ([] : Str), Marks := [], Attrs := [], Kids := [] } : api_Node), (9 : Int)))
    else
      if (decide (y_9 ≥ (n_5.Kids.length : Int))) = true then
        some (.inl (({ Kind := ([] : Str), Text := ([] : Str), Marks := [], Attrs := [], Kids := [] } : api_Node), (9 : Int)))
      else
        if (n_5.Kind == ([116, 101, 120, 116] : Str)) = true then
          some (.inl (({ Kind := ([] : Str), Text := ([] : Str), Marks := [], Attrs := [], Kids := [] } : api_Node), (9 : Int)))
        else
          (rd n_5.Kids y_9).bind fun x_10 =>
          diptychref4_Inner_l0 suf (i_6 + 1) x_10
noncomputable def diptychref4_Inner (n_1 : api_Node) (path_2 : (List Int)) : Option (api_Node × Int) :=
  (chk (path_2.length ≤ 9223372036854775807) (diptychref4_Inner_l0 path_2 (0 : Int) n_1)).bind fun e => match e with
  | .inl res_11 =>
    some res_11
  | .inr n_14 =>
    if (n_14.Kind == ([116, 101, 120, 116] : Str)) = true then
      some (({ Kind := ([] : Str), Text := ([] : Str), Marks := [], Attrs := [], Kids := [] } : api_Node), (9 : Int))
    else
      some (n_14, (0 : Int))
noncomputable def diptychref4_Start_l0 : List Int → Int → Int → api_Node → Option Int
  | [], i_11, at_10, n_9 =>
    some at_10
  | y_16 :: suf, i_11, at_10, n_9 =>
    (sl n_9.Kids (0 : Int) y_16).bind fun s_17 =>
    (diptychref1_Total s_17).bind fun total_18 =>
    (rd n_9.Kids y_16).bind fun x_19 =>
    diptychref4_Start_l0 suf (i_11 + 1) (w64 ((w64 (at_10 + total_18)) + (1 : Int))) x_19
noncomputable def diptychref4_Start (n_1 : api_Node) (path_2 : (List Int)) : Option (Int × Int) :=
  (diptychref4_Inner n_1 path_2).bind fun (r_3, r_4) =>
  if (r_4 != (0 : Int)) = true then
    some ((0 : Int), r_4)
  else
    (chk (path_2.length ≤ 9223372036854775807) (diptychref4_Start_l0 path_2 (0 : Int) (0 : Int) n_1)).bind fun at_20 =>
    some (at_20, (0 : Int))
noncomputable def diptychref18_Steps_l2 (r_39 : api_Node) (r_42 : Int) : List api_Attr → Int → (List diptychref11_Step) → Option (List diptychref11_Step)
  | [], k_47, out_48 =>
    some out_48
  | y_52 :: suf, k_47, out_48 =>
    (rd r_39.Attrs k_47).bind fun x_53 =>
    if (!(y_52.Value == x_53.Value)) = true then
      (app 80 out_48 [({ Kind := (97 : Int), From := w64 (r_42 - (1 : Int)), To := (0 : Int), Nodes := [], Name := y_52.Name, Value := x_53.Value } : diptychref11_Step)]).bind fun l_54 =>
      diptychref18_Steps_l2 r_39 r_42 suf (k_47 + 1) l_54
    else
      diptychref18_Steps_l2 r_39 r_42 suf (k_47 + 1) out_48
noncomputable def diptychref18_Steps_l0 (a_1 : api_Node) (b_2 : api_Node) (r_6 : (List Int)) : Nat → Int → (List diptychref11_Step) → Option (List diptychref11_Step)
  | 0, _, _ => none
  | k + 1, i_33, out_34 =>
    if (decide (i_33 ≤ (r_6.length : Int))) = true then
      (sl r_6 (0 : Int) i_33).bind fun s_35 =>
      (diptychref4_Inner a_1 s_35).bind fun (r_36, r_37) =>
      (sl r_6 (0 : Int) i_33).bind fun s_38 =>
      (diptychref4_Inner b_2 s_38).bind fun (r_39, r_40) =>
      (sl r_6 (0 : Int) i_33).bind fun s_41 =>
      (diptychref4_Start a_1 s_41).bind fun (r_42, r_43) =>
      (chk (r_36.Attrs.length ≤ 9223372036854775807) (diptychref18_Steps_l2 r_39 r_42 r_36.Attrs (0 : Int) out_34)).bind fun out_57 =>
      diptychref18_Steps_l0 a_1 b_2 r_6 k (w64 (i_33 + (1 : Int))) out_57
    else
      some out_34
noncomputable def diptychref18_Steps (a_1 : api_Node) (b_2 : api_Node) : Option ((List diptychref11_Step) × Int) :=
  (diptychref1_Check a_1).bind fun check_3 =>
  if (check_3 != (0 : Int)) = true then
    some ([], (1 : Int))
  else
    (diptychref1_Check b_2).bind fun check_4 =>
    if (check_4 != (0 : Int)) = true then
      some ([], (1 : Int))
    else
      (diptychref18_alike a_1 b_2).bind fun alike_5 =>
      if (!alike_5) = true then
        some ([], (1 : Int))
      else
        (diptychref18_Where a_1 b_2).bind fun (r_6, r_7, r_8, r_9) =>
        (lim fun k => diptychref18_Steps_l0 a_1 b_2 r_6 k (0 : Int) ([] : List diptychref11_Step)).bind fun out_60 =>
        if ((w64 (r_8 + r_9)) == (0 : Int)) = true then
          some (out_60, (0 : Int))
        else
          (diptychref4_Inner a_1 r_6).bind fun (r_61, r_62) =>
          (diptychref4_Inner b_2 r_6).bind fun (r_63, r_64) =>
          (diptychref4_Start a_1 r_6).bind fun (r_65, r_66) =>
          (sl r_61.Kids (0 : Int) r_7).bind fun s_67 =>
          (diptychref1_Total s_67).bind fun total_68 =>
          (sl r_61.Kids r_7 (w64 (r_7 + r_8))).bind fun s_69 =>
          (diptychref1_Total s_69).bind fun total_70 =>
          (sl r_63.Kids r_7 (w64 (r_7 + r_9))).bind fun s_71 =>
          (app 80 out_60 [({ Kind := (114 : Int), From := w64 (r_65 + total_68), To := w64 ((w64 (r_65 + total_68)) + total_70), Nodes := s_71, Name := ([] : Str), Value := ([] : Str) } : diptychref11_Step)]).bind fun l_72 =>
          some (l_72, (0 : Int))
noncomputable def diptychlaw18_sameStep (a_1 : step_Step) (b_2 : diptychref11_Step) : Option Bool :=
  if (a_1.Kind == b_2.Kind) = true then
    if (a_1.From == b_2.From) = true then
      if (a_1.To == b_2.To) = true then
        (diptychref1_SameAll a_1.Nodes b_2.Nodes).bind fun sameal_3 =>
        if (sameal_3) = true then
          if (a_1.Name == b_2.Name) = true then
            some (a_1.Value == b_2.Value)
          else
            some false
        else
          some false
      else
        some false
    else
      some false
  else
    some false
noncomputable def diptychlaw18_sameSteps_l0 (b_2 : (List diptychref11_Step)) : List step_Step → Int → Option (Bool ⊕ Unit)
  | [], i_6 =>
    some (.inr ())
  | y_10 :: suf, i_6 =>
    (rd b_2 i_6).bind fun x_11 =>
    (diptychlaw18_sameStep y_10 x_11).bind fun samest_12 =>
    if (!samest_12) = true then
      some (.inl false)
    else
      diptychlaw18_sameSteps_l0 b_2 suf (i_6 + 1)
noncomputable def diptychlaw18_sameSteps (a_1 : (List step_Step)) (b_2 : (List diptychref11_Step)) : Option Bool :=
  if ((a_1.length : Int) != (b_2.length : Int)) = true then
    some false
  else
    (chk (a_1.length ≤ 9223372036854775807) (diptychlaw18_sameSteps_l0 b_2 a_1 (0 : Int))).bind fun e => match e with
    | .inl res_13 =>
      some res_13
    | .inr _ =>
      some true
noncomputable def diff_Where (a_1 : api_Node) (b_2 : api_Node) : Option ((List Int) × Int × Int × Int) :=
  (diff_of a_1 b_2).bind fun of_3 =>
  some (of_3.path, of_3.head, of_3.m, of_3.n)
noncomputable def diptychlaw18_same_l0 (b_2 : (List Int)) : List Int → Int → Option (Bool ⊕ Unit)
  | [], i_5 =>
    some (.inr ())
  | y_8 :: suf, i_5 =>
    (rd b_2 i_5).bind fun x_9 =>
    if (y_8 != x_9) = true then
      some (.inl false)
    else
      diptychlaw18_same_l0 b_2 suf (i_5 + 1)
noncomputable def diptychlaw18_same (a_1 : (List Int)) (b_2 : (List Int)) : Option Bool :=
  if ((a_1.length : Int) != (b_2.length : Int)) = true then
    some false
  else
    (chk (a_1.length ≤ 9223372036854775807) (diptychlaw18_same_l0 b_2 a_1 (0 : Int))).bind fun e => match e with
    | .inl res_10 =>
      some res_10
    | .inr _ =>
      some true
noncomputable def diptychlaw18_DiffSteps (a_1 : api_Node) (b_2 : api_Node) : Option Bool :=
  (diptychlaw18_shown).bind fun shown_3 =>
  if (!shown_3) = true then
    some shown_3
  else
    (diptychlaw18_light a_1 (1500 : Int)).bind fun light_4 =>
    if (decide (light_4 < (0 : Int))) = true then
      some shown_3
    else
      (diptychlaw18_light b_2 (1500 : Int)).bind fun light_5 =>
      if (decide (light_5 < (0 : Int))) = true then
        some shown_3
      else
        (diff_Steps a_1 b_2).bind fun (r_6, r_7) =>
        (diptychref18_Steps a_1 b_2).bind fun (r_8, r_9) =>
        (diptychlaw18_sameSteps r_6 r_8).bind fun samest_10 =>
        if (!samest_10) = true then
          some false
        else
          if (r_7 != r_9) = true then
            some false
          else
            if (r_7 != (0 : Int)) = true then
              some true
            else
              (diff_Where a_1 b_2).bind fun (r_11, r_12, r_13, r_14) =>
              (diptychref18_Where a_1 b_2).bind fun (r_15, r_16, r_17, r_18) =>
              (diptychlaw18_same r_11 r_15).bind fun same_19 =>
              if (same_19) = true then
                if (r_12 == r_16) = true then
                  if (r_13 == r_17) = true then
                    some (r_14 == r_18)
                  else
                    some false
                else
                  some false
              else
                some false
noncomputable def diff_change_set_x_l0 (Attrs_9 : (List api_Attr)) (at__12 : Int) : List api_Attr → Int → (List step_Step) → Option (List step_Step)
  | [], v_20, v_21 =>
    some v_21
  | y_25 :: suf, v_20, v_21 =>
    if (decide (v_20 < (Attrs_9.length : Int))) = true then
      (rd Attrs_9 v_20).bind fun x_26 =>
      if (!(x_26.Value == y_25.Value)) = true then
        (app 80 v_21 [({ Kind := (97 : Int), From := w64 (at__12 - (1 : Int)), To := (0 : Int), Nodes := [], Name := y_25.Name, Value := x_26.Value } : step_Step)]).bind fun l_27 =>
        diff_change_set_x_l0 Attrs_9 at__12 suf (v_20 + 1) l_27
      else
        diff_change_set_x_l0 Attrs_9 at__12 suf (v_20 + 1) v_21
    else
      diff_change_set_x_l0 Attrs_9 at__12 suf (v_20 + 1) v_21
noncomputable def diff_change_set_x (Kind_1 : Str) (Text_2 : Str) (Marks_3 : (List Str)) (Attrs_4 : (List api_Attr)) (Kids_5 : (List api_Node)) (Kind_6 : Str) (Text_7 : Str) (Marks_8 : (List Str)) (Attrs_9 : (List api_Attr)) (Kids_10 : (List api_Node)) (path_11 : (List Int)) (at__12 : Int) (head_13 : Int) (m_14 : Int) (n_15 : Int) (l_16 : (List step_Step)) : Option (Str × Str × (List Str) × (List api_Attr) × (List api_Node) × Str × Str × (List Str) × (List api_Attr) × (List api_Node) × (List Int) × Int × Int × Int × Int × (List step_Step)) :=
  (chk (Attrs_4.length ≤ 9223372036854775807) (diff_change_set_x_l0 Attrs_9 at__12 Attrs_4 (0 : Int) l_16)).bind fun v_30 =>
  some (Kind_1, Text_2, Marks_3, Attrs_4, Kids_5, Kind_6, Text_7, Marks_8, Attrs_9, Kids_10, path_11, at__12, head_13, m_14, n_15, v_30)

end Go.Proofs.YtblielhogcnnkaaDoor
