/- The functions of the program, written over numbers and rows. -/
import Derived.Test.YtpjdafhmneiohaaDoorAgT
import Derived.Test.YtpjdafhmneiohaaDoorAgLib
namespace Go.Proofs.YtpjdafhmneiohaaDoor
set_option linter.unusedSimpArgs false
set_option linter.unusedVariables false
open Go
set_option maxRecDepth 100000

noncomputable def slices_Clone_string (l : (List Str)) : Option (List Str) :=
  app 16 [] l
noncomputable def slices_Clone_api_Attr (l : (List api_Attr)) : Option (List api_Attr) :=
  app 32 [] l
noncomputable def slices_Clone_api_Node (l : (List api_Node)) : Option (List api_Node) :=
  app 104 [] l
noncomputable def node_Copy_l0 (node_4 : (List api_Node)) (node_Copy_r : api_Node → Option api_Node) : Nat → Int → (List api_Node) → Option (List api_Node)
  | 0, _, _ => none
  | k + 1, v_8, v_9 =>
    if (decide (v_8 < (node_4.length : Int))) = true then
      (rd v_9 v_8).bind fun x_10 =>
      (node_Copy_r x_10).bind fun copy_11 =>
      (wr v_9 v_8 copy_11).bind fun l_12 =>
      node_Copy_l0 node_4 node_Copy_r k (w64 (v_8 + (1 : Int))) l_12
    else
      some v_9
noncomputable def node_Copy_k : Nat → api_Node → Option api_Node
  | 0, _ => none
  | kr + 1, n_1 =>
    (slices_Clone_string n_1.Marks).bind fun string_2 =>
    (slices_Clone_api_Attr n_1.Attrs).bind fun attr_3 =>
    (slices_Clone_api_Node n_1.Kids).bind fun node_4 =>
    (lim fun k => node_Copy_l0 node_4 (node_Copy_k kr) k (0 : Int) node_4).bind fun v_15 =>
    some ({ Kind := n_1.Kind, Text := n_1.Text, Marks := string_2, Attrs := attr_3, Kids := v_15 } : api_Node)
noncomputable def node_Copy (n_1 : api_Node) : Option api_Node := lim fun kr => node_Copy_k kr n_1
noncomputable def node_isText (n_1 : api_Node) : Option Bool :=
  some (n_1.Kind == ([116, 101, 120, 116] : Str))
noncomputable def unicode_utf8_RuneCountInString_l0 (s_1 : Str) : Nat → Int → Nat → Option Int
  | 0, _, _ => none
  | k + 1, n_2, v_3 =>
    if (decide (v_3 < s_1.length)) = true then
      unicode_utf8_RuneCountInString_l0 s_1 k (w64 (n_2 + (1 : Int))) (v_3 + runeW s_1 v_3)
    else
      some n_2
noncomputable def unicode_utf8_RuneCountInString (s_1 : Str) : Option Int :=
  (lim fun k => unicode_utf8_RuneCountInString_l0 s_1 k (0 : Int) 0).bind fun n_4 =>
  some n_4
noncomputable def node_Total_l0 (node_Size_r : api_Node → Option Int) : List api_Node → Int → Int → Option Int
  | [], v_5, many_4 =>
    some many_4
  | y_8 :: suf, v_5, many_4 =>
    (node_Size_r y_8).bind fun size_9 =>
    node_Total_l0 node_Size_r suf (v_5 + 1) (w64 (many_4 + size_9))
mutual
noncomputable def node_Size_k : Nat → api_Node → Option Int
  | 0, _ => none
  | kr + 1, n_1 =>
    (node_isText n_1).bind fun istext_2 =>
    if (istext_2) = true then
      (unicode_utf8_RuneCountInString n_1.Text).bind fun runeco_3 =>
      some runeco_3
    else
      ((node_Total_k kr) n_1.Kids).bind fun total_4 =>
      some (w64 ((2 : Int) + total_4))
noncomputable def node_Total_k : Nat → (List api_Node) → Option Int
  | 0, _ => none
  | kr + 1, l_1 =>
    (chk (l_1.length ≤ 9223372036854775807) (node_Total_l0 (node_Size_k kr) l_1 (0 : Int) (0 : Int))).bind fun many_10 =>
    some many_10
end
noncomputable def node_Size (n_1 : api_Node) : Option Int := lim fun kr => node_Size_k kr n_1
noncomputable def node_Total (l_1 : (List api_Node)) : Option Int := lim fun kr => node_Total_k kr l_1
noncomputable def unicode_utf8_ValidString (s : Str) : Option Bool :=
  chk (s.length ≤ 9223372036854775807) (some (Lib.validD s))
noncomputable def strings_Trim (s : Str) (cutset : Str) : Option Str :=
  chk (s.length ≤ 9223372036854775807 ∧ cutset.length < 4294967281 ∧ cutset.all (fun b => decide (b.toNat < 128)) = true) (some (Lib.trimS s cutset))
noncomputable def node_Name (s_1 : Str) : Option Bool :=
  (strings_Trim s_1 ([97, 98, 99, 100, 101, 102, 103, 104, 105, 106, 107, 108, 109, 110, 111, 112, 113, 114, 115, 116, 117, 118, 119, 120, 121, 122] : Str)).bind fun trim_2 =>
  if (trim_2 == ([] : Str)) = true then
    if (!(s_1 == ([] : Str))) = true then
      if (decide ((s_1.length : Int) ≤ (8 : Int))) = true then
        some (!(s_1 == ([116, 101, 120, 116] : Str)))
      else
        some false
    else
      some false
  else
    some false
noncomputable def node_rise_l0 (l_1 : (List Str)) : List Str → Int → Option (Bool ⊕ Unit)
  | [], v_5 =>
    some (.inr ())
  | y_9 :: suf, v_5 =>
    (node_Name y_9).bind fun name_10 =>
    if (!name_10) = true then
      some (.inl false)
    else
      if (decide (v_5 > (0 : Int))) = true then
        (rd l_1 (w64 (v_5 - (1 : Int)))).bind fun x_11 =>
        if ((Op.bytesLess y_9 x_11 || y_9 == x_11)) = true then
          some (.inl false)
        else
          node_rise_l0 l_1 suf (v_5 + 1)
      else
        node_rise_l0 l_1 suf (v_5 + 1)
noncomputable def node_rise (l_1 : (List Str)) : Option Bool :=
  (chk (l_1.length ≤ 9223372036854775807) (node_rise_l0 l_1 l_1 (0 : Int))).bind fun e => match e with
  | .inl res_12 =>
    some res_12
  | .inr _ =>
    some true
noncomputable def node_Value (s_1 : Str) : Option Bool :=
  if (decide ((s_1.length : Int) ≤ (40 : Int))) = true then
    (unicode_utf8_ValidString s_1).bind fun valids_2 =>
    some valids_2
  else
    some false
noncomputable def slices_Equal_string_l0 (s2_2 : (List Str)) : List Str → Int → Option (Bool ⊕ Unit)
  | [], v_5 =>
    some (.inr ())
  | y_8 :: suf, v_5 =>
    (rd s2_2 v_5).bind fun x_9 =>
    if (!(y_8 == x_9)) = true then
      some (.inl false)
    else
      slices_Equal_string_l0 s2_2 suf (v_5 + 1)
noncomputable def slices_Equal_string (s1_1 : (List Str)) (s2_2 : (List Str)) : Option Bool :=
  if ((s1_1.length : Int) != (s2_2.length : Int)) = true then
    some false
  else
    (chk (s1_1.length ≤ 9223372036854775807) (slices_Equal_string_l0 s2_2 s1_1 (0 : Int))).bind fun e => match e with
    | .inl res_10 =>
      some res_10
    | .inr _ =>
      some true
noncomputable def node_alike (a_1 : api_Node) (b_2 : api_Node) : Option Bool :=
  (node_isText a_1).bind fun istext_3 =>
  if (istext_3) = true then
    (node_isText b_2).bind fun istext_4 =>
    if (istext_4) = true then
      (slices_Equal_string a_1.Marks b_2.Marks).bind fun string_5 =>
      some string_5
    else
      some false
  else
    some false
noncomputable def node_formed_l0 : List api_Attr → Int → (List Str) → Option (Bool ⊕ (List Str))
  | [], v_8, names_9 =>
    some (.inr names_9)
  | y_13 :: suf, v_8, names_9 =>
    (node_Value y_13.Value).bind fun value_14 =>
    if (!value_14) = true then
      some (.inl false)
    else
      (app 16 names_9 [y_13.Name]).bind fun l_15 =>
      node_formed_l0 suf (v_8 + 1) l_15
noncomputable def node_formed_l1 (n_1 : api_Node) (node_formed_r : api_Node → Option Bool) : List api_Node → Int → Option (Bool ⊕ Unit)
  | [], v_26 =>
    some (.inr ())
  | y_31 :: suf, v_26 =>
    (node_formed_r y_31).bind fun formed_32 =>
    if (!formed_32) = true then
      some (.inl false)
    else
      if (decide (v_26 > (0 : Int))) = true then
        (rd n_1.Kids (w64 (v_26 - (1 : Int)))).bind fun x_33 =>
        (node_alike x_33 y_31).bind fun alike_34 =>
        if (alike_34) = true then
          some (.inl false)
        else
          node_formed_l1 n_1 node_formed_r suf (v_26 + 1)
      else
        node_formed_l1 n_1 node_formed_r suf (v_26 + 1)
noncomputable def node_formed_k : Nat → api_Node → Option Bool
  | 0, _ => none
  | kr + 1, n_1 =>
    (node_isText n_1).bind fun istext_2 =>
    if (istext_2) = true then
      if (!(n_1.Text == ([] : Str))) = true then
        (unicode_utf8_ValidString n_1.Text).bind fun valids_3 =>
        if (valids_3) = true then
          (node_rise n_1.Marks).bind fun rise_4 =>
          if (rise_4) = true then
            some ((w64 ((n_1.Attrs.length : Int) + (n_1.Kids.length : Int))) == (0 : Int))
          else
            some false
        else
          some false
      else
        some false
    else
      (chk (n_1.Attrs.length ≤ 9223372036854775807) (node_formed_l0 n_1.Attrs (0 : Int) ([] : List Str))).bind fun e => match e with
      | .inl res_16 =>
        some res_16
      | .inr names_19 =>
        (node_Name n_1.Kind).bind fun name_20 =>
        if (!name_20) = true then
          some false
        else
          if (!(n_1.Text == ([] : Str))) = true then
            some false
          else
            if (decide ((n_1.Marks.length : Int) > (0 : Int))) = true then
              some false
            else
              (node_rise names_19).bind fun rise_21 =>
              if (!rise_21) = true then
                some false
              else
                (chk (n_1.Kids.length ≤ 9223372036854775807) (node_formed_l1 n_1 (node_formed_k kr) n_1.Kids (0 : Int))).bind fun e => match e with
                | .inl res_35 =>
                  some res_35
                | .inr _ =>
                  some true
noncomputable def node_formed (n_1 : api_Node) : Option Bool := lim fun kr => node_formed_k kr n_1
noncomputable def node_Depth_l0 (node_Depth_r : api_Node → Option Int) : List api_Node → Int → Int → Option Int
  | [], v_6, deepest_5 =>
    some deepest_5
  | y_9 :: suf, v_6, deepest_5 =>
    (node_Depth_r y_9).bind fun depth_10 =>
    node_Depth_l0 node_Depth_r suf (v_6 + 1) (if depth_10 > deepest_5 then depth_10 else deepest_5)
noncomputable def node_Depth_k : Nat → api_Node → Option Int
  | 0, _ => none
  | kr + 1, n_1 =>
    (node_isText n_1).bind fun istext_2 =>
    if (istext_2) = true then
      some (0 : Int)
    else
      (chk (n_1.Kids.length ≤ 9223372036854775807) (node_Depth_l0 (node_Depth_k kr) n_1.Kids (0 : Int) (0 : Int))).bind fun deepest_11 =>
      some (w64 (deepest_11 + (1 : Int)))
noncomputable def node_Depth (n_1 : api_Node) : Option Int := lim fun kr => node_Depth_k kr n_1
noncomputable def node_Check (n_1 : api_Node) : Option Int :=
  (node_formed n_1).bind fun formed_2 =>
  if (!formed_2) = true then
    some (2 : Int)
  else
    (node_Depth n_1).bind fun depth_3 =>
    if (decide (depth_3 > (40 : Int))) = true then
      some (4 : Int)
    else
      (node_Size n_1).bind fun size_4 =>
      if (decide (size_4 > (4000 : Int))) = true then
        some (5 : Int)
      else
        some (0 : Int)
noncomputable def node_Right (n_1 : api_Node) : Option Bool :=
  (node_Check n_1).bind fun check_2 =>
  some (check_2 == (0 : Int))
noncomputable def diff_alike_1 (x_1 : api_Attr) (y_2 : api_Attr) : Option Bool :=
  some (x_1.Name == y_2.Name)
noncomputable def slices_EqualFunc_api_Attr_diff_alike_1_l0 (s2_2 : (List api_Attr)) : List api_Attr → Int → Option (Bool ⊕ Unit)
  | [], v_6 =>
    some (.inr ())
  | y_10 :: suf, v_6 =>
    (rd s2_2 v_6).bind fun x_11 =>
    (diff_alike_1 y_10 x_11).bind fun f1_12 =>
    if (!f1_12) = true then
      some (.inl false)
    else
      slices_EqualFunc_api_Attr_diff_alike_1_l0 s2_2 suf (v_6 + 1)
noncomputable def slices_EqualFunc_api_Attr_diff_alike_1 (s1_1 : (List api_Attr)) (s2_2 : (List api_Attr)) : Option Bool :=
  if ((s1_1.length : Int) != (s2_2.length : Int)) = true then
    some false
  else
    (chk (s1_1.length ≤ 9223372036854775807) (slices_EqualFunc_api_Attr_diff_alike_1_l0 s2_2 s1_1 (0 : Int))).bind fun e => match e with
    | .inl res_13 =>
      some res_13
    | .inr _ =>
      some true
noncomputable def diff_alike (a_1 : api_Node) (b_2 : api_Node) : Option Bool :=
  if (a_1.Kind == b_2.Kind) = true then
    if (!(a_1.Kind == ([116, 101, 120, 116] : Str))) = true then
      (slices_EqualFunc_api_Attr_diff_alike_1 a_1.Attrs b_2.Attrs).bind fun attr_3 =>
      some attr_3
    else
      some false
  else
    some false
noncomputable def slices_Equal_api_Attr_l0 (s2_2 : (List api_Attr)) : List api_Attr → Int → Option (Bool ⊕ Unit)
  | [], v_5 =>
    some (.inr ())
  | y_8 :: suf, v_5 =>
    (rd s2_2 v_5).bind fun x_9 =>
    if ((((y_8.Name == x_9.Name) && (y_8.Value == x_9.Value)) != true)) = true then
      some (.inl false)
    else
      slices_Equal_api_Attr_l0 s2_2 suf (v_5 + 1)
noncomputable def slices_Equal_api_Attr (s1_1 : (List api_Attr)) (s2_2 : (List api_Attr)) : Option Bool :=
  if ((s1_1.length : Int) != (s2_2.length : Int)) = true then
    some false
  else
    (chk (s1_1.length ≤ 9223372036854775807) (slices_Equal_api_Attr_l0 s2_2 s1_1 (0 : Int))).bind fun e => match e with
    | .inl res_10 =>
      some res_10
    | .inr _ =>
      some true
noncomputable def slices_EqualFunc_api_Node_node_Same_l0 (s2_2 : (List api_Node)) (node_Same_r : api_Node → api_Node → Option Bool) : List api_Node → Int → Option (Bool ⊕ Unit)
  | [], v_6 =>
    some (.inr ())
  | y_10 :: suf, v_6 =>
    (rd s2_2 v_6).bind fun x_11 =>
    (node_Same_r y_10 x_11).bind fun same_12 =>
    if (!same_12) = true then
      some (.inl false)
    else
      slices_EqualFunc_api_Node_node_Same_l0 s2_2 node_Same_r suf (v_6 + 1)
mutual
noncomputable def slices_EqualFunc_api_Node_node_Same_k : Nat → (List api_Node) → (List api_Node) → Option Bool
  | 0, _, _ => none
  | kr + 1, s1_1, s2_2 =>
    if ((s1_1.length : Int) != (s2_2.length : Int)) = true then
      some false
    else
      (chk (s1_1.length ≤ 9223372036854775807) (slices_EqualFunc_api_Node_node_Same_l0 s2_2 (node_Same_k kr) s1_1 (0 : Int))).bind fun e => match e with
      | .inl res_13 =>
        some res_13
      | .inr _ =>
        some true
noncomputable def node_Same_k : Nat → api_Node → api_Node → Option Bool
  | 0, _, _ => none
  | kr + 1, a_1, b_2 =>
    if (a_1.Kind == b_2.Kind) = true then
      if (a_1.Text == b_2.Text) = true then
        (slices_Equal_string a_1.Marks b_2.Marks).bind fun string_3 =>
        if (string_3) = true then
          (slices_Equal_api_Attr a_1.Attrs b_2.Attrs).bind fun attr_4 =>
          if (attr_4) = true then
            ((slices_EqualFunc_api_Node_node_Same_k kr) a_1.Kids b_2.Kids).bind fun node_5 =>
            some node_5
          else
            some false
        else
          some false
      else
        some false
    else
      some false
end
noncomputable def slices_EqualFunc_api_Node_node_Same (s1_1 : (List api_Node)) (s2_2 : (List api_Node)) : Option Bool := lim fun kr => slices_EqualFunc_api_Node_node_Same_k kr s1_1 s2_2
noncomputable def node_Same (a_1 : api_Node) (b_2 : api_Node) : Option Bool := lim fun kr => node_Same_k kr a_1 b_2
noncomputable def diff_change_set_xx_l0 (Attrs_9 : (List api_Attr)) (at__11 : Int) : List api_Attr → Int → (List step_Step) → Option (List step_Step)
  | [], v_20, v_21 =>
    some v_21
  | y_25 :: suf, v_20, v_21 =>
    if (decide (v_20 < (Attrs_9.length : Int))) = true then
      (rd Attrs_9 v_20).bind fun x_26 =>
      if (!(x_26.Value == y_25.Value)) = true then
        (app 80 v_21 [({ Kind := (97 : Int), From := w64 (at__11 - (1 : Int)), To := (0 : Int), Nodes := [], Name := y_25.Name, Value := x_26.Value } : step_Step)]).bind fun l_27 =>
        diff_change_set_xx_l0 Attrs_9 at__11 suf (v_20 + 1) l_27
      else
        diff_change_set_xx_l0 Attrs_9 at__11 suf (v_20 + 1) v_21
    else
      diff_change_set_xx_l0 Attrs_9 at__11 suf (v_20 + 1) v_21
noncomputable def diff_change_set_xx (Kind_1 : Str) (Text_2 : Str) (Marks_3 : (List Str)) (Attrs_4 : (List api_Attr)) (Kids_5 : (List api_Node)) (Kind_6 : Str) (Text_7 : Str) (Marks_8 : (List Str)) (Attrs_9 : (List api_Attr)) (Kids_10 : (List api_Node)) (at__11 : Int) (head_12 : Int) (m_13 : Int) (n_14 : Int) (l_15 : (List Int)) (l_16 : (List step_Step)) : Option (Str × Str × (List Str) × (List api_Attr) × (List api_Node) × Str × Str × (List Str) × (List api_Attr) × (List api_Node) × Int × Int × Int × Int × (List Int) × (List step_Step)) :=
  (chk (Attrs_4.length ≤ 9223372036854775807) (diff_change_set_xx_l0 Attrs_9 at__11 Attrs_4 (0 : Int) l_16)).bind fun v_30 =>
  some (Kind_1, Text_2, Marks_3, Attrs_4, Kids_5, Kind_6, Text_7, Marks_8, Attrs_9, Kids_10, at__11, head_12, m_13, n_14, l_15, v_30)
noncomputable def diff_of_l3 (Kids_63 : (List api_Node)) (Kids_68 : (List api_Node)) : Nat → Int → Option Int
  | 0, _ => none
  | k + 1, c_78 =>
    if (decide (c_78 < (if (Kids_68.length : Int) < (Kids_63.length : Int) then (Kids_68.length : Int) else (Kids_63.length : Int)))) = true then
      (rd Kids_63 c_78).bind fun x_79 =>
      (rd Kids_68 c_78).bind fun x_80 =>
      (node_Same x_79 x_80).bind fun same_81 =>
      if (same_81) = true then
        diff_of_l3 Kids_63 Kids_68 k (w64 (c_78 + (1 : Int)))
      else
        some c_78
    else
      some c_78
noncomputable def diff_of_l4 (Kids_63 : (List api_Node)) (Kids_68 : (List api_Node)) (c_83 : Int) : Nat → Int → Option Int
  | 0, _ => none
  | k + 1, tail_87 =>
    if (decide (tail_87 < (w64 ((if (Kids_68.length : Int) < (Kids_63.length : Int) then (Kids_68.length : Int) else (Kids_63.length : Int)) - c_83)))) = true then
      (rd Kids_63 (w64 ((w64 ((Kids_63.length : Int) - (1 : Int))) - tail_87))).bind fun x_88 =>
      (rd Kids_68 (w64 ((w64 ((Kids_68.length : Int) - (1 : Int))) - tail_87))).bind fun x_89 =>
      (node_Same x_88 x_89).bind fun same_90 =>
      if (same_90) = true then
        diff_of_l4 Kids_63 Kids_68 c_83 k (w64 (tail_87 + (1 : Int)))
      else
        some tail_87
    else
      some tail_87
noncomputable def diff_of_l0 : Nat → Str → Str → (List Str) → (List api_Attr) → (List api_Node) → Str → Str → (List Str) → (List api_Attr) → (List api_Node) → Int → Int → Int → Int → (List Int) → (List step_Step) → Option ((List api_Node) × (List api_Node) × Str × Str × (List Str) × (List api_Attr) × Str × Str × (List Str) × (List api_Attr) × Int × Int × Int × Int × (List Int) × (List step_Step))
  | 0, _, _, _, _, _, _, _, _, _, _, _, _, _, _, _, _ => none
  | k + 1, c_43, c_44, c_45, c_46, c_47, c_48, c_49, c_50, c_51, c_52, c_53, c_54, c_55, c_56, v_57, v_58 =>
    (diff_change_set_xx c_43 c_44 c_45 c_46 c_47 c_48 c_49 c_50 c_51 c_52 c_53 c_54 c_55 c_56 v_57 v_58).bind fun (Kind_59, Text_60, Marks_61, Attrs_62, Kids_63, Kind_64, Text_65, Marks_66, Attrs_67, Kids_68, at__69, head_70, m_71, n_72, l_73, l_74) =>
    chk (v_57.length = l_73.length) (
      (lim fun k => diff_of_l3 Kids_63 Kids_68 k (0 : Int)).bind fun c_83 =>
      (lim fun k => diff_of_l4 Kids_63 Kids_68 c_83 k (0 : Int)).bind fun tail_91 =>
      if ((w64 ((w64 ((Kids_63.length : Int) - c_83)) - tail_91)) != (1 : Int)) = true then
        some (Kids_63, Kids_68, Kind_59, Text_60, Marks_61, Attrs_62, Kind_64, Text_65, Marks_66, Attrs_67, at__69, c_83, w64 ((w64 ((Kids_63.length : Int) - c_83)) - tail_91), w64 ((w64 ((Kids_68.length : Int) - c_83)) - tail_91), l_73, l_74)
      else
        if ((w64 ((w64 ((Kids_68.length : Int) - c_83)) - tail_91)) != (1 : Int)) = true then
          some (Kids_63, Kids_68, Kind_59, Text_60, Marks_61, Attrs_62, Kind_64, Text_65, Marks_66, Attrs_67, at__69, c_83, w64 ((w64 ((Kids_63.length : Int) - c_83)) - tail_91), w64 ((w64 ((Kids_68.length : Int) - c_83)) - tail_91), l_73, l_74)
        else
          (rd Kids_63 c_83).bind fun x_93 =>
          (rd Kids_68 c_83).bind fun x_94 =>
          (diff_alike x_93 x_94).bind fun alike_95 =>
          if (!alike_95) = true then
            some (Kids_63, Kids_68, Kind_59, Text_60, Marks_61, Attrs_62, Kind_64, Text_65, Marks_66, Attrs_67, at__69, c_83, w64 ((w64 ((Kids_63.length : Int) - c_83)) - tail_91), w64 ((w64 ((Kids_68.length : Int) - c_83)) - tail_91), l_73, l_74)
          else
            (app 8 l_73 [c_83]).bind fun l_96 =>
            (sl Kids_63 (0 : Int) c_83).bind fun s_97 =>
            (node_Total s_97).bind fun total_98 =>
            diff_of_l0 k x_93.Kind x_93.Text x_93.Marks x_93.Attrs x_93.Kids x_94.Kind x_94.Text x_94.Marks x_94.Attrs x_94.Kids (w64 (at__69 + (w64 (total_98 + (1 : Int))))) c_83 (w64 ((w64 ((Kids_63.length : Int) - c_83)) - tail_91)) (w64 ((w64 ((Kids_68.length : Int) - c_83)) - tail_91)) l_96 l_74)
noncomputable def diff_of (a_1 : api_Node) (b_2 : api_Node) : Option diff_change :=
  (lim fun k => diff_of_l0 k a_1.Kind a_1.Text a_1.Marks a_1.Attrs a_1.Kids b_2.Kind b_2.Text b_2.Marks b_2.Attrs b_2.Kids (0 : Int) (0 : Int) (0 : Int) (0 : Int) ([] : List Int) ([] : List step_Step)).bind fun (x_99, y_100, c_102, c_103, c_104, c_105, c_106, c_107, c_108, c_109, c_110, c_111, c_112, c_113, v_114, v_115) =>
  some ({ a := ({ Kind := c_102, Text := c_103, Marks := c_104, Attrs := c_105, Kids := x_99 } : api_Node), b := ({ Kind := c_106, Text := c_107, Marks := c_108, Attrs := c_109, Kids := y_100 } : api_Node), path := v_114, at_ := c_110, head := c_111, m := c_112, n := c_113, attrs := v_115 } : diff_change)
noncomputable def diff_Steps (a_1 : api_Node) (b_2 : api_Node) : Option ((List step_Step) × Int) :=
  (node_Right a_1).bind fun right_3 =>
  if (!right_3) = true then
    some ([], (1 : Int))
  else
    (node_Right b_2).bind fun right_4 =>
    if (!right_4) = true then
      some ([], (1 : Int))
    else
      (diff_alike a_1 b_2).bind fun alike_5 =>
      if (!alike_5) = true then
        some ([], (1 : Int))
      else
        (diff_of a_1 b_2).bind fun of_6 =>
        if ((w64 (of_6.m + of_6.n)) == (0 : Int)) = true then
          some (of_6.attrs, (0 : Int))
        else
          (sl of_6.a.Kids (0 : Int) of_6.head).bind fun s_7 =>
          (node_Total s_7).bind fun total_8 =>
          (sl of_6.a.Kids of_6.head (w64 (of_6.head + of_6.m))).bind fun s_9 =>
          (node_Total s_9).bind fun total_10 =>
          (sl of_6.b.Kids of_6.head (w64 (of_6.head + of_6.n))).bind fun s_11 =>
          (node_Copy ({ Kind := ([] : Str), Text := ([] : Str), Marks := [], Attrs := [], Kids := s_11 } : api_Node)).bind fun copy_12 =>
          (app 80 of_6.attrs [({ Kind := (114 : Int), From := w64 (of_6.at_ + total_8), To := w64 ((w64 (of_6.at_ + total_8)) + total_10), Nodes := copy_12.Kids, Name := ([] : Str), Value := ([] : Str) } : step_Step)]).bind fun l_13 =>
          some (l_13, (0 : Int))
noncomputable def diptychlaw18_shown : Option Bool :=
  (diff_Steps ({ Kind := ([100, 111, 99] : Str), Text := ([] : Str), Marks := [], Attrs := [], Kids := [({ Kind := ([112] : Str), Text := ([] : Str), Marks := [], Attrs := [], Kids := [({ Kind := ([116, 101, 120, 116] : Str), Text := ([104, 105] : Str), Marks := [], Attrs := [], Kids := [] } : api_Node)] } : api_Node), ({ Kind := ([113] : Str), Text := ([] : Str), Marks := [], Attrs := [], Kids := [] } : api_Node)] } : api_Node) ({ Kind := ([100, 111, 99] : Str), Text := ([] : Str), Marks := [], Attrs := [], Kids := [({ Kind := ([112] : Str), Text := ([] : Str), Marks := [], Attrs := [], Kids := [({ Kind := ([116, 101, 120, 116] : Str), Text := ([104, 111] : Str), Marks := [], Attrs := [], Kids := [] } : api_Node)] } : api_Node), ({ Kind := ([113] : Str), Text := ([] : Str), Marks := [], Attrs := [], Kids := [] } : api_Node)] } : api_Node)).bind fun (r_1, r_2) =>
  if (r_2 == (0 : Int)) = true then
    if ((r_1.length : Int) == (1 : Int)) = true then
      (rd r_1 (0 : Int)).bind fun x_3 =>
      if (x_3.Kind == (114 : Int)) = true then
        if (x_3.From == (1 : Int)) = true then
          if (x_3.To == (3 : Int)) = true then
            if ((x_3.Nodes.length : Int) == (1 : Int)) = true then
              (rd x_3.Nodes (0 : Int)).bind fun x_4 =>
              some (x_4.Text == ([104, 111] : Str))
            else
              some false
          else
            some false
        else
          some false
      else
        some false
    else
      some false
  else
    some false
noncomputable def diptychlaw18_pick (c_1 : Int) (n_2 : Int) : Option Int :=
  if (decide (c_1 < (0 : Int))) = true then
    chk (n_2 ≠ 0) (
      some ((w64 (0 - (w64 (c_1 + (1 : Int))))).tmod n_2))
  else
    chk (n_2 ≠ 0) (
      some (c_1.tmod n_2))
noncomputable def diptychref1_sameNames_l0 (b_2 : (List Str)) : List Str → Int → Option (Bool ⊕ Unit)
  | [], i_5 =>
    some (.inr ())
  | y_8 :: suf, i_5 =>
    (rd b_2 i_5).bind fun x_9 =>
    if (!(y_8 == x_9)) = true then
      some (.inl false)
    else
      diptychref1_sameNames_l0 b_2 suf (i_5 + 1)
noncomputable def diptychref1_sameNames (a_1 : (List Str)) (b_2 : (List Str)) : Option Bool :=
  if ((a_1.length : Int) != (b_2.length : Int)) = true then
    some false
  else
    (chk (a_1.length ≤ 9223372036854775807) (diptychref1_sameNames_l0 b_2 a_1 (0 : Int))).bind fun e => match e with
    | .inl res_10 =>
      some res_10
    | .inr _ =>
      some true
noncomputable def diptychref1_Join_l0 : List api_Node → Int → (List api_Node) → Option (List api_Node)
  | [], i_13, out_14 =>
    some out_14
  | y_26 :: suf, i_13, out_14 =>
    ((
        if (y_26.Kind == ([116, 101, 120, 116] : Str)) = true then
          if (y_26.Text == ([] : Str)) = true then
            some (.inl ())
          else
            some (.inr ())
        else
          some (.inr ())) : Option (Unit ⊕ Unit)).bind fun e => match e with
    | .inl _ =>
      diptychref1_Join_l0 suf (i_13 + 1) out_14
    | .inr _ =>
      if (y_26.Kind == ([116, 101, 120, 116] : Str)) = true then
        if (decide ((w64 ((out_14.length : Int) - (1 : Int))) ≥ (0 : Int))) = true then
          (rd out_14 (w64 ((out_14.length : Int) - (1 : Int)))).bind fun x_28 =>
          if (x_28.Kind == ([116, 101, 120, 116] : Str)) = true then
            (diptychref1_sameNames x_28.Marks y_26.Marks).bind fun samena_29 =>
            if (samena_29) = true then
              chk (x_28.Text.length + y_26.Text.length ≤ 9223372036854775807) (
                (sl out_14 (0 : Int) (w64 ((out_14.length : Int) - (1 : Int)))).bind fun s_30 =>
                (app 104 ([] : List api_Node) s_30).bind fun l_31 =>
                (app 104 l_31 [{ y_26 with Text := x_28.Text ++ y_26.Text }]).bind fun l_32 =>
                diptychref1_Join_l0 suf (i_13 + 1) l_32)
            else
              (app 104 out_14 [y_26]).bind fun l_33 =>
              diptychref1_Join_l0 suf (i_13 + 1) l_33
          else
            (app 104 out_14 [y_26]).bind fun l_34 =>
            diptychref1_Join_l0 suf (i_13 + 1) l_34
        else
          (app 104 out_14 [y_26]).bind fun l_35 =>
          diptychref1_Join_l0 suf (i_13 + 1) l_35
      else
        (app 104 out_14 [y_26]).bind fun l_36 =>
        diptychref1_Join_l0 suf (i_13 + 1) l_36
noncomputable def diptychref1_Join (l_1 : (List api_Node)) : Option (List api_Node) :=
  (chk (l_1.length ≤ 9223372036854775807) (diptychref1_Join_l0 l_1 (0 : Int) ([] : List api_Node))).bind fun out_39 =>
  some out_39
noncomputable def diptychlaw18_para (x_1 : diptychlaw18_Cell) (texts_2 : (List api_Node)) : Option api_Node :=
  (diptychlaw18_pick x_1.Attrs (2 : Int)).bind fun pick_3 =>
  (rd [([108, 101, 102, 116] : Str), ([114, 105, 103, 104, 116] : Str)] pick_3).bind fun x_4 =>
  (diptychlaw18_pick (w64 (x_1.Attrs.tdiv (2 : Int))) (4 : Int)).bind fun pick_5 =>
  (rd [([] : Str), ([195, 169] : Str), ([34, 113, 92] : Str), ([110, 111, 116, 101] : Str)] pick_5).bind fun x_6 =>
  (diptychref1_Join texts_2).bind fun join_7 =>
  some ({ Kind := ([112, 97, 114, 97] : Str), Text := ([] : Str), Marks := [], Attrs := [({ Name := ([97, 108, 105, 103, 110] : Str), Value := x_4 } : api_Attr), ({ Name := ([110, 111, 116, 101] : Str), Value := x_6 } : api_Attr)], Kids := join_7 } : api_Node)
noncomputable def diptychref1_Depth_l0 (diptychref1_Depth_r : api_Node → Option Int) : List api_Node → Int → Int → Option Int
  | [], i_5, d_4 =>
    some d_4
  | y_8 :: suf, i_5, d_4 =>
    (diptychref1_Depth_r y_8).bind fun depth_9 =>
    diptychref1_Depth_l0 diptychref1_Depth_r suf (i_5 + 1) (if depth_9 > d_4 then depth_9 else d_4)
noncomputable def diptychref1_Depth_k : Nat → api_Node → Option Int
  | 0, _ => none
  | kr + 1, n_1 =>
    if (n_1.Kind == ([116, 101, 120, 116] : Str)) = true then
      some (0 : Int)
    else
      (chk (n_1.Kids.length ≤ 9223372036854775807) (diptychref1_Depth_l0 (diptychref1_Depth_k kr) n_1.Kids (0 : Int) (0 : Int))).bind fun d_10 =>
      some (w64 (d_10 + (1 : Int)))
noncomputable def diptychref1_Depth (n_1 : api_Node) : Option Int := lim fun kr => diptychref1_Depth_k kr n_1
noncomputable def diptychlaw18_doc_l0 : List diptychlaw18_Cell → Int → (List api_Node) → (List api_Node) → Option (List api_Node)
  | [], i_32, texts_33, v_34 =>
    some v_34
  | y_65 :: suf, i_32, texts_33, v_34 =>
    if (decide (i_32 < (40 : Int))) = true then
      (diptychlaw18_pick y_65.Text (5 : Int)).bind fun pick_66 =>
      (rd [([97] : Str), ([98, 99] : Str), ([195, 169] : Str), ([120, 32, 121] : Str), ([230, 151, 165, 230, 156, 172] : Str)] pick_66).bind fun x_67 =>
      ((
          (diptychlaw18_pick y_65.Marks (4 : Int)).bind fun pick_68 =>
          if ((and64 pick_68 (1 : Int)) == (1 : Int)) = true then
            (app 16 ([] : List Str) [([98] : Str)]).bind fun l_69 =>
            some l_69
          else
            some ([] : List Str)) : Option (List Str)).bind fun v_70 =>
      ((
          (diptychlaw18_pick y_65.Marks (4 : Int)).bind fun pick_71 =>
          if ((and64 pick_71 (2 : Int)) == (2 : Int)) = true then
            (app 16 v_70 [([105] : Str)]).bind fun l_72 =>
            some l_72
          else
            some v_70) : Option (List Str)).bind fun v_73 =>
      (app 104 texts_33 [({ Kind := ([116, 101, 120, 116] : Str), Text := x_67, Marks := v_73, Attrs := [], Kids := [] } : api_Node)]).bind fun l_74 =>
      (diptychlaw18_pick y_65.In (5 : Int)).bind fun pick_75 =>
      if (pick_75 == (0 : Int)) = true then
        diptychlaw18_doc_l0 suf (i_32 + 1) l_74 v_34
      else
        (diptychlaw18_para y_65 l_74).bind fun para_76 =>
        if (decide (pick_75 < (3 : Int))) = true then
          (app 104 v_34 [para_76]).bind fun l_77 =>
          diptychlaw18_doc_l0 suf (i_32 + 1) ([] : List api_Node) l_77
        else
          ((
              if (decide ((w64 ((v_34.length : Int) - (1 : Int))) ≥ (0 : Int))) = true then
                (rd v_34 (w64 ((v_34.length : Int) - (1 : Int)))).bind fun x_78 =>
                if (x_78.Kind == ([108, 105, 115, 116] : Str)) = true then
                  if (pick_75 == (3 : Int)) = true then
                    (app 104 ([] : List api_Node) x_78.Kids).bind fun l_79 =>
                    (app 104 l_79 [({ Kind := ([105, 116, 101, 109] : Str), Text := ([] : Str), Marks := [], Attrs := [], Kids := [para_76] } : api_Node)]).bind fun l_80 =>
                    (sl v_34 (0 : Int) (w64 ((v_34.length : Int) - (1 : Int)))).bind fun s_81 =>
                    (app 104 ([] : List api_Node) s_81).bind fun l_82 =>
                    (app 104 l_82 [{ x_78 with Kids := l_80 }]).bind fun l_83 =>
                    some (.inl l_83)
                  else
                    some (.inr ())
                else
                  some (.inr ())
              else
                some (.inr ())) : Option ((List api_Node) ⊕ Unit)).bind fun e => match e with
          | .inl v_84 =>
            diptychlaw18_doc_l0 suf (i_32 + 1) ([] : List api_Node) v_84
          | .inr _ =>
            if (decide ((w64 ((v_34.length : Int) - (1 : Int))) ≥ (0 : Int))) = true then
              (rd v_34 (w64 ((v_34.length : Int) - (1 : Int)))).bind fun x_86 =>
              if (x_86.Kind == ([108, 105, 115, 116] : Str)) = true then
                (diptychref1_Depth x_86).bind fun depth_87 =>
                if (decide (depth_87 < (30 : Int))) = true then
                  (app 104 [para_76] [x_86]).bind fun l_88 =>
                  (sl v_34 (0 : Int) (w64 ((v_34.length : Int) - (1 : Int)))).bind fun s_89 =>
                  (app 104 ([] : List api_Node) s_89).bind fun l_90 =>
                  (app 104 l_90 [({ Kind := ([108, 105, 115, 116] : Str), Text := ([] : Str), Marks := [], Attrs := [], Kids := [({ Kind := ([105, 116, 101, 109] : Str), Text := ([] : Str), Marks := [], Attrs := [], Kids := l_88 } : api_Node)] } : api_Node)]).bind fun l_91 =>
                  diptychlaw18_doc_l0 suf (i_32 + 1) ([] : List api_Node) l_91
                else
                  (app 104 v_34 [({ Kind := ([108, 105, 115, 116] : Str), Text := ([] : Str), Marks := [], Attrs := [], Kids := [({ Kind := ([105, 116, 101, 109] : Str), Text := ([] : Str), Marks := [], Attrs := [], Kids := [para_76] } : api_Node)] } : api_Node)]).bind fun l_92 =>
                  diptychlaw18_doc_l0 suf (i_32 + 1) ([] : List api_Node) l_92
              else
                (app 104 v_34 [({ Kind := ([108, 105, 115, 116] : Str), Text := ([] : Str), Marks := [], Attrs := [], Kids := [({ Kind := ([105, 116, 101, 109] : Str), Text := ([] : Str), Marks := [], Attrs := [], Kids := [para_76] } : api_Node)] } : api_Node)]).bind fun l_93 =>
                diptychlaw18_doc_l0 suf (i_32 + 1) ([] : List api_Node) l_93
            else
              (app 104 v_34 [({ Kind := ([108, 105, 115, 116] : Str), Text := ([] : Str), Marks := [], Attrs := [], Kids := [({ Kind := ([105, 116, 101, 109] : Str), Text := ([] : Str), Marks := [], Attrs := [], Kids := [para_76] } : api_Node)] } : api_Node)]).bind fun l_94 =>
              diptychlaw18_doc_l0 suf (i_32 + 1) ([] : List api_Node) l_94
    else
      some v_34
noncomputable def diptychlaw18_doc (l_1 : (List diptychlaw18_Cell)) : Option api_Node :=
  (chk (l_1.length ≤ 9223372036854775807) (diptychlaw18_doc_l0 l_1 (0 : Int) ([] : List api_Node) ([] : List api_Node))).bind fun v_98 =>
  some ({ Kind := ([100, 111, 99] : Str), Text := ([] : Str), Marks := [], Attrs := [], Kids := v_98 } : api_Node)
noncomputable def maps_Grows_l0 : List maps_Range → Int → Int → Option Int
  | [], v_4, n_3 =>
    some n_3
  | y_6 :: suf, v_4, n_3 =>
    maps_Grows_l0 suf (v_4 + 1) (w64 (n_3 + (w64 (y_6.New - y_6.Old))))
noncomputable def maps_Grows (m_1 : (List maps_Range)) : Option Int :=
  (chk (m_1.length ≤ 9223372036854775807) (maps_Grows_l0 m_1 (0 : Int) (0 : Int))).bind fun n_7 =>
  some n_7
noncomputable def step_MapOf (s_1 : step_Step) : Option (List maps_Range) :=
  (node_Total s_1.Nodes).bind fun total_2 =>
  if (s_1.Kind != (114 : Int)) = true then
    some []
  else
    if (s_1.From == s_1.To) = true then
      if (total_2 == (0 : Int)) = true then
        some []
      else
        some [({ Pos := s_1.From, Old := w64 (s_1.To - s_1.From), New := total_2 } : maps_Range)]
    else
      some [({ Pos := s_1.From, Old := w64 (s_1.To - s_1.From), New := total_2 } : maps_Range)]
noncomputable def diptychlaw18_DiffSizes_l0 : List step_Step → Int → Int → Int → Option (Int × Int)
  | [], i_15, grows_13, one_14 =>
    some (grows_13, one_14)
  | y_19 :: suf, i_15, grows_13, one_14 =>
    (step_MapOf y_19).bind fun mapof_20 =>
    (maps_Grows mapof_20).bind fun grows_21 =>
    if (y_19.Kind == (114 : Int)) = true then
      diptychlaw18_DiffSizes_l0 suf (i_15 + 1) (w64 (grows_13 + grows_21)) (w64 (one_14 + (1 : Int)))
    else
      diptychlaw18_DiffSizes_l0 suf (i_15 + 1) (w64 (grows_13 + grows_21)) one_14
noncomputable def diptychlaw18_DiffSizes_l1 : List step_Step → Int → Int → Option Int
  | [], i_28, two_27 =>
    some two_27
  | y_30 :: suf, i_28, two_27 =>
    if (y_30.Kind == (114 : Int)) = true then
      diptychlaw18_DiffSizes_l1 suf (i_28 + 1) (w64 (two_27 + (1 : Int)))
    else
      diptychlaw18_DiffSizes_l1 suf (i_28 + 1) two_27
noncomputable def diptychlaw18_DiffSizes (l_1 : (List diptychlaw18_Cell)) (m_2 : (List diptychlaw18_Cell)) : Option Bool :=
  (diptychlaw18_shown).bind fun shown_3 =>
  if (!shown_3) = true then
    some false
  else
    (diptychlaw18_doc l_1).bind fun doc_4 =>
    (diptychlaw18_doc m_2).bind fun doc_5 =>
    (diff_Steps doc_4 doc_5).bind fun (r_6, r_7) =>
    (diff_Steps doc_5 doc_4).bind fun (r_8, r_9) =>
    (chk (r_6.length ≤ 9223372036854775807) (diptychlaw18_DiffSizes_l0 r_6 (0 : Int) (0 : Int) (0 : Int))).bind fun (grows_22, one_23) =>
    (chk (r_8.length ≤ 9223372036854775807) (diptychlaw18_DiffSizes_l1 r_8 (0 : Int) (0 : Int))).bind fun two_31 =>
    if (r_7 == (0 : Int)) = true then
      if (r_9 == (0 : Int)) = true then
        if ((r_6.length : Int) == (r_8.length : Int)) = true then
          if (one_23 == two_31) = true then
            if (decide (one_23 ≤ (1 : Int))) = true then
              (node_Size doc_5).bind fun size_34 =>
              (node_Size doc_4).bind fun size_35 =>
              some (grows_22 == (w64 (size_34 - size_35)))
            else
              some false
          else
            some false
        else
          some false
      else
        some false
    else
      some false
noncomputable def diff_change_set_x_l0 (Attrs_9 : (List api_Attr)) (at__12 : Int) : List api_Attr → Int → (List step_Step) → Option (List step_Step)
  | [], v_20, v_21 =>
    some v_21
  | y_25 :: suf, v_20, v_21 =>
    if (decide (v_20 < (Attrs_9.length : Int))) = true then
      (rd Attrs_9 v_20).bind fun x_26 =>
      if (!(x_26.Value == y_25.Value)) = true then
        (app 80 v_21 [({ Kind := (97 : Int), From := w64 (at__12 - (1 : Int)), To := (0 : Int), Nodes := [], Name := y_25.Name, Value := x_26.Value } : step_Step)]).bind fun l_27 =>
        diff_change_set_x_l0 Attrs_9 at__12 suf (v_20 + 1) l_27
      else
        diff_change_set_x_l0 Attrs_9 at__12 suf (v_20 + 1) v_21
    else
      diff_change_set_x_l0 Attrs_9 at__12 suf (v_20 + 1) v_21
noncomputable def diff_change_set_x (Kind_1 : Str) (Text_2 : Str) (Marks_3 : (List Str)) (Attrs_4 : (List api_Attr)) (Kids_5 : (List api_Node)) (Kind_6 : Str) (Text_7 : Str) (Marks_8 : (List Str)) (Attrs_9 : (List api_Attr)) (Kids_10 : (List api_Node)) (path_11 : (List Int)) (at__12 : Int) (head_13 : Int) (m_14 : Int) (n_15 : Int) (l_16 : (List step_Step)) : Option (Str × Str × (List Str) × (List api_Attr) × (List api_Node) × Str × Str × (List Str) × (List api_Attr) × (List api_Node) × (List Int) × Int × Int × Int × Int × (List step_Step)) :=
  (chk (Attrs_4.length ≤ 9223372036854775807) (diff_change_set_x_l0 Attrs_9 at__12 Attrs_4 (0 : Int) l_16)).bind fun v_30 =>
  some (Kind_1, Text_2, Marks_3, Attrs_4, Kids_5, Kind_6, Text_7, Marks_8, Attrs_9, Kids_10, path_11, at__12, head_13, m_14, n_15, v_30)

end Go.Proofs.YtpjdafhmneiohaaDoor
