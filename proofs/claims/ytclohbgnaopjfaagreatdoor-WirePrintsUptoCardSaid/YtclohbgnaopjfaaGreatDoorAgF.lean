/- The functions of the program, written over numbers and rows. -/
import Derived.Test.YtclohbgnaopjfaaGreatDoorAgT
import Derived.Test.YtclohbgnaopjfaaGreatDoorAgBld
import Derived.Test.YtclohbgnaopjfaaGreatDoorAgIto
import Derived.Test.YtclohbgnaopjfaaGreatDoorAgLib
namespace Go.Proofs.YtclohbgnaopjfaaGreatDoor
set_option linter.unusedSimpArgs false
set_option linter.unusedVariables false
open Go
set_option maxRecDepth 100000

noncomputable def node_isText (n_1 : api_Node) : Option Bool :=
  some (n_1.Kind == ([116, 101, 120, 116] : Str))
noncomputable def unicode_utf8_RuneCountInString_l0 (s_1 : Str) : Nat → Int → Nat → Option Int
  | 0, _, _ => none
  | k + 1, n_2, v_3 =>
    if (decide (v_3 < s_1.length)) = true then
      unicode_utf8_RuneCountInString_l0 s_1 k (w64 (n_2 + (1 : Int))) (v_3 + runeW s_1 v_3)
    else
      some n_2
noncomputable def unicode_utf8_RuneCountInString (s_1 : Str) : Option Int :=
  (lim fun k => unicode_utf8_RuneCountInString_l0 s_1 k (0 : Int) 0).bind fun n_4 =>
  some n_4
noncomputable def node_Total_l0 (node_Size_r : api_Node → Option Int) : List api_Node → Int → Int → Option Int
  | [], v_5, many_4 =>
    some many_4
  | y_8 :: suf, v_5, many_4 =>
    (node_Size_r y_8).bind fun size_9 =>
    node_Total_l0 node_Size_r suf (v_5 + 1) (w64 (many_4 + size_9))
mutual
noncomputable def node_Total_k : Nat → (List api_Node) → Option Int
  | 0, _ => none
  | kr + 1, l_1 =>
    (chk (l_1.length ≤ 9223372036854775807) (node_Total_l0 (node_Size_k kr) l_1 (0 : Int) (0 : Int))).bind fun many_10 =>
    some many_10
noncomputable def node_Size_k : Nat → api_Node → Option Int
  | 0, _ => none
  | kr + 1, n_1 =>
    (node_isText n_1).bind fun istext_2 =>
    if (istext_2) = true then
      (unicode_utf8_RuneCountInString n_1.Text).bind fun runeco_3 =>
      some runeco_3
    else
      ((node_Total_k kr) n_1.Kids).bind fun total_4 =>
      some (w64 ((2 : Int) + total_4))
end
noncomputable def node_Total (l_1 : (List api_Node)) : Option Int := lim fun kr => node_Total_k kr l_1
noncomputable def node_Size (n_1 : api_Node) : Option Int := lim fun kr => node_Size_k kr n_1
noncomputable def slices_Equal_string_l0 (s2_2 : (List Str)) : List Str → Int → Option (Bool ⊕ Unit)
  | [], v_5 =>
    some (.inr ())
  | y_8 :: suf, v_5 =>
    (rd s2_2 v_5).bind fun x_9 =>
    if (!(y_8 == x_9)) = true then
      some (.inl false)
    else
      slices_Equal_string_l0 s2_2 suf (v_5 + 1)
noncomputable def slices_Equal_string (s1_1 : (List Str)) (s2_2 : (List Str)) : Option Bool :=
  if ((s1_1.length : Int) != (s2_2.length : Int)) = true then
    some false
  else
    (chk (s1_1.length ≤ 9223372036854775807) (slices_Equal_string_l0 s2_2 s1_1 (0 : Int))).bind fun e => match e with
    | .inl res_10 =>
      some res_10
    | .inr _ =>
      some true
noncomputable def node_alike (a_1 : api_Node) (b_2 : api_Node) : Option Bool :=
  (node_isText a_1).bind fun istext_3 =>
  if (istext_3) = true then
    (node_isText b_2).bind fun istext_4 =>
    if (istext_4) = true then
      (slices_Equal_string a_1.Marks b_2.Marks).bind fun string_5 =>
      some string_5
    else
      some false
  else
    some false
noncomputable def strings_Trim (s : Str) (cutset : Str) : Option Str :=
  chk (s.length ≤ 9223372036854775807 ∧ cutset.length < 4294967281 ∧ cutset.all (fun b => decide (b.toNat < 128)) = true) (some (Lib.trimS s cutset))
noncomputable def node_Name (s_1 : Str) : Option Bool :=
  (strings_Trim s_1 ([97, 98, 99, 100, 101, 102, 103, 104, 105, 106, 107, 108, 109, 110, 111, 112, 113, 114, 115, 116, 117, 118, 119, 120, 121, 122] : Str)).bind fun trim_2 =>
  if (trim_2 == ([] : Str)) = true then
    if (!(s_1 == ([] : Str))) = true then
      if (decide ((s_1.length : Int) ≤ (8 : Int))) = true then
        some (!(s_1 == ([116, 101, 120, 116] : Str)))
      else
        some false
    else
      some false
  else
    some false
noncomputable def node_rise_l0 (l_1 : (List Str)) : List Str → Int → Option (Bool ⊕ Unit)
  | [], v_5 =>
    some (.inr ())
  | y_9 :: suf, v_5 =>
    (node_Name y_9).bind fun name_10 =>
    if (!name_10) = true then
      some (.inl false)
    else
      if (decide (v_5 > (0 : Int))) = true then
        (rd l_1 (w64 (v_5 - (1 : Int)))).bind fun x_11 =>
        if ((Op.bytesLess y_9 x_11 || y_9 == x_11)) = true then
          some (.inl false)
        else
          node_rise_l0 l_1 suf (v_5 + 1)
      else
        node_rise_l0 l_1 suf (v_5 + 1)
noncomputable def node_rise (l_1 : (List Str)) : Option Bool :=
  (chk (l_1.length ≤ 9223372036854775807) (node_rise_l0 l_1 l_1 (0 : Int))).bind fun e => match e with
  | .inl res_12 =>
    some res_12
  | .inr _ =>
    some true
noncomputable def unicode_utf8_ValidString (s : Str) : Option Bool :=
  chk (s.length ≤ 9223372036854775807) (some (Lib.validD s))
noncomputable def node_Value (s_1 : Str) : Option Bool :=
  if (decide ((s_1.length : Int) ≤ (40 : Int))) = true then
    (unicode_utf8_ValidString s_1).bind fun valids_2 =>
    some valids_2
  else
    some false
noncomputable def node_formed_l0 : List api_Attr → Int → (List Str) → Option (Bool ⊕ (List Str))
  | [], v_8, names_9 =>
    some (.inr names_9)
  | y_13 :: suf, v_8, names_9 =>
    (node_Value y_13.Value).bind fun value_14 =>
    if (!value_14) = true then
      some (.inl false)
    else
      (app 16 names_9 [y_13.Name]).bind fun l_15 =>
      node_formed_l0 suf (v_8 + 1) l_15
noncomputable def node_formed_l1 (n_1 : api_Node) (node_formed_r : api_Node → Option Bool) : List api_Node → Int → Option (Bool ⊕ Unit)
  | [], v_26 =>
    some (.inr ())
  | y_31 :: suf, v_26 =>
    (node_formed_r y_31).bind fun formed_32 =>
    if (!formed_32) = true then
      some (.inl false)
    else
      if (decide (v_26 > (0 : Int))) = true then
        (rd n_1.Kids (w64 (v_26 - (1 : Int)))).bind fun x_33 =>
        (node_alike x_33 y_31).bind fun alike_34 =>
        if (alike_34) = true then
          some (.inl false)
        else
          node_formed_l1 n_1 node_formed_r suf (v_26 + 1)
      else
        node_formed_l1 n_1 node_formed_r suf (v_26 + 1)
noncomputable def node_formed_k : Nat → api_Node → Option Bool
  | 0, _ => none
  | kr + 1, n_1 =>
    (node_isText n_1).bind fun istext_2 =>
    if (istext_2) = true then
      if (!(n_1.Text == ([] : Str))) = true then
        (unicode_utf8_ValidString n_1.Text).bind fun valids_3 =>
        if (valids_3) = true then
          (node_rise n_1.Marks).bind fun rise_4 =>
          if (rise_4) = true then
            some ((w64 ((n_1.Attrs.length : Int) + (n_1.Kids.length : Int))) == (0 : Int))
          else
            some false
        else
          some false
      else
        some false
    else
      (chk (n_1.Attrs.length ≤ 9223372036854775807) (node_formed_l0 n_1.Attrs (0 : Int) ([] : List Str))).bind fun e => match e with
      | .inl res_16 =>
        some res_16
      | .inr names_19 =>
        (node_Name n_1.Kind).bind fun name_20 =>
        if (!name_20) = true then
          some false
        else
          if (!(n_1.Text == ([] : Str))) = true then
            some false
          else
            if (decide ((n_1.Marks.length : Int) > (0 : Int))) = true then
              some false
            else
              (node_rise names_19).bind fun rise_21 =>
              if (!rise_21) = true then
                some false
              else
                (chk (n_1.Kids.length ≤ 9223372036854775807) (node_formed_l1 n_1 (node_formed_k kr) n_1.Kids (0 : Int))).bind fun e => match e with
                | .inl res_35 =>
                  some res_35
                | .inr _ =>
                  some true
noncomputable def node_formed (n_1 : api_Node) : Option Bool := lim fun kr => node_formed_k kr n_1
noncomputable def node_Depth_l0 (node_Depth_r : api_Node → Option Int) : List api_Node → Int → Int → Option Int
  | [], v_6, deepest_5 =>
    some deepest_5
  | y_9 :: suf, v_6, deepest_5 =>
    (node_Depth_r y_9).bind fun depth_10 =>
    node_Depth_l0 node_Depth_r suf (v_6 + 1) (if depth_10 > deepest_5 then depth_10 else deepest_5)
noncomputable def node_Depth_k : Nat → api_Node → Option Int
  | 0, _ => none
  | kr + 1, n_1 =>
    (node_isText n_1).bind fun istext_2 =>
    if (istext_2) = true then
      some (0 : Int)
    else
      (chk (n_1.Kids.length ≤ 9223372036854775807) (node_Depth_l0 (node_Depth_k kr) n_1.Kids (0 : Int) (0 : Int))).bind fun deepest_11 =>
      some (w64 (deepest_11 + (1 : Int)))
noncomputable def node_Depth (n_1 : api_Node) : Option Int := lim fun kr => node_Depth_k kr n_1
noncomputable def node_Check (n_1 : api_Node) : Option Int :=
  (node_formed n_1).bind fun formed_2 =>
  if (!formed_2) = true then
    some (2 : Int)
  else
    (node_Depth n_1).bind fun depth_3 =>
    if (decide (depth_3 > (40 : Int))) = true then
      some (4 : Int)
    else
      (node_Size n_1).bind fun size_4 =>
      if (decide (size_4 > (4000 : Int))) = true then
        some (5 : Int)
      else
        some (0 : Int)
noncomputable def step_Right (s_1 : step_Step) : Option Bool :=
  ((
      if (decide (s_1.From ≥ (0 : Int))) = true then
        if (decide (s_1.From ≤ s_1.To)) = true then
          some (decide (s_1.To ≤ (1048576 : Int)))
        else
          some false
      else
        some false) : Option Bool).bind fun span_2 =>
  if (s_1.Kind == (114 : Int)) = true then
    (node_Check ({ Kind := ([120] : Str), Text := ([] : Str), Marks := [], Attrs := [], Kids := s_1.Nodes } : api_Node)).bind fun check_3 =>
    if (span_2) = true then
      if (check_3 != (2 : Int)) = true then
        chk (s_1.Name.length + s_1.Value.length ≤ 9223372036854775807) (
          some ((s_1.Name ++ s_1.Value) == ([] : Str)))
      else
        some false
    else
      some false
  else
    if (s_1.Kind == (97 : Int)) = true then
      if (decide (s_1.From ≥ (-1 : Int))) = true then
        if (decide (s_1.From ≤ (1048576 : Int))) = true then
          if (s_1.To == (0 : Int)) = true then
            (node_Name s_1.Name).bind fun name_4 =>
            if (name_4) = true then
              (node_Value s_1.Value).bind fun value_5 =>
              if (value_5) = true then
                some ((s_1.Nodes.length : Int) == (0 : Int))
              else
                some false
            else
              some false
          else
            some false
        else
          some false
      else
        some false
    else
      if (s_1.Kind == (109 : Int)) = true then
        if (span_2) = true then
          (node_Name s_1.Name).bind fun name_6 =>
          if (name_6) = true then
            if ((s_1.Nodes.length : Int) == (0 : Int)) = true then
              some (s_1.Value == ([] : Str))
            else
              some false
          else
            some false
        else
          some false
      else
        if (s_1.Kind == (117 : Int)) = true then
          if (span_2) = true then
            (node_Name s_1.Name).bind fun name_7 =>
            if (name_7) = true then
              if ((s_1.Nodes.length : Int) == (0 : Int)) = true then
                some (s_1.Value == ([] : Str))
              else
                some false
            else
              some false
          else
            some false
        else
          some false
noncomputable def strings_Join (l : (List Str)) (sep : Str) : Option Str :=
  chk (l.length ≤ 140737488355328 ∧ (Lib.join l sep).length ≤ 140737488355328) (some (Lib.join l sep))
noncomputable def strings_ReplaceAll (s : Str) (old : Str) (new : Str) : Option Str :=
  chk (s.length < 4294967281 ∧ 1 ≤ old.length ∧ s.length + Lib.countB (ba s) (ba old) * new.length ≤ 140737488355328) (some (Lib.replaceAll s old new))
noncomputable def codec_Quote (s_1 : Str) : Option Str :=
  (strings_ReplaceAll s_1 ([92] : Str) ([92, 92] : Str)).bind fun replac_2 =>
  (strings_ReplaceAll replac_2 ([34] : Str) ([92, 34] : Str)).bind fun replac_3 =>
  chk (([34] : Str).length + replac_3.length ≤ 9223372036854775807) (
    chk ((([34] : Str) ++ replac_3).length + ([34] : Str).length ≤ 9223372036854775807) (
      some ((([34] : Str) ++ replac_3) ++ ([34] : Str))))
noncomputable def codec_Head_l0 : List api_Attr → Int → (List Str) → Option (List Str)
  | [], v_6, l_7 =>
    some l_7
  | y_11 :: suf, v_6, l_7 =>
    chk (y_11.Name.length + ([61] : Str).length ≤ 9223372036854775807) (
      (codec_Quote y_11.Value).bind fun quote_12 =>
      chk ((y_11.Name ++ ([61] : Str)).length + quote_12.length ≤ 9223372036854775807) (
        (app 16 l_7 [(y_11.Name ++ ([61] : Str)) ++ quote_12]).bind fun l_13 =>
        codec_Head_l0 suf (v_6 + 1) l_13))
noncomputable def codec_Head (n_1 : api_Node) : Option Str :=
  if (n_1.Kind == ([116, 101, 120, 116] : Str)) = true then
    if ((n_1.Marks.length : Int) == (0 : Int)) = true then
      some ([] : Str)
    else
      (strings_Join n_1.Marks ([44] : Str)).bind fun join_2 =>
      chk (([60] : Str).length + join_2.length ≤ 9223372036854775807) (
        chk ((([60] : Str) ++ join_2).length + ([62] : Str).length ≤ 9223372036854775807) (
          some ((([60] : Str) ++ join_2) ++ ([62] : Str))))
  else
    if ((n_1.Attrs.length : Int) == (0 : Int)) = true then
      some n_1.Kind
    else
      (chk (n_1.Attrs.length ≤ 9223372036854775807) (codec_Head_l0 n_1.Attrs (0 : Int) ([] : List Str))).bind fun l_16 =>
      chk (n_1.Kind.length + ([40] : Str).length ≤ 9223372036854775807) (
        (strings_Join l_16 ([32] : Str)).bind fun join_17 =>
        chk ((n_1.Kind ++ ([40] : Str)).length + join_17.length ≤ 9223372036854775807) (
          chk (((n_1.Kind ++ ([40] : Str)) ++ join_17).length + ([41] : Str).length ≤ 9223372036854775807) (
            some (((n_1.Kind ++ ([40] : Str)) ++ join_17) ++ ([41] : Str)))))
noncomputable def strings_Builder_copyCheck_x (l : Str) : Option (List UInt8) :=
  some l
noncomputable def strings_Builder_WriteString_x (s_1 : Str) (l_2 : (List UInt8)) : Option (Int × (List UInt8)) :=
  (strings_Builder_copyCheck_x l_2).bind fun l_3 =>
  (app 1 l_3 s_1).bind fun l_4 =>
  some ((s_1.length : Int), l_4)
noncomputable def codec_write_x_l0 (codec_write_x_r : api_Node → (List UInt8) → Option (List UInt8)) : List api_Node → Int → (List UInt8) → Option (List UInt8)
  | [], v_12, v_13 =>
    some v_13
  | y_16 :: suf, v_12, v_13 =>
    (codec_write_x_r y_16 v_13).bind fun l_17 =>
    codec_write_x_l0 codec_write_x_r suf (v_12 + 1) l_17
noncomputable def codec_write_x_k : Nat → api_Node → (List UInt8) → Option (List UInt8)
  | 0, _, _ => none
  | kr + 1, n_1, l_2 =>
    if (n_1.Kind == ([116, 101, 120, 116] : Str)) = true then
      (codec_Quote n_1.Text).bind fun quote_3 =>
      (codec_Head n_1).bind fun head_4 =>
      chk (quote_3.length + head_4.length ≤ 9223372036854775807) (
        (strings_Builder_WriteString_x (quote_3 ++ head_4) l_2).bind fun (r_5, l_6) =>
        some l_6)
    else
      (codec_Head n_1).bind fun head_7 =>
      chk (head_7.length + ([91] : Str).length ≤ 9223372036854775807) (
        (strings_Builder_WriteString_x (head_7 ++ ([91] : Str)) l_2).bind fun (r_8, l_9) =>
        (chk (n_1.Kids.length ≤ 9223372036854775807) (codec_write_x_l0 (codec_write_x_k kr) n_1.Kids (0 : Int) l_9)).bind fun v_20 =>
        (strings_Builder_WriteString_x ([93] : Str) v_20).bind fun (r_21, l_22) =>
        some l_22)
noncomputable def codec_write_x (n_1 : api_Node) (l_2 : (List UInt8)) : Option (List UInt8) := lim fun kr => codec_write_x_k kr n_1 l_2
noncomputable def strings_Builder_String_x (l : Str) : Option (Str × (List UInt8)) :=
  chk (l.length ≤ 9223372036854775807) (some (l, l))
noncomputable def codec_Print (n_1 : api_Node) : Option (Str × Int) :=
  (node_Check n_1).bind fun check_2 =>
  if (check_2 != (0 : Int)) = true then
    some (([] : Str), check_2)
  else
    (codec_write_x n_1 ([] : Str)).bind fun l_3 =>
    (strings_Builder_String_x l_3).bind fun (r_4, l_5) =>
    some (r_4, (0 : Int))
noncomputable def codec_PrintAll (l_1 : (List api_Node)) : Option (Str × Int) :=
  (codec_Print ({ Kind := ([120] : Str), Text := ([] : Str), Marks := [], Attrs := [], Kids := l_1 } : api_Node)).bind fun (r_2, r_3) =>
  if (r_3 != (0 : Int)) = true then
    some (([] : Str), r_3)
  else
    (sl r_2 (2 : Int) (w64 ((r_2.length : Int) - (1 : Int)))).bind fun s_4 =>
    some (s_4, (0 : Int))
noncomputable def strconv_Itoa (n : Int) : Option Str :=
  chk (-9223372036854775808 ≤ n ∧ n ≤ 9223372036854775807) (some (Lib.itoa n))
noncomputable def wire_write (s_1 : step_Step) (nodes_2 : Str) : Option Str :=
  (strconv_Itoa s_1.From).bind fun itoa_3 =>
  (strconv_Itoa s_1.To).bind fun itoa_4 =>
  if (s_1.Kind == (114 : Int)) = true then
    if (!(nodes_2 == ([] : Str))) = true then
      (app 16 [([114, 101, 112, 108, 97, 99, 101] : Str), itoa_3, itoa_4] [nodes_2]).bind fun l_5 =>
      (strings_Join l_5 ([32] : Str)).bind fun join_6 =>
      some join_6
    else
      (strings_Join [([114, 101, 112, 108, 97, 99, 101] : Str), itoa_3, itoa_4] ([32] : Str)).bind fun join_7 =>
      some join_7
  else
    if (s_1.Kind == (97 : Int)) = true then
      (codec_Quote s_1.Value).bind fun quote_8 =>
      (strings_Join [([97, 116, 116, 114] : Str), itoa_3, s_1.Name, quote_8] ([32] : Str)).bind fun join_9 =>
      some join_9
    else
      if (s_1.Kind == (109 : Int)) = true then
        (rd [([117, 110, 109, 97, 114, 107] : Str), itoa_3, itoa_4, s_1.Name] (0 : Int)).bind fun x_10 =>
        (wr [([117, 110, 109, 97, 114, 107] : Str), itoa_3, itoa_4, s_1.Name] (0 : Int) ([109, 97, 114, 107] : Str)).bind fun l_11 =>
        (strings_Join l_11 ([32] : Str)).bind fun join_12 =>
        some join_12
      else
        (strings_Join [([117, 110, 109, 97, 114, 107] : Str), itoa_3, itoa_4, s_1.Name] ([32] : Str)).bind fun join_13 =>
        some join_13
noncomputable def wire_Print (s_1 : step_Step) : Option (Str × Int) :=
  (step_Right s_1).bind fun right_2 =>
  if (!right_2) = true then
    some (([] : Str), (1 : Int))
  else
    (codec_PrintAll s_1.Nodes).bind fun (r_3, r_4) =>
    if (r_4 != (0 : Int)) = true then
      some (([] : Str), r_4)
    else
      (wire_write s_1 r_3).bind fun write_5 =>
      some (write_5, (0 : Int))
noncomputable def diptychlaw12_shown : Option Bool :=
  (wire_Print ({ Kind := (114 : Int), From := (1 : Int), To := (3 : Int), Nodes := [({ Kind := ([112] : Str), Text := ([] : Str), Marks := [], Attrs := [], Kids := [] } : api_Node)], Name := ([] : Str), Value := ([] : Str) } : step_Step)).bind fun (r_1, r_2) =>
  if (r_1 == ([114, 101, 112, 108, 97, 99, 101, 32, 49, 32, 51, 32, 112, 91, 93] : Str)) = true then
    some (r_2 == (0 : Int))
  else
    some false
noncomputable def diptychlaw12_light_l0 : List Str → Int → Int → Option Int
  | [], i_5, left_4 =>
    some left_4
  | y_7 :: suf, i_5, left_4 =>
    if (decide (left_4 > (0 : Int))) = true then
      diptychlaw12_light_l0 suf (i_5 + 1) (w64 ((w64 (left_4 - (1 : Int))) - (y_7.length : Int)))
    else
      some left_4
noncomputable def diptychlaw12_light_l1 : List api_Attr → Int → Int → Option Int
  | [], i_13, left_12 =>
    some left_12
  | y_15 :: suf, i_13, left_12 =>
    if (decide (left_12 > (0 : Int))) = true then
      diptychlaw12_light_l1 suf (i_13 + 1) (w64 ((w64 ((w64 (left_12 - (1 : Int))) - (y_15.Name.length : Int))) - (y_15.Value.length : Int)))
    else
      some left_12
noncomputable def diptychlaw12_light_l2 (diptychlaw12_light_r : api_Node → Int → Option Int) : List api_Node → Int → Int → Option Int
  | [], i_22, left_21 =>
    some left_21
  | y_25 :: suf, i_22, left_21 =>
    if (decide (left_21 > (0 : Int))) = true then
      (diptychlaw12_light_r y_25 left_21).bind fun light_26 =>
      diptychlaw12_light_l2 diptychlaw12_light_r suf (i_22 + 1) light_26
    else
      some left_21
noncomputable def diptychlaw12_light_k : Nat → api_Node → Int → Option Int
  | 0, _, _ => none
  | kr + 1, n_1, left_2 =>
    (chk (n_1.Marks.length ≤ 9223372036854775807) (diptychlaw12_light_l0 n_1.Marks (0 : Int) (w64 ((w64 ((w64 (left_2 - (1 : Int))) - (n_1.Kind.length : Int))) - (n_1.Text.length : Int))))).bind fun left_8 =>
    (chk (n_1.Attrs.length ≤ 9223372036854775807) (diptychlaw12_light_l1 n_1.Attrs (0 : Int) left_8)).bind fun left_16 =>
    (chk (n_1.Kids.length ≤ 9223372036854775807) (diptychlaw12_light_l2 (diptychlaw12_light_k kr) n_1.Kids (0 : Int) left_16)).bind fun left_27 =>
    if (decide (left_27 < (1 : Int))) = true then
      some (-1 : Int)
    else
      some left_27
noncomputable def diptychlaw12_light (n_1 : api_Node) (left_2 : Int) : Option Int := lim fun kr => diptychlaw12_light_k kr n_1 left_2
noncomputable def diptychlaw12_few_l0 : List step_Step → Int → Option (Bool ⊕ Unit)
  | [], i_4 =>
    some (.inr ())
  | y_7 :: suf, i_4 =>
    (diptychlaw12_light ({ Kind := ([] : Str), Text := ([] : Str), Marks := [], Attrs := [], Kids := y_7.Nodes } : api_Node) (1000 : Int)).bind fun light_8 =>
    if (decide (light_8 < (0 : Int))) = true then
      some (.inl false)
    else
      if (decide ((y_7.Name.length : Int) > (100 : Int))) = true then
        some (.inl false)
      else
        if (decide ((y_7.Value.length : Int) > (300 : Int))) = true then
          some (.inl false)
        else
          diptychlaw12_few_l0 suf (i_4 + 1)
noncomputable def diptychlaw12_few (l_1 : (List step_Step)) : Option Bool :=
  (chk (l_1.length ≤ 9223372036854775807) (diptychlaw12_few_l0 l_1 (0 : Int))).bind fun e => match e with
  | .inl res_9 =>
    some res_9
  | .inr _ =>
    some (decide ((l_1.length : Int) < (15 : Int)))
noncomputable def diptychref1_sameNames_l0 (b_2 : (List Str)) : List Str → Int → Option (Bool ⊕ Unit)
  | [], i_5 =>
    some (.inr ())
  | y_8 :: suf, i_5 =>
    (rd b_2 i_5).bind fun x_9 =>
    if (!(y_8 == x_9)) = true then
      some (.inl false)
    else
      diptychref1_sameNames_l0 b_2 suf (i_5 + 1)
noncomputable def diptychref1_sameNames (a_1 : (List Str)) (b_2 : (List Str)) : Option Bool :=
  if ((a_1.length : Int) != (b_2.length : Int)) = true then
    some false
  else
    (chk (a_1.length ≤ 9223372036854775807) (diptychref1_sameNames_l0 b_2 a_1 (0 : Int))).bind fun e => match e with
    | .inl res_10 =>
      some res_10
    | .inr _ =>
      some true
noncomputable def diptychref1_Same_l0 (b_2 : api_Node) : List api_Attr → Int → Option (Bool ⊕ Unit)
  | [], i_6 =>
    some (.inr ())
  | y_9 :: suf, i_6 =>
    (rd b_2.Attrs i_6).bind fun x_10 =>
    if ((((y_9.Name == x_10.Name) && (y_9.Value == x_10.Value)) != true)) = true then
      some (.inl false)
    else
      diptychref1_Same_l0 b_2 suf (i_6 + 1)
noncomputable def diptychref1_SameAll_l0 (b_2 : (List api_Node)) (diptychref1_Same_r : api_Node → api_Node → Option Bool) : List api_Node → Int → Option (Bool ⊕ Unit)
  | [], i_6 =>
    some (.inr ())
  | y_10 :: suf, i_6 =>
    (rd b_2 i_6).bind fun x_11 =>
    (diptychref1_Same_r y_10 x_11).bind fun same_12 =>
    if (!same_12) = true then
      some (.inl false)
    else
      diptychref1_SameAll_l0 b_2 diptychref1_Same_r suf (i_6 + 1)
mutual
noncomputable def diptychref1_Same_k : Nat → api_Node → api_Node → Option Bool
  | 0, _, _ => none
  | kr + 1, a_1, b_2 =>
    if (!(a_1.Kind == b_2.Kind)) = true then
      some false
    else
      if (!(a_1.Text == b_2.Text)) = true then
        some false
      else
        (diptychref1_sameNames a_1.Marks b_2.Marks).bind fun samena_3 =>
        if (!samena_3) = true then
          some false
        else
          if ((a_1.Attrs.length : Int) != (b_2.Attrs.length : Int)) = true then
            some false
          else
            (chk (a_1.Attrs.length ≤ 9223372036854775807) (diptychref1_Same_l0 b_2 a_1.Attrs (0 : Int))).bind fun e => match e with
            | .inl res_11 =>
              some res_11
            | .inr _ =>
              ((diptychref1_SameAll_k kr) a_1.Kids b_2.Kids).bind fun sameal_14 =>
              some sameal_14
noncomputable def diptychref1_SameAll_k : Nat → (List api_Node) → (List api_Node) → Option Bool
  | 0, _, _ => none
  | kr + 1, a_1, b_2 =>
    if ((a_1.length : Int) != (b_2.length : Int)) = true then
      some false
    else
      (chk (a_1.length ≤ 9223372036854775807) (diptychref1_SameAll_l0 b_2 (diptychref1_Same_k kr) a_1 (0 : Int))).bind fun e => match e with
      | .inl res_13 =>
        some res_13
      | .inr _ =>
        some true
end
noncomputable def diptychref1_Same (a_1 : api_Node) (b_2 : api_Node) : Option Bool := lim fun kr => diptychref1_Same_k kr a_1 b_2
noncomputable def diptychref1_SameAll (a_1 : (List api_Node)) (b_2 : (List api_Node)) : Option Bool := lim fun kr => diptychref1_SameAll_k kr a_1 b_2
noncomputable def diptychref1_Join_l0 : List api_Node → Int → (List api_Node) → Option (List api_Node)
  | [], i_13, out_14 =>
    some out_14
  | y_26 :: suf, i_13, out_14 =>
    ((
        if (y_26.Kind == ([116, 101, 120, 116] : Str)) = true then
          if (y_26.Text == ([] : Str)) = true then
            some (.inl ())
          else
            some (.inr ())
        else
          some (.inr ())) : Option (Unit ⊕ Unit)).bind fun e => match e with
    | .inl _ =>
      diptychref1_Join_l0 suf (i_13 + 1) out_14
    | .inr _ =>
      if (y_26.Kind == ([116, 101, 120, 116] : Str)) = true then
        if (decide ((w64 ((out_14.length : Int) - (1 : Int))) ≥ (0 : Int))) = true then
          (rd out_14 (w64 ((out_14.length : Int) - (1 : Int)))).bind fun x_28 =>
          if (x_28.Kind == ([116, 101, 120, 116] : Str)) = true then
            (diptychref1_sameNames x_28.Marks y_26.Marks).bind fun samena_29 =>
            if (samena_29) = true then
              chk (x_28.Text.length + y_26.Text.length ≤ 9223372036854775807) (
                (sl out_14 (0 : Int) (w64 ((out_14.length : Int) - (1 : Int)))).bind fun s_30 =>
                (app 104 ([] : List api_Node) s_30).bind fun l_31 =>
                (app 104 l_31 [{ y_26 with Text := x_28.Text ++ y_26.Text }]).bind fun l_32 =>
                diptychref1_Join_l0 suf (i_13 + 1) l_32)
            else
              (app 104 out_14 [y_26]).bind fun l_33 =>
              diptychref1_Join_l0 suf (i_13 + 1) l_33
          else
            (app 104 out_14 [y_26]).bind fun l_34 =>
            diptychref1_Join_l0 suf (i_13 + 1) l_34
        else
          (app 104 out_14 [y_26]).bind fun l_35 =>
          diptychref1_Join_l0 suf (i_13 + 1) l_35
      else
        (app 104 out_14 [y_26]).bind fun l_36 =>
        diptychref1_Join_l0 suf (i_13 + 1) l_36
noncomputable def diptychref1_Join (l_1 : (List api_Node)) : Option (List api_Node) :=
  (chk (l_1.length ≤ 9223372036854775807) (diptychref1_Join_l0 l_1 (0 : Int) ([] : List api_Node))).bind fun out_39 =>
  some out_39
noncomputable def diptychref1_Name_l0 (s_1 : Str) : Nat → Int → Option (Bool ⊕ Unit)
  | 0, _ => none
  | k + 1, i_2 =>
    if (decide (i_2 < (s_1.length : Int))) = true then
      chk (0 ≤ i_2 ∧ i_2 < (s_1.length : Int)) (
        if (decide (((s_1.getD i_2.toNat 0).toNat : Int) < (97 : Int))) = true then
          some (.inl false)
        else
          chk (0 ≤ i_2 ∧ i_2 < (s_1.length : Int)) (
            if (decide (((s_1.getD i_2.toNat 0).toNat : Int) > (122 : Int))) = true then
              some (.inl false)
            else
              diptychref1_Name_l0 s_1 k (w64 (i_2 + (1 : Int)))))
    else
      some (.inr ())
noncomputable def diptychref1_Name (s_1 : Str) : Option Bool :=
  (lim fun k => diptychref1_Name_l0 s_1 k (0 : Int)).bind fun e => match e with
  | .inl res_3 =>
    some res_3
  | .inr _ =>
    if (decide ((s_1.length : Int) ≥ (1 : Int))) = true then
      if (decide ((s_1.length : Int) ≤ (8 : Int))) = true then
        some (!(s_1 == ([116, 101, 120, 116] : Str)))
      else
        some false
    else
      some false
noncomputable def diptychref1_rise_l0 (l_1 : (List Str)) : List Str → Int → Option (Bool ⊕ Unit)
  | [], i_5 =>
    some (.inr ())
  | y_9 :: suf, i_5 =>
    (diptychref1_Name y_9).bind fun name_10 =>
    if (!name_10) = true then
      some (.inl false)
    else
      if (decide (i_5 > (0 : Int))) = true then
        (rd l_1 (w64 (i_5 - (1 : Int)))).bind fun x_11 =>
        if ((Op.bytesLess y_9 x_11 || y_9 == x_11)) = true then
          some (.inl false)
        else
          diptychref1_rise_l0 l_1 suf (i_5 + 1)
      else
        diptychref1_rise_l0 l_1 suf (i_5 + 1)
noncomputable def diptychref1_rise (l_1 : (List Str)) : Option Bool :=
  (chk (l_1.length ≤ 9223372036854775807) (diptychref1_rise_l0 l_1 l_1 (0 : Int))).bind fun e => match e with
  | .inl res_12 =>
    some res_12
  | .inr _ =>
    some true
noncomputable def diptychref1_runes (s_1 : Str) : Option ((List Int) × Bool) :=
  some (runes s_1, (runesStr (runes s_1)) == s_1)
noncomputable def diptychref1_formed (s_1 : Str) : Option Bool :=
  (diptychref1_runes s_1).bind fun (r_2, r_3) =>
  some r_3
noncomputable def diptychref1_Value (s_1 : Str) : Option Bool :=
  if (decide ((s_1.length : Int) ≤ (40 : Int))) = true then
    (diptychref1_formed s_1).bind fun formed_2 =>
    some formed_2
  else
    some false
noncomputable def diptychref1_Formed_l0 : List api_Attr → Int → (List Str) → Option (Bool ⊕ (List Str))
  | [], i_7, names_8 =>
    some (.inr names_8)
  | y_12 :: suf, i_7, names_8 =>
    (app 16 names_8 [y_12.Name]).bind fun l_13 =>
    (diptychref1_Value y_12.Value).bind fun value_14 =>
    if (!value_14) = true then
      some (.inl false)
    else
      diptychref1_Formed_l0 suf (i_7 + 1) l_13
noncomputable def diptychref1_Formed_l1 (n_1 : api_Node) (diptychref1_Formed_r : api_Node → Option Bool) : List api_Node → Int → Option (Bool ⊕ Unit)
  | [], i_25 =>
    some (.inr ())
  | y_30 :: suf, i_25 =>
    (diptychref1_Formed_r y_30).bind fun formed_31 =>
    if (!formed_31) = true then
      some (.inl false)
    else
      if (decide (i_25 > (0 : Int))) = true then
        if (y_30.Kind == ([116, 101, 120, 116] : Str)) = true then
          (rd n_1.Kids (w64 (i_25 - (1 : Int)))).bind fun x_32 =>
          if (x_32.Kind == ([116, 101, 120, 116] : Str)) = true then
            (diptychref1_sameNames y_30.Marks x_32.Marks).bind fun samena_33 =>
            if (samena_33) = true then
              some (.inl false)
            else
              diptychref1_Formed_l1 n_1 diptychref1_Formed_r suf (i_25 + 1)
          else
            diptychref1_Formed_l1 n_1 diptychref1_Formed_r suf (i_25 + 1)
        else
          diptychref1_Formed_l1 n_1 diptychref1_Formed_r suf (i_25 + 1)
      else
        diptychref1_Formed_l1 n_1 diptychref1_Formed_r suf (i_25 + 1)
noncomputable def diptychref1_Formed_k : Nat → api_Node → Option Bool
  | 0, _ => none
  | kr + 1, n_1 =>
    if (n_1.Kind == ([116, 101, 120, 116] : Str)) = true then
      if (!(n_1.Text == ([] : Str))) = true then
        (diptychref1_formed n_1.Text).bind fun formed_2 =>
        if (formed_2) = true then
          (diptychref1_rise n_1.Marks).bind fun rise_3 =>
          if (rise_3) = true then
            if ((n_1.Attrs.length : Int) == (0 : Int)) = true then
              some ((n_1.Kids.length : Int) == (0 : Int))
            else
              some false
          else
            some false
        else
          some false
      else
        some false
    else
      (chk (n_1.Attrs.length ≤ 9223372036854775807) (diptychref1_Formed_l0 n_1.Attrs (0 : Int) ([] : List Str))).bind fun e => match e with
      | .inl res_15 =>
        some res_15
      | .inr names_18 =>
        (diptychref1_Name n_1.Kind).bind fun name_19 =>
        if (!name_19) = true then
          some false
        else
          if (!(n_1.Text == ([] : Str))) = true then
            some false
          else
            if (decide ((n_1.Marks.length : Int) > (0 : Int))) = true then
              some false
            else
              (diptychref1_rise names_18).bind fun rise_20 =>
              if (!rise_20) = true then
                some false
              else
                (chk (n_1.Kids.length ≤ 9223372036854775807) (diptychref1_Formed_l1 n_1 (diptychref1_Formed_k kr) n_1.Kids (0 : Int))).bind fun e => match e with
                | .inl res_34 =>
                  some res_34
                | .inr _ =>
                  some true
noncomputable def diptychref1_Formed (n_1 : api_Node) : Option Bool := lim fun kr => diptychref1_Formed_k kr n_1
noncomputable def diptychref11_Right (s_1 : diptychref11_Step) : Option Bool :=
  ((
      if (decide (s_1.From ≥ (0 : Int))) = true then
        if (decide (s_1.From ≤ s_1.To)) = true then
          some (decide (s_1.To ≤ (1048576 : Int)))
        else
          some false
      else
        some false) : Option Bool).bind fun span_2 =>
  if (s_1.Kind == (114 : Int)) = true then
    if (span_2) = true then
      (diptychref1_Join s_1.Nodes).bind fun join_3 =>
      (diptychref1_SameAll join_3 s_1.Nodes).bind fun sameal_4 =>
      if (sameal_4) = true then
        (diptychref1_Formed ({ Kind := ([120] : Str), Text := ([] : Str), Marks := [], Attrs := [], Kids := s_1.Nodes } : api_Node)).bind fun formed_5 =>
        if (formed_5) = true then
          if (s_1.Name == ([] : Str)) = true then
            some (s_1.Value == ([] : Str))
          else
            some false
        else
          some false
      else
        some false
    else
      some false
  else
    if (s_1.Kind == (97 : Int)) = true then
      if (decide (s_1.From ≥ (-1 : Int))) = true then
        if (decide (s_1.From ≤ (1048576 : Int))) = true then
          if (s_1.To == (0 : Int)) = true then
            (diptychref1_Name s_1.Name).bind fun name_6 =>
            if (name_6) = true then
              (diptychref1_Value s_1.Value).bind fun value_7 =>
              if (value_7) = true then
                some ((s_1.Nodes.length : Int) == (0 : Int))
              else
                some false
            else
              some false
          else
            some false
        else
          some false
      else
        some false
    else
      if (s_1.Kind == (109 : Int)) = true then
        if (span_2) = true then
          (diptychref1_Name s_1.Name).bind fun name_8 =>
          if (name_8) = true then
            if ((s_1.Nodes.length : Int) == (0 : Int)) = true then
              some (s_1.Value == ([] : Str))
            else
              some false
          else
            some false
        else
          some false
      else
        if (s_1.Kind == (117 : Int)) = true then
          if (span_2) = true then
            (diptychref1_Name s_1.Name).bind fun name_9 =>
            if (name_9) = true then
              if ((s_1.Nodes.length : Int) == (0 : Int)) = true then
                some (s_1.Value == ([] : Str))
              else
                some false
            else
              some false
          else
            some false
        else
          some false
noncomputable def diptychref2_Quote_l0 (s_1 : Str) : Nat → Str → Int → Option Str
  | 0, _, _ => none
  | k + 1, out_5, i_6 =>
    if (decide (i_6 < (s_1.length : Int))) = true then
      chk (0 ≤ i_6 ∧ i_6 < (s_1.length : Int)) (
        if (((s_1.getD i_6.toNat 0).toNat : Int) == (34 : Int)) = true then
          chk (out_5.length + ([92] : Str).length ≤ 9223372036854775807) (
            (sl s_1 i_6 (w64 (i_6 + (1 : Int)))).bind fun s_7 =>
            chk ((out_5 ++ ([92] : Str)).length + s_7.length ≤ 9223372036854775807) (
              diptychref2_Quote_l0 s_1 k ((out_5 ++ ([92] : Str)) ++ s_7) (w64 (i_6 + (1 : Int)))))
        else
          chk (0 ≤ i_6 ∧ i_6 < (s_1.length : Int)) (
            if (((s_1.getD i_6.toNat 0).toNat : Int) == (92 : Int)) = true then
              chk (out_5.length + ([92] : Str).length ≤ 9223372036854775807) (
                (sl s_1 i_6 (w64 (i_6 + (1 : Int)))).bind fun s_8 =>
                chk ((out_5 ++ ([92] : Str)).length + s_8.length ≤ 9223372036854775807) (
                  diptychref2_Quote_l0 s_1 k ((out_5 ++ ([92] : Str)) ++ s_8) (w64 (i_6 + (1 : Int)))))
            else
              (sl s_1 i_6 (w64 (i_6 + (1 : Int)))).bind fun s_9 =>
              chk (out_5.length + s_9.length ≤ 9223372036854775807) (
                diptychref2_Quote_l0 s_1 k (out_5 ++ s_9) (w64 (i_6 + (1 : Int))))))
    else
      some out_5
noncomputable def diptychref2_Quote (s_1 : Str) : Option Str :=
  (lim fun k => diptychref2_Quote_l0 s_1 k ([34] : Str) (0 : Int)).bind fun out_10 =>
  chk (out_10.length + ([34] : Str).length ≤ 9223372036854775807) (
    some (out_10 ++ ([34] : Str)))
noncomputable def diptychref2_Head_l0 : List Str → Int → Str → Option Str
  | [], i_5, s_4 =>
    some s_4
  | y_8 :: suf, i_5, s_4 =>
    if (decide (i_5 > (0 : Int))) = true then
      chk (s_4.length + ([44] : Str).length ≤ 9223372036854775807) (
        chk ((s_4 ++ ([44] : Str)).length + y_8.length ≤ 9223372036854775807) (
          diptychref2_Head_l0 suf (i_5 + 1) ((s_4 ++ ([44] : Str)) ++ y_8)))
    else
      chk (s_4.length + y_8.length ≤ 9223372036854775807) (
        diptychref2_Head_l0 suf (i_5 + 1) (s_4 ++ y_8))
noncomputable def diptychref2_Head_l1 : List api_Attr → Int → Str → Option Str
  | [], i_17, s_16 =>
    some s_16
  | y_22 :: suf, i_17, s_16 =>
    if (decide (i_17 > (0 : Int))) = true then
      chk (s_16.length + ([32] : Str).length ≤ 9223372036854775807) (
        chk ((s_16 ++ ([32] : Str)).length + y_22.Name.length ≤ 9223372036854775807) (
          chk (((s_16 ++ ([32] : Str)) ++ y_22.Name).length + ([61] : Str).length ≤ 9223372036854775807) (
            (diptychref2_Quote y_22.Value).bind fun quote_23 =>
            chk ((((s_16 ++ ([32] : Str)) ++ y_22.Name) ++ ([61] : Str)).length + quote_23.length ≤ 9223372036854775807) (
              diptychref2_Head_l1 suf (i_17 + 1) ((((s_16 ++ ([32] : Str)) ++ y_22.Name) ++ ([61] : Str)) ++ quote_23)))))
    else
      chk (s_16.length + y_22.Name.length ≤ 9223372036854775807) (
        chk ((s_16 ++ y_22.Name).length + ([61] : Str).length ≤ 9223372036854775807) (
          (diptychref2_Quote y_22.Value).bind fun quote_24 =>
          chk (((s_16 ++ y_22.Name) ++ ([61] : Str)).length + quote_24.length ≤ 9223372036854775807) (
            diptychref2_Head_l1 suf (i_17 + 1) (((s_16 ++ y_22.Name) ++ ([61] : Str)) ++ quote_24))))
noncomputable def diptychref2_Head (n_1 : api_Node) : Option Str :=
  if (n_1.Kind == ([116, 101, 120, 116] : Str)) = true then
    (chk (n_1.Marks.length ≤ 9223372036854775807) (diptychref2_Head_l0 n_1.Marks (0 : Int) ([] : Str))).bind fun s_9 =>
    if (decide ((n_1.Marks.length : Int) > (0 : Int))) = true then
      chk (([60] : Str).length + s_9.length ≤ 9223372036854775807) (
        chk ((([60] : Str) ++ s_9).length + ([62] : Str).length ≤ 9223372036854775807) (
          some ((([60] : Str) ++ s_9) ++ ([62] : Str))))
    else
      some s_9
  else
    (chk (n_1.Attrs.length ≤ 9223372036854775807) (diptychref2_Head_l1 n_1.Attrs (0 : Int) ([] : Str))).bind fun s_25 =>
    if (decide ((n_1.Attrs.length : Int) > (0 : Int))) = true then
      chk (([40] : Str).length + s_25.length ≤ 9223372036854775807) (
        chk ((([40] : Str) ++ s_25).length + ([41] : Str).length ≤ 9223372036854775807) (
          chk (n_1.Kind.length + ((([40] : Str) ++ s_25) ++ ([41] : Str)).length ≤ 9223372036854775807) (
            some (n_1.Kind ++ ((([40] : Str) ++ s_25) ++ ([41] : Str))))))
    else
      chk (n_1.Kind.length + s_25.length ≤ 9223372036854775807) (
        some (n_1.Kind ++ s_25))
noncomputable def diptychref2_WriteAll_l0 (diptychref2_Write_r : api_Node → Option Str) : List api_Node → Int → Str → Option Str
  | [], i_5, s_4 =>
    some s_4
  | y_8 :: suf, i_5, s_4 =>
    (diptychref2_Write_r y_8).bind fun write_9 =>
    chk (s_4.length + write_9.length ≤ 9223372036854775807) (
      diptychref2_WriteAll_l0 diptychref2_Write_r suf (i_5 + 1) (s_4 ++ write_9))
mutual
noncomputable def diptychref2_Write_k : Nat → api_Node → Option Str
  | 0, _ => none
  | kr + 1, n_1 =>
    if (n_1.Kind == ([116, 101, 120, 116] : Str)) = true then
      (diptychref2_Quote n_1.Text).bind fun quote_2 =>
      (diptychref2_Head n_1).bind fun head_3 =>
      chk (quote_2.length + head_3.length ≤ 9223372036854775807) (
        some (quote_2 ++ head_3))
    else
      (diptychref2_Head n_1).bind fun head_4 =>
      chk (head_4.length + ([91] : Str).length ≤ 9223372036854775807) (
        ((diptychref2_WriteAll_k kr) n_1.Kids).bind fun writea_5 =>
        chk ((head_4 ++ ([91] : Str)).length + writea_5.length ≤ 9223372036854775807) (
          chk (((head_4 ++ ([91] : Str)) ++ writea_5).length + ([93] : Str).length ≤ 9223372036854775807) (
            some (((head_4 ++ ([91] : Str)) ++ writea_5) ++ ([93] : Str)))))
noncomputable def diptychref2_WriteAll_k : Nat → (List api_Node) → Option Str
  | 0, _ => none
  | kr + 1, l_1 =>
    (chk (l_1.length ≤ 9223372036854775807) (diptychref2_WriteAll_l0 (diptychref2_Write_k kr) l_1 (0 : Int) ([] : Str))).bind fun s_10 =>
    some s_10
end
noncomputable def diptychref2_Write (n_1 : api_Node) : Option Str := lim fun kr => diptychref2_Write_k kr n_1
noncomputable def diptychref2_WriteAll (l_1 : (List api_Node)) : Option Str := lim fun kr => diptychref2_WriteAll_k kr l_1
noncomputable def diptychref1_Depth_l0 (diptychref1_Depth_r : api_Node → Option Int) : List api_Node → Int → Int → Option Int
  | [], i_5, d_4 =>
    some d_4
  | y_8 :: suf, i_5, d_4 =>
    (diptychref1_Depth_r y_8).bind fun depth_9 =>
    diptychref1_Depth_l0 diptychref1_Depth_r suf (i_5 + 1) (if depth_9 > d_4 then depth_9 else d_4)
noncomputable def diptychref1_Depth_k : Nat → api_Node → Option Int
  | 0, _ => none
  | kr + 1, n_1 =>
    if (n_1.Kind == ([116, 101, 120, 116] : Str)) = true then
      some (0 : Int)
    else
      (chk (n_1.Kids.length ≤ 9223372036854775807) (diptychref1_Depth_l0 (diptychref1_Depth_k kr) n_1.Kids (0 : Int) (0 : Int))).bind fun d_10 =>
      some (w64 (d_10 + (1 : Int)))
noncomputable def diptychref1_Depth (n_1 : api_Node) : Option Int := lim fun kr => diptychref1_Depth_k kr n_1
noncomputable def diptychref1_Total_l0 (diptychref1_Size_r : api_Node → Option Int) : List api_Node → Int → Int → Option Int
  | [], i_5, many_4 =>
    some many_4
  | y_8 :: suf, i_5, many_4 =>
    (diptychref1_Size_r y_8).bind fun size_9 =>
    diptychref1_Total_l0 diptychref1_Size_r suf (i_5 + 1) (w64 (many_4 + size_9))
mutual
noncomputable def diptychref1_Total_k : Nat → (List api_Node) → Option Int
  | 0, _ => none
  | kr + 1, l_1 =>
    (chk (l_1.length ≤ 9223372036854775807) (diptychref1_Total_l0 (diptychref1_Size_k kr) l_1 (0 : Int) (0 : Int))).bind fun many_10 =>
    some many_10
noncomputable def diptychref1_Size_k : Nat → api_Node → Option Int
  | 0, _ => none
  | kr + 1, n_1 =>
    if (n_1.Kind == ([116, 101, 120, 116] : Str)) = true then
      (diptychref1_runes n_1.Text).bind fun (r_2, r_3) =>
      some (r_2.length : Int)
    else
      ((diptychref1_Total_k kr) n_1.Kids).bind fun total_4 =>
      some (w64 ((2 : Int) + total_4))
end
noncomputable def diptychref1_Total (l_1 : (List api_Node)) : Option Int := lim fun kr => diptychref1_Total_k kr l_1
noncomputable def diptychref1_Size (n_1 : api_Node) : Option Int := lim fun kr => diptychref1_Size_k kr n_1
noncomputable def diptychref1_Check (n_1 : api_Node) : Option Int :=
  (diptychref1_Formed n_1).bind fun formed_2 =>
  if (!formed_2) = true then
    some (2 : Int)
  else
    (diptychref1_Depth n_1).bind fun depth_3 =>
    if (decide (depth_3 > (40 : Int))) = true then
      some (4 : Int)
    else
      (diptychref1_Size n_1).bind fun size_4 =>
      if (decide (size_4 > (4000 : Int))) = true then
        some (5 : Int)
      else
        some (0 : Int)
noncomputable def diptychref2_PrintAll (l_1 : (List api_Node)) : Option (Str × Int) :=
  (diptychref1_Check ({ Kind := ([120] : Str), Text := ([] : Str), Marks := [], Attrs := [], Kids := l_1 } : api_Node)).bind fun check_2 =>
  if (check_2 != (0 : Int)) = true then
    some (([] : Str), check_2)
  else
    (diptychref2_WriteAll l_1).bind fun writea_3 =>
    some (writea_3, (0 : Int))
noncomputable def diptychref12_Decimal_l0 : Nat → Int → Str → Option Str
  | 0, _, _ => none
  | k + 1, n_5, s_6 =>
    ((
        if (decide (n_5 > (0 : Int))) = true then
          some (.inr ())
        else
          if (s_6 == ([] : Str)) = true then
            some (.inr ())
          else
            some (.inl ())) : Option (Unit ⊕ Unit)).bind fun e => match e with
    | .inl _ =>
      some s_6
    | .inr _ =>
      (sl ([48, 49, 50, 51, 52, 53, 54, 55, 56, 57] : Str) (n_5.tmod (10 : Int)) (w64 ((n_5.tmod (10 : Int)) + (1 : Int)))).bind fun s_8 =>
      chk (s_8.length + s_6.length ≤ 9223372036854775807) (
        diptychref12_Decimal_l0 k (w64 (n_5.tdiv (10 : Int))) (s_8 ++ s_6))
noncomputable def diptychref12_Decimal_k : Nat → Int → Option Str
  | 0, _ => none
  | kr + 1, n_1 =>
    if (decide (n_1 < (0 : Int))) = true then
      ((diptychref12_Decimal_k kr) (w64 (0 - n_1))).bind fun decima_2 =>
      chk (([45] : Str).length + decima_2.length ≤ 9223372036854775807) (
        some (([45] : Str) ++ decima_2))
    else
      (lim fun k => diptychref12_Decimal_l0 k n_1 ([] : Str)).bind fun s_10 =>
      some s_10
noncomputable def diptychref12_Decimal (n_1 : Int) : Option Str := lim fun kr => diptychref12_Decimal_k kr n_1
noncomputable def diptychref12_Write (s_1 : diptychref11_Step) : Option Str :=
  if (s_1.Kind == (114 : Int)) = true then
    (diptychref12_Decimal s_1.From).bind fun decima_2 =>
    chk (([114, 101, 112, 108, 97, 99, 101, 32] : Str).length + decima_2.length ≤ 9223372036854775807) (
      chk ((([114, 101, 112, 108, 97, 99, 101, 32] : Str) ++ decima_2).length + ([32] : Str).length ≤ 9223372036854775807) (
        (diptychref12_Decimal s_1.To).bind fun decima_3 =>
        chk (((([114, 101, 112, 108, 97, 99, 101, 32] : Str) ++ decima_2) ++ ([32] : Str)).length + decima_3.length ≤ 9223372036854775807) (
          if (decide ((s_1.Nodes.length : Int) > (0 : Int))) = true then
            chk ((((([114, 101, 112, 108, 97, 99, 101, 32] : Str) ++ decima_2) ++ ([32] : Str)) ++ decima_3).length + ([32] : Str).length ≤ 9223372036854775807) (
              (diptychref2_WriteAll s_1.Nodes).bind fun writea_4 =>
              chk (((((([114, 101, 112, 108, 97, 99, 101, 32] : Str) ++ decima_2) ++ ([32] : Str)) ++ decima_3) ++ ([32] : Str)).length + writea_4.length ≤ 9223372036854775807) (
                some (((((([114, 101, 112, 108, 97, 99, 101, 32] : Str) ++ decima_2) ++ ([32] : Str)) ++ decima_3) ++ ([32] : Str)) ++ writea_4)))
          else
            some (((([114, 101, 112, 108, 97, 99, 101, 32] : Str) ++ decima_2) ++ ([32] : Str)) ++ decima_3))))
  else
    if (s_1.Kind == (97 : Int)) = true then
      (diptychref12_Decimal s_1.From).bind fun decima_5 =>
      chk (([97, 116, 116, 114, 32] : Str).length + decima_5.length ≤ 9223372036854775807) (
        chk ((([97, 116, 116, 114, 32] : Str) ++ decima_5).length + ([32] : Str).length ≤ 9223372036854775807) (
          chk (((([97, 116, 116, 114, 32] : Str) ++ decima_5) ++ ([32] : Str)).length + s_1.Name.length ≤ 9223372036854775807) (
            chk ((((([97, 116, 116, 114, 32] : Str) ++ decima_5) ++ ([32] : Str)) ++ s_1.Name).length + ([32] : Str).length ≤ 9223372036854775807) (
              (diptychref2_Quote s_1.Value).bind fun quote_6 =>
              chk (((((([97, 116, 116, 114, 32] : Str) ++ decima_5) ++ ([32] : Str)) ++ s_1.Name) ++ ([32] : Str)).length + quote_6.length ≤ 9223372036854775807) (
                some (((((([97, 116, 116, 114, 32] : Str) ++ decima_5) ++ ([32] : Str)) ++ s_1.Name) ++ ([32] : Str)) ++ quote_6))))))
    else
      if (s_1.Kind == (109 : Int)) = true then
        (diptychref12_Decimal s_1.From).bind fun decima_7 =>
        chk (([109, 97, 114, 107, 32] : Str).length + decima_7.length ≤ 9223372036854775807) (
          chk ((([109, 97, 114, 107, 32] : Str) ++ decima_7).length + ([32] : Str).length ≤ 9223372036854775807) (
            (diptychref12_Decimal s_1.To).bind fun decima_8 =>
            chk (((([109, 97, 114, 107, 32] : Str) ++ decima_7) ++ ([32] : Str)).length + decima_8.length ≤ 9223372036854775807) (
              chk ((((([109, 97, 114, 107, 32] : Str) ++ decima_7) ++ ([32] : Str)) ++ decima_8).length + ([32] : Str).length ≤ 9223372036854775807) (
                chk (((((([109, 97, 114, 107, 32] : Str) ++ decima_7) ++ ([32] : Str)) ++ decima_8) ++ ([32] : Str)).length + s_1.Name.length ≤ 9223372036854775807) (
                  some (((((([109, 97, 114, 107, 32] : Str) ++ decima_7) ++ ([32] : Str)) ++ decima_8) ++ ([32] : Str)) ++ s_1.Name))))))
      else
        (diptychref12_Decimal s_1.From).bind fun decima_9 =>
        chk (([117, 110, 109, 97, 114, 107, 32] : Str).length + decima_9.length ≤ 9223372036854775807) (
          chk ((([117, 110, 109, 97, 114, 107, 32] : Str) ++ decima_9).length + ([32] : Str).length ≤ 9223372036854775807) (
            (diptychref12_Decimal s_1.To).bind fun decima_10 =>
            chk (((([117, 110, 109, 97, 114, 107, 32] : Str) ++ decima_9) ++ ([32] : Str)).length + decima_10.length ≤ 9223372036854775807) (
              chk ((((([117, 110, 109, 97, 114, 107, 32] : Str) ++ decima_9) ++ ([32] : Str)) ++ decima_10).length + ([32] : Str).length ≤ 9223372036854775807) (
                chk (((((([117, 110, 109, 97, 114, 107, 32] : Str) ++ decima_9) ++ ([32] : Str)) ++ decima_10) ++ ([32] : Str)).length + s_1.Name.length ≤ 9223372036854775807) (
                  some (((((([117, 110, 109, 97, 114, 107, 32] : Str) ++ decima_9) ++ ([32] : Str)) ++ decima_10) ++ ([32] : Str)) ++ s_1.Name))))))
noncomputable def diptychref12_Print (s_1 : diptychref11_Step) : Option (Str × Int) :=
  (diptychref11_Right s_1).bind fun right_2 =>
  if (!right_2) = true then
    some (([] : Str), (1 : Int))
  else
    (diptychref2_PrintAll s_1.Nodes).bind fun (r_3, r_4) =>
    if (r_4 != (0 : Int)) = true then
      some (([] : Str), r_4)
    else
      (diptychref12_Write s_1).bind fun write_5 =>
      some (write_5, (0 : Int))
noncomputable def diptychlaw12_asStep (s_1 : step_Step) : Option diptychref11_Step :=
  some ({ Kind := s_1.Kind, From := s_1.From, To := s_1.To, Nodes := s_1.Nodes, Name := s_1.Name, Value := s_1.Value } : diptychref11_Step)
noncomputable def wire_PrintAll_l0 : List step_Step → Int → (List UInt8) → Option ((Str × Int) ⊕ (List UInt8))
  | [], v_7, v_8 =>
    some (.inr v_8)
  | y_14 :: suf, v_7, v_8 =>
    (wire_Print y_14).bind fun (r_15, r_16) =>
    if (r_16 != (0 : Int)) = true then
      some (.inl (([] : Str), r_16))
    else
      chk (r_15.length + ([10] : Str).length ≤ 9223372036854775807) (
        (strings_Builder_WriteString_x (r_15 ++ ([10] : Str)) v_8).bind fun (r_17, l_18) =>
        wire_PrintAll_l0 suf (v_7 + 1) l_18)
noncomputable def wire_PrintAll (l_1 : (List step_Step)) : Option (Str × Int) :=
  (chk (l_1.length ≤ 9223372036854775807) (wire_PrintAll_l0 l_1 (0 : Int) ([] : Str))).bind fun e => match e with
  | .inl res_19 =>
    some res_19
  | .inr v_22 =>
    (strings_Builder_String_x v_22).bind fun (r_23, l_24) =>
    some (r_23, (0 : Int))
noncomputable def diptychref12_PrintAll_l0 : List diptychref11_Step → Int → Str → Option ((Str × Int) ⊕ Str)
  | [], i_6, out_5 =>
    some (.inr out_5)
  | y_10 :: suf, i_6, out_5 =>
    (diptychref12_Print y_10).bind fun (r_11, r_12) =>
    if (r_12 != (0 : Int)) = true then
      some (.inl (([] : Str), r_12))
    else
      chk (out_5.length + r_11.length ≤ 9223372036854775807) (
        chk ((out_5 ++ r_11).length + ([10] : Str).length ≤ 9223372036854775807) (
          diptychref12_PrintAll_l0 suf (i_6 + 1) ((out_5 ++ r_11) ++ ([10] : Str))))
noncomputable def diptychref12_PrintAll (l_1 : (List diptychref11_Step)) : Option (Str × Int) :=
  (chk (l_1.length ≤ 9223372036854775807) (diptychref12_PrintAll_l0 l_1 (0 : Int) ([] : Str))).bind fun e => match e with
  | .inl res_13 =>
    some res_13
  | .inr out_14 =>
    some (out_14, (0 : Int))
noncomputable def diptychlaw12_asSteps_l0 : List step_Step → Int → (List diptychref11_Step) → Option (List diptychref11_Step)
  | [], i_5, out_6 =>
    some out_6
  | y_10 :: suf, i_5, out_6 =>
    (diptychlaw12_asStep y_10).bind fun asstep_11 =>
    (app 80 out_6 [asstep_11]).bind fun l_12 =>
    diptychlaw12_asSteps_l0 suf (i_5 + 1) l_12
noncomputable def diptychlaw12_asSteps (l_1 : (List step_Step)) : Option (List diptychref11_Step) :=
  (chk (l_1.length ≤ 9223372036854775807) (diptychlaw12_asSteps_l0 l_1 (0 : Int) ([] : List diptychref11_Step))).bind fun out_15 =>
  some out_15
noncomputable def diptychlaw12_WirePrints_l0 : List step_Step → Int → Option (Bool ⊕ Unit)
  | [], i_10 =>
    some (.inr ())
  | y_17 :: suf, i_10 =>
    (wire_Print y_17).bind fun (r_18, r_19) =>
    (diptychlaw12_asStep y_17).bind fun asstep_20 =>
    (diptychref12_Print asstep_20).bind fun (r_21, r_22) =>
    if (!(r_18 == r_21)) = true then
      some (.inl false)
    else
      if (r_19 != r_22) = true then
        some (.inl false)
      else
        diptychlaw12_WirePrints_l0 suf (i_10 + 1)
noncomputable def diptychlaw12_WirePrints (l_1 : (List step_Step)) : Option Bool :=
  (diptychlaw12_shown).bind fun shown_2 =>
  (diptychlaw12_few l_1).bind fun few_3 =>
  if (!shown_2) = true then
    some shown_2
  else
    if (!few_3) = true then
      some shown_2
    else
      (chk (l_1.length ≤ 9223372036854775807) (diptychlaw12_WirePrints_l0 l_1 (0 : Int))).bind fun e => match e with
      | .inl res_23 =>
        some res_23
      | .inr _ =>
        (wire_PrintAll l_1).bind fun (r_26, r_27) =>
        (diptychlaw12_asSteps l_1).bind fun asstep_28 =>
        (diptychref12_PrintAll asstep_28).bind fun (r_29, r_30) =>
        if (r_26 == r_29) = true then
          some (r_27 == r_30)
        else
          some false

end Go.Proofs.YtclohbgnaopjfaaGreatDoor
