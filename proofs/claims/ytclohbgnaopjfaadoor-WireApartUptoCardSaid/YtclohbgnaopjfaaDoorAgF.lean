/- The functions of the program, written over numbers and rows. -/
import Derived.Test.YtclohbgnaopjfaaDoorAgT
import Derived.Test.YtclohbgnaopjfaaDoorAgBld
import Derived.Test.YtclohbgnaopjfaaDoorAgIto
import Derived.Test.YtclohbgnaopjfaaDoorAgLib
namespace Go.Proofs.YtclohbgnaopjfaaDoor
set_option linter.unusedSimpArgs false
set_option linter.unusedVariables false
open Go
set_option maxRecDepth 100000

noncomputable def node_isText (n_1 : api_Node) : Option Bool :=
  some (n_1.Kind == ([116, 101, 120, 116] : Str))
noncomputable def unicode_utf8_RuneCountInString_l0 (s_1 : Str) : Nat → Int → Nat → Option Int
  | 0, _, _ => none
  | k + 1, n_2, v_3 =>
    if (decide (v_3 < s_1.length)) = true then
      unicode_utf8_RuneCountInString_l0 s_1 k (w64 (n_2 + (1 : Int))) (v_3 + runeW s_1 v_3)
    else
      some n_2
noncomputable def unicode_utf8_RuneCountInString (s_1 : Str) : Option Int :=
  (lim fun k => unicode_utf8_RuneCountInString_l0 s_1 k (0 : Int) 0).bind fun n_4 =>
  some n_4
noncomputable def node_Total_l0 (node_Size_r : api_Node → Option Int) : List api_Node → Int → Int → Option Int
  | [], v_5, many_4 =>
    some many_4
  | y_8 :: suf, v_5, many_4 =>
    (node_Size_r y_8).bind fun size_9 =>
    node_Total_l0 node_Size_r suf (v_5 + 1) (w64 (many_4 + size_9))
mutual
noncomputable def node_Total_k : Nat → (List api_Node) → Option Int
  | 0, _ => none
  | kr + 1, l_1 =>
    (chk (l_1.length ≤ 9223372036854775807) (node_Total_l0 (node_Size_k kr) l_1 (0 : Int) (0 : Int))).bind fun many_10 =>
    some many_10
noncomputable def node_Size_k : Nat → api_Node → Option Int
  | 0, _ => none
  | kr + 1, n_1 =>
    (node_isText n_1).bind fun istext_2 =>
    if (istext_2) = true then
      (unicode_utf8_RuneCountInString n_1.Text).bind fun runeco_3 =>
      some runeco_3
    else
      ((node_Total_k kr) n_1.Kids).bind fun total_4 =>
      some (w64 ((2 : Int) + total_4))
end
noncomputable def node_Total (l_1 : (List api_Node)) : Option Int := lim fun kr => node_Total_k kr l_1
noncomputable def node_Size (n_1 : api_Node) : Option Int := lim fun kr => node_Size_k kr n_1
noncomputable def unicode_utf8_ValidString (s : Str) : Option Bool :=
  chk (s.length ≤ 9223372036854775807) (some (Lib.validD s))
noncomputable def slices_Equal_string_l0 (s2_2 : (List Str)) : List Str → Int → Option (Bool ⊕ Unit)
  | [], v_5 =>
    some (.inr ())
  | y_8 :: suf, v_5 =>
    (rd s2_2 v_5).bind fun x_9 =>
    if (!(y_8 == x_9)) = true then
      some (.inl false)
    else
      slices_Equal_string_l0 s2_2 suf (v_5 + 1)
noncomputable def slices_Equal_string (s1_1 : (List Str)) (s2_2 : (List Str)) : Option Bool :=
  if ((s1_1.length : Int) != (s2_2.length : Int)) = true then
    some false
  else
    (chk (s1_1.length ≤ 9223372036854775807) (slices_Equal_string_l0 s2_2 s1_1 (0 : Int))).bind fun e => match e with
    | .inl res_10 =>
      some res_10
    | .inr _ =>
      some true
noncomputable def node_alike (a_1 : api_Node) (b_2 : api_Node) : Option Bool :=
  (node_isText a_1).bind fun istext_3 =>
  if (istext_3) = true then
    (node_isText b_2).bind fun istext_4 =>
    if (istext_4) = true then
      (slices_Equal_string a_1.Marks b_2.Marks).bind fun string_5 =>
      some string_5
    else
      some false
  else
    some false
noncomputable def strings_Trim (s : Str) (cutset : Str) : Option Str :=
  chk (s.length ≤ 9223372036854775807 ∧ cutset.length < 4294967281 ∧ cutset.all (fun b => decide (b.toNat < 128)) = true) (some (Lib.trimS s cutset))
noncomputable def node_Name (s_1 : Str) : Option Bool :=
  (strings_Trim s_1 ([97, 98, 99, 100, 101, 102, 103, 104, 105, 106, 107, 108, 109, 110, 111, 112, 113, 114, 115, 116, 117, 118, 119, 120, 121, 122] : Str)).bind fun trim_2 =>
  if (trim_2 == ([] : Str)) = true then
    if (!(s_1 == ([] : Str))) = true then
      if (decide ((s_1.length : Int) ≤ (8 : Int))) = true then
        some (!(s_1 == ([116, 101, 120, 116] : Str)))
      else
        some false
    else
      some false
  else
    some false
noncomputable def node_rise_l0 (l_1 : (List Str)) : List Str → Int → Option (Bool ⊕ Unit)
  | [], v_5 =>
    some (.inr ())
  | y_9 :: suf, v_5 =>
    (node_Name y_9).bind fun name_10 =>
    if (!name_10) = true then
      some (.inl false)
    else
      if (decide (v_5 > (0 : Int))) = true then
        (rd l_1 (w64 (v_5 - (1 : Int)))).bind fun x_11 =>
        if ((Op.bytesLess y_9 x_11 || y_9 == x_11)) = true then
          some (.inl false)
        else
          node_rise_l0 l_1 suf (v_5 + 1)
      else
        node_rise_l0 l_1 suf (v_5 + 1)
noncomputable def node_rise (l_1 : (List Str)) : Option Bool :=
  (chk (l_1.length ≤ 9223372036854775807) (node_rise_l0 l_1 l_1 (0 : Int))).bind fun e => match e with
  | .inl res_12 =>
    some res_12
  | .inr _ =>
    some true
noncomputable def node_Value (s_1 : Str) : Option Bool :=
  if (decide ((s_1.length : Int) ≤ (40 : Int))) = true then
    (unicode_utf8_ValidString s_1).bind fun valids_2 =>
    some valids_2
  else
    some false
noncomputable def node_formed_l0 : List api_Attr → Int → (List Str) → Option (Bool ⊕ (List Str))
  | [], v_8, names_9 =>
    some (.inr names_9)
  | y_13 :: suf, v_8, names_9 =>
    (node_Value y_13.Value).bind fun value_14 =>
    if (!value_14) = true then
      some (.inl false)
    else
      (app 16 names_9 [y_13.Name]).bind fun l_15 =>
      node_formed_l0 suf (v_8 + 1) l_15
noncomputable def node_formed_l1 (n_1 : api_Node) (node_formed_r : api_Node → Option Bool) : List api_Node → Int → Option (Bool ⊕ Unit)
  | [], v_26 =>
    some (.inr ())
  | y_31 :: suf, v_26 =>
    (node_formed_r y_31).bind fun formed_32 =>
    if (!formed_32) = true then
      some (.inl false)
    else
      if (decide (v_26 > (0 : Int))) = true then
        (rd n_1.Kids (w64 (v_26 - (1 : Int)))).bind fun x_33 =>
        (node_alike x_33 y_31).bind fun alike_34 =>
        if (alike_34) = true then
          some (.inl false)
        else
          node_formed_l1 n_1 node_formed_r suf (v_26 + 1)
      else
        node_formed_l1 n_1 node_formed_r suf (v_26 + 1)
noncomputable def node_formed_k : Nat → api_Node → Option Bool
  | 0, _ => none
  | kr + 1, n_1 =>
    (node_isText n_1).bind fun istext_2 =>
    if (istext_2) = true then
      if (!(n_1.Text == ([] : Str))) = true then
        (unicode_utf8_ValidString n_1.Text).bind fun valids_3 =>
        if (valids_3) = true then
          (node_rise n_1.Marks).bind fun rise_4 =>
          if (rise_4) = true then
            some ((w64 ((n_1.Attrs.length : Int) + (n_1.Kids.length : Int))) == (0 : Int))
          else
            some false
        else
          some false
      else
        some false
    else
      (chk (n_1.Attrs.length ≤ 9223372036854775807) (node_formed_l0 n_1.Attrs (0 : Int) ([] : List Str))).bind fun e => match e with
      | .inl res_16 =>
        some res_16
      | .inr names_19 =>
        (node_Name n_1.Kind).bind fun name_20 =>
        if (!name_20) = true then
          some false
        else
          if (!(n_1.Text == ([] : Str))) = true then
            some false
          else
            if (decide ((n_1.Marks.length : Int) > (0 : Int))) = true then
              some false
            else
              (node_rise names_19).bind fun rise_21 =>
              if (!rise_21) = true then
                some false
              else
                (chk (n_1.Kids.length ≤ 9223372036854775807) (node_formed_l1 n_1 (node_formed_k kr) n_1.Kids (0 : Int))).bind fun e => match e with
                | .inl res_35 =>
                  some res_35
                | .inr _ =>
                  some true
noncomputable def node_formed (n_1 : api_Node) : Option Bool := lim fun kr => node_formed_k kr n_1
noncomputable def node_Depth_l0 (node_Depth_r : api_Node → Option Int) : List api_Node → Int → Int → Option Int
  | [], v_6, deepest_5 =>
    some deepest_5
  | y_9 :: suf, v_6, deepest_5 =>
    (node_Depth_r y_9).bind fun depth_10 =>
    node_Depth_l0 node_Depth_r suf (v_6 + 1) (if depth_10 > deepest_5 then depth_10 else deepest_5)
noncomputable def node_Depth_k : Nat → api_Node → Option Int
  | 0, _ => none
  | kr + 1, n_1 =>
    (node_isText n_1).bind fun istext_2 =>
    if (istext_2) = true then
      some (0 : Int)
    else
      (chk (n_1.Kids.length ≤ 9223372036854775807) (node_Depth_l0 (node_Depth_k kr) n_1.Kids (0 : Int) (0 : Int))).bind fun deepest_11 =>
      some (w64 (deepest_11 + (1 : Int)))
noncomputable def node_Depth (n_1 : api_Node) : Option Int := lim fun kr => node_Depth_k kr n_1
noncomputable def node_Check (n_1 : api_Node) : Option Int :=
  (node_formed n_1).bind fun formed_2 =>
  if (!formed_2) = true then
    some (2 : Int)
  else
    (node_Depth n_1).bind fun depth_3 =>
    if (decide (depth_3 > (40 : Int))) = true then
      some (4 : Int)
    else
      (node_Size n_1).bind fun size_4 =>
      if (decide (size_4 > (4000 : Int))) = true then
        some (5 : Int)
      else
        some (0 : Int)
noncomputable def step_Right (s_1 : step_Step) : Option Bool :=
  ((
      if (decide (s_1.From ≥ (0 : Int))) = true then
        if (decide (s_1.From ≤ s_1.To)) = true then
          some (decide (s_1.To ≤ (1048576 : Int)))
        else
          some false
      else
        some false) : Option Bool).bind fun span_2 =>
  if (s_1.Kind == (114 : Int)) = true then
    (node_Check ({ Kind := ([120] : Str), Text := ([] : Str), Marks := [], Attrs := [], Kids := s_1.Nodes } : api_Node)).bind fun check_3 =>
    if (span_2) = true then
      if (check_3 != (2 : Int)) = true then
        chk (s_1.Name.length + s_1.Value.length ≤ 9223372036854775807) (
          some ((s_1.Name ++ s_1.Value) == ([] : Str)))
      else
        some false
    else
      some false
  else
    if (s_1.Kind == (97 : Int)) = true then
      if (decide (s_1.From ≥ (-1 : Int))) = true then
        if (decide (s_1.From ≤ (1048576 : Int))) = true then
          if (s_1.To == (0 : Int)) = true then
            (node_Name s_1.Name).bind fun name_4 =>
            if (name_4) = true then
              (node_Value s_1.Value).bind fun value_5 =>
              if (value_5) = true then
                some ((s_1.Nodes.length : Int) == (0 : Int))
              else
                some false
            else
              some false
          else
            some false
        else
          some false
      else
        some false
    else
      if (s_1.Kind == (109 : Int)) = true then
        if (span_2) = true then
          (node_Name s_1.Name).bind fun name_6 =>
          if (name_6) = true then
            if ((s_1.Nodes.length : Int) == (0 : Int)) = true then
              some (s_1.Value == ([] : Str))
            else
              some false
          else
            some false
        else
          some false
      else
        if (s_1.Kind == (117 : Int)) = true then
          if (span_2) = true then
            (node_Name s_1.Name).bind fun name_7 =>
            if (name_7) = true then
              if ((s_1.Nodes.length : Int) == (0 : Int)) = true then
                some (s_1.Value == ([] : Str))
              else
                some false
            else
              some false
          else
            some false
        else
          some false
noncomputable def strings_ReplaceAll (s : Str) (old : Str) (new : Str) : Option Str :=
  chk (s.length < 4294967281 ∧ 1 ≤ old.length ∧ s.length + Lib.countB (ba s) (ba old) * new.length ≤ 140737488355328) (some (Lib.replaceAll s old new))
noncomputable def codec_Quote (s_1 : Str) : Option Str :=
  (strings_ReplaceAll s_1 ([92] : Str) ([92, 92] : Str)).bind fun replac_2 =>
  (strings_ReplaceAll replac_2 ([34] : Str) ([92, 34] : Str)).bind fun replac_3 =>
  chk (([34] : Str).length + replac_3.length ≤ 9223372036854775807) (
    chk ((([34] : Str) ++ replac_3).length + ([34] : Str).length ≤ 9223372036854775807) (
      some ((([34] : Str) ++ replac_3) ++ ([34] : Str))))
noncomputable def strings_Join (l : (List Str)) (sep : Str) : Option Str :=
  chk (l.length ≤ 140737488355328 ∧ (Lib.join l sep).length ≤ 140737488355328) (some (Lib.join l sep))
noncomputable def codec_Head_l0 : List api_Attr → Int → (List Str) → Option (List Str)
  | [], v_6, l_7 =>
    some l_7
  | y_11 :: suf, v_6, l_7 =>
    chk (y_11.Name.length + ([61] : Str).length ≤ 9223372036854775807) (
      (codec_Quote y_11.Value).bind fun quote_12 =>
      chk ((y_11.Name ++ ([61] : Str)).length + quote_12.length ≤ 9223372036854775807) (
        (app 16 l_7 [(y_11.Name ++ ([61] : Str)) ++ quote_12]).bind fun l_13 =>
        codec_Head_l0 suf (v_6 + 1) l_13))
noncomputable def codec_Head (n_1 : api_Node) : Option Str :=
  if (n_1.Kind == ([116, 101, 120, 116] : Str)) = true then
    if ((n_1.Marks.length : Int) == (0 : Int)) = true then
      some ([] : Str)
    else
      (strings_Join n_1.Marks ([44] : Str)).bind fun join_2 =>
      chk (([60] : Str).length + join_2.length ≤ 9223372036854775807) (
        chk ((([60] : Str) ++ join_2).length + ([62] : Str).length ≤ 9223372036854775807) (
          some ((([60] : Str) ++ join_2) ++ ([62] : Str))))
  else
    if ((n_1.Attrs.length : Int) == (0 : Int)) = true then
      some n_1.Kind
    else
      (chk (n_1.Attrs.length ≤ 9223372036854775807) (codec_Head_l0 n_1.Attrs (0 : Int) ([] : List Str))).bind fun l_16 =>
      chk (n_1.Kind.length + ([40] : Str).length ≤ 9223372036854775807) (
        (strings_Join l_16 ([32] : Str)).bind fun join_17 =>
        chk ((n_1.Kind ++ ([40] : Str)).length + join_17.length ≤ 9223372036854775807) (
          chk (((n_1.Kind ++ ([40] : Str)) ++ join_17).length + ([41] : Str).length ≤ 9223372036854775807) (
            some (((n_1.Kind ++ ([40] : Str)) ++ join_17) ++ ([41] : Str)))))
noncomputable def strings_Builder_copyCheck_x (l : Str) : Option (List UInt8) :=
  some l
noncomputable def strings_Builder_WriteString_x (s_1 : Str) (l_2 : (List UInt8)) : Option (Int × (List UInt8)) :=
  (strings_Builder_copyCheck_x l_2).bind fun l_3 =>
  (app 1 l_3 s_1).bind fun l_4 =>
  some ((s_1.length : Int), l_4)
noncomputable def codec_write_x_l0 (codec_write_x_r : api_Node → (List UInt8) → Option (List UInt8)) : List api_Node → Int → (List UInt8) → Option (List UInt8)
  | [], v_12, v_13 =>
    some v_13
  | y_16 :: suf, v_12, v_13 =>
    (codec_write_x_r y_16 v_13).bind fun l_17 =>
    codec_write_x_l0 codec_write_x_r suf (v_12 + 1) l_17
noncomputable def codec_write_x_k : Nat → api_Node → (List UInt8) → Option (List UInt8)
  | 0, _, _ => none
  | kr + 1, n_1, l_2 =>
    if (n_1.Kind == ([116, 101, 120, 116] : Str)) = true then
      (codec_Quote n_1.Text).bind fun quote_3 =>
      (codec_Head n_1).bind fun head_4 =>
      chk (quote_3.length + head_4.length ≤ 9223372036854775807) (
        (strings_Builder_WriteString_x (quote_3 ++ head_4) l_2).bind fun (r_5, l_6) =>
        some l_6)
    else
      (codec_Head n_1).bind fun head_7 =>
      chk (head_7.length + ([91] : Str).length ≤ 9223372036854775807) (
        (strings_Builder_WriteString_x (head_7 ++ ([91] : Str)) l_2).bind fun (r_8, l_9) =>
        (chk (n_1.Kids.length ≤ 9223372036854775807) (codec_write_x_l0 (codec_write_x_k kr) n_1.Kids (0 : Int) l_9)).bind fun v_20 =>
        (strings_Builder_WriteString_x ([93] : Str) v_20).bind fun (r_21, l_22) =>
        some l_22)
noncomputable def codec_write_x (n_1 : api_Node) (l_2 : (List UInt8)) : Option (List UInt8) := lim fun kr => codec_write_x_k kr n_1 l_2
noncomputable def strings_Builder_String_x (l : Str) : Option (Str × (List UInt8)) :=
  chk (l.length ≤ 9223372036854775807) (some (l, l))
noncomputable def codec_Print (n_1 : api_Node) : Option (Str × Int) :=
  (node_Check n_1).bind fun check_2 =>
  if (check_2 != (0 : Int)) = true then
    some (([] : Str), check_2)
  else
    (codec_write_x n_1 ([] : Str)).bind fun l_3 =>
    (strings_Builder_String_x l_3).bind fun (r_4, l_5) =>
    some (r_4, (0 : Int))
noncomputable def codec_PrintAll (l_1 : (List api_Node)) : Option (Str × Int) :=
  (codec_Print ({ Kind := ([120] : Str), Text := ([] : Str), Marks := [], Attrs := [], Kids := l_1 } : api_Node)).bind fun (r_2, r_3) =>
  if (r_3 != (0 : Int)) = true then
    some (([] : Str), r_3)
  else
    (sl r_2 (2 : Int) (w64 ((r_2.length : Int) - (1 : Int)))).bind fun s_4 =>
    some (s_4, (0 : Int))
noncomputable def strconv_Itoa (n : Int) : Option Str :=
  chk (-9223372036854775808 ≤ n ∧ n ≤ 9223372036854775807) (some (Lib.itoa n))
noncomputable def wire_write (s_1 : step_Step) (nodes_2 : Str) : Option Str :=
  (strconv_Itoa s_1.From).bind fun itoa_3 =>
  (strconv_Itoa s_1.To).bind fun itoa_4 =>
  if (s_1.Kind == (114 : Int)) = true then
    if (!(nodes_2 == ([] : Str))) = true then
      (app 16 [([114, 101, 112, 108, 97, 99, 101] : Str), itoa_3, itoa_4] [nodes_2]).bind fun l_5 =>
      (strings_Join l_5 ([32] : Str)).bind fun join_6 =>
      some join_6
    else
      (strings_Join [([114, 101, 112, 108, 97, 99, 101] : Str), itoa_3, itoa_4] ([32] : Str)).bind fun join_7 =>
      some join_7
  else
    if (s_1.Kind == (97 : Int)) = true then
      (codec_Quote s_1.Value).bind fun quote_8 =>
      (strings_Join [([97, 116, 116, 114] : Str), itoa_3, s_1.Name, quote_8] ([32] : Str)).bind fun join_9 =>
      some join_9
    else
      if (s_1.Kind == (109 : Int)) = true then
        (rd [([117, 110, 109, 97, 114, 107] : Str), itoa_3, itoa_4, s_1.Name] (0 : Int)).bind fun x_10 =>
        (wr [([117, 110, 109, 97, 114, 107] : Str), itoa_3, itoa_4, s_1.Name] (0 : Int) ([109, 97, 114, 107] : Str)).bind fun l_11 =>
        (strings_Join l_11 ([32] : Str)).bind fun join_12 =>
        some join_12
      else
        (strings_Join [([117, 110, 109, 97, 114, 107] : Str), itoa_3, itoa_4, s_1.Name] ([32] : Str)).bind fun join_13 =>
        some join_13
noncomputable def wire_Print (s_1 : step_Step) : Option (Str × Int) :=
  (step_Right s_1).bind fun right_2 =>
  if (!right_2) = true then
    some (([] : Str), (1 : Int))
  else
    (codec_PrintAll s_1.Nodes).bind fun (r_3, r_4) =>
    if (r_4 != (0 : Int)) = true then
      some (([] : Str), r_4)
    else
      (wire_write s_1 r_3).bind fun write_5 =>
      some (write_5, (0 : Int))
noncomputable def diptychlaw12_shown : Option Bool :=
  (wire_Print ({ Kind := (114 : Int), From := (1 : Int), To := (3 : Int), Nodes := [({ Kind := ([112] : Str), Text := ([] : Str), Marks := [], Attrs := [], Kids := [] } : api_Node)], Name := ([] : Str), Value := ([] : Str) } : step_Step)).bind fun (r_1, r_2) =>
  if (r_1 == ([114, 101, 112, 108, 97, 99, 101, 32, 49, 32, 51, 32, 112, 91, 93] : Str)) = true then
    some (r_2 == (0 : Int))
  else
    some false
noncomputable def diptychlaw12_light_l0 : List Str → Int → Int → Option Int
  | [], i_5, left_4 =>
    some left_4
  | y_7 :: suf, i_5, left_4 =>
    if (decide (left_4 > (0 : Int))) = true then
      diptychlaw12_light_l0 suf (i_5 + 1) (w64 ((w64 (left_4 - (1 : Int))) - (y_7.length : Int)))
    else
      some left_4
noncomputable def diptychlaw12_light_l1 : List api_Attr → Int → Int → Option Int
  | [], i_13, left_12 =>
    some left_12
  | y_15 :: suf, i_13, left_12 =>
    if (decide (left_12 > (0 : Int))) = true then
      diptychlaw12_light_l1 suf (i_13 + 1) (w64 ((w64 ((w64 (left_12 - (1 : Int))) - (y_15.Name.length : Int))) - (y_15.Value.length : Int)))
    else
      some left_12
noncomputable def diptychlaw12_light_l2 (diptychlaw12_light_r : api_Node → Int → Option Int) : List api_Node → Int → Int → Option Int
  | [], i_22, left_21 =>
    some left_21
  | y_25 :: suf, i_22, left_21 =>
    if (decide (left_21 > (0 : Int))) = true then
      (diptychlaw12_light_r y_25 left_21).bind fun light_26 =>
      diptychlaw12_light_l2 diptychlaw12_light_r suf (i_22 + 1) light_26
    else
      some left_21
noncomputable def diptychlaw12_light_k : Nat → api_Node → Int → Option Int
  | 0, _, _ => none
  | kr + 1, n_1, left_2 =>
    (chk (n_1.Marks.length ≤ 9223372036854775807) (diptychlaw12_light_l0 n_1.Marks (0 : Int) (w64 ((w64 ((w64 (left_2 - (1 : Int))) - (n_1.Kind.length : Int))) - (n_1.Text.length : Int))))).bind fun left_8 =>
    (chk (n_1.Attrs.length ≤ 9223372036854775807) (diptychlaw12_light_l1 n_1.Attrs (0 : Int) left_8)).bind fun left_16 =>
    (chk (n_1.Kids.length ≤ 9223372036854775807) (diptychlaw12_light_l2 (diptychlaw12_light_k kr) n_1.Kids (0 : Int) left_16)).bind fun left_27 =>
    if (decide (left_27 < (1 : Int))) = true then
      some (-1 : Int)
    else
      some left_27
noncomputable def diptychlaw12_light (n_1 : api_Node) (left_2 : Int) : Option Int := lim fun kr => diptychlaw12_light_k kr n_1 left_2
noncomputable def diptychlaw12_few_l0 : List step_Step → Int → Option (Bool ⊕ Unit)
  | [], i_4 =>
    some (.inr ())
  | y_7 :: suf, i_4 =>
    (diptychlaw12_light ({ Kind := ([] : Str), Text := ([] : Str), Marks := [], Attrs := [], Kids := y_7.Nodes } : api_Node) (1000 : Int)).bind fun light_8 =>
    if (decide (light_8 < (0 : Int))) = true then
      some (.inl false)
    else
      if (decide ((y_7.Name.length : Int) > (100 : Int))) = true then
        some (.inl false)
      else
        if (decide ((y_7.Value.length : Int) > (300 : Int))) = true then
          some (.inl false)
        else
          diptychlaw12_few_l0 suf (i_4 + 1)
noncomputable def diptychlaw12_few (l_1 : (List step_Step)) : Option Bool :=
  (chk (l_1.length ≤ 9223372036854775807) (diptychlaw12_few_l0 l_1 (0 : Int))).bind fun e => match e with
  | .inl res_9 =>
    some res_9
  | .inr _ =>
    some (decide ((l_1.length : Int) < (15 : Int)))
noncomputable def wire_PrintAll_l0 : List step_Step → Int → (List UInt8) → Option ((Str × Int) ⊕ (List UInt8))
  | [], v_7, v_8 =>
    some (.inr v_8)
  | y_14 :: suf, v_7, v_8 =>
    (wire_Print y_14).bind fun (r_15, r_16) =>
    if (r_16 != (0 : Int)) = true then
      some (.inl (([] : Str), r_16))
    else
      chk (r_15.length + ([10] : Str).length ≤ 9223372036854775807) (
        (strings_Builder_WriteString_x (r_15 ++ ([10] : Str)) v_8).bind fun (r_17, l_18) =>
        wire_PrintAll_l0 suf (v_7 + 1) l_18)
noncomputable def wire_PrintAll (l_1 : (List step_Step)) : Option (Str × Int) :=
  (chk (l_1.length ≤ 9223372036854775807) (wire_PrintAll_l0 l_1 (0 : Int) ([] : Str))).bind fun e => match e with
  | .inl res_19 =>
    some res_19
  | .inr v_22 =>
    (strings_Builder_String_x v_22).bind fun (r_23, l_24) =>
    some (r_23, (0 : Int))
noncomputable def diptychref1_sameNames_l0 (b_2 : (List Str)) : List Str → Int → Option (Bool ⊕ Unit)
  | [], i_5 =>
    some (.inr ())
  | y_8 :: suf, i_5 =>
    (rd b_2 i_5).bind fun x_9 =>
    if (!(y_8 == x_9)) = true then
      some (.inl false)
    else
      diptychref1_sameNames_l0 b_2 suf (i_5 + 1)
noncomputable def diptychref1_sameNames (a_1 : (List Str)) (b_2 : (List Str)) : Option Bool :=
  if ((a_1.length : Int) != (b_2.length : Int)) = true then
    some false
  else
    (chk (a_1.length ≤ 9223372036854775807) (diptychref1_sameNames_l0 b_2 a_1 (0 : Int))).bind fun e => match e with
    | .inl res_10 =>
      some res_10
    | .inr _ =>
      some true
noncomputable def diptychref1_Same_l0 (b_2 : api_Node) : List api_Attr → Int → Option (Bool ⊕ Unit)
  | [], i_6 =>
    some (.inr ())
  | y_9 :: suf, i_6 =>
    (rd b_2.Attrs i_6).bind fun x_10 =>
    if ((((y_9.Name == x_10.Name) && (y_9.Value == x_10.Value)) != true)) = true then
      some (.inl false)
    else
      diptychref1_Same_l0 b_2 suf (i_6 + 1)
noncomputable def diptychref1_SameAll_l0 (b_2 : (List api_Node)) (diptychref1_Same_r : api_Node → api_Node → Option Bool) : List api_Node → Int → Option (Bool ⊕ Unit)
  | [], i_6 =>
    some (.inr ())
  | y_10 :: suf, i_6 =>
    (rd b_2 i_6).bind fun x_11 =>
    (diptychref1_Same_r y_10 x_11).bind fun same_12 =>
    if (!same_12) = true then
      some (.inl false)
    else
      diptychref1_SameAll_l0 b_2 diptychref1_Same_r suf (i_6 + 1)
mutual
noncomputable def diptychref1_Same_k : Nat → api_Node → api_Node → Option Bool
  | 0, _, _ => none
  | kr + 1, a_1, b_2 =>
    if (!(a_1.Kind == b_2.Kind)) = true then
      some false
    else
      if (!(a_1.Text == b_2.Text)) = true then
        some false
      else
        (diptychref1_sameNames a_1.Marks b_2.Marks).bind fun samena_3 =>
        if (!samena_3) = true then
          some false
        else
          if ((a_1.Attrs.length : Int) != (b_2.Attrs.length : Int)) = true then
            some false
          else
            (chk (a_1.Attrs.length ≤ 9223372036854775807) (diptychref1_Same_l0 b_2 a_1.Attrs (0 : Int))).bind fun e => match e with
            | .inl res_11 =>
              some res_11
            | .inr _ =>
              ((diptychref1_SameAll_k kr) a_1.Kids b_2.Kids).bind fun sameal_14 =>
              some sameal_14
noncomputable def diptychref1_SameAll_k : Nat → (List api_Node) → (List api_Node) → Option Bool
  | 0, _, _ => none
  | kr + 1, a_1, b_2 =>
    if ((a_1.length : Int) != (b_2.length : Int)) = true then
      some false
    else
      (chk (a_1.length ≤ 9223372036854775807) (diptychref1_SameAll_l0 b_2 (diptychref1_Same_k kr) a_1 (0 : Int))).bind fun e => match e with
      | .inl res_13 =>
        some res_13
      | .inr _ =>
        some true
end
noncomputable def diptychref1_Same (a_1 : api_Node) (b_2 : api_Node) : Option Bool := lim fun kr => diptychref1_Same_k kr a_1 b_2
noncomputable def diptychref1_SameAll (a_1 : (List api_Node)) (b_2 : (List api_Node)) : Option Bool := lim fun kr => diptychref1_SameAll_k kr a_1 b_2
noncomputable def diptychlaw12_sameStep (a_1 : step_Step) (b_2 : diptychref11_Step) : Option Bool :=
  if (a_1.Kind == b_2.Kind) = true then
    if (a_1.From == b_2.From) = true then
      if (a_1.To == b_2.To) = true then
        (diptychref1_SameAll a_1.Nodes b_2.Nodes).bind fun sameal_3 =>
        if (sameal_3) = true then
          if (a_1.Name == b_2.Name) = true then
            some (a_1.Value == b_2.Value)
          else
            some false
        else
          some false
      else
        some false
    else
      some false
  else
    some false
noncomputable def diptychlaw12_asStep (s_1 : step_Step) : Option diptychref11_Step :=
  some ({ Kind := s_1.Kind, From := s_1.From, To := s_1.To, Nodes := s_1.Nodes, Name := s_1.Name, Value := s_1.Value } : diptychref11_Step)
noncomputable def diptychlaw12_WireApart (a_1 : step_Step) (b_2 : step_Step) : Option Bool :=
  (diptychlaw12_shown).bind fun shown_3 =>
  (diptychlaw12_few [a_1, b_2]).bind fun few_4 =>
  if (!shown_3) = true then
    some shown_3
  else
    if (!few_4) = true then
      some shown_3
    else
      (wire_Print a_1).bind fun (r_5, r_6) =>
      (wire_Print b_2).bind fun (r_7, r_8) =>
      if (r_6 != (0 : Int)) = true then
        if (r_5 == ([] : Str)) = true then
          if (r_7 == ([] : Str)) = true then
            some true
          else
            some (r_8 == (0 : Int))
        else
          if (r_6 == (0 : Int)) = true then
            if (r_7 == ([] : Str)) = true then
              some true
            else
              some (r_8 == (0 : Int))
          else
            some false
      else
        if (r_8 != (0 : Int)) = true then
          if (r_5 == ([] : Str)) = true then
            if (r_7 == ([] : Str)) = true then
              some true
            else
              some (r_8 == (0 : Int))
          else
            if (r_6 == (0 : Int)) = true then
              if (r_7 == ([] : Str)) = true then
                some true
              else
                some (r_8 == (0 : Int))
            else
              some false
        else
          (wire_PrintAll [a_1, b_2]).bind fun (r_9, r_10) =>
          (diptychlaw12_asStep b_2).bind fun asstep_11 =>
          (diptychlaw12_sameStep a_1 asstep_11).bind fun samest_12 =>
          if ((((r_5 == r_7) == samest_12) != false)) = true then
            if (r_10 == (0 : Int)) = true then
              chk (r_5.length + ([10] : Str).length ≤ 9223372036854775807) (
                chk ((r_5 ++ ([10] : Str)).length + r_7.length ≤ 9223372036854775807) (
                  chk (((r_5 ++ ([10] : Str)) ++ r_7).length + ([10] : Str).length ≤ 9223372036854775807) (
                    some (r_9 == (((r_5 ++ ([10] : Str)) ++ r_7) ++ ([10] : Str))))))
            else
              some false
          else
            some false

end Go.Proofs.YtclohbgnaopjfaaDoor
