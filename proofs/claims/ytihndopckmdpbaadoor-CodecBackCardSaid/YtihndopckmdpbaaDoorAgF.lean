/- The functions of the program, written over numbers and rows. -/
import Derived.Test.YtihndopckmdpbaaDoorAgT
import Derived.Test.YtihndopckmdpbaaDoorAgBld
import Derived.Test.YtihndopckmdpbaaDoorAgLib
namespace Go.Proofs.YtihndopckmdpbaaDoor
set_option linter.unusedSimpArgs false
set_option linter.unusedVariables false
open Go
set_option maxRecDepth 100000

noncomputable def node_isText (n_1 : api_Node) : Option Bool :=
  some (n_1.Kind == ([116, 101, 120, 116] : Str))
noncomputable def node_Depth_l0 (node_Depth_r : api_Node → Option Int) : List api_Node → Int → Int → Option Int
  | [], v_6, deepest_5 =>
    some deepest_5
  | y_9 :: suf, v_6, deepest_5 =>
    (node_Depth_r y_9).bind fun depth_10 =>
    node_Depth_l0 node_Depth_r suf (v_6 + 1) (if depth_10 > deepest_5 then depth_10 else deepest_5)
noncomputable def node_Depth_k : Nat → api_Node → Option Int
  | 0, _ => none
  | kr + 1, n_1 =>
    (node_isText n_1).bind fun istext_2 =>
    if (istext_2) = true then
      some (0 : Int)
    else
      (chk (n_1.Kids.length ≤ 9223372036854775807) (node_Depth_l0 (node_Depth_k kr) n_1.Kids (0 : Int) (0 : Int))).bind fun deepest_11 =>
      some (w64 (deepest_11 + (1 : Int)))
noncomputable def node_Depth (n_1 : api_Node) : Option Int := lim fun kr => node_Depth_k kr n_1
noncomputable def unicode_utf8_ValidString (s : Str) : Option Bool :=
  chk (s.length ≤ 9223372036854775807) (some (Lib.validD s))
noncomputable def node_Value (s_1 : Str) : Option Bool :=
  if (decide ((s_1.length : Int) ≤ (40 : Int))) = true then
    (unicode_utf8_ValidString s_1).bind fun valids_2 =>
    some valids_2
  else
    some false
noncomputable def strings_Trim (s : Str) (cutset : Str) : Option Str :=
  chk (s.length ≤ 9223372036854775807 ∧ cutset.length < 4294967281 ∧ cutset.all (fun b => decide (b.toNat < 128)) = true) (some (Lib.trimS s cutset))
noncomputable def node_Name (s_1 : Str) : Option Bool :=
  (strings_Trim s_1 ([97, 98, 99, 100, 101, 102, 103, 104, 105, 106, 107, 108, 109, 110, 111, 112, 113, 114, 115, 116, 117, 118, 119, 120, 121, 122] : Str)).bind fun trim_2 =>
  if (trim_2 == ([] : Str)) = true then
    if (!(s_1 == ([] : Str))) = true then
      if (decide ((s_1.length : Int) ≤ (8 : Int))) = true then
        some (!(s_1 == ([116, 101, 120, 116] : Str)))
      else
        some false
    else
      some false
  else
    some false
noncomputable def node_rise_l0 (l_1 : (List Str)) : List Str → Int → Option (Bool ⊕ Unit)
  | [], v_5 =>
    some (.inr ())
  | y_9 :: suf, v_5 =>
    (node_Name y_9).bind fun name_10 =>
    if (!name_10) = true then
      some (.inl false)
    else
      if (decide (v_5 > (0 : Int))) = true then
        (rd l_1 (w64 (v_5 - (1 : Int)))).bind fun x_11 =>
        if ((Op.bytesLess y_9 x_11 || y_9 == x_11)) = true then
          some (.inl false)
        else
          node_rise_l0 l_1 suf (v_5 + 1)
      else
        node_rise_l0 l_1 suf (v_5 + 1)
noncomputable def node_rise (l_1 : (List Str)) : Option Bool :=
  (chk (l_1.length ≤ 9223372036854775807) (node_rise_l0 l_1 l_1 (0 : Int))).bind fun e => match e with
  | .inl res_12 =>
    some res_12
  | .inr _ =>
    some true
noncomputable def slices_Equal_string_l0 (s2_2 : (List Str)) : List Str → Int → Option (Bool ⊕ Unit)
  | [], v_5 =>
    some (.inr ())
  | y_8 :: suf, v_5 =>
    (rd s2_2 v_5).bind fun x_9 =>
    if (!(y_8 == x_9)) = true then
      some (.inl false)
    else
      slices_Equal_string_l0 s2_2 suf (v_5 + 1)
noncomputable def slices_Equal_string (s1_1 : (List Str)) (s2_2 : (List Str)) : Option Bool :=
  if ((s1_1.length : Int) != (s2_2.length : Int)) = true then
    some false
  else
    (chk (s1_1.length ≤ 9223372036854775807) (slices_Equal_string_l0 s2_2 s1_1 (0 : Int))).bind fun e => match e with
    | .inl res_10 =>
      some res_10
    | .inr _ =>
      some true
noncomputable def node_alike (a_1 : api_Node) (b_2 : api_Node) : Option Bool :=
  (node_isText a_1).bind fun istext_3 =>
  if (istext_3) = true then
    (node_isText b_2).bind fun istext_4 =>
    if (istext_4) = true then
      (slices_Equal_string a_1.Marks b_2.Marks).bind fun string_5 =>
      some string_5
    else
      some false
  else
    some false
noncomputable def node_formed_l0 : List api_Attr → Int → (List Str) → Option (Bool ⊕ (List Str))
  | [], v_8, names_9 =>
    some (.inr names_9)
  | y_13 :: suf, v_8, names_9 =>
    (node_Value y_13.Value).bind fun value_14 =>
    if (!value_14) = true then
      some (.inl false)
    else
      (app 16 names_9 [y_13.Name]).bind fun l_15 =>
      node_formed_l0 suf (v_8 + 1) l_15
noncomputable def node_formed_l1 (n_1 : api_Node) (node_formed_r : api_Node → Option Bool) : List api_Node → Int → Option (Bool ⊕ Unit)
  | [], v_26 =>
    some (.inr ())
  | y_31 :: suf, v_26 =>
    (node_formed_r y_31).bind fun formed_32 =>
    if (!formed_32) = true then
      some (.inl false)
    else
      if (decide (v_26 > (0 : Int))) = true then
        (rd n_1.Kids (w64 (v_26 - (1 : Int)))).bind fun x_33 =>
        (node_alike x_33 y_31).bind fun alike_34 =>
        if (alike_34) = true then
          some (.inl false)
        else
          node_formed_l1 n_1 node_formed_r suf (v_26 + 1)
      else
        node_formed_l1 n_1 node_formed_r suf (v_26 + 1)
noncomputable def node_formed_k : Nat → api_Node → Option Bool
  | 0, _ => none
  | kr + 1, n_1 =>
    (node_isText n_1).bind fun istext_2 =>
    if (istext_2) = true then
      if (!(n_1.Text == ([] : Str))) = true then
        (unicode_utf8_ValidString n_1.Text).bind fun valids_3 =>
        if (valids_3) = true then
          (node_rise n_1.Marks).bind fun rise_4 =>
          if (rise_4) = true then
            some ((w64 ((n_1.Attrs.length : Int) + (n_1.Kids.length : Int))) == (0 : Int))
          else
            some false
        else
          some false
      else
        some false
    else
      (chk (n_1.Attrs.length ≤ 9223372036854775807) (node_formed_l0 n_1.Attrs (0 : Int) ([] : List Str))).bind fun e => match e with
      | .inl res_16 =>
        some res_16
      | .inr names_19 =>
        (node_Name n_1.Kind).bind fun name_20 =>
        if (!name_20) = true then
          some false
        else
          if (!(n_1.Text == ([] : Str))) = true then
            some false
          else
            if (decide ((n_1.Marks.length : Int) > (0 : Int))) = true then
              some false
            else
              (node_rise names_19).bind fun rise_21 =>
              if (!rise_21) = true then
                some false
              else
                (chk (n_1.Kids.length ≤ 9223372036854775807) (node_formed_l1 n_1 (node_formed_k kr) n_1.Kids (0 : Int))).bind fun e => match e with
                | .inl res_35 =>
                  some res_35
                | .inr _ =>
                  some true
noncomputable def node_formed (n_1 : api_Node) : Option Bool := lim fun kr => node_formed_k kr n_1
noncomputable def unicode_utf8_RuneCountInString_l0 (s_1 : Str) : Nat → Int → Nat → Option Int
  | 0, _, _ => none
  | k + 1, n_2, v_3 =>
    if (decide (v_3 < s_1.length)) = true then
      unicode_utf8_RuneCountInString_l0 s_1 k (w64 (n_2 + (1 : Int))) (v_3 + runeW s_1 v_3)
    else
      some n_2
noncomputable def unicode_utf8_RuneCountInString (s_1 : Str) : Option Int :=
  (lim fun k => unicode_utf8_RuneCountInString_l0 s_1 k (0 : Int) 0).bind fun n_4 =>
  some n_4
noncomputable def node_Total_l0 (node_Size_r : api_Node → Option Int) : List api_Node → Int → Int → Option Int
  | [], v_5, many_4 =>
    some many_4
  | y_8 :: suf, v_5, many_4 =>
    (node_Size_r y_8).bind fun size_9 =>
    node_Total_l0 node_Size_r suf (v_5 + 1) (w64 (many_4 + size_9))
mutual
noncomputable def node_Total_k : Nat → (List api_Node) → Option Int
  | 0, _ => none
  | kr + 1, l_1 =>
    (chk (l_1.length ≤ 9223372036854775807) (node_Total_l0 (node_Size_k kr) l_1 (0 : Int) (0 : Int))).bind fun many_10 =>
    some many_10
noncomputable def node_Size_k : Nat → api_Node → Option Int
  | 0, _ => none
  | kr + 1, n_1 =>
    (node_isText n_1).bind fun istext_2 =>
    if (istext_2) = true then
      (unicode_utf8_RuneCountInString n_1.Text).bind fun runeco_3 =>
      some runeco_3
    else
      ((node_Total_k kr) n_1.Kids).bind fun total_4 =>
      some (w64 ((2 : Int) + total_4))
end
noncomputable def node_Total (l_1 : (List api_Node)) : Option Int := lim fun kr => node_Total_k kr l_1
noncomputable def node_Size (n_1 : api_Node) : Option Int := lim fun kr => node_Size_k kr n_1
noncomputable def node_Check (n_1 : api_Node) : Option Int :=
  (node_formed n_1).bind fun formed_2 =>
  if (!formed_2) = true then
    some (2 : Int)
  else
    (node_Depth n_1).bind fun depth_3 =>
    if (decide (depth_3 > (40 : Int))) = true then
      some (4 : Int)
    else
      (node_Size n_1).bind fun size_4 =>
      if (decide (size_4 > (4000 : Int))) = true then
        some (5 : Int)
      else
        some (0 : Int)
noncomputable def strings_ReplaceAll (s : Str) (old : Str) (new : Str) : Option Str :=
  chk (s.length < 4294967281 ∧ 1 ≤ old.length ∧ s.length + Lib.countB (ba s) (ba old) * new.length ≤ 140737488355328) (some (Lib.replaceAll s old new))
noncomputable def codec_Quote (s_1 : Str) : Option Str :=
  (strings_ReplaceAll s_1 ([92] : Str) ([92, 92] : Str)).bind fun replac_2 =>
  (strings_ReplaceAll replac_2 ([34] : Str) ([92, 34] : Str)).bind fun replac_3 =>
  chk (([34] : Str).length + replac_3.length ≤ 9223372036854775807) (
    chk ((([34] : Str) ++ replac_3).length + ([34] : Str).length ≤ 9223372036854775807) (
      some ((([34] : Str) ++ replac_3) ++ ([34] : Str))))
noncomputable def strings_Join (l : (List Str)) (sep : Str) : Option Str :=
  chk (l.length ≤ 140737488355328 ∧ (Lib.join l sep).length ≤ 140737488355328) (some (Lib.join l sep))
noncomputable def codec_Head_l0 : List api_Attr → Int → (List Str) → Option (List Str)
  | [], v_6, l_7 =>
    some l_7
  | y_11 :: suf, v_6, l_7 =>
    chk (y_11.Name.length + ([61] : Str).length ≤ 9223372036854775807) (
      (codec_Quote y_11.Value).bind fun quote_12 =>
      chk ((y_11.Name ++ ([61] : Str)).length + quote_12.length ≤ 9223372036854775807) (
        (app 16 l_7 [(y_11.Name ++ ([61] : Str)) ++ quote_12]).bind fun l_13 =>
        codec_Head_l0 suf (v_6 + 1) l_13))
noncomputable def codec_Head (n_1 : api_Node) : Option Str :=
  if (n_1.Kind == ([116, 101, 120, 116] : Str)) = true then
    if ((n_1.Marks.length : Int) == (0 : Int)) = true then
      some ([] : Str)
    else
      (strings_Join n_1.Marks ([44] : Str)).bind fun join_2 =>
      chk (([60] : Str).length + join_2.length ≤ 9223372036854775807) (
        chk ((([60] : Str) ++ join_2).length + ([62] : Str).length ≤ 9223372036854775807) (
          some ((([60] : Str) ++ join_2) ++ ([62] : Str))))
  else
    if ((n_1.Attrs.length : Int) == (0 : Int)) = true then
      some n_1.Kind
    else
      (chk (n_1.Attrs.length ≤ 9223372036854775807) (codec_Head_l0 n_1.Attrs (0 : Int) ([] : List Str))).bind fun l_16 =>
      chk (n_1.Kind.length + ([40] : Str).length ≤ 9223372036854775807) (
        (strings_Join l_16 ([32] : Str)).bind fun join_17 =>
        chk ((n_1.Kind ++ ([40] : Str)).length + join_17.length ≤ 9223372036854775807) (
          chk (((n_1.Kind ++ ([40] : Str)) ++ join_17).length + ([41] : Str).length ≤ 9223372036854775807) (
            some (((n_1.Kind ++ ([40] : Str)) ++ join_17) ++ ([41] : Str)))))
noncomputable def strings_Builder_copyCheck_x (l : Str) : Option (List UInt8) :=
  some l
noncomputable def strings_Builder_WriteString_x (s_1 : Str) (l_2 : (List UInt8)) : Option (Int × (List UInt8)) :=
  (strings_Builder_copyCheck_x l_2).bind fun l_3 =>
  (app 1 l_3 s_1).bind fun l_4 =>
  some ((s_1.length : Int), l_4)
noncomputable def codec_write_x_l0 (codec_write_x_r : api_Node → (List UInt8) → Option (List UInt8)) : List api_Node → Int → (List UInt8) → Option (List UInt8)
  | [], v_12, v_13 =>
    some v_13
  | y_16 :: suf, v_12, v_13 =>
    (codec_write_x_r y_16 v_13).bind fun l_17 =>
    codec_write_x_l0 codec_write_x_r suf (v_12 + 1) l_17
noncomputable def codec_write_x_k : Nat → api_Node → (List UInt8) → Option (List UInt8)
  | 0, _, _ => none
  | kr + 1, n_1, l_2 =>
    if (n_1.Kind == ([116, 101, 120, 116] : Str)) = true then
      (codec_Quote n_1.Text).bind fun quote_3 =>
      (codec_Head n_1).bind fun head_4 =>
      chk (quote_3.length + head_4.length ≤ 9223372036854775807) (
        (strings_Builder_WriteString_x (quote_3 ++ head_4) l_2).bind fun (r_5, l_6) =>
        some l_6)
    else
      (codec_Head n_1).bind fun head_7 =>
      chk (head_7.length + ([91] : Str).length ≤ 9223372036854775807) (
        (strings_Builder_WriteString_x (head_7 ++ ([91] : Str)) l_2).bind fun (r_8, l_9) =>
        (chk (n_1.Kids.length ≤ 9223372036854775807) (codec_write_x_l0 (codec_write_x_k kr) n_1.Kids (0 : Int) l_9)).bind fun v_20 =>
        (strings_Builder_WriteString_x ([93] : Str) v_20).bind fun (r_21, l_22) =>
        some l_22)
noncomputable def codec_write_x (n_1 : api_Node) (l_2 : (List UInt8)) : Option (List UInt8) := lim fun kr => codec_write_x_k kr n_1 l_2
noncomputable def strings_Builder_String_x (l : Str) : Option (Str × (List UInt8)) :=
  chk (l.length ≤ 9223372036854775807) (some (l, l))
noncomputable def codec_Print (n_1 : api_Node) : Option (Str × Int) :=
  (node_Check n_1).bind fun check_2 =>
  if (check_2 != (0 : Int)) = true then
    some (([] : Str), check_2)
  else
    (codec_write_x n_1 ([] : Str)).bind fun l_3 =>
    (strings_Builder_String_x l_3).bind fun (r_4, l_5) =>
    some (r_4, (0 : Int))
noncomputable def diptychlaw2_shown : Option Bool :=
  (codec_Print ({ Kind := ([100, 111, 99] : Str), Text := ([] : Str), Marks := [], Attrs := [], Kids := [({ Kind := ([112, 97, 114, 97] : Str), Text := ([] : Str), Marks := [], Attrs := [({ Name := ([97, 108, 105, 103, 110] : Str), Value := ([108, 101, 102, 116] : Str) } : api_Attr)], Kids := [({ Kind := ([116, 101, 120, 116] : Str), Text := ([104, 105] : Str), Marks := [], Attrs := [], Kids := [] } : api_Node), ({ Kind := ([116, 101, 120, 116] : Str), Text := ([33] : Str), Marks := [([98] : Str)], Attrs := [], Kids := [] } : api_Node)] } : api_Node)] } : api_Node)).bind fun (r_1, r_2) =>
  if (r_1 == ([100, 111, 99, 91, 112, 97, 114, 97, 40, 97, 108, 105, 103, 110, 61, 34, 108, 101, 102, 116, 34, 41, 91, 34, 104, 105, 34, 34, 33, 34, 60, 98, 62, 93, 93] : Str)) = true then
    some (r_2 == (0 : Int))
  else
    some false
noncomputable def slices_Equal_api_Attr_l0 (s2_2 : (List api_Attr)) : List api_Attr → Int → Option (Bool ⊕ Unit)
  | [], v_5 =>
    some (.inr ())
  | y_8 :: suf, v_5 =>
    (rd s2_2 v_5).bind fun x_9 =>
    if ((((y_8.Name == x_9.Name) && (y_8.Value == x_9.Value)) != true)) = true then
      some (.inl false)
    else
      slices_Equal_api_Attr_l0 s2_2 suf (v_5 + 1)
noncomputable def slices_Equal_api_Attr (s1_1 : (List api_Attr)) (s2_2 : (List api_Attr)) : Option Bool :=
  if ((s1_1.length : Int) != (s2_2.length : Int)) = true then
    some false
  else
    (chk (s1_1.length ≤ 9223372036854775807) (slices_Equal_api_Attr_l0 s2_2 s1_1 (0 : Int))).bind fun e => match e with
    | .inl res_10 =>
      some res_10
    | .inr _ =>
      some true
noncomputable def slices_EqualFunc_api_Node_node_Same_l0 (s2_2 : (List api_Node)) (node_Same_r : api_Node → api_Node → Option Bool) : List api_Node → Int → Option (Bool ⊕ Unit)
  | [], v_6 =>
    some (.inr ())
  | y_10 :: suf, v_6 =>
    (rd s2_2 v_6).bind fun x_11 =>
    (node_Same_r y_10 x_11).bind fun same_12 =>
    if (!same_12) = true then
      some (.inl false)
    else
      slices_EqualFunc_api_Node_node_Same_l0 s2_2 node_Same_r suf (v_6 + 1)
mutual
noncomputable def slices_EqualFunc_api_Node_node_Same_k : Nat → (List api_Node) → (List api_Node) → Option Bool
  | 0, _, _ => none
  | kr + 1, s1_1, s2_2 =>
    if ((s1_1.length : Int) != (s2_2.length : Int)) = true then
      some false
    else
      (chk (s1_1.length ≤ 9223372036854775807) (slices_EqualFunc_api_Node_node_Same_l0 s2_2 (node_Same_k kr) s1_1 (0 : Int))).bind fun e => match e with
      | .inl res_13 =>
        some res_13
      | .inr _ =>
        some true
noncomputable def node_Same_k : Nat → api_Node → api_Node → Option Bool
  | 0, _, _ => none
  | kr + 1, a_1, b_2 =>
    if (a_1.Kind == b_2.Kind) = true then
      if (a_1.Text == b_2.Text) = true then
        (slices_Equal_string a_1.Marks b_2.Marks).bind fun string_3 =>
        if (string_3) = true then
          (slices_Equal_api_Attr a_1.Attrs b_2.Attrs).bind fun attr_4 =>
          if (attr_4) = true then
            ((slices_EqualFunc_api_Node_node_Same_k kr) a_1.Kids b_2.Kids).bind fun node_5 =>
            some node_5
          else
            some false
        else
          some false
      else
        some false
    else
      some false
end
noncomputable def slices_EqualFunc_api_Node_node_Same (s1_1 : (List api_Node)) (s2_2 : (List api_Node)) : Option Bool := lim fun kr => slices_EqualFunc_api_Node_node_Same_k kr s1_1 s2_2
noncomputable def node_Same (a_1 : api_Node) (b_2 : api_Node) : Option Bool := lim fun kr => node_Same_k kr a_1 b_2
noncomputable def internal_stringslite_HasPrefix (s_1 : Str) (prefix_2 : Str) : Option Bool :=
  if (decide ((s_1.length : Int) ≥ (prefix_2.length : Int))) = true then
    (sl s_1 (0 : Int) (prefix_2.length : Int)).bind fun s_3 =>
    some (s_3 == prefix_2)
  else
    some false
noncomputable def strings_HasPrefix (s_1 : Str) (prefix_2 : Str) : Option Bool :=
  (internal_stringslite_HasPrefix s_1 prefix_2).bind fun haspre_3 =>
  some haspre_3
noncomputable def strings_TrimLeft (s : Str) (cutset : Str) : Option Str :=
  chk (s.length ≤ 9223372036854775807 ∧ cutset.length < 4294967281 ∧ cutset.all (fun b => decide (b.toNat < 128)) = true) (some (Lib.trimLeftS s cutset))
noncomputable def codec_reader_name_x (reader_1 : codec_reader) : Option (Str × codec_reader) :=
  (strings_TrimLeft reader_1.left ([97, 98, 99, 100, 101, 102, 103, 104, 105, 106, 107, 108, 109, 110, 111, 112, 113, 114, 115, 116, 117, 118, 119, 120, 121, 122] : Str)).bind fun trimle_2 =>
  (sl reader_1.left (0 : Int) (w64 ((reader_1.left.length : Int) - (trimle_2.length : Int)))).bind fun s_3 =>
  some (s_3, { reader_1 with left := trimle_2 })
noncomputable def internal_stringslite_CutPrefix (s_1 : Str) (prefix_2 : Str) : Option (Str × Bool) :=
  (internal_stringslite_HasPrefix s_1 prefix_2).bind fun haspre_3 =>
  if (!haspre_3) = true then
    some (s_1, false)
  else
    (sl s_1 (prefix_2.length : Int) (s_1.length : Int)).bind fun s_4 =>
    some (s_4, true)
noncomputable def strings_CutPrefix (s_1 : Str) (prefix_2 : Str) : Option (Str × Bool) :=
  (internal_stringslite_CutPrefix s_1 prefix_2).bind fun (r_3, r_4) =>
  some (r_3, r_4)
noncomputable def codec_reader_takes_x (sign_1 : Str) (reader_2 : codec_reader) : Option (Bool × codec_reader) :=
  (strings_CutPrefix reader_2.left sign_1).bind fun (r_3, r_4) =>
  some (r_4, { reader_2 with left := r_3 })
noncomputable def codec_reader_want_x (sign_1 : Str) (reader_2 : codec_reader) : Option codec_reader :=
  (codec_reader_takes_x sign_1 reader_2).bind fun (r_3, reader_4) =>
  if (!r_3) = true then
    some ({ reader_4 with bad := true })
  else
    some reader_4
noncomputable def codec_reader_quoted_x_l0 (reader_2 : codec_reader) : Nat → Int → (List Int) → Option ((Str × codec_reader) ⊕ Unit)
  | 0, _, _ => none
  | k + 1, i_7, s_8 =>
    if (decide (i_7 < (reader_2.left.length : Int))) = true then
      if (!reader_2.bad) = true then
        ((
            chk (0 ≤ i_7 ∧ i_7 < (reader_2.left.length : Int)) (
              if (((reader_2.left.getD i_7.toNat 0).toNat : Int) == (34 : Int)) = true then
                (sl reader_2.left (w64 (i_7 + (1 : Int))) (reader_2.left.length : Int)).bind fun s_9 =>
                some (.inl (strB s_8, { reader_2 with left := s_9 }))
              else
                if (((reader_2.left.getD i_7.toNat 0).toNat : Int) == (92 : Int)) = true then
                  some (.inr (w64 (i_7 + (1 : Int))))
                else
                  some (.inr i_7))) : Option ((Str × codec_reader) ⊕ Int)).bind fun e => match e with
        | .inl res_10 =>
          some (.inl res_10)
        | .inr i_11 =>
          if (decide (i_11 < (reader_2.left.length : Int))) = true then
            chk (0 ≤ i_11 ∧ i_11 < (reader_2.left.length : Int)) (
              (app 1 s_8 [((reader_2.left.getD i_11.toNat 0).toNat : Int)]).bind fun l_12 =>
              codec_reader_quoted_x_l0 reader_2 k (w64 (i_11 + (1 : Int))) l_12)
          else
            codec_reader_quoted_x_l0 reader_2 k (w64 (i_11 + (1 : Int))) s_8
      else
        some (.inr ())
    else
      some (.inr ())
noncomputable def codec_reader_quoted_x (reader_1 : codec_reader) : Option (Str × codec_reader) :=
  (codec_reader_want_x ([34] : Str) reader_1).bind fun reader_2 =>
  (lim fun k => codec_reader_quoted_x_l0 reader_2 k (0 : Int) ([] : List Int)).bind fun e => match e with
  | .inl res_13 =>
    some res_13
  | .inr _ =>
    some (([] : Str), { reader_2 with bad := true })
noncomputable def codec_reader_text_x_l0 : Nat → Bool → (List Str) → codec_reader → Option ((List Str) × codec_reader)
  | 0, _, _, _ => none
  | k + 1, sign_12, v_13, r_11 =>
    if (sign_12) = true then
      (codec_reader_name_x r_11).bind fun (r_14, reader_15) =>
      (app 16 v_13 [r_14]).bind fun l_16 =>
      (codec_reader_takes_x ([44] : Str) reader_15).bind fun (r_17, reader_18) =>
      codec_reader_text_x_l0 k r_17 l_16 reader_18
    else
      some (v_13, r_11)
noncomputable def codec_reader_text_x (reader_1 : codec_reader) : Option (api_Node × codec_reader) :=
  (codec_reader_quoted_x reader_1).bind fun (r_2, reader_3) =>
  (codec_reader_takes_x ([60] : Str) reader_3).bind fun (r_4, reader_5) =>
  if (!r_4) = true then
    some (({ Kind := ([116, 101, 120, 116] : Str), Text := r_2, Marks := ([] : List Str), Attrs := [], Kids := [] } : api_Node), reader_5)
  else
    (lim fun k => codec_reader_text_x_l0 k true ([] : List Str) reader_5).bind fun (v_20, r_21) =>
    (codec_reader_want_x ([62] : Str) r_21).bind fun reader_22 =>
    some (({ Kind := ([116, 101, 120, 116] : Str), Text := r_2, Marks := v_20, Attrs := [], Kids := [] } : api_Node), reader_22)
noncomputable def codec_reader_node_x_l1 : Nat → Bool → (List api_Attr) → codec_reader → Option ((List api_Attr) × codec_reader)
  | 0, _, _, _ => none
  | k + 1, sign_18, v_19, r_17 =>
    if (sign_18) = true then
      if (!r_17.bad) = true then
        (codec_reader_name_x r_17).bind fun (r_20, reader_21) =>
        (codec_reader_want_x ([61] : Str) reader_21).bind fun reader_22 =>
        (codec_reader_quoted_x reader_22).bind fun (r_23, reader_24) =>
        (app 32 v_19 [({ Name := r_20, Value := r_23 } : api_Attr)]).bind fun l_25 =>
        (codec_reader_takes_x ([32] : Str) reader_24).bind fun (r_26, reader_27) =>
        codec_reader_node_x_l1 k r_26 l_25 reader_27
      else
        some (v_19, r_17)
    else
      some (v_19, r_17)
noncomputable def codec_reader_node_x_l2 (codec_reader_node_x_r : codec_reader → Option (api_Node × codec_reader)) : Nat → (List api_Node) → codec_reader → Option ((List api_Node) × codec_reader)
  | 0, _, _ => none
  | k + 1, v_39, r_38 =>
    if (r_38.bad) = true then
      some (v_39, r_38)
    else
      if (r_38.left == ([] : Str)) = true then
        some (v_39, r_38)
      else
        chk (0 ≤ (0 : Int) ∧ (0 : Int) < (r_38.left.length : Int)) (
          if (((r_38.left.getD (0 : Int).toNat 0).toNat : Int) == (93 : Int)) = true then
            some (v_39, r_38)
          else
            (codec_reader_node_x_r r_38).bind fun (r_40, reader_41) =>
            (app 104 v_39 [r_40]).bind fun l_42 =>
            codec_reader_node_x_l2 codec_reader_node_x_r k l_42 reader_41)
noncomputable def codec_reader_node_x_k : Nat → codec_reader → Option (api_Node × codec_reader)
  | 0, _ => none
  | kr + 1, reader_1 =>
    (strings_HasPrefix reader_1.left ([34] : Str)).bind fun haspre_2 =>
    if (haspre_2) = true then
      (codec_reader_text_x reader_1).bind fun (r_3, reader_4) =>
      some (r_3, reader_4)
    else
      (codec_reader_name_x reader_1).bind fun (r_5, reader_6) =>
      ((
          (codec_reader_takes_x ([40] : Str) reader_6).bind fun (r_7, reader_8) =>
          if (r_7) = true then
            (lim fun k => codec_reader_node_x_l1 k true ([] : List api_Attr) reader_8).bind fun (v_29, r_30) =>
            (codec_reader_want_x ([41] : Str) r_30).bind fun reader_31 =>
            some (v_29, reader_31)
          else
            some (([] : List api_Attr), reader_8)) : Option ((List api_Attr) × codec_reader)).bind fun (v_32, r_33) =>
      (codec_reader_want_x ([91] : Str) r_33).bind fun reader_34 =>
      (lim fun k => codec_reader_node_x_l2 (codec_reader_node_x_k kr) k ([] : List api_Node) reader_34).bind fun (v_44, r_45) =>
      (codec_reader_want_x ([93] : Str) r_45).bind fun reader_46 =>
      some (({ Kind := r_5, Text := ([] : Str), Marks := [], Attrs := v_32, Kids := v_44 } : api_Node), reader_46)
noncomputable def codec_reader_node_x (reader_1 : codec_reader) : Option (api_Node × codec_reader) := lim fun kr => codec_reader_node_x_k kr reader_1
noncomputable def codec_Parse (s_1 : Str) : Option (api_Node × Int) :=
  (codec_reader_node_x ({ left := s_1, bad := false } : codec_reader)).bind fun (r_2, reader_3) =>
  (codec_write_x r_2 ([] : Str)).bind fun l_4 =>
  (node_Check r_2).bind fun check_5 =>
  if (reader_3.bad) = true then
    some (({ Kind := ([] : Str), Text := ([] : Str), Marks := [], Attrs := [], Kids := [] } : api_Node), (2 : Int))
  else
    if (!(reader_3.left == ([] : Str))) = true then
      some (({ Kind := ([] : Str), Text := ([] : Str), Marks := [], Attrs := [], Kids := [] } : api_Node), (2 : Int))
    else
      (strings_Builder_String_x l_4).bind fun (r_6, l_7) =>
      if (!(r_6 == s_1)) = true then
        some (({ Kind := ([] : Str), Text := ([] : Str), Marks := [], Attrs := [], Kids := [] } : api_Node), (2 : Int))
      else
        if (check_5 == (2 : Int)) = true then
          some (({ Kind := ([] : Str), Text := ([] : Str), Marks := [], Attrs := [], Kids := [] } : api_Node), (2 : Int))
        else
          if (check_5 != (0 : Int)) = true then
            some (({ Kind := ([] : Str), Text := ([] : Str), Marks := [], Attrs := [], Kids := [] } : api_Node), check_5)
          else
            some (r_2, (0 : Int))
noncomputable def diptychlaw2_CodecQuotes (s_1 : Str) : Option Bool :=
  (diptychlaw2_shown).bind fun shown_2 =>
  if (!shown_2) = true then
    some shown_2
  else
    if (decide ((s_1.length : Int) > (300 : Int))) = true then
      some shown_2
    else
      (codec_Print ({ Kind := ([112] : Str), Text := ([] : Str), Marks := [], Attrs := [({ Name := ([97] : Str), Value := s_1 } : api_Attr)], Kids := [] } : api_Node)).bind fun (r_3, r_4) =>
      (codec_Print ({ Kind := ([116, 101, 120, 116] : Str), Text := s_1, Marks := [], Attrs := [], Kids := [] } : api_Node)).bind fun (r_5, r_6) =>
      ((
          (node_Value s_1).bind fun value_7 =>
          if ((((r_4 == (0 : Int)) == value_7) != true)) = true then
            some (.inl false)
          else
            if (!(s_1 == ([] : Str))) = true then
              if ((((r_6 == (0 : Int)) == ((runesStr (runes s_1)) == s_1)) != true)) = true then
                some (.inl false)
              else
                some (.inr ())
            else
              if ((((r_6 == (0 : Int)) == false) != true)) = true then
                some (.inl false)
              else
                some (.inr ())) : Option (Bool ⊕ Unit)).bind fun e => match e with
      | .inl res_8 =>
        some res_8
      | .inr _ =>
        ((
            if (r_4 == (0 : Int)) = true then
              (codec_Parse r_3).bind fun (r_10, r_11) =>
              if (r_11 != (0 : Int)) = true then
                some (.inl false)
              else
                (node_Same r_10 ({ Kind := ([112] : Str), Text := ([] : Str), Marks := [], Attrs := [({ Name := ([97] : Str), Value := s_1 } : api_Attr)], Kids := [] } : api_Node)).bind fun same_12 =>
                if (!same_12) = true then
                  some (.inl false)
                else
                  some (.inr ())
            else
              some (.inr ())) : Option (Bool ⊕ Unit)).bind fun e => match e with
        | .inl res_13 =>
          some res_13
        | .inr _ =>
          if (r_6 != (0 : Int)) = true then
            if (r_5 == ([] : Str)) = true then
              some (r_6 == (2 : Int))
            else
              some false
          else
            (codec_Parse r_5).bind fun (r_14, r_15) =>
            if (r_15 == (0 : Int)) = true then
              (node_Same r_14 ({ Kind := ([116, 101, 120, 116] : Str), Text := s_1, Marks := [], Attrs := [], Kids := [] } : api_Node)).bind fun same_16 =>
              some same_16
            else
              some false
noncomputable def diptychlaw2_pick (c_1 : Int) (n_2 : Int) : Option Int :=
  if (decide (c_1 < (0 : Int))) = true then
    chk (n_2 ≠ 0) (
      some ((w64 (0 - (w64 (c_1 + (1 : Int))))).tmod n_2))
  else
    chk (n_2 ≠ 0) (
      some (c_1.tmod n_2))
noncomputable def diptychlaw2_CodecDeep_l1 (pick_4 : Int) : Nat → Str → Int → api_Node → Option (Str × api_Node)
  | 0, _, _, _ => none
  | k + 1, s_7, i_8, m_6 =>
    if (decide (i_8 < (w64 ((1 : Int) + pick_4)))) = true then
      chk (s_7.length + ([112, 91] : Str).length ≤ 9223372036854775807) (
        diptychlaw2_CodecDeep_l1 pick_4 k (s_7 ++ ([112, 91] : Str)) (w64 (i_8 + (1 : Int))) ({ Kind := ([112] : Str), Text := ([] : Str), Marks := [], Attrs := [], Kids := [m_6] } : api_Node))
    else
      some (s_7, m_6)
noncomputable def diptychlaw2_CodecDeep_l3 (pick_4 : Int) : Nat → Str → Int → Option Str
  | 0, _, _ => none
  | k + 1, s_14, i_15 =>
    if (decide (i_15 < (w64 ((1 : Int) + pick_4)))) = true then
      chk (s_14.length + ([93] : Str).length ≤ 9223372036854775807) (
        diptychlaw2_CodecDeep_l3 pick_4 k (s_14 ++ ([93] : Str)) (w64 (i_15 + (1 : Int))))
    else
      some s_14
noncomputable def diptychlaw2_CodecDeep (deep_1 : Int) (wrong_2 : Bool) : Option Bool :=
  (diptychlaw2_shown).bind fun shown_3 =>
  if (!shown_3) = true then
    some false
  else
    (diptychlaw2_pick deep_1 (60 : Int)).bind fun pick_4 =>
    ((
        if (wrong_2) = true then
          some ([80] : Str)
        else
          some ([116, 101, 120, 116] : Str)) : Option Str).bind fun m_5 =>
    (lim fun k => diptychlaw2_CodecDeep_l1 pick_4 k ([] : Str) (0 : Int) ({ Kind := m_5, Text := ([120] : Str), Marks := [], Attrs := [], Kids := [] } : api_Node)).bind fun (s_9, m_12) =>
    ((
        if (wrong_2) = true then
          chk (s_9.length + ([80, 91, 93] : Str).length ≤ 9223372036854775807) (
            some (s_9 ++ ([80, 91, 93] : Str)))
        else
          chk (s_9.length + ([34, 120, 34] : Str).length ≤ 9223372036854775807) (
            some (s_9 ++ ([34, 120, 34] : Str)))) : Option Str).bind fun s_13 =>
    (lim fun k => diptychlaw2_CodecDeep_l3 pick_4 k s_13 (0 : Int)).bind fun s_16 =>
    (codec_Print m_12).bind fun (r_19, r_20) =>
    (codec_Parse s_16).bind fun (r_21, r_22) =>
    if (wrong_2) = true then
      if (r_20 == (2 : Int)) = true then
        if (r_22 == (2 : Int)) = true then
          if (r_19 == ([] : Str)) = true then
            some (r_21.Kind == ([] : Str))
          else
            some false
        else
          some false
      else
        some false
    else
      if (decide ((w64 ((1 : Int) + pick_4)) > (40 : Int))) = true then
        if (r_20 == (4 : Int)) = true then
          if (r_22 == (4 : Int)) = true then
            if (r_19 == ([] : Str)) = true then
              some (r_21.Kind == ([] : Str))
            else
              some false
          else
            some false
        else
          some false
      else
        if (r_20 == (0 : Int)) = true then
          if (r_22 == (0 : Int)) = true then
            if (r_19 == s_16) = true then
              (node_Same r_21 m_12).bind fun same_23 =>
              if (same_23) = true then
                (node_Depth r_21).bind fun depth_24 =>
                some (depth_24 == (w64 ((1 : Int) + pick_4)))
              else
                some false
            else
              some false
          else
            some false
        else
          some false
noncomputable def codec_PrintAll (l_1 : (List api_Node)) : Option (Str × Int) :=
  (codec_Print ({ Kind := ([120] : Str), Text := ([] : Str), Marks := [], Attrs := [], Kids := l_1 } : api_Node)).bind fun (r_2, r_3) =>
  if (r_3 != (0 : Int)) = true then
    some (([] : Str), r_3)
  else
    (sl r_2 (2 : Int) (w64 ((r_2.length : Int) - (1 : Int)))).bind fun s_4 =>
    some (s_4, (0 : Int))
noncomputable def diptychref1_sameNames_l0 (b_2 : (List Str)) : List Str → Int → Option (Bool ⊕ Unit)
  | [], i_5 =>
    some (.inr ())
  | y_8 :: suf, i_5 =>
    (rd b_2 i_5).bind fun x_9 =>
    if (!(y_8 == x_9)) = true then
      some (.inl false)
    else
      diptychref1_sameNames_l0 b_2 suf (i_5 + 1)
noncomputable def diptychref1_sameNames (a_1 : (List Str)) (b_2 : (List Str)) : Option Bool :=
  if ((a_1.length : Int) != (b_2.length : Int)) = true then
    some false
  else
    (chk (a_1.length ≤ 9223372036854775807) (diptychref1_sameNames_l0 b_2 a_1 (0 : Int))).bind fun e => match e with
    | .inl res_10 =>
      some res_10
    | .inr _ =>
      some true
noncomputable def diptychref1_Join_l0 : List api_Node → Int → (List api_Node) → Option (List api_Node)
  | [], i_13, out_14 =>
    some out_14
  | y_26 :: suf, i_13, out_14 =>
    ((
        if (y_26.Kind == ([116, 101, 120, 116] : Str)) = true then
          if (y_26.Text == ([] : Str)) = true then
            some (.inl ())
          else
            some (.inr ())
        else
          some (.inr ())) : Option (Unit ⊕ Unit)).bind fun e => match e with
    | .inl _ =>
      diptychref1_Join_l0 suf (i_13 + 1) out_14
    | .inr _ =>
      if (y_26.Kind == ([116, 101, 120, 116] : Str)) = true then
        if (decide ((w64 ((out_14.length : Int) - (1 : Int))) ≥ (0 : Int))) = true then
          (rd out_14 (w64 ((out_14.length : Int) - (1 : Int)))).bind fun x_28 =>
          if (x_28.Kind == ([116, 101, 120, 116] : Str)) = true then
            (diptychref1_sameNames x_28.Marks y_26.Marks).bind fun samena_29 =>
            if (samena_29) = true then
              chk (x_28.Text.length + y_26.Text.length ≤ 9223372036854775807) (
                (sl out_14 (0 : Int) (w64 ((out_14.length : Int) - (1 : Int)))).bind fun s_30 =>
                (app 104 ([] : List api_Node) s_30).bind fun l_31 =>
                (app 104 l_31 [{ y_26 with Text := x_28.Text ++ y_26.Text }]).bind fun l_32 =>
                diptychref1_Join_l0 suf (i_13 + 1) l_32)
            else
              (app 104 out_14 [y_26]).bind fun l_33 =>
              diptychref1_Join_l0 suf (i_13 + 1) l_33
          else
            (app 104 out_14 [y_26]).bind fun l_34 =>
            diptychref1_Join_l0 suf (i_13 + 1) l_34
        else
          (app 104 out_14 [y_26]).bind fun l_35 =>
          diptychref1_Join_l0 suf (i_13 + 1) l_35
      else
        (app 104 out_14 [y_26]).bind fun l_36 =>
        diptychref1_Join_l0 suf (i_13 + 1) l_36
noncomputable def diptychref1_Join (l_1 : (List api_Node)) : Option (List api_Node) :=
  (chk (l_1.length ≤ 9223372036854775807) (diptychref1_Join_l0 l_1 (0 : Int) ([] : List api_Node))).bind fun out_39 =>
  some out_39
noncomputable def diptychlaw2_made_l0 : List diptychlaw2_Cell → Int → (List api_Node) → Option (List api_Node)
  | [], i_26, out_27 =>
    some out_27
  | y_52 :: suf, i_26, out_27 =>
    if (decide (i_26 < (19 : Int))) = true then
      (diptychlaw2_pick y_52.A (4 : Int)).bind fun pick_53 =>
      (rd [([112, 97, 114, 97] : Str), ([105, 116, 101, 109] : Str), ([108, 105, 115, 116] : Str), ([110, 111, 116, 101] : Str)] pick_53).bind fun x_54 =>
      ((
          (diptychlaw2_pick y_52.B (3 : Int)).bind fun pick_55 =>
          if (pick_55 == (1 : Int)) = true then
            (diptychlaw2_pick (w64 (y_52.B.tdiv (3 : Int))) (5 : Int)).bind fun pick_56 =>
            (rd [([97] : Str), ([98, 99] : Str), ([195, 169] : Str), ([120, 32, 121] : Str), ([230, 151, 165, 230, 156, 172] : Str)] pick_56).bind fun x_57 =>
            some [({ Name := ([97, 108, 105, 103, 110] : Str), Value := x_57 } : api_Attr)]
          else
            some []) : Option (List api_Attr)).bind fun n_58 =>
      (diptychlaw2_pick y_52.Op (8 : Int)).bind fun pick_59 =>
      ((
          if (pick_59 == (0 : Int)) = true then
            some (pick_59 == (0 : Int))
          else
            if (pick_59 == (1 : Int)) = true then
              some (pick_59 == (1 : Int))
            else
              if (pick_59 == (2 : Int)) = true then
                some (pick_59 == (2 : Int))
              else
                some (pick_59 == (3 : Int))) : Option Bool).bind fun v_60 =>
      if (v_60) = true then
        (diptychlaw2_pick y_52.A (5 : Int)).bind fun pick_61 =>
        (rd [([97] : Str), ([98, 99] : Str), ([195, 169] : Str), ([120, 32, 121] : Str), ([230, 151, 165, 230, 156, 172] : Str)] pick_61).bind fun x_62 =>
        ((
            (diptychlaw2_pick y_52.B (3 : Int)).bind fun pick_63 =>
            if (pick_63 == (1 : Int)) = true then
              some [([98] : Str)]
            else
              some []) : Option (List Str)).bind fun n_64 =>
        (diptychlaw2_pick y_52.B (3 : Int)).bind fun pick_65 =>
        if (pick_65 == (2 : Int)) = true then
          (app 104 out_27 [({ Kind := ([116, 101, 120, 116] : Str), Text := x_62, Marks := [([98] : Str), ([105] : Str)], Attrs := [], Kids := [] } : api_Node)]).bind fun l_66 =>
          diptychlaw2_made_l0 suf (i_26 + 1) l_66
        else
          (app 104 out_27 [({ Kind := ([116, 101, 120, 116] : Str), Text := x_62, Marks := n_64, Attrs := [], Kids := [] } : api_Node)]).bind fun l_67 =>
          diptychlaw2_made_l0 suf (i_26 + 1) l_67
      else
        ((
            if (pick_59 == (4 : Int)) = true then
              some (pick_59 == (4 : Int))
            else
              if (pick_59 == (5 : Int)) = true then
                some (pick_59 == (5 : Int))
              else
                some (pick_59 == (6 : Int))) : Option Bool).bind fun v_68 =>
        if (v_68) = true then
          (diptychlaw2_pick (w64 (y_52.B.tdiv (3 : Int))) (w64 ((if (6 : Int) < (out_27.length : Int) then (6 : Int) else (out_27.length : Int)) + (1 : Int)))).bind fun pick_69 =>
          (sl out_27 (w64 ((out_27.length : Int) - pick_69)) (out_27.length : Int)).bind fun s_70 =>
          (diptychref1_Join s_70).bind fun join_71 =>
          (sl out_27 (0 : Int) (w64 ((out_27.length : Int) - pick_69))).bind fun s_72 =>
          (app 104 ([] : List api_Node) s_72).bind fun l_73 =>
          (app 104 l_73 [({ Kind := x_54, Text := ([] : Str), Marks := [], Attrs := n_58, Kids := join_71 } : api_Node)]).bind fun l_74 =>
          diptychlaw2_made_l0 suf (i_26 + 1) l_74
        else
          (app 104 out_27 [({ Kind := x_54, Text := ([] : Str), Marks := [], Attrs := n_58, Kids := [] } : api_Node)]).bind fun l_75 =>
          diptychlaw2_made_l0 suf (i_26 + 1) l_75
    else
      some out_27
noncomputable def diptychlaw2_made (l_1 : (List diptychlaw2_Cell)) : Option (List api_Node) :=
  (chk (l_1.length ≤ 9223372036854775807) (diptychlaw2_made_l0 l_1 (0 : Int) ([] : List api_Node))).bind fun out_78 =>
  (diptychref1_Join out_78).bind fun join_79 =>
  some join_79
noncomputable def diptychlaw2_doc (l_1 : (List diptychlaw2_Cell)) : Option api_Node :=
  (diptychlaw2_made l_1).bind fun made_2 =>
  some ({ Kind := ([100, 111, 99] : Str), Text := ([] : Str), Marks := [], Attrs := [], Kids := made_2 } : api_Node)
noncomputable def codec_ParseAll (s_1 : Str) : Option ((List api_Node) × Int) :=
  chk (([120, 91] : Str).length + s_1.length ≤ 9223372036854775807) (
    chk ((([120, 91] : Str) ++ s_1).length + ([93] : Str).length ≤ 9223372036854775807) (
      (codec_Parse ((([120, 91] : Str) ++ s_1) ++ ([93] : Str))).bind fun (r_2, r_3) =>
      some (r_2.Kids, r_3)))
noncomputable def diptychref1_Same_l0 (b_2 : api_Node) : List api_Attr → Int → Option (Bool ⊕ Unit)
  | [], i_6 =>
    some (.inr ())
  | y_9 :: suf, i_6 =>
    (rd b_2.Attrs i_6).bind fun x_10 =>
    if ((((y_9.Name == x_10.Name) && (y_9.Value == x_10.Value)) != true)) = true then
      some (.inl false)
    else
      diptychref1_Same_l0 b_2 suf (i_6 + 1)
noncomputable def diptychref1_SameAll_l0 (b_2 : (List api_Node)) (diptychref1_Same_r : api_Node → api_Node → Option Bool) : List api_Node → Int → Option (Bool ⊕ Unit)
  | [], i_6 =>
    some (.inr ())
  | y_10 :: suf, i_6 =>
    (rd b_2 i_6).bind fun x_11 =>
    (diptychref1_Same_r y_10 x_11).bind fun same_12 =>
    if (!same_12) = true then
      some (.inl false)
    else
      diptychref1_SameAll_l0 b_2 diptychref1_Same_r suf (i_6 + 1)
mutual
noncomputable def diptychref1_Same_k : Nat → api_Node → api_Node → Option Bool
  | 0, _, _ => none
  | kr + 1, a_1, b_2 =>
    if (!(a_1.Kind == b_2.Kind)) = true then
      some false
    else
      if (!(a_1.Text == b_2.Text)) = true then
        some false
      else
        (diptychref1_sameNames a_1.Marks b_2.Marks).bind fun samena_3 =>
        if (!samena_3) = true then
          some false
        else
          if ((a_1.Attrs.length : Int) != (b_2.Attrs.length : Int)) = true then
            some false
          else
            (chk (a_1.Attrs.length ≤ 9223372036854775807) (diptychref1_Same_l0 b_2 a_1.Attrs (0 : Int))).bind fun e => match e with
            | .inl res_11 =>
              some res_11
            | .inr _ =>
              ((diptychref1_SameAll_k kr) a_1.Kids b_2.Kids).bind fun sameal_14 =>
              some sameal_14
noncomputable def diptychref1_SameAll_k : Nat → (List api_Node) → (List api_Node) → Option Bool
  | 0, _, _ => none
  | kr + 1, a_1, b_2 =>
    if ((a_1.length : Int) != (b_2.length : Int)) = true then
      some false
    else
      (chk (a_1.length ≤ 9223372036854775807) (diptychref1_SameAll_l0 b_2 (diptychref1_Same_k kr) a_1 (0 : Int))).bind fun e => match e with
      | .inl res_13 =>
        some res_13
      | .inr _ =>
        some true
end
noncomputable def diptychref1_Same (a_1 : api_Node) (b_2 : api_Node) : Option Bool := lim fun kr => diptychref1_Same_k kr a_1 b_2
noncomputable def diptychref1_SameAll (a_1 : (List api_Node)) (b_2 : (List api_Node)) : Option Bool := lim fun kr => diptychref1_SameAll_k kr a_1 b_2
noncomputable def node_Right (n_1 : api_Node) : Option Bool :=
  (node_Check n_1).bind fun check_2 =>
  some (check_2 == (0 : Int))
noncomputable def diptychlaw2_CodecBack (l_1 : (List diptychlaw2_Cell)) (s_2 : Str) (at_3 : Int) : Option Bool :=
  (diptychlaw2_shown).bind fun shown_4 =>
  if (!shown_4) = true then
    some shown_4
  else
    if (decide ((s_2.length : Int) > (1500 : Int))) = true then
      some shown_4
    else
      (diptychlaw2_doc l_1).bind fun doc_5 =>
      (codec_Print doc_5).bind fun (r_6, r_7) =>
      (codec_Parse r_6).bind fun (r_8, r_9) =>
      (codec_PrintAll doc_5.Kids).bind fun (r_10, r_11) =>
      (codec_ParseAll r_10).bind fun (r_12, r_13) =>
      if (r_7 != (0 : Int)) = true then
        some false
      else
        if (r_9 != (0 : Int)) = true then
          some false
        else
          (node_Same doc_5 r_8).bind fun same_14 =>
          if (!same_14) = true then
            some false
          else
            if (r_11 != (0 : Int)) = true then
              some false
            else
              if (r_13 != (0 : Int)) = true then
                some false
              else
                (diptychref1_SameAll r_12 doc_5.Kids).bind fun sameal_15 =>
                if (!sameal_15) = true then
                  some false
                else
                  chk (([100, 111, 99, 91] : Str).length + r_10.length ≤ 9223372036854775807) (
                    chk ((([100, 111, 99, 91] : Str) ++ r_10).length + ([93] : Str).length ≤ 9223372036854775807) (
                      if (!(r_6 == ((([100, 111, 99, 91] : Str) ++ r_10) ++ ([93] : Str)))) = true then
                        some false
                      else
                        (diptychlaw2_pick at_3 (r_6.length : Int)).bind fun pick_16 =>
                        (sl r_6 (0 : Int) pick_16).bind fun s_17 =>
                        (codec_Parse s_17).bind fun (r_18, r_19) =>
                        if (r_19 != (2 : Int)) = true then
                          some false
                        else
                          if (!(r_18.Kind == ([] : Str))) = true then
                            some false
                          else
                            if ((r_18.Kids.length : Int) != (0 : Int)) = true then
                              some false
                            else
                              (codec_Parse s_2).bind fun (r_20, r_21) =>
                              if (r_21 != (0 : Int)) = true then
                                if (r_20.Kind == ([] : Str)) = true then
                                  some (r_20.Text == ([] : Str))
                                else
                                  some false
                              else
                                (codec_Print r_20).bind fun (r_22, r_23) =>
                                if (r_22 == s_2) = true then
                                  if (r_23 == (0 : Int)) = true then
                                    (node_Right r_20).bind fun right_24 =>
                                    some right_24
                                  else
                                    some false
                                else
                                  some false))
noncomputable def diptychlaw2_CodecParts_l0 : List api_Node → Int → Str → Option (Bool ⊕ Str)
  | [], i_14, s_13 =>
    some (.inr s_13)
  | y_23 :: suf, i_14, s_13 =>
    (codec_Print y_23).bind fun (r_24, r_25) =>
    (codec_Parse r_24).bind fun (r_26, r_27) =>
    if (r_25 != (0 : Int)) = true then
      some (.inl false)
    else
      if (r_27 != (0 : Int)) = true then
        some (.inl false)
      else
        (node_Same r_26 y_23).bind fun same_28 =>
        if (!same_28) = true then
          some (.inl false)
        else
          if (y_23.Kind == ([116, 101, 120, 116] : Str)) = true then
            (codec_Quote y_23.Text).bind fun quote_29 =>
            (codec_Head y_23).bind fun head_30 =>
            chk (quote_29.length + head_30.length ≤ 9223372036854775807) (
              if (!(r_24 == (quote_29 ++ head_30))) = true then
                some (.inl false)
              else
                chk (s_13.length + r_24.length ≤ 9223372036854775807) (
                  diptychlaw2_CodecParts_l0 suf (i_14 + 1) (s_13 ++ r_24)))
          else
            chk (s_13.length + r_24.length ≤ 9223372036854775807) (
              diptychlaw2_CodecParts_l0 suf (i_14 + 1) (s_13 ++ r_24))
noncomputable def diptychlaw2_CodecParts (l_1 : (List diptychlaw2_Cell)) : Option Bool :=
  (diptychlaw2_shown).bind fun shown_2 =>
  if (!shown_2) = true then
    some false
  else
    (diptychlaw2_doc l_1).bind fun doc_3 =>
    (codec_Head doc_3).bind fun head_4 =>
    chk (head_4.length + ([91] : Str).length ≤ 9223372036854775807) (
      (chk (doc_3.Kids.length ≤ 9223372036854775807) (diptychlaw2_CodecParts_l0 doc_3.Kids (0 : Int) (head_4 ++ ([91] : Str)))).bind fun e => match e with
      | .inl res_31 =>
        some res_31
      | .inr s_32 =>
        (codec_Print doc_3).bind fun (r_35, r_36) =>
        if (r_36 == (0 : Int)) = true then
          chk (s_32.length + ([93] : Str).length ≤ 9223372036854775807) (
            some (r_35 == (s_32 ++ ([93] : Str))))
        else
          some false)
noncomputable def diptychlaw2_CodecApart_l0 (quote_12 : Str) : Nat → Int → Option (Bool ⊕ Int)
  | 0, _ => none
  | k + 1, at_17 =>
    if (decide (at_17 < (w64 ((quote_12.length : Int) - (1 : Int))))) = true then
      chk (0 ≤ at_17 ∧ at_17 < (quote_12.length : Int)) (
        if (((quote_12.getD at_17.toNat 0).toNat : Int) == (34 : Int)) = true then
          some (.inl false)
        else
          chk (0 ≤ at_17 ∧ at_17 < (quote_12.length : Int)) (
            if (((quote_12.getD at_17.toNat 0).toNat : Int) == (92 : Int)) = true then
              diptychlaw2_CodecApart_l0 quote_12 k (w64 ((w64 (at_17 + (1 : Int))) + (1 : Int)))
            else
              diptychlaw2_CodecApart_l0 quote_12 k (w64 (at_17 + (1 : Int)))))
    else
      some (.inr at_17)
noncomputable def diptychlaw2_CodecApart (a_1 : (List diptychlaw2_Cell)) (b_2 : (List diptychlaw2_Cell)) (s_3 : Str) (t_4 : Str) : Option Bool :=
  (diptychlaw2_shown).bind fun shown_5 =>
  if (!shown_5) = true then
    some shown_5
  else
    if (decide ((s_3.length : Int) > (500 : Int))) = true then
      some shown_5
    else
      if (decide ((t_4.length : Int) > (500 : Int))) = true then
        some shown_5
      else
        (diptychlaw2_doc a_1).bind fun doc_6 =>
        (codec_Print doc_6).bind fun (r_7, r_8) =>
        (diptychlaw2_doc b_2).bind fun doc_9 =>
        (codec_Print doc_9).bind fun (r_10, r_11) =>
        (codec_Quote s_3).bind fun quote_12 =>
        if (r_8 != (0 : Int)) = true then
          some false
        else
          if (r_11 != (0 : Int)) = true then
            some false
          else
            (diptychlaw2_doc a_1).bind fun doc_13 =>
            (diptychlaw2_doc b_2).bind fun doc_14 =>
            (node_Same doc_13 doc_14).bind fun same_15 =>
            if ((((r_7 == r_10) == same_15) != true)) = true then
              some false
            else
              (codec_Quote t_4).bind fun quote_16 =>
              if ((((quote_12 == quote_16) == (s_3 == t_4)) != true)) = true then
                some false
              else
                if (decide ((quote_12.length : Int) < (w64 ((s_3.length : Int) + (2 : Int))))) = true then
                  some false
                else
                  (lim fun k => diptychlaw2_CodecApart_l0 quote_12 k (1 : Int)).bind fun e => match e with
                  | .inl res_18 =>
                    some res_18
                  | .inr at_19 =>
                    if (at_19 == (w64 ((quote_12.length : Int) - (1 : Int)))) = true then
                      chk (0 ≤ (0 : Int) ∧ (0 : Int) < (quote_12.length : Int)) (
                        if (((quote_12.getD (0 : Int).toNat 0).toNat : Int) == (34 : Int)) = true then
                          chk (0 ≤ at_19 ∧ at_19 < (quote_12.length : Int)) (
                            some (((quote_12.getD at_19.toNat 0).toNat : Int) == (34 : Int)))
                        else
                          some false)
                    else
                      some false

end Go.Proofs.YtihndopckmdpbaaDoor
