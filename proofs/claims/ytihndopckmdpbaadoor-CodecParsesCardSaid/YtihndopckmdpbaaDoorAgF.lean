/- The functions of the program, written over numbers and rows. -/
import Derived.Test.YtihndopckmdpbaaDoorAgT
import Derived.Test.YtihndopckmdpbaaDoorAgBld
import Derived.Test.YtihndopckmdpbaaDoorAgLib
namespace Go.Proofs.YtihndopckmdpbaaDoor
set_option linter.unusedSimpArgs false
set_option linter.unusedVariables false
open Go
set_option maxRecDepth 100000

noncomputable def node_isText (n_1 : api_Node) : Option Bool :=
  some (n_1.Kind == ([116, 101, 120, 116] : Str))
noncomputable def node_Depth_l0 (node_Depth_r : api_Node → Option Int) : List api_Node → Int → Int → Option Int
  | [], v_6, deepest_5 =>
    some deepest_5
  | y_9 :: suf, v_6, deepest_5 =>
    (node_Depth_r y_9).bind fun depth_10 =>
    node_Depth_l0 node_Depth_r suf (v_6 + 1) (if depth_10 > deepest_5 then depth_10 else deepest_5)
noncomputable def node_Depth_k : Nat → api_Node → Option Int
  | 0, _ => none
  | kr + 1, n_1 =>
    (node_isText n_1).bind fun istext_2 =>
    if (istext_2) = true then
      some (0 : Int)
    else
      (chk (n_1.Kids.length ≤ 9223372036854775807) (node_Depth_l0 (node_Depth_k kr) n_1.Kids (0 : Int) (0 : Int))).bind fun deepest_11 =>
      some (w64 (deepest_11 + (1 : Int)))
noncomputable def node_Depth (n_1 : api_Node) : Option Int := lim fun kr => node_Depth_k kr n_1
noncomputable def unicode_utf8_ValidString (s : Str) : Option Bool :=
  chk (s.length ≤ 9223372036854775807) (some (Lib.validD s))
noncomputable def node_Value (s_1 : Str) : Option Bool :=
  if (decide ((s_1.length : Int) ≤ (40 : Int))) = true then
    (unicode_utf8_ValidString s_1).bind fun valids_2 =>
    some valids_2
  else
    some false
noncomputable def strings_Trim (s : Str) (cutset : Str) : Option Str :=
  chk (s.length ≤ 9223372036854775807 ∧ cutset.length < 4294967281 ∧ cutset.all (fun b => decide (b.toNat < 128)) = true) (some (Lib.trimS s cutset))
noncomputable def node_Name (s_1 : Str) : Option Bool :=
  (strings_Trim s_1 ([97, 98, 99, 100, 101, 102, 103, 104, 105, 106, 107, 108, 109, 110, 111, 112, 113, 114, 115, 116, 117, 118, 119, 120, 121, 122] : Str)).bind fun trim_2 =>
  if (trim_2 == ([] : Str)) = true then
    if (!(s_1 == ([] : Str))) = true then
      if (decide ((s_1.length : Int) ≤ (8 : Int))) = true then
        some (!(s_1 == ([116, 101, 120, 116] : Str)))
      else
        some false
    else
      some false
  else
    some false
noncomputable def node_rise_l0 (l_1 : (List Str)) : List Str → Int → Option (Bool ⊕ Unit)
  | [], v_5 =>
    some (.inr ())
  | y_9 :: suf, v_5 =>
    (node_Name y_9).bind fun name_10 =>
    if (!name_10) = true then
      some (.inl false)
    else
      if (decide (v_5 > (0 : Int))) = true then
        (rd l_1 (w64 (v_5 - (1 : Int)))).bind fun x_11 =>
        if ((Op.bytesLess y_9 x_11 || y_9 == x_11)) = true then
          some (.inl false)
        else
          node_rise_l0 l_1 suf (v_5 + 1)
      else
        node_rise_l0 l_1 suf (v_5 + 1)
noncomputable def node_rise (l_1 : (List Str)) : Option Bool :=
  (chk (l_1.length ≤ 9223372036854775807) (node_rise_l0 l_1 l_1 (0 : Int))).bind fun e => match e with
  | .inl res_12 =>
    some res_12
  | .inr _ =>
    some true
noncomputable def slices_Equal_string_l0 (s2_2 : (List Str)) : List Str → Int → Option (Bool ⊕ Unit)
  | [], v_5 =>
    some (.inr ())
  | y_8 :: suf, v_5 =>
    (rd s2_2 v_5).bind fun x_9 =>
    if (!(y_8 == x_9)) = true then
      some (.inl false)
    else
      slices_Equal_string_l0 s2_2 suf (v_5 + 1)
noncomputable def slices_Equal_string (s1_1 : (List Str)) (s2_2 : (List Str)) : Option Bool :=
  if ((s1_1.length : Int) != (s2_2.length : Int)) = true then
    some false
  else
    (chk (s1_1.length ≤ 9223372036854775807) (slices_Equal_string_l0 s2_2 s1_1 (0 : Int))).bind fun e => match e with
    | .inl res_10 =>
      some res_10
    | .inr _ =>
      some true
noncomputable def node_alike (a_1 : api_Node) (b_2 : api_Node) : Option Bool :=
  (node_isText a_1).bind fun istext_3 =>
  if (istext_3) = true then
    (node_isText b_2).bind fun istext_4 =>
    if (istext_4) = true then
      (slices_Equal_string a_1.Marks b_2.Marks).bind fun string_5 =>
      some string_5
    else
      some false
  else
    some false
noncomputable def node_formed_l0 : List api_Attr → Int → (List Str) → Option (Bool ⊕ (List Str))
  | [], v_8, names_9 =>
    some (.inr names_9)
  | y_13 :: suf, v_8, names_9 =>
    (node_Value y_13.Value).bind fun value_14 =>
    if (!value_14) = true then
      some (.inl false)
    else
      (app 16 names_9 [y_13.Name]).bind fun l_15 =>
      node_formed_l0 suf (v_8 + 1) l_15
noncomputable def node_formed_l1 (n_1 : api_Node) (node_formed_r : api_Node → Option Bool) : List api_Node → Int → Option (Bool ⊕ Unit)
  | [], v_26 =>
    some (.inr ())
  | y_31 :: suf, v_26 =>
    (node_formed_r y_31).bind fun formed_32 =>
    if (!formed_32) = true then
      some (.inl false)
    else
      if (decide (v_26 > (0 : Int))) = true then
        (rd n_1.Kids (w64 (v_26 - (1 : Int)))).bind fun x_33 =>
        (node_alike x_33 y_31).bind fun alike_34 =>
        if (alike_34) = true then
          some (.inl false)
        else
          node_formed_l1 n_1 node_formed_r suf (v_26 + 1)
      else
        node_formed_l1 n_1 node_formed_r suf (v_26 + 1)
noncomputable def node_formed_k : Nat → api_Node → Option Bool
  | 0, _ => none
  | kr + 1, n_1 =>
    (node_isText n_1).bind fun istext_2 =>
    if (istext_2) = true then
      if (!(n_1.Text == ([] : Str))) = true then
        (unicode_utf8_ValidString n_1.Text).bind fun valids_3 =>
        if (valids_3) = true then
          (node_rise n_1.Marks).bind fun rise_4 =>
          if (rise_4) = true then
            some ((w64 ((n_1.Attrs.length : Int) + (n_1.Kids.length : Int))) == (0 : Int))
          else
            some false
        else
          some false
      else
        some false
    else
      (chk (n_1.Attrs.length ≤ 9223372036854775807) (node_formed_l0 n_1.Attrs (0 : Int) ([] : List Str))).bind fun e => match e with
      | .inl res_16 =>
        some res_16
      | .inr names_19 =>
        (node_Name n_1.Kind).bind fun name_20 =>
        if (!name_20) = true then
          some false
        else
          if (!(n_1.Text == ([] : Str))) = true then
            some false
          else
            if (decide ((n_1.Marks.length : Int) > (0 : Int))) = true then
              some false
            else
              (node_rise names_19).bind fun rise_21 =>
              if (!rise_21) = true then
                some false
              else
                (chk (n_1.Kids.length ≤ 9223372036854775807) (node_formed_l1 n_1 (node_formed_k kr) n_1.Kids (0 : Int))).bind fun e => match e with
                | .inl res_35 =>
                  some res_35
                | .inr _ =>
                  some true
noncomputable def node_formed (n_1 : api_Node) : Option Bool := lim fun kr => node_formed_k kr n_1
noncomputable def unicode_utf8_RuneCountInString_l0 (s_1 : Str) : Nat → Int → Nat → Option Int
  | 0, _, _ => none
  | k + 1, n_2, v_3 =>
    if (decide (v_3 < s_1.length)) = true then
      unicode_utf8_RuneCountInString_l0 s_1 k (w64 (n_2 + (1 : Int))) (v_3 + runeW s_1 v_3)
    else
      some n_2
noncomputable def unicode_utf8_RuneCountInString (s_1 : Str) : Option Int :=
  (lim fun k => unicode_utf8_RuneCountInString_l0 s_1 k (0 : Int) 0).bind fun n_4 =>
  some n_4
noncomputable def node_Total_l0 (node_Size_r : api_Node → Option Int) : List api_Node → Int → Int → Option Int
  | [], v_5, many_4 =>
    some many_4
  | y_8 :: suf, v_5, many_4 =>
    (node_Size_r y_8).bind fun size_9 =>
    node_Total_l0 node_Size_r suf (v_5 + 1) (w64 (many_4 + size_9))
mutual
noncomputable def node_Total_k : Nat → (List api_Node) → Option Int
  | 0, _ => none
  | kr + 1, l_1 =>
    (chk (l_1.length ≤ 9223372036854775807) (node_Total_l0 (node_Size_k kr) l_1 (0 : Int) (0 : Int))).bind fun many_10 =>
    some many_10
noncomputable def node_Size_k : Nat → api_Node → Option Int
  | 0, _ => none
  | kr + 1, n_1 =>
    (node_isText n_1).bind fun istext_2 =>
    if (istext_2) = true then
      (unicode_utf8_RuneCountInString n_1.Text).bind fun runeco_3 =>
      some runeco_3
    else
      ((node_Total_k kr) n_1.Kids).bind fun total_4 =>
      some (w64 ((2 : Int) + total_4))
end
noncomputable def node_Total (l_1 : (List api_Node)) : Option Int := lim fun kr => node_Total_k kr l_1
noncomputable def node_Size (n_1 : api_Node) : Option Int := lim fun kr => node_Size_k kr n_1
noncomputable def node_Check (n_1 : api_Node) : Option Int :=
  (node_formed n_1).bind fun formed_2 =>
  if (!formed_2) = true then
    some (2 : Int)
  else
    (node_Depth n_1).bind fun depth_3 =>
    if (decide (depth_3 > (40 : Int))) = true then
      some (4 : Int)
    else
      (node_Size n_1).bind fun size_4 =>
      if (decide (size_4 > (4000 : Int))) = true then
        some (5 : Int)
      else
        some (0 : Int)
noncomputable def strings_ReplaceAll (s : Str) (old : Str) (new : Str) : Option Str :=
  chk (s.length < 4294967281 ∧ 1 ≤ old.length ∧ s.length + Lib.countB (ba s) (ba old) * new.length ≤ 140737488355328) (some (Lib.replaceAll s old new))
noncomputable def codec_Quote (s_1 : Str) : Option Str :=
  (strings_ReplaceAll s_1 ([92] : Str) ([92, 92] : Str)).bind fun replac_2 =>
  (strings_ReplaceAll replac_2 ([34] : Str) ([92, 34] : Str)).bind fun replac_3 =>
  chk (([34] : Str).length + replac_3.length ≤ 9223372036854775807) (
    chk ((([34] : Str) ++ replac_3).length + ([34] : Str).length ≤ 9223372036854775807) (
      some ((([34] : Str) ++ replac_3) ++ ([34] : Str))))
noncomputable def strings_Join (l : (List Str)) (sep : Str) : Option Str :=
  chk (l.length ≤ 140737488355328 ∧ (Lib.join l sep).length ≤ 140737488355328) (some (Lib.join l sep))
noncomputable def codec_Head_l0 : List api_Attr → Int → (List Str) → Option (List Str)
  | [], v_6, l_7 =>
    some l_7
  | y_11 :: suf, v_6, l_7 =>
    chk (y_11.Name.length + ([61] : Str).length ≤ 9223372036854775807) (
      (codec_Quote y_11.Value).bind fun quote_12 =>
      chk ((y_11.Name ++ ([61] : Str)).length + quote_12.length ≤ 9223372036854775807) (
        (app 16 l_7 [(y_11.Name ++ ([61] : Str)) ++ quote_12]).bind fun l_13 =>
        codec_Head_l0 suf (v_6 + 1) l_13))
noncomputable def codec_Head (n_1 : api_Node) : Option Str :=
  if (n_1.Kind == ([116, 101, 120, 116] : Str)) = true then
    if ((n_1.Marks.length : Int) == (0 : Int)) = true then
      some ([] : Str)
    else
      (strings_Join n_1.Marks ([44] : Str)).bind fun join_2 =>
      chk (([60] : Str).length + join_2.length ≤ 9223372036854775807) (
        chk ((([60] : Str) ++ join_2).length + ([62] : Str).length ≤ 9223372036854775807) (
          some ((([60] : Str) ++ join_2) ++ ([62] : Str))))
  else
    if ((n_1.Attrs.length : Int) == (0 : Int)) = true then
      some n_1.Kind
    else
      (chk (n_1.Attrs.length ≤ 9223372036854775807) (codec_Head_l0 n_1.Attrs (0 : Int) ([] : List Str))).bind fun l_16 =>
      chk (n_1.Kind.length + ([40] : Str).length ≤ 9223372036854775807) (
        (strings_Join l_16 ([32] : Str)).bind fun join_17 =>
        chk ((n_1.Kind ++ ([40] : Str)).length + join_17.length ≤ 9223372036854775807) (
          chk (((n_1.Kind ++ ([40] : Str)) ++ join_17).length + ([41] : Str).length ≤ 9223372036854775807) (
            some (((n_1.Kind ++ ([40] : Str)) ++ join_17) ++ ([41] : Str)))))
noncomputable def strings_Builder_copyCheck_x (l : Str) : Option (List UInt8) :=
  some l
noncomputable def strings_Builder_WriteString_x (s_1 : Str) (l_2 : (List UInt8)) : Option (Int × (List UInt8)) :=
  (strings_Builder_copyCheck_x l_2).bind fun l_3 =>
  (app 1 l_3 s_1).bind fun l_4 =>
  some ((s_1.length : Int), l_4)
noncomputable def codec_write_x_l0 (codec_write_x_r : api_Node → (List UInt8) → Option (List UInt8)) : List api_Node → Int → (List UInt8) → Option (List UInt8)
  | [], v_12, v_13 =>
    some v_13
  | y_16 :: suf, v_12, v_13 =>
    (codec_write_x_r y_16 v_13).bind fun l_17 =>
    codec_write_x_l0 codec_write_x_r suf (v_12 + 1) l_17
noncomputable def codec_write_x_k : Nat → api_Node → (List UInt8) → Option (List UInt8)
  | 0, _, _ => none
  | kr + 1, n_1, l_2 =>
    if (n_1.Kind == ([116, 101, 120, 116] : Str)) = true then
      (codec_Quote n_1.Text).bind fun quote_3 =>
      (codec_Head n_1).bind fun head_4 =>
      chk (quote_3.length + head_4.length ≤ 9223372036854775807) (
        (strings_Builder_WriteString_x (quote_3 ++ head_4) l_2).bind fun (r_5, l_6) =>
        some l_6)
    else
      (codec_Head n_1).bind fun head_7 =>
      chk (head_7.length + ([91] : Str).length ≤ 9223372036854775807) (
        (strings_Builder_WriteString_x (head_7 ++ ([91] : Str)) l_2).bind fun (r_8, l_9) =>
        (chk (n_1.Kids.length ≤ 9223372036854775807) (codec_write_x_l0 (codec_write_x_k kr) n_1.Kids (0 : Int) l_9)).bind fun v_20 =>
        (strings_Builder_WriteString_x ([93] : Str) v_20).bind fun (r_21, l_22) =>
        some l_22)
noncomputable def codec_write_x (n_1 : api_Node) (l_2 : (List UInt8)) : Option (List UInt8) := lim fun kr => codec_write_x_k kr n_1 l_2
noncomputable def strings_Builder_String_x (l : Str) : Option (Str × (List UInt8)) :=
  chk (l.length ≤ 9223372036854775807) (some (l, l))
noncomputable def codec_Print (n_1 : api_Node) : Option (Str × Int) :=
  (node_Check n_1).bind fun check_2 =>
  if (check_2 != (0 : Int)) = true then
    some (([] : Str), check_2)
  else
    (codec_write_x n_1 ([] : Str)).bind fun l_3 =>
    (strings_Builder_String_x l_3).bind fun (r_4, l_5) =>
    some (r_4, (0 : Int))
noncomputable def diptychlaw2_shown : Option Bool :=
  (codec_Print ({ Kind := ([100, 111, 99] : Str), Text := ([] : Str), Marks := [], Attrs := [], Kids := [({ Kind := ([112, 97, 114, 97] : Str), Text := ([] : Str), Marks := [], Attrs := [({ Name := ([97, 108, 105, 103, 110] : Str), Value := ([108, 101, 102, 116] : Str) } : api_Attr)], Kids := [({ Kind := ([116, 101, 120, 116] : Str), Text := ([104, 105] : Str), Marks := [], Attrs := [], Kids := [] } : api_Node), ({ Kind := ([116, 101, 120, 116] : Str), Text := ([33] : Str), Marks := [([98] : Str)], Attrs := [], Kids := [] } : api_Node)] } : api_Node)] } : api_Node)).bind fun (r_1, r_2) =>
  if (r_1 == ([100, 111, 99, 91, 112, 97, 114, 97, 40, 97, 108, 105, 103, 110, 61, 34, 108, 101, 102, 116, 34, 41, 91, 34, 104, 105, 34, 34, 33, 34, 60, 98, 62, 93, 93] : Str)) = true then
    some (r_2 == (0 : Int))
  else
    some false
noncomputable def internal_stringslite_HasPrefix (s_1 : Str) (prefix_2 : Str) : Option Bool :=
  if (decide ((s_1.length : Int) ≥ (prefix_2.length : Int))) = true then
    (sl s_1 (0 : Int) (prefix_2.length : Int)).bind fun s_3 =>
    some (s_3 == prefix_2)
  else
    some false
noncomputable def strings_HasPrefix (s_1 : Str) (prefix_2 : Str) : Option Bool :=
  (internal_stringslite_HasPrefix s_1 prefix_2).bind fun haspre_3 =>
  some haspre_3
noncomputable def strings_TrimLeft (s : Str) (cutset : Str) : Option Str :=
  chk (s.length ≤ 9223372036854775807 ∧ cutset.length < 4294967281 ∧ cutset.all (fun b => decide (b.toNat < 128)) = true) (some (Lib.trimLeftS s cutset))
noncomputable def codec_reader_name_x (reader_1 : codec_reader) : Option (Str × codec_reader) :=
  (strings_TrimLeft reader_1.left ([97, 98, 99, 100, 101, 102, 103, 104, 105, 106, 107, 108, 109, 110, 111, 112, 113, 114, 115, 116, 117, 118, 119, 120, 121, 122] : Str)).bind fun trimle_2 =>
  (sl reader_1.left (0 : Int) (w64 ((reader_1.left.length : Int) - (trimle_2.length : Int)))).bind fun s_3 =>
  some (s_3, { reader_1 with left := trimle_2 })
noncomputable def internal_stringslite_CutPrefix (s_1 : Str) (prefix_2 : Str) : Option (Str × Bool) :=
  (internal_stringslite_HasPrefix s_1 prefix_2).bind fun haspre_3 =>
  if (!haspre_3) = true then
    some (s_1, false)
  else
    (sl s_1 (prefix_2.length : Int) (s_1.length : Int)).bind fun s_4 =>
    some (s_4, true)
noncomputable def strings_CutPrefix (s_1 : Str) (prefix_2 : Str) : Option (Str × Bool) :=
  (internal_stringslite_CutPrefix s_1 prefix_2).bind fun (r_3, r_4) =>
  some (r_3, r_4)
noncomputable def codec_reader_takes_x (sign_1 : Str) (reader_2 : codec_reader) : Option (Bool × codec_reader) :=
  (strings_CutPrefix reader_2.left sign_1).bind fun (r_3, r_4) =>
  some (r_4, { reader_2 with left := r_3 })
noncomputable def codec_reader_want_x (sign_1 : Str) (reader_2 : codec_reader) : Option codec_reader :=
  (codec_reader_takes_x sign_1 reader_2).bind fun (r_3, reader_4) =>
  if (!r_3) = true then
    some ({ reader_4 with bad := true })
  else
    some reader_4
noncomputable def codec_reader_quoted_x_l0 (reader_2 : codec_reader) : Nat → Int → (List Int) → Option ((Str × codec_reader) ⊕ Unit)
  | 0, _, _ => none
  | k + 1, i_7, s_8 =>
    if (decide (i_7 < (reader_2.left.length : Int))) = true then
      if (!reader_2.bad) = true then
        ((
            chk (0 ≤ i_7 ∧ i_7 < (reader_2.left.length : Int)) (
              if (((reader_2.left.getD i_7.toNat 0).toNat : Int) == (34 : Int)) = true then
                (sl reader_2.left (w64 (i_7 + (1 : Int))) (reader_2.left.length : Int)).bind fun s_9 =>
                some (.inl (strB s_8, { reader_2 with left := s_9 }))
              else
                if (((reader_2.left.getD i_7.toNat 0).toNat : Int) == (92 : Int)) = true then
                  some (.inr (w64 (i_7 + (1 : Int))))
                else
                  some (.inr i_7))) : Option ((Str × codec_reader) ⊕ Int)).bind fun e => match e with
        | .inl res_10 =>
          some (.inl res_10)
        | .inr i_11 =>
          if (decide (i_11 < (reader_2.left.length : Int))) = true then
            chk (0 ≤ i_11 ∧ i_11 < (reader_2.left.length : Int)) (
              (app 1 s_8 [((reader_2.left.getD i_11.toNat 0).toNat : Int)]).bind fun l_12 =>
              codec_reader_quoted_x_l0 reader_2 k (w64 (i_11 + (1 : Int))) l_12)
          else
            codec_reader_quoted_x_l0 reader_2 k (w64 (i_11 + (1 : Int))) s_8
      else
        some (.inr ())
    else
      some (.inr ())
noncomputable def codec_reader_quoted_x (reader_1 : codec_reader) : Option (Str × codec_reader) :=
  (codec_reader_want_x ([34] : Str) reader_1).bind fun reader_2 =>
  (lim fun k => codec_reader_quoted_x_l0 reader_2 k (0 : Int) ([] : List Int)).bind fun e => match e with
  | .inl res_13 =>
    some res_13
  | .inr _ =>
    some (([] : Str), { reader_2 with bad := true })
noncomputable def codec_reader_text_x_l0 : Nat → Bool → (List Str) → codec_reader → Option ((List Str) × codec_reader)
  | 0, _, _, _ => none
  | k + 1, sign_12, v_13, r_11 =>
    if (sign_12) = true then
      (codec_reader_name_x r_11).bind fun (r_14, reader_15) =>
      (app 16 v_13 [r_14]).bind fun l_16 =>
      (codec_reader_takes_x ([44] : Str) reader_15).bind fun (r_17, reader_18) =>
      codec_reader_text_x_l0 k r_17 l_16 reader_18
    else
      some (v_13, r_11)
noncomputable def codec_reader_text_x (reader_1 : codec_reader) : Option (api_Node × codec_reader) :=
  (codec_reader_quoted_x reader_1).bind fun (r_2, reader_3) =>
  (codec_reader_takes_x ([60] : Str) reader_3).bind fun (r_4, reader_5) =>
  if (!r_4) = true then
    some (({ Kind := ([116, 101, 120, 116] : Str), Text := r_2, Marks := ([] : List Str), Attrs := [], Kids := [] } : api_Node), reader_5)
  else
    (lim fun k => codec_reader_text_x_l0 k true ([] : List Str) reader_5).bind fun (v_20, r_21) =>
    (codec_reader_want_x ([62] : Str) r_21).bind fun reader_22 =>
    some (({ Kind := ([116, 101, 120, 116] : Str), Text := r_2, Marks := v_20, Attrs := [], Kids := [] } : api_Node), reader_22)
noncomputable def codec_reader_node_x_l1 : Nat → Bool → (List api_Attr) → codec_reader → Option ((List api_Attr) × codec_reader)
  | 0, _, _, _ => none
  | k + 1, sign_18, v_19, r_17 =>
    if (sign_18) = true then
      if (!r_17.bad) = true then
        (codec_reader_name_x r_17).bind fun (r_20, reader_21) =>
        (codec_reader_want_x ([61] : Str) reader_21).bind fun reader_22 =>
        (codec_reader_quoted_x reader_22).bind fun (r_23, reader_24) =>
        (app 32 v_19 [({ Name := r_20, Value := r_23 } : api_Attr)]).bind fun l_25 =>
        (codec_reader_takes_x ([32] : Str) reader_24).bind fun (r_26, reader_27) =>
        codec_reader_node_x_l1 k r_26 l_25 reader_27
      else
        some (v_19, r_17)
    else
      some (v_19, r_17)
noncomputable def codec_reader_node_x_l2 (codec_reader_node_x_r : codec_reader → Option (api_Node × codec_reader)) : Nat → (List api_Node) → codec_reader → Option ((List api_Node) × codec_reader)
  | 0, _, _ => none
  | k + 1, v_39, r_38 =>
    if (r_38.bad) = true then
      some (v_39, r_38)
    else
      if (r_38.left == ([] : Str)) = true then
        some (v_39, r_38)
      else
        chk (0 ≤ (0 : Int) ∧ (0 : Int) < (r_38.left.length : Int)) (
          if (((r_38.left.getD (0 : Int).toNat 0).toNat : Int) == (93 : Int)) = true then
            some (v_39, r_38)
          else
            (codec_reader_node_x_r r_38).bind fun (r_40, reader_41) =>
            (app 104 v_39 [r_40]).bind fun l_42 =>
            codec_reader_node_x_l2 codec_reader_node_x_r k l_42 reader_41)
noncomputable def codec_reader_node_x_k : Nat → codec_reader → Option (api_Node × codec_reader)
  | 0, _ => none
  | kr + 1, reader_1 =>
    (strings_HasPrefix reader_1.left ([34] : Str)).bind fun haspre_2 =>
    if (haspre_2) = true then
      (codec_reader_text_x reader_1).bind fun (r_3, reader_4) =>
      some (r_3, reader_4)
    else
      (codec_reader_name_x reader_1).bind fun (r_5, reader_6) =>
      ((
          (codec_reader_takes_x ([40] : Str) reader_6).bind fun (r_7, reader_8) =>
          if (r_7) = true then
            (lim fun k => codec_reader_node_x_l1 k true ([] : List api_Attr) reader_8).bind fun (v_29, r_30) =>
            (codec_reader_want_x ([41] : Str) r_30).bind fun reader_31 =>
            some (v_29, reader_31)
          else
            some (([] : List api_Attr), reader_8)) : Option ((List api_Attr) × codec_reader)).bind fun (v_32, r_33) =>
      (codec_reader_want_x ([91] : Str) r_33).bind fun reader_34 =>
      (lim fun k => codec_reader_node_x_l2 (codec_reader_node_x_k kr) k ([] : List api_Node) reader_34).bind fun (v_44, r_45) =>
      (codec_reader_want_x ([93] : Str) r_45).bind fun reader_46 =>
      some (({ Kind := r_5, Text := ([] : Str), Marks := [], Attrs := v_32, Kids := v_44 } : api_Node), reader_46)
noncomputable def codec_reader_node_x (reader_1 : codec_reader) : Option (api_Node × codec_reader) := lim fun kr => codec_reader_node_x_k kr reader_1
noncomputable def codec_Parse (s_1 : Str) : Option (api_Node × Int) :=
  (codec_reader_node_x ({ left := s_1, bad := false } : codec_reader)).bind fun (r_2, reader_3) =>
  (codec_write_x r_2 ([] : Str)).bind fun l_4 =>
  (node_Check r_2).bind fun check_5 =>
  if (reader_3.bad) = true then
    some (({ Kind := ([] : Str), Text := ([] : Str), Marks := [], Attrs := [], Kids := [] } : api_Node), (2 : Int))
  else
    if (!(reader_3.left == ([] : Str))) = true then
      some (({ Kind := ([] : Str), Text := ([] : Str), Marks := [], Attrs := [], Kids := [] } : api_Node), (2 : Int))
    else
      (strings_Builder_String_x l_4).bind fun (r_6, l_7) =>
      if (!(r_6 == s_1)) = true then
        some (({ Kind := ([] : Str), Text := ([] : Str), Marks := [], Attrs := [], Kids := [] } : api_Node), (2 : Int))
      else
        if (check_5 == (2 : Int)) = true then
          some (({ Kind := ([] : Str), Text := ([] : Str), Marks := [], Attrs := [], Kids := [] } : api_Node), (2 : Int))
        else
          if (check_5 != (0 : Int)) = true then
            some (({ Kind := ([] : Str), Text := ([] : Str), Marks := [], Attrs := [], Kids := [] } : api_Node), check_5)
          else
            some (r_2, (0 : Int))
noncomputable def diptychref1_sameNames_l0 (b_2 : (List Str)) : List Str → Int → Option (Bool ⊕ Unit)
  | [], i_5 =>
    some (.inr ())
  | y_8 :: suf, i_5 =>
    (rd b_2 i_5).bind fun x_9 =>
    if (!(y_8 == x_9)) = true then
      some (.inl false)
    else
      diptychref1_sameNames_l0 b_2 suf (i_5 + 1)
noncomputable def diptychref1_sameNames (a_1 : (List Str)) (b_2 : (List Str)) : Option Bool :=
  if ((a_1.length : Int) != (b_2.length : Int)) = true then
    some false
  else
    (chk (a_1.length ≤ 9223372036854775807) (diptychref1_sameNames_l0 b_2 a_1 (0 : Int))).bind fun e => match e with
    | .inl res_10 =>
      some res_10
    | .inr _ =>
      some true
noncomputable def diptychref1_runes (s_1 : Str) : Option ((List Int) × Bool) :=
  some (runes s_1, (runesStr (runes s_1)) == s_1)
noncomputable def diptychref1_formed (s_1 : Str) : Option Bool :=
  (diptychref1_runes s_1).bind fun (r_2, r_3) =>
  some r_3
noncomputable def diptychref1_Name_l0 (s_1 : Str) : Nat → Int → Option (Bool ⊕ Unit)
  | 0, _ => none
  | k + 1, i_2 =>
    if (decide (i_2 < (s_1.length : Int))) = true then
      chk (0 ≤ i_2 ∧ i_2 < (s_1.length : Int)) (
        if (decide (((s_1.getD i_2.toNat 0).toNat : Int) < (97 : Int))) = true then
          some (.inl false)
        else
          chk (0 ≤ i_2 ∧ i_2 < (s_1.length : Int)) (
            if (decide (((s_1.getD i_2.toNat 0).toNat : Int) > (122 : Int))) = true then
              some (.inl false)
            else
              diptychref1_Name_l0 s_1 k (w64 (i_2 + (1 : Int)))))
    else
      some (.inr ())
noncomputable def diptychref1_Name (s_1 : Str) : Option Bool :=
  (lim fun k => diptychref1_Name_l0 s_1 k (0 : Int)).bind fun e => match e with
  | .inl res_3 =>
    some res_3
  | .inr _ =>
    if (decide ((s_1.length : Int) ≥ (1 : Int))) = true then
      if (decide ((s_1.length : Int) ≤ (8 : Int))) = true then
        some (!(s_1 == ([116, 101, 120, 116] : Str)))
      else
        some false
    else
      some false
noncomputable def diptychref1_rise_l0 (l_1 : (List Str)) : List Str → Int → Option (Bool ⊕ Unit)
  | [], i_5 =>
    some (.inr ())
  | y_9 :: suf, i_5 =>
    (diptychref1_Name y_9).bind fun name_10 =>
    if (!name_10) = true then
      some (.inl false)
    else
      if (decide (i_5 > (0 : Int))) = true then
        (rd l_1 (w64 (i_5 - (1 : Int)))).bind fun x_11 =>
        if ((Op.bytesLess y_9 x_11 || y_9 == x_11)) = true then
          some (.inl false)
        else
          diptychref1_rise_l0 l_1 suf (i_5 + 1)
      else
        diptychref1_rise_l0 l_1 suf (i_5 + 1)
noncomputable def diptychref1_rise (l_1 : (List Str)) : Option Bool :=
  (chk (l_1.length ≤ 9223372036854775807) (diptychref1_rise_l0 l_1 l_1 (0 : Int))).bind fun e => match e with
  | .inl res_12 =>
    some res_12
  | .inr _ =>
    some true
noncomputable def diptychref1_Value (s_1 : Str) : Option Bool :=
  if (decide ((s_1.length : Int) ≤ (40 : Int))) = true then
    (diptychref1_formed s_1).bind fun formed_2 =>
    some formed_2
  else
    some false
noncomputable def diptychref1_Formed_l0 : List api_Attr → Int → (List Str) → Option (Bool ⊕ (List Str))
  | [], i_7, names_8 =>
    some (.inr names_8)
  | y_12 :: suf, i_7, names_8 =>
    (app 16 names_8 [y_12.Name]).bind fun l_13 =>
    (diptychref1_Value y_12.Value).bind fun value_14 =>
    if (!value_14) = true then
      some (.inl false)
    else
      diptychref1_Formed_l0 suf (i_7 + 1) l_13
noncomputable def diptychref1_Formed_l1 (n_1 : api_Node) (diptychref1_Formed_r : api_Node → Option Bool) : List api_Node → Int → Option (Bool ⊕ Unit)
  | [], i_25 =>
    some (.inr ())
  | y_30 :: suf, i_25 =>
    (diptychref1_Formed_r y_30).bind fun formed_31 =>
    if (!formed_31) = true then
      some (.inl false)
    else
      if (decide (i_25 > (0 : Int))) = true then
        if (y_30.Kind == ([116, 101, 120, 116] : Str)) = true then
          (rd n_1.Kids (w64 (i_25 - (1 : Int)))).bind fun x_32 =>
          if (x_32.Kind == ([116, 101, 120, 116] : Str)) = true then
            (diptychref1_sameNames y_30.Marks x_32.Marks).bind fun samena_33 =>
            if (samena_33) = true then
              some (.inl false)
            else
              diptychref1_Formed_l1 n_1 diptychref1_Formed_r suf (i_25 + 1)
          else
            diptychref1_Formed_l1 n_1 diptychref1_Formed_r suf (i_25 + 1)
        else
          diptychref1_Formed_l1 n_1 diptychref1_Formed_r suf (i_25 + 1)
      else
        diptychref1_Formed_l1 n_1 diptychref1_Formed_r suf (i_25 + 1)
noncomputable def diptychref1_Formed_k : Nat → api_Node → Option Bool
  | 0, _ => none
  | kr + 1, n_1 =>
    if (n_1.Kind == ([116, 101, 120, 116] : Str)) = true then
      if (!(n_1.Text == ([] : Str))) = true then
        (diptychref1_formed n_1.Text).bind fun formed_2 =>
        if (formed_2) = true then
          (diptychref1_rise n_1.Marks).bind fun rise_3 =>
          if (rise_3) = true then
            if ((n_1.Attrs.length : Int) == (0 : Int)) = true then
              some ((n_1.Kids.length : Int) == (0 : Int))
            else
              some false
          else
            some false
        else
          some false
      else
        some false
    else
      (chk (n_1.Attrs.length ≤ 9223372036854775807) (diptychref1_Formed_l0 n_1.Attrs (0 : Int) ([] : List Str))).bind fun e => match e with
      | .inl res_15 =>
        some res_15
      | .inr names_18 =>
        (diptychref1_Name n_1.Kind).bind fun name_19 =>
        if (!name_19) = true then
          some false
        else
          if (!(n_1.Text == ([] : Str))) = true then
            some false
          else
            if (decide ((n_1.Marks.length : Int) > (0 : Int))) = true then
              some false
            else
              (diptychref1_rise names_18).bind fun rise_20 =>
              if (!rise_20) = true then
                some false
              else
                (chk (n_1.Kids.length ≤ 9223372036854775807) (diptychref1_Formed_l1 n_1 (diptychref1_Formed_k kr) n_1.Kids (0 : Int))).bind fun e => match e with
                | .inl res_34 =>
                  some res_34
                | .inr _ =>
                  some true
noncomputable def diptychref1_Formed (n_1 : api_Node) : Option Bool := lim fun kr => diptychref1_Formed_k kr n_1
noncomputable def diptychref1_Depth_l0 (diptychref1_Depth_r : api_Node → Option Int) : List api_Node → Int → Int → Option Int
  | [], i_5, d_4 =>
    some d_4
  | y_8 :: suf, i_5, d_4 =>
    (diptychref1_Depth_r y_8).bind fun depth_9 =>
    diptychref1_Depth_l0 diptychref1_Depth_r suf (i_5 + 1) (if depth_9 > d_4 then depth_9 else d_4)
noncomputable def diptychref1_Depth_k : Nat → api_Node → Option Int
  | 0, _ => none
  | kr + 1, n_1 =>
    if (n_1.Kind == ([116, 101, 120, 116] : Str)) = true then
      some (0 : Int)
    else
      (chk (n_1.Kids.length ≤ 9223372036854775807) (diptychref1_Depth_l0 (diptychref1_Depth_k kr) n_1.Kids (0 : Int) (0 : Int))).bind fun d_10 =>
      some (w64 (d_10 + (1 : Int)))
noncomputable def diptychref1_Depth (n_1 : api_Node) : Option Int := lim fun kr => diptychref1_Depth_k kr n_1
noncomputable def diptychref1_Total_l0 (diptychref1_Size_r : api_Node → Option Int) : List api_Node → Int → Int → Option Int
  | [], i_5, many_4 =>
    some many_4
  | y_8 :: suf, i_5, many_4 =>
    (diptychref1_Size_r y_8).bind fun size_9 =>
    diptychref1_Total_l0 diptychref1_Size_r suf (i_5 + 1) (w64 (many_4 + size_9))
mutual
noncomputable def diptychref1_Total_k : Nat → (List api_Node) → Option Int
  | 0, _ => none
  | kr + 1, l_1 =>
    (chk (l_1.length ≤ 9223372036854775807) (diptychref1_Total_l0 (diptychref1_Size_k kr) l_1 (0 : Int) (0 : Int))).bind fun many_10 =>
    some many_10
noncomputable def diptychref1_Size_k : Nat → api_Node → Option Int
  | 0, _ => none
  | kr + 1, n_1 =>
    if (n_1.Kind == ([116, 101, 120, 116] : Str)) = true then
      (diptychref1_runes n_1.Text).bind fun (r_2, r_3) =>
      some (r_2.length : Int)
    else
      ((diptychref1_Total_k kr) n_1.Kids).bind fun total_4 =>
      some (w64 ((2 : Int) + total_4))
end
noncomputable def diptychref1_Total (l_1 : (List api_Node)) : Option Int := lim fun kr => diptychref1_Total_k kr l_1
noncomputable def diptychref1_Size (n_1 : api_Node) : Option Int := lim fun kr => diptychref1_Size_k kr n_1
noncomputable def diptychref1_Check (n_1 : api_Node) : Option Int :=
  (diptychref1_Formed n_1).bind fun formed_2 =>
  if (!formed_2) = true then
    some (2 : Int)
  else
    (diptychref1_Depth n_1).bind fun depth_3 =>
    if (decide (depth_3 > (40 : Int))) = true then
      some (4 : Int)
    else
      (diptychref1_Size n_1).bind fun size_4 =>
      if (decide (size_4 > (4000 : Int))) = true then
        some (5 : Int)
      else
        some (0 : Int)
noncomputable def diptychref2_Quote_l0 (s_1 : Str) : Nat → Str → Int → Option Str
  | 0, _, _ => none
  | k + 1, out_5, i_6 =>
    if (decide (i_6 < (s_1.length : Int))) = true then
      chk (0 ≤ i_6 ∧ i_6 < (s_1.length : Int)) (
        if (((s_1.getD i_6.toNat 0).toNat : Int) == (34 : Int)) = true then
          chk (out_5.length + ([92] : Str).length ≤ 9223372036854775807) (
            (sl s_1 i_6 (w64 (i_6 + (1 : Int)))).bind fun s_7 =>
            chk ((out_5 ++ ([92] : Str)).length + s_7.length ≤ 9223372036854775807) (
              diptychref2_Quote_l0 s_1 k ((out_5 ++ ([92] : Str)) ++ s_7) (w64 (i_6 + (1 : Int)))))
        else
          chk (0 ≤ i_6 ∧ i_6 < (s_1.length : Int)) (
            if (((s_1.getD i_6.toNat 0).toNat : Int) == (92 : Int)) = true then
              chk (out_5.length + ([92] : Str).length ≤ 9223372036854775807) (
                (sl s_1 i_6 (w64 (i_6 + (1 : Int)))).bind fun s_8 =>
                chk ((out_5 ++ ([92] : Str)).length + s_8.length ≤ 9223372036854775807) (
                  diptychref2_Quote_l0 s_1 k ((out_5 ++ ([92] : Str)) ++ s_8) (w64 (i_6 + (1 : Int)))))
            else
              (sl s_1 i_6 (w64 (i_6 + (1 : Int)))).bind fun s_9 =>
              chk (out_5.length + s_9.length ≤ 9223372036854775807) (
                diptychref2_Quote_l0 s_1 k (out_5 ++ s_9) (w64 (i_6 + (1 : Int))))))
    else
      some out_5
noncomputable def diptychref2_Quote (s_1 : Str) : Option Str :=
  (lim fun k => diptychref2_Quote_l0 s_1 k ([34] : Str) (0 : Int)).bind fun out_10 =>
  chk (out_10.length + ([34] : Str).length ≤ 9223372036854775807) (
    some (out_10 ++ ([34] : Str)))
noncomputable def diptychref2_Head_l0 : List Str → Int → Str → Option Str
  | [], i_5, s_4 =>
    some s_4
  | y_8 :: suf, i_5, s_4 =>
    if (decide (i_5 > (0 : Int))) = true then
      chk (s_4.length + ([44] : Str).length ≤ 9223372036854775807) (
        chk ((s_4 ++ ([44] : Str)).length + y_8.length ≤ 9223372036854775807) (
          diptychref2_Head_l0 suf (i_5 + 1) ((s_4 ++ ([44] : Str)) ++ y_8)))
    else
      chk (s_4.length + y_8.length ≤ 9223372036854775807) (
        diptychref2_Head_l0 suf (i_5 + 1) (s_4 ++ y_8))
noncomputable def diptychref2_Head_l1 : List api_Attr → Int → Str → Option Str
  | [], i_17, s_16 =>
    some s_16
  | y_22 :: suf, i_17, s_16 =>
    if (decide (i_17 > (0 : Int))) = true then
      chk (s_16.length + ([32] : Str).length ≤ 9223372036854775807) (
        chk ((s_16 ++ ([32] : Str)).length + y_22.Name.length ≤ 9223372036854775807) (
          chk (((s_16 ++ ([32] : Str)) ++ y_22.Name).length + ([61] : Str).length ≤ 9223372036854775807) (
            (diptychref2_Quote y_22.Value).bind fun quote_23 =>
            chk ((((s_16 ++ ([32] : Str)) ++ y_22.Name) ++ ([61] : Str)).length + quote_23.length ≤ 9223372036854775807) (
              diptychref2_Head_l1 suf (i_17 + 1) ((((s_16 ++ ([32] : Str)) ++ y_22.Name) ++ ([61] : Str)) ++ quote_23)))))
    else
      chk (s_16.length + y_22.Name.length ≤ 9223372036854775807) (
        chk ((s_16 ++ y_22.Name).length + ([61] : Str).length ≤ 9223372036854775807) (
          (diptychref2_Quote y_22.Value).bind fun quote_24 =>
          chk (((s_16 ++ y_22.Name) ++ ([61] : Str)).length + quote_24.length ≤ 9223372036854775807) (
            diptychref2_Head_l1 suf (i_17 + 1) (((s_16 ++ y_22.Name) ++ ([61] : Str)) ++ quote_24))))
noncomputable def diptychref2_Head (n_1 : api_Node) : Option Str :=
  if (n_1.Kind == ([116, 101, 120, 116] : Str)) = true then
    (chk (n_1.Marks.length ≤ 9223372036854775807) (diptychref2_Head_l0 n_1.Marks (0 : Int) ([] : Str))).bind fun s_9 =>
    if (decide ((n_1.Marks.length : Int) > (0 : Int))) = true then
      chk (([60] : Str).length + s_9.length ≤ 9223372036854775807) (
        chk ((([60] : Str) ++ s_9).length + ([62] : Str).length ≤ 9223372036854775807) (
          some ((([60] : Str) ++ s_9) ++ ([62] : Str))))
    else
      some s_9
  else
    (chk (n_1.Attrs.length ≤ 9223372036854775807) (diptychref2_Head_l1 n_1.Attrs (0 : Int) ([] : Str))).bind fun s_25 =>
    if (decide ((n_1.Attrs.length : Int) > (0 : Int))) = true then
      chk (([40] : Str).length + s_25.length ≤ 9223372036854775807) (
        chk ((([40] : Str) ++ s_25).length + ([41] : Str).length ≤ 9223372036854775807) (
          chk (n_1.Kind.length + ((([40] : Str) ++ s_25) ++ ([41] : Str)).length ≤ 9223372036854775807) (
            some (n_1.Kind ++ ((([40] : Str) ++ s_25) ++ ([41] : Str))))))
    else
      chk (n_1.Kind.length + s_25.length ≤ 9223372036854775807) (
        some (n_1.Kind ++ s_25))
noncomputable def diptychref2_WriteAll_l0 (diptychref2_Write_r : api_Node → Option Str) : List api_Node → Int → Str → Option Str
  | [], i_5, s_4 =>
    some s_4
  | y_8 :: suf, i_5, s_4 =>
    (diptychref2_Write_r y_8).bind fun write_9 =>
    chk (s_4.length + write_9.length ≤ 9223372036854775807) (
      diptychref2_WriteAll_l0 diptychref2_Write_r suf (i_5 + 1) (s_4 ++ write_9))
mutual
noncomputable def diptychref2_WriteAll_k : Nat → (List api_Node) → Option Str
  | 0, _ => none
  | kr + 1, l_1 =>
    (chk (l_1.length ≤ 9223372036854775807) (diptychref2_WriteAll_l0 (diptychref2_Write_k kr) l_1 (0 : Int) ([] : Str))).bind fun s_10 =>
    some s_10
noncomputable def diptychref2_Write_k : Nat → api_Node → Option Str
  | 0, _ => none
  | kr + 1, n_1 =>
    if (n_1.Kind == ([116, 101, 120, 116] : Str)) = true then
      (diptychref2_Quote n_1.Text).bind fun quote_2 =>
      (diptychref2_Head n_1).bind fun head_3 =>
      chk (quote_2.length + head_3.length ≤ 9223372036854775807) (
        some (quote_2 ++ head_3))
    else
      (diptychref2_Head n_1).bind fun head_4 =>
      chk (head_4.length + ([91] : Str).length ≤ 9223372036854775807) (
        ((diptychref2_WriteAll_k kr) n_1.Kids).bind fun writea_5 =>
        chk ((head_4 ++ ([91] : Str)).length + writea_5.length ≤ 9223372036854775807) (
          chk (((head_4 ++ ([91] : Str)) ++ writea_5).length + ([93] : Str).length ≤ 9223372036854775807) (
            some (((head_4 ++ ([91] : Str)) ++ writea_5) ++ ([93] : Str)))))
end
noncomputable def diptychref2_WriteAll (l_1 : (List api_Node)) : Option Str := lim fun kr => diptychref2_WriteAll_k kr l_1
noncomputable def diptychref2_Write (n_1 : api_Node) : Option Str := lim fun kr => diptychref2_Write_k kr n_1
noncomputable def diptychref2_Reader_is_x (c_1 : Int) (reader_2 : diptychref2_Reader) : Option (Bool × diptychref2_Reader) :=
  if (decide (reader_2.At < (reader_2.S.length : Int))) = true then
    chk (0 ≤ reader_2.At ∧ reader_2.At < (reader_2.S.length : Int)) (
      some (((reader_2.S.getD reader_2.At.toNat 0).toNat : Int) == c_1, reader_2))
  else
    some (false, reader_2)
noncomputable def diptychref2_Reader_eat_x (c_1 : Int) (reader_2 : diptychref2_Reader) : Option diptychref2_Reader :=
  (diptychref2_Reader_is_x c_1 reader_2).bind fun (r_3, reader_4) =>
  if (r_3) = true then
    some ({ reader_4 with At := w64 (reader_4.At + (1 : Int)) })
  else
    some ({ reader_4 with Bad := true })
noncomputable def diptychref2_Reader_quoted_x_l0 : Nat → Str → diptychref2_Reader → Option ((Str × diptychref2_Reader) ⊕ (Str × diptychref2_Reader))
  | 0, _, _ => none
  | k + 1, s_10, r_9 =>
    if (!r_9.Bad) = true then
      (diptychref2_Reader_is_x (34 : Int) r_9).bind fun (r_11, reader_12) =>
      if (!r_11) = true then
        ((
            (diptychref2_Reader_is_x (92 : Int) reader_12).bind fun (r_13, reader_14) =>
            if (r_13) = true then
              some ({ reader_14 with At := w64 (reader_14.At + (1 : Int)) })
            else
              some reader_14) : Option diptychref2_Reader).bind fun r_15 =>
        if (decide (r_15.At ≥ (r_15.S.length : Int))) = true then
          some (.inl (([] : Str), { r_15 with Bad := true }))
        else
          (sl r_15.S r_15.At (w64 (r_15.At + (1 : Int)))).bind fun s_16 =>
          chk (s_10.length + s_16.length ≤ 9223372036854775807) (
            diptychref2_Reader_quoted_x_l0 k (s_10 ++ s_16) ({ r_15 with At := w64 (r_15.At + (1 : Int)) }))
      else
        some (.inr (s_10, reader_12))
    else
      some (.inr (s_10, r_9))
noncomputable def diptychref2_Reader_quoted_x (reader_1 : diptychref2_Reader) : Option (Str × diptychref2_Reader) :=
  (diptychref2_Reader_eat_x (34 : Int) reader_1).bind fun reader_2 =>
  (lim fun k => diptychref2_Reader_quoted_x_l0 k ([] : Str) reader_2).bind fun e => match e with
  | .inl res_17 =>
    some res_17
  | .inr (s_18, r_20) =>
    (diptychref2_Reader_eat_x (34 : Int) r_20).bind fun reader_21 =>
    some (s_18, reader_21)
noncomputable def diptychref2_Reader_letters_x_l0 (reader_1 : diptychref2_Reader) : Nat → Int → Option Int
  | 0, _ => none
  | k + 1, r_2 =>
    if (decide (r_2 < (reader_1.S.length : Int))) = true then
      chk (0 ≤ r_2 ∧ r_2 < (reader_1.S.length : Int)) (
        if (decide (((reader_1.S.getD r_2.toNat 0).toNat : Int) ≥ (97 : Int))) = true then
          chk (0 ≤ r_2 ∧ r_2 < (reader_1.S.length : Int)) (
            if (decide (((reader_1.S.getD r_2.toNat 0).toNat : Int) ≤ (122 : Int))) = true then
              diptychref2_Reader_letters_x_l0 reader_1 k (w64 (r_2 + (1 : Int)))
            else
              some r_2)
        else
          some r_2)
    else
      some r_2
noncomputable def diptychref2_Reader_letters_x (reader_1 : diptychref2_Reader) : Option (Str × diptychref2_Reader) :=
  (lim fun k => diptychref2_Reader_letters_x_l0 reader_1 k reader_1.At).bind fun r_4 =>
  (sl reader_1.S reader_1.At r_4).bind fun s_5 =>
  some (s_5, { reader_1 with At := r_4 })
noncomputable def diptychref2_Reader_nodes_x_l0 (left_1 : Int) (diptychref2_Reader_node_x_r : Int → diptychref2_Reader → Option (api_Node × diptychref2_Reader)) : Nat → (List api_Node) → diptychref2_Reader → Option ((List api_Node) × diptychref2_Reader)
  | 0, _, _ => none
  | k + 1, out_9, r_8 =>
    if (!r_8.Bad) = true then
      if (decide (r_8.At < (r_8.S.length : Int))) = true then
        (diptychref2_Reader_is_x (93 : Int) r_8).bind fun (r_10, reader_11) =>
        if (!r_10) = true then
          (diptychref2_Reader_node_x_r left_1 reader_11).bind fun (r_12, reader_13) =>
          (app 104 out_9 [r_12]).bind fun l_14 =>
          diptychref2_Reader_nodes_x_l0 left_1 diptychref2_Reader_node_x_r k l_14 reader_13
        else
          some (out_9, reader_11)
      else
        some (out_9, r_8)
    else
      some (out_9, r_8)
noncomputable def diptychref2_Reader_node_x_l0 : Nat → (List Str) → diptychref2_Reader → Option ((List Str) × diptychref2_Reader)
  | 0, _, _ => none
  | k + 1, v_20, r_19 =>
    (diptychref2_Reader_is_x (44 : Int) r_19).bind fun (r_21, reader_22) =>
    if (r_21) = true then
      (diptychref2_Reader_eat_x (44 : Int) reader_22).bind fun reader_23 =>
      (diptychref2_Reader_letters_x reader_23).bind fun (r_24, reader_25) =>
      (app 16 v_20 [r_24]).bind fun l_26 =>
      diptychref2_Reader_node_x_l0 k l_26 reader_25
    else
      some (v_20, reader_22)
noncomputable def diptychref2_Reader_node_x_l2 : Nat → Int → (List api_Attr) → diptychref2_Reader → Option ((List api_Attr) × diptychref2_Reader)
  | 0, _, _, _ => none
  | k + 1, sign_45, v_46, r_44 =>
    (diptychref2_Reader_is_x sign_45 r_44).bind fun (r_47, reader_48) =>
    if (r_47) = true then
      if (!reader_48.Bad) = true then
        (diptychref2_Reader_eat_x sign_45 reader_48).bind fun reader_49 =>
        (diptychref2_Reader_letters_x reader_49).bind fun (r_50, reader_51) =>
        (diptychref2_Reader_eat_x (61 : Int) reader_51).bind fun reader_52 =>
        (diptychref2_Reader_quoted_x reader_52).bind fun (r_53, reader_54) =>
        (app 32 v_46 [({ Name := r_50, Value := r_53 } : api_Attr)]).bind fun l_55 =>
        diptychref2_Reader_node_x_l2 k (32 : Int) l_55 reader_54
      else
        some (v_46, reader_48)
    else
      some (v_46, reader_48)
mutual
noncomputable def diptychref2_Reader_nodes_x_k : Nat → Int → diptychref2_Reader → Option ((List api_Node) × diptychref2_Reader)
  | 0, _, _ => none
  | kr + 1, left_1, reader_2 =>
    (lim fun k => diptychref2_Reader_nodes_x_l0 left_1 (diptychref2_Reader_node_x_k kr) k ([] : List api_Node) reader_2).bind fun (out_16, r_17) =>
    some (out_16, r_17)
noncomputable def diptychref2_Reader_node_x_k : Nat → Int → diptychref2_Reader → Option (api_Node × diptychref2_Reader)
  | 0, _, _ => none
  | kr + 1, left_1, reader_2 =>
    if (left_1 == (0 : Int)) = true then
      some (({ Kind := ([] : Str), Text := ([] : Str), Marks := ([] : List Str), Attrs := ([] : List api_Attr), Kids := [] } : api_Node), { reader_2 with Bad := true })
    else
      (diptychref2_Reader_is_x (34 : Int) reader_2).bind fun (r_3, reader_4) =>
      if (r_3) = true then
        (diptychref2_Reader_quoted_x reader_4).bind fun (r_5, reader_6) =>
        (diptychref2_Reader_is_x (60 : Int) reader_6).bind fun (r_7, reader_8) =>
        if (r_7) = true then
          (diptychref2_Reader_eat_x (60 : Int) reader_8).bind fun reader_9 =>
          (diptychref2_Reader_letters_x reader_9).bind fun (r_10, reader_11) =>
          (app 16 ([] : List Str) [r_10]).bind fun l_12 =>
          (lim fun k => diptychref2_Reader_node_x_l0 k l_12 reader_11).bind fun (v_28, r_29) =>
          (diptychref2_Reader_eat_x (62 : Int) r_29).bind fun reader_30 =>
          some (({ Kind := ([116, 101, 120, 116] : Str), Text := r_5, Marks := v_28, Attrs := ([] : List api_Attr), Kids := [] } : api_Node), reader_30)
        else
          some (({ Kind := ([116, 101, 120, 116] : Str), Text := r_5, Marks := ([] : List Str), Attrs := ([] : List api_Attr), Kids := [] } : api_Node), reader_8)
      else
        (diptychref2_Reader_letters_x reader_4).bind fun (r_31, reader_32) =>
        ((
            (diptychref2_Reader_is_x (40 : Int) reader_32).bind fun (r_33, reader_34) =>
            if (r_33) = true then
              (lim fun k => diptychref2_Reader_node_x_l2 k (40 : Int) ([] : List api_Attr) reader_34).bind fun (v_58, r_59) =>
              (diptychref2_Reader_eat_x (41 : Int) r_59).bind fun reader_60 =>
              some (v_58, reader_60)
            else
              some (([] : List api_Attr), reader_34)) : Option ((List api_Attr) × diptychref2_Reader)).bind fun (v_61, r_62) =>
        (diptychref2_Reader_eat_x (91 : Int) r_62).bind fun reader_63 =>
        ((diptychref2_Reader_nodes_x_k kr) (w64 (left_1 - (1 : Int))) reader_63).bind fun (r_64, reader_65) =>
        (diptychref2_Reader_eat_x (93 : Int) reader_65).bind fun reader_66 =>
        some (({ Kind := r_31, Text := ([] : Str), Marks := ([] : List Str), Attrs := v_61, Kids := r_64 } : api_Node), reader_66)
end
noncomputable def diptychref2_Reader_nodes_x (left_1 : Int) (reader_2 : diptychref2_Reader) : Option ((List api_Node) × diptychref2_Reader) := lim fun kr => diptychref2_Reader_nodes_x_k kr left_1 reader_2
noncomputable def diptychref2_Reader_node_x (left_1 : Int) (reader_2 : diptychref2_Reader) : Option (api_Node × diptychref2_Reader) := lim fun kr => diptychref2_Reader_node_x_k kr left_1 reader_2
noncomputable def diptychref2_Reader_Node_x (reader_1 : diptychref2_Reader) : Option (api_Node × diptychref2_Reader) :=
  (diptychref2_Reader_node_x (w64 ((reader_1.S.length : Int) + (1 : Int))) reader_1).bind fun (r_2, reader_3) =>
  some (r_2, reader_3)
noncomputable def diptychref2_Parse (s_1 : Str) : Option (api_Node × Int) :=
  (diptychref2_Reader_Node_x ({ S := s_1, At := (0 : Int), Bad := false } : diptychref2_Reader)).bind fun (r_2, reader_3) =>
  if (reader_3.Bad) = true then
    some (({ Kind := ([] : Str), Text := ([] : Str), Marks := [], Attrs := [], Kids := [] } : api_Node), (2 : Int))
  else
    if (reader_3.At != (s_1.length : Int)) = true then
      some (({ Kind := ([] : Str), Text := ([] : Str), Marks := [], Attrs := [], Kids := [] } : api_Node), (2 : Int))
    else
      (diptychref2_Write r_2).bind fun write_4 =>
      if (!(write_4 == s_1)) = true then
        some (({ Kind := ([] : Str), Text := ([] : Str), Marks := [], Attrs := [], Kids := [] } : api_Node), (2 : Int))
      else
        (diptychref1_Formed r_2).bind fun formed_5 =>
        if (!formed_5) = true then
          some (({ Kind := ([] : Str), Text := ([] : Str), Marks := [], Attrs := [], Kids := [] } : api_Node), (2 : Int))
        else
          (diptychref1_Check r_2).bind fun check_6 =>
          if (check_6 != (0 : Int)) = true then
            some (({ Kind := ([] : Str), Text := ([] : Str), Marks := [], Attrs := [], Kids := [] } : api_Node), check_6)
          else
            some (r_2, (0 : Int))
noncomputable def codec_ParseAll (s_1 : Str) : Option ((List api_Node) × Int) :=
  chk (([120, 91] : Str).length + s_1.length ≤ 9223372036854775807) (
    chk ((([120, 91] : Str) ++ s_1).length + ([93] : Str).length ≤ 9223372036854775807) (
      (codec_Parse ((([120, 91] : Str) ++ s_1) ++ ([93] : Str))).bind fun (r_2, r_3) =>
      some (r_2.Kids, r_3)))
noncomputable def diptychref2_ParseAll (s_1 : Str) : Option ((List api_Node) × Int) :=
  chk (([120, 91] : Str).length + s_1.length ≤ 9223372036854775807) (
    chk ((([120, 91] : Str) ++ s_1).length + ([93] : Str).length ≤ 9223372036854775807) (
      (diptychref2_Parse ((([120, 91] : Str) ++ s_1) ++ ([93] : Str))).bind fun (r_2, r_3) =>
      some (r_2.Kids, r_3)))
noncomputable def diptychref1_SameAll_l0 (b_2 : (List api_Node)) (diptychref1_Same_r : api_Node → api_Node → Option Bool) : List api_Node → Int → Option (Bool ⊕ Unit)
  | [], i_6 =>
    some (.inr ())
  | y_10 :: suf, i_6 =>
    (rd b_2 i_6).bind fun x_11 =>
    (diptychref1_Same_r y_10 x_11).bind fun same_12 =>
    if (!same_12) = true then
      some (.inl false)
    else
      diptychref1_SameAll_l0 b_2 diptychref1_Same_r suf (i_6 + 1)
noncomputable def diptychref1_Same_l0 (b_2 : api_Node) : List api_Attr → Int → Option (Bool ⊕ Unit)
  | [], i_6 =>
    some (.inr ())
  | y_9 :: suf, i_6 =>
    (rd b_2.Attrs i_6).bind fun x_10 =>
    if ((((y_9.Name == x_10.Name) && (y_9.Value == x_10.Value)) != true)) = true then
      some (.inl false)
    else
      diptychref1_Same_l0 b_2 suf (i_6 + 1)
mutual
noncomputable def diptychref1_SameAll_k : Nat → (List api_Node) → (List api_Node) → Option Bool
  | 0, _, _ => none
  | kr + 1, a_1, b_2 =>
    if ((a_1.length : Int) != (b_2.length : Int)) = true then
      some false
    else
      (chk (a_1.length ≤ 9223372036854775807) (diptychref1_SameAll_l0 b_2 (diptychref1_Same_k kr) a_1 (0 : Int))).bind fun e => match e with
      | .inl res_13 =>
        some res_13
      | .inr _ =>
        some true
noncomputable def diptychref1_Same_k : Nat → api_Node → api_Node → Option Bool
  | 0, _, _ => none
  | kr + 1, a_1, b_2 =>
    if (!(a_1.Kind == b_2.Kind)) = true then
      some false
    else
      if (!(a_1.Text == b_2.Text)) = true then
        some false
      else
        (diptychref1_sameNames a_1.Marks b_2.Marks).bind fun samena_3 =>
        if (!samena_3) = true then
          some false
        else
          if ((a_1.Attrs.length : Int) != (b_2.Attrs.length : Int)) = true then
            some false
          else
            (chk (a_1.Attrs.length ≤ 9223372036854775807) (diptychref1_Same_l0 b_2 a_1.Attrs (0 : Int))).bind fun e => match e with
            | .inl res_11 =>
              some res_11
            | .inr _ =>
              ((diptychref1_SameAll_k kr) a_1.Kids b_2.Kids).bind fun sameal_14 =>
              some sameal_14
end
noncomputable def diptychref1_SameAll (a_1 : (List api_Node)) (b_2 : (List api_Node)) : Option Bool := lim fun kr => diptychref1_SameAll_k kr a_1 b_2
noncomputable def diptychref1_Same (a_1 : api_Node) (b_2 : api_Node) : Option Bool := lim fun kr => diptychref1_Same_k kr a_1 b_2
noncomputable def diptychlaw2_CodecParses (s_1 : Str) : Option Bool :=
  (diptychlaw2_shown).bind fun shown_2 =>
  if (!shown_2) = true then
    some shown_2
  else
    if (decide ((s_1.length : Int) > (1500 : Int))) = true then
      some shown_2
    else
      (codec_Parse s_1).bind fun (r_3, r_4) =>
      (diptychref2_Parse s_1).bind fun (r_5, r_6) =>
      (codec_ParseAll s_1).bind fun (r_7, r_8) =>
      (diptychref2_ParseAll s_1).bind fun (r_9, r_10) =>
      (diptychref1_Same r_3 r_5).bind fun same_11 =>
      if (same_11) = true then
        if (r_4 == r_6) = true then
          (diptychref1_SameAll r_7 r_9).bind fun sameal_12 =>
          if (sameal_12) = true then
            some (r_8 == r_10)
          else
            some false
        else
          some false
      else
        some false

end Go.Proofs.YtihndopckmdpbaaDoor
