/- The functions of the program, written over numbers and rows. -/
import Derived.Test.YtblielhogcnnkaaDoorAgT
import Derived.Test.YtblielhogcnnkaaDoorAgLib
namespace Go.Proofs.YtblielhogcnnkaaDoor
set_option linter.unusedSimpArgs false
set_option linter.unusedVariables false
open Go
set_option maxRecDepth 100000

noncomputable def node_isText (n_1 : api_Node) : Option Bool :=
  some (n_1.Kind == ([116, 101, 120, 116] : Str))
noncomputable def unicode_utf8_RuneCountInString_l0 (s_1 : Str) : Nat → Int → Nat → Option Int
  | 0, _, _ => none
  | k + 1, n_2, v_3 =>
    if (decide (v_3 < s_1.length)) = true then
      unicode_utf8_RuneCountInString_l0 s_1 k (w64 (n_2 + (1 : Int))) (v_3 + runeW s_1 v_3)
    else
      some n_2
noncomputable def unicode_utf8_RuneCountInString (s_1 : Str) : Option Int :=
  (lim fun k => unicode_utf8_RuneCountInString_l0 s_1 k (0 : Int) 0).bind fun n_4 =>
  some n_4
noncomputable def node_Total_l0 (node_Size_r : api_Node → Option Int) : List api_Node → Int → Int → Option Int
  | [], v_5, many_4 =>
    some many_4
  | y_8 :: suf, v_5, many_4 =>
    (node_Size_r y_8).bind fun size_9 =>
    node_Total_l0 node_Size_r suf (v_5 + 1) (w64 (many_4 + size_9))
mutual
noncomputable def node_Total_k : Nat → (List api_Node) → Option Int
  | 0, _ => none
  | kr + 1, l_1 =>
    (chk (l_1.length ≤ 9223372036854775807) (node_Total_l0 (node_Size_k kr) l_1 (0 : Int) (0 : Int))).bind fun many_10 =>
    some many_10
noncomputable def node_Size_k : Nat → api_Node → Option Int
  | 0, _ => none
  | kr + 1, n_1 =>
    (node_isText n_1).bind fun istext_2 =>
    if (istext_2) = true then
      (unicode_utf8_RuneCountInString n_1.Text).bind fun runeco_3 =>
      some runeco_3
    else
      ((node_Total_k kr) n_1.Kids).bind fun total_4 =>
      some (w64 ((2 : Int) + total_4))
end
noncomputable def node_Total (l_1 : (List api_Node)) : Option Int := lim fun kr => node_Total_k kr l_1
noncomputable def node_Size (n_1 : api_Node) : Option Int := lim fun kr => node_Size_k kr n_1
noncomputable def slices_Clone_api_Node (l : (List api_Node)) : Option (List api_Node) :=
  app 104 [] l
noncomputable def piece_Split_l0 : List api_Node → Int → Int → Option (Int × Int)
  | [], i_8, at_7 =>
    some (at_7, i_8)
  | y_12 :: suf, i_8, at_7 =>
    (node_Size y_12).bind fun size_13 =>
    if (decide (at_7 ≥ size_13)) = true then
      (node_Size y_12).bind fun size_14 =>
      piece_Split_l0 suf (i_8 + 1) (w64 (at_7 - size_14))
    else
      some (at_7, i_8)
noncomputable def piece_Split (l_1 : (List api_Node)) (at_2 : Int) : Option ((List api_Node) × (List api_Node) × Int) :=
  if (decide (at_2 < (0 : Int))) = true then
    some ([], [], (3 : Int))
  else
    (node_Total l_1).bind fun total_3 =>
    if (decide (at_2 > total_3)) = true then
      some ([], [], (3 : Int))
    else
      (chk (l_1.length ≤ 9223372036854775807) (piece_Split_l0 l_1 (0 : Int) at_2)).bind fun (at_15, i_16) =>
      (sl l_1 (0 : Int) i_16).bind fun s_18 =>
      (slices_Clone_api_Node s_18).bind fun node_19 =>
      (sl l_1 i_16 (l_1.length : Int)).bind fun s_20 =>
      (slices_Clone_api_Node s_20).bind fun node_21 =>
      if (at_15 == (0 : Int)) = true then
        some (node_19, node_21, (0 : Int))
      else
        (rd l_1 i_16).bind fun x_22 =>
        if (!(x_22.Kind == ([116, 101, 120, 116] : Str))) = true then
          some ([], [], (10 : Int))
        else
          (sl (runes x_22.Text) (0 : Int) at_15).bind fun s_23 =>
          (sl (runes x_22.Text) at_15 ((runes x_22.Text).length : Int)).bind fun s_24 =>
          (rd node_21 (0 : Int)).bind fun x_25 =>
          (wr node_21 (0 : Int) ({ x_25 with Text := runesStr s_24 })).bind fun l_26 =>
          (app 104 node_19 [{ x_22 with Text := runesStr s_23 }]).bind fun l_27 =>
          some (l_27, l_26, (0 : Int))
noncomputable def slices_Equal_string_l0 (s2_2 : (List Str)) : List Str → Int → Option (Bool ⊕ Unit)
  | [], v_5 =>
    some (.inr ())
  | y_8 :: suf, v_5 =>
    (rd s2_2 v_5).bind fun x_9 =>
    if (!(y_8 == x_9)) = true then
      some (.inl false)
    else
      slices_Equal_string_l0 s2_2 suf (v_5 + 1)
noncomputable def slices_Equal_string (s1_1 : (List Str)) (s2_2 : (List Str)) : Option Bool :=
  if ((s1_1.length : Int) != (s2_2.length : Int)) = true then
    some false
  else
    (chk (s1_1.length ≤ 9223372036854775807) (slices_Equal_string_l0 s2_2 s1_1 (0 : Int))).bind fun e => match e with
    | .inl res_10 =>
      some res_10
    | .inr _ =>
      some true
noncomputable def node_alike (a_1 : api_Node) (b_2 : api_Node) : Option Bool :=
  (node_isText a_1).bind fun istext_3 =>
  if (istext_3) = true then
    (node_isText b_2).bind fun istext_4 =>
    if (istext_4) = true then
      (slices_Equal_string a_1.Marks b_2.Marks).bind fun string_5 =>
      some string_5
    else
      some false
  else
    some false
noncomputable def node_Join_l0 : List api_Node → Int → (List api_Node) → Option (List api_Node)
  | [], v_14, out_15 =>
    some out_15
  | y_28 :: suf, v_14, out_15 =>
    (node_isText y_28).bind fun istext_29 =>
    if (istext_29) = true then
      if (y_28.Text == ([] : Str)) = true then
        node_Join_l0 suf (v_14 + 1) out_15
      else
        if (decide ((w64 ((out_15.length : Int) - (1 : Int))) ≥ (0 : Int))) = true then
          (rd out_15 (w64 ((out_15.length : Int) - (1 : Int)))).bind fun x_30 =>
          (node_alike x_30 y_28).bind fun alike_31 =>
          if (alike_31) = true then
            chk (x_30.Text.length + y_28.Text.length ≤ 9223372036854775807) (
              (wr out_15 (w64 ((out_15.length : Int) - (1 : Int))) ({ y_28 with Text := x_30.Text ++ y_28.Text })).bind fun l_32 =>
              node_Join_l0 suf (v_14 + 1) l_32)
          else
            (app 104 out_15 [y_28]).bind fun l_33 =>
            node_Join_l0 suf (v_14 + 1) l_33
        else
          (app 104 out_15 [y_28]).bind fun l_34 =>
          node_Join_l0 suf (v_14 + 1) l_34
    else
      if (decide ((w64 ((out_15.length : Int) - (1 : Int))) ≥ (0 : Int))) = true then
        (rd out_15 (w64 ((out_15.length : Int) - (1 : Int)))).bind fun x_35 =>
        (node_alike x_35 y_28).bind fun alike_36 =>
        if (alike_36) = true then
          chk (x_35.Text.length + y_28.Text.length ≤ 9223372036854775807) (
            (wr out_15 (w64 ((out_15.length : Int) - (1 : Int))) ({ y_28 with Text := x_35.Text ++ y_28.Text })).bind fun l_37 =>
            node_Join_l0 suf (v_14 + 1) l_37)
        else
          (app 104 out_15 [y_28]).bind fun l_38 =>
          node_Join_l0 suf (v_14 + 1) l_38
      else
        (app 104 out_15 [y_28]).bind fun l_39 =>
        node_Join_l0 suf (v_14 + 1) l_39
noncomputable def node_Join (l_1 : (List api_Node)) : Option (List api_Node) :=
  (chk (l_1.length ≤ 9223372036854775807) (node_Join_l0 l_1 (0 : Int) ([] : List api_Node))).bind fun out_42 =>
  some out_42
noncomputable def place_Resolve_l2 (v_24 : (List Int)) : List api_Node → Int → Int → Option ((place_Spot × Int) ⊕ ((Int × api_Node × (List Int)) ⊕ Unit))
  | [], v_29, pos_28 =>
    some (.inr (.inr ()))
  | y_33 :: suf, v_29, pos_28 =>
    (node_Size y_33).bind fun size_34 =>
    if (decide (pos_28 ≥ size_34)) = true then
      place_Resolve_l2 v_24 suf (v_29 + 1) (w64 (pos_28 - size_34))
    else
      if (y_33.Kind == ([116, 101, 120, 116] : Str)) = true then
        some (.inl (({ Path := v_24, Index := v_29, Offset := pos_28 } : place_Spot), (0 : Int)))
      else
        if (pos_28 == (0 : Int)) = true then
          some (.inl (({ Path := v_24, Index := v_29, Offset := (0 : Int) } : place_Spot), (0 : Int)))
        else
          (app 8 v_24 [v_29]).bind fun l_35 =>
          some (.inr (.inl (w64 (pos_28 - (1 : Int)), y_33, l_35)))
noncomputable def place_Resolve_l0 : Nat → Int → api_Node → (List Int) → Option (place_Spot × Int)
  | 0, _, _, _ => none
  | k + 1, pos_23, n_22, v_24 =>
    (chk (n_22.Kids.length ≤ 9223372036854775807) (place_Resolve_l2 v_24 n_22.Kids (0 : Int) pos_23)).bind fun e => match e with
    | .inl res_36 =>
      some res_36
    | .inr (.inl (pos_37, n_38, v_39)) =>
      place_Resolve_l0 k pos_37 n_38 v_39
    | .inr (.inr _) =>
      some (({ Path := v_24, Index := (n_22.Kids.length : Int), Offset := (0 : Int) } : place_Spot), (0 : Int))
noncomputable def place_Resolve (n_1 : api_Node) (pos_2 : Int) : Option (place_Spot × Int) :=
  if (n_1.Kind == ([116, 101, 120, 116] : Str)) = true then
    some (({ Path := [], Index := (0 : Int), Offset := (0 : Int) } : place_Spot), (3 : Int))
  else
    if (decide (pos_2 < (0 : Int))) = true then
      some (({ Path := [], Index := (0 : Int), Offset := (0 : Int) } : place_Spot), (3 : Int))
    else
      (node_Total n_1.Kids).bind fun total_3 =>
      if (decide (pos_2 > total_3)) = true then
        some (({ Path := [], Index := (0 : Int), Offset := (0 : Int) } : place_Spot), (3 : Int))
      else
        (lim fun k => place_Resolve_l0 k pos_2 n_1 ([] : List Int)).bind fun res_43 =>
        some res_43
noncomputable def node_Depth_l0 (node_Depth_r : api_Node → Option Int) : List api_Node → Int → Int → Option Int
  | [], v_6, deepest_5 =>
    some deepest_5
  | y_9 :: suf, v_6, deepest_5 =>
    (node_Depth_r y_9).bind fun depth_10 =>
    node_Depth_l0 node_Depth_r suf (v_6 + 1) (if depth_10 > deepest_5 then depth_10 else deepest_5)
noncomputable def node_Depth_k : Nat → api_Node → Option Int
  | 0, _ => none
  | kr + 1, n_1 =>
    (node_isText n_1).bind fun istext_2 =>
    if (istext_2) = true then
      some (0 : Int)
    else
      (chk (n_1.Kids.length ≤ 9223372036854775807) (node_Depth_l0 (node_Depth_k kr) n_1.Kids (0 : Int) (0 : Int))).bind fun deepest_11 =>
      some (w64 (deepest_11 + (1 : Int)))
noncomputable def node_Depth (n_1 : api_Node) : Option Int := lim fun kr => node_Depth_k kr n_1
noncomputable def strings_Trim (s : Str) (cutset : Str) : Option Str :=
  chk (s.length ≤ 9223372036854775807 ∧ cutset.length < 4294967281 ∧ cutset.all (fun b => decide (b.toNat < 128)) = true) (some (Lib.trimS s cutset))
noncomputable def node_Name (s_1 : Str) : Option Bool :=
  (strings_Trim s_1 ([97, 98, 99, 100, 101, 102, 103, 104, 105, 106, 107, 108, 109, 110, 111, 112, 113, 114, 115, 116, 117, 118, 119, 120, 121, 122] : Str)).bind fun trim_2 =>
  if (trim_2 == ([] : Str)) = true then
    if (!(s_1 == ([] : Str))) = true then
      if (decide ((s_1.length : Int) ≤ (8 : Int))) = true then
        some (!(s_1 == ([116, 101, 120, 116] : Str)))
      else
        some false
    else
      some false
  else
    some false
noncomputable def unicode_utf8_ValidString (s : Str) : Option Bool :=
  chk (s.length ≤ 9223372036854775807) (some (Lib.validD s))
noncomputable def node_Value (s_1 : Str) : Option Bool :=
  if (decide ((s_1.length : Int) ≤ (40 : Int))) = true then
    (unicode_utf8_ValidString s_1).bind fun valids_2 =>
    some valids_2
  else
    some false
noncomputable def node_rise_l0 (l_1 : (List Str)) : List Str → Int → Option (Bool ⊕ Unit)
  | [], v_5 =>
    some (.inr ())
  | y_9 :: suf, v_5 =>
    (node_Name y_9).bind fun name_10 =>
    if (!name_10) = true then
      some (.inl false)
    else
      if (decide (v_5 > (0 : Int))) = true then
        (rd l_1 (w64 (v_5 - (1 : Int)))).bind fun x_11 =>
        if ((Op.bytesLess y_9 x_11 || y_9 == x_11)) = true then
          some (.inl false)
        else
          node_rise_l0 l_1 suf (v_5 + 1)
      else
        node_rise_l0 l_1 suf (v_5 + 1)
noncomputable def node_rise (l_1 : (List Str)) : Option Bool :=
  (chk (l_1.length ≤ 9223372036854775807) (node_rise_l0 l_1 l_1 (0 : Int))).bind fun e => match e with
  | .inl res_12 =>
    some res_12
  | .inr _ =>
    some true
noncomputable def node_formed_l0 : List api_Attr → Int → (List Str) → Option (Bool ⊕ (List Str))
  | [], v_8, names_9 =>
    some (.inr names_9)
  | y_13 :: suf, v_8, names_9 =>
    (node_Value y_13.Value).bind fun value_14 =>
    if (!value_14) = true then
      some (.inl false)
    else
      (app 16 names_9 [y_13.Name]).bind fun l_15 =>
      node_formed_l0 suf (v_8 + 1) l_15
noncomputable def node_formed_l1 (n_1 : api_Node) (node_formed_r : api_Node → Option Bool) : List api_Node → Int → Option (Bool ⊕ Unit)
  | [], v_26 =>
    some (.inr ())
  | y_31 :: suf, v_26 =>
    (node_formed_r y_31).bind fun formed_32 =>
    if (!formed_32) = true then
      some (.inl false)
    else
      if (decide (v_26 > (0 : Int))) = true then
        (rd n_1.Kids (w64 (v_26 - (1 : Int)))).bind fun x_33 =>
        (node_alike x_33 y_31).bind fun alike_34 =>
        if (alike_34) = true then
          some (.inl false)
        else
          node_formed_l1 n_1 node_formed_r suf (v_26 + 1)
      else
        node_formed_l1 n_1 node_formed_r suf (v_26 + 1)
noncomputable def node_formed_k : Nat → api_Node → Option Bool
  | 0, _ => none
  | kr + 1, n_1 =>
    (node_isText n_1).bind fun istext_2 =>
    if (istext_2) = true then
      if (!(n_1.Text == ([] : Str))) = true then
        (unicode_utf8_ValidString n_1.Text).bind fun valids_3 =>
        if (valids_3) = true then
          (node_rise n_1.Marks).bind fun rise_4 =>
          if (rise_4) = true then
            some ((w64 ((n_1.Attrs.length : Int) + (n_1.Kids.length : Int))) == (0 : Int))
          else
            some false
        else
          some false
      else
        some false
    else
      (chk (n_1.Attrs.length ≤ 9223372036854775807) (node_formed_l0 n_1.Attrs (0 : Int) ([] : List Str))).bind fun e => match e with
      | .inl res_16 =>
        some res_16
      | .inr names_19 =>
        (node_Name n_1.Kind).bind fun name_20 =>
        if (!name_20) = true then
          some false
        else
          if (!(n_1.Text == ([] : Str))) = true then
            some false
          else
            if (decide ((n_1.Marks.length : Int) > (0 : Int))) = true then
              some false
            else
              (node_rise names_19).bind fun rise_21 =>
              if (!rise_21) = true then
                some false
              else
                (chk (n_1.Kids.length ≤ 9223372036854775807) (node_formed_l1 n_1 (node_formed_k kr) n_1.Kids (0 : Int))).bind fun e => match e with
                | .inl res_35 =>
                  some res_35
                | .inr _ =>
                  some true
noncomputable def node_formed (n_1 : api_Node) : Option Bool := lim fun kr => node_formed_k kr n_1
noncomputable def node_Check (n_1 : api_Node) : Option Int :=
  (node_formed n_1).bind fun formed_2 =>
  if (!formed_2) = true then
    some (2 : Int)
  else
    (node_Depth n_1).bind fun depth_3 =>
    if (decide (depth_3 > (40 : Int))) = true then
      some (4 : Int)
    else
      (node_Size n_1).bind fun size_4 =>
      if (decide (size_4 > (4000 : Int))) = true then
        some (5 : Int)
      else
        some (0 : Int)
noncomputable def node_Right (n_1 : api_Node) : Option Bool :=
  (node_Check n_1).bind fun check_2 =>
  some (check_2 == (0 : Int))
noncomputable def piece_where_1_x (v_1 : Int) (flat_2 : piece_flat) : Option (Int × piece_flat) :=
  if (v_1 != (0 : Int)) = true then
    some (v_1, ({ path := [], in_ := ({ Kind := ([] : Str), Text := ([] : Str), Marks := [], Attrs := [], Kids := [] } : api_Node), from_ := (0 : Int), to_ := (0 : Int) } : piece_flat))
  else
    some (v_1, flat_2)
noncomputable def slices_Equal_int_l0 (s2_2 : (List Int)) : List Int → Int → Option (Bool ⊕ Unit)
  | [], v_5 =>
    some (.inr ())
  | y_8 :: suf, v_5 =>
    (rd s2_2 v_5).bind fun x_9 =>
    if (y_8 != x_9) = true then
      some (.inl false)
    else
      slices_Equal_int_l0 s2_2 suf (v_5 + 1)
noncomputable def slices_Equal_int (s1_1 : (List Int)) (s2_2 : (List Int)) : Option Bool :=
  if ((s1_1.length : Int) != (s2_2.length : Int)) = true then
    some false
  else
    (chk (s1_1.length ≤ 9223372036854775807) (slices_Equal_int_l0 s2_2 s1_1 (0 : Int))).bind fun e => match e with
    | .inl res_10 =>
      some res_10
    | .inr _ =>
      some true
noncomputable def place_Inner_l0 : List Int → Int → api_Node → Option ((api_Node × Int) ⊕ api_Node)
  | [], v_6, n_5 =>
    some (.inr n_5)
  | y_9 :: suf, v_6, n_5 =>
    if (decide (y_9 < (0 : Int))) = true then
      some (.inl (({ Kind := ([] : Str), Text := ([] : Str), Marks := [], Attrs := [], Kids := [] } : api_Node), (9 : Int)))
    else
      if (decide (y_9 ≥ (n_5.Kids.length : Int))) = true then
        some (.inl (({ Kind := ([] : Str), Text := ([] : Str), Marks := [], Attrs := [], Kids := [] } : api_Node), (9 : Int)))
      else
        if (n_5.Kind == ([116, 101, 120, 116] : Str)) = true then
          some (.inl (({ Kind := ([] : Str), Text := ([] : Str), Marks := [], Attrs := [], Kids := [] } : api_Node), (9 : Int)))
        else
          (rd n_5.Kids y_9).bind fun x_10 =>
          place_Inner_l0 suf (v_6 + 1) x_10
noncomputable def place_Inner (n_1 : api_Node) (path_2 : (List Int)) : Option (api_Node × Int) :=
  (chk (path_2.length ≤ 9223372036854775807) (place_Inner_l0 path_2 (0 : Int) n_1)).bind fun e => match e with
  | .inl res_11 =>
    some res_11
  | .inr n_14 =>
    if (n_14.Kind == ([116, 101, 120, 116] : Str)) = true then
      some (({ Kind := ([] : Str), Text := ([] : Str), Marks := [], Attrs := [], Kids := [] } : api_Node), (9 : Int))
    else
      some (n_14, (0 : Int))
noncomputable def place_Start_l0 : List Int → Int → Int → api_Node → Option Int
  | [], v_11, at_10, n_9 =>
    some at_10
  | y_16 :: suf, v_11, at_10, n_9 =>
    (sl n_9.Kids (0 : Int) y_16).bind fun s_17 =>
    (node_Total s_17).bind fun total_18 =>
    (rd n_9.Kids y_16).bind fun x_19 =>
    place_Start_l0 suf (v_11 + 1) (w64 (at_10 + (w64 (total_18 + (1 : Int))))) x_19
noncomputable def place_Start (n_1 : api_Node) (path_2 : (List Int)) : Option (Int × Int) :=
  (place_Inner n_1 path_2).bind fun (r_3, r_4) =>
  if (r_4 != (0 : Int)) = true then
    some ((0 : Int), r_4)
  else
    (chk (path_2.length ≤ 9223372036854775807) (place_Start_l0 path_2 (0 : Int) (0 : Int) n_1)).bind fun at_20 =>
    some (at_20, (0 : Int))
noncomputable def piece_where (n_1 : api_Node) (from_2 : Int) (to_3 : Int) : Option (piece_flat × Int) :=
  if (n_1.Kind == ([116, 101, 120, 116] : Str)) = true then
    (piece_where_1_x (2 : Int) ({ path := [], in_ := ({ Kind := ([] : Str), Text := ([] : Str), Marks := [], Attrs := [], Kids := [] } : api_Node), from_ := (0 : Int), to_ := (0 : Int) } : piece_flat)).bind fun (v_4, flat_5) =>
    some (flat_5, v_4)
  else
    (node_Right n_1).bind fun right_6 =>
    if (!right_6) = true then
      (piece_where_1_x (2 : Int) ({ path := [], in_ := ({ Kind := ([] : Str), Text := ([] : Str), Marks := [], Attrs := [], Kids := [] } : api_Node), from_ := (0 : Int), to_ := (0 : Int) } : piece_flat)).bind fun (v_7, flat_8) =>
      some (flat_8, v_7)
    else
      (place_Resolve n_1 from_2).bind fun (r_9, r_10) =>
      if (r_10 != (0 : Int)) = true then
        (piece_where_1_x r_10 ({ path := [], in_ := ({ Kind := ([] : Str), Text := ([] : Str), Marks := [], Attrs := [], Kids := [] } : api_Node), from_ := (0 : Int), to_ := (0 : Int) } : piece_flat)).bind fun (v_11, flat_12) =>
        some (flat_12, v_11)
      else
        (place_Resolve n_1 to_3).bind fun (r_13, r_14) =>
        if (r_14 != (0 : Int)) = true then
          (piece_where_1_x r_14 ({ path := [], in_ := ({ Kind := ([] : Str), Text := ([] : Str), Marks := [], Attrs := [], Kids := [] } : api_Node), from_ := (0 : Int), to_ := (0 : Int) } : piece_flat)).bind fun (v_15, flat_16) =>
          some (flat_16, v_15)
        else
          if (decide (to_3 < from_2)) = true then
            (piece_where_1_x (3 : Int) ({ path := [], in_ := ({ Kind := ([] : Str), Text := ([] : Str), Marks := [], Attrs := [], Kids := [] } : api_Node), from_ := (0 : Int), to_ := (0 : Int) } : piece_flat)).bind fun (v_17, flat_18) =>
            some (flat_18, v_17)
          else
            (slices_Equal_int r_9.Path r_13.Path).bind fun int_19 =>
            if (!int_19) = true then
              (piece_where_1_x (10 : Int) ({ path := [], in_ := ({ Kind := ([] : Str), Text := ([] : Str), Marks := [], Attrs := [], Kids := [] } : api_Node), from_ := (0 : Int), to_ := (0 : Int) } : piece_flat)).bind fun (v_20, flat_21) =>
              some (flat_21, v_20)
            else
              (place_Start n_1 r_9.Path).bind fun (r_22, r_23) =>
              (place_Inner n_1 r_9.Path).bind fun (r_24, r_25) =>
              (piece_where_1_x r_25 ({ path := r_9.Path, in_ := r_24, from_ := w64 (from_2 - r_22), to_ := w64 (to_3 - r_22) } : piece_flat)).bind fun (v_26, flat_27) =>
              some (flat_27, v_26)
noncomputable def slices_Grow_api_Node_x (n : Int) : Option (List api_Node) :=
  chk (0 ≤ n ∧ n * 104 ≤ 140737488355328) (some ([] : List api_Node))
noncomputable def slices_Concat_api_Node_l0 : List (List api_Node) → Int → Int → Option Int
  | [], v_4, size_3 =>
    some size_3
  | y_6 :: suf, v_4, size_3 =>
    if (decide ((w64 (size_3 + (y_6.length : Int))) < (0 : Int))) = true then
      none
    else
      slices_Concat_api_Node_l0 suf (v_4 + 1) (w64 (size_3 + (y_6.length : Int)))
noncomputable def slices_Concat_api_Node_l1 : List (List api_Node) → Int → (List api_Node) → Option (List api_Node)
  | [], v_13, newslice_14 =>
    some newslice_14
  | y_17 :: suf, v_13, newslice_14 =>
    (app 104 newslice_14 y_17).bind fun l_18 =>
    slices_Concat_api_Node_l1 suf (v_13 + 1) l_18
noncomputable def slices_Concat_api_Node (slices_1 : (List (List api_Node))) : Option (List api_Node) :=
  (chk (slices_1.length ≤ 9223372036854775807) (slices_Concat_api_Node_l0 slices_1 (0 : Int) (0 : Int))).bind fun size_7 =>
  (slices_Grow_api_Node_x size_7).bind fun node_10 =>
  (chk (slices_1.length ≤ 9223372036854775807) (slices_Concat_api_Node_l1 slices_1 (0 : Int) node_10)).bind fun newslice_21 =>
  some newslice_21
noncomputable def place_With_k : Nat → api_Node → (List Int) → api_Node → Option (api_Node × Int)
  | 0, _, _, _ => none
  | kr + 1, n_1, path_2, m_3 =>
    (place_Inner n_1 path_2).bind fun (r_4, r_5) =>
    if (r_5 != (0 : Int)) = true then
      some (({ Kind := ([] : Str), Text := ([] : Str), Marks := [], Attrs := [], Kids := [] } : api_Node), r_5)
    else
      if ((path_2.length : Int) == (0 : Int)) = true then
        some (m_3, (0 : Int))
      else
        (slices_Clone_api_Node n_1.Kids).bind fun node_6 =>
        (rd path_2 (0 : Int)).bind fun x_7 =>
        (rd node_6 x_7).bind fun x_8 =>
        (sl path_2 (1 : Int) (path_2.length : Int)).bind fun s_9 =>
        ((place_With_k kr) x_8 s_9 m_3).bind fun (r_10, r_11) =>
        (wr node_6 x_7 r_10).bind fun l_12 =>
        some ({ n_1 with Kids := l_12 }, (0 : Int))
noncomputable def place_With (n_1 : api_Node) (path_2 : (List Int)) (m_3 : api_Node) : Option (api_Node × Int) := lim fun kr => place_With_k kr n_1 path_2 m_3
noncomputable def piece_Put (n_1 : api_Node) (from_2 : Int) (to_3 : Int) (l_4 : (List api_Node)) : Option (api_Node × Int) :=
  (piece_where n_1 from_2 to_3).bind fun (r_5, r_6) =>
  if (r_6 == (2 : Int)) = true then
    some (({ Kind := ([] : Str), Text := ([] : Str), Marks := [], Attrs := [], Kids := [] } : api_Node), (2 : Int))
  else
    (node_Join l_4).bind fun join_7 =>
    (node_Check ({ Kind := ([120] : Str), Text := ([] : Str), Marks := [], Attrs := [], Kids := join_7 } : api_Node)).bind fun check_8 =>
    if (check_8 == (2 : Int)) = true then
      some (({ Kind := ([] : Str), Text := ([] : Str), Marks := [], Attrs := [], Kids := [] } : api_Node), (2 : Int))
    else
      if (r_6 != (0 : Int)) = true then
        some (({ Kind := ([] : Str), Text := ([] : Str), Marks := [], Attrs := [], Kids := [] } : api_Node), r_6)
      else
        (piece_Split r_5.in_.Kids r_5.from_).bind fun (r_9, r_10, r_11) =>
        (piece_Split r_5.in_.Kids r_5.to_).bind fun (r_12, r_13, r_14) =>
        (slices_Concat_api_Node [r_9, l_4, r_13]).bind fun node_15 =>
        (node_Join node_15).bind fun join_16 =>
        (place_With n_1 r_5.path ({ r_5.in_ with Kids := join_16 })).bind fun (r_17, r_18) =>
        (node_Check r_17).bind fun check_19 =>
        if (check_19 != (0 : Int)) = true then
          some (({ Kind := ([] : Str), Text := ([] : Str), Marks := [], Attrs := [], Kids := [] } : api_Node), check_19)
        else
          some (r_17, (0 : Int))
noncomputable def diptychlaw5_shown : Option Bool :=
  (piece_Put ({ Kind := ([100, 111, 99] : Str), Text := ([] : Str), Marks := [], Attrs := [], Kids := [({ Kind := ([112] : Str), Text := ([] : Str), Marks := [], Attrs := [], Kids := [({ Kind := ([116, 101, 120, 116] : Str), Text := ([104, 105] : Str), Marks := [], Attrs := [], Kids := [] } : api_Node)] } : api_Node)] } : api_Node) (2 : Int) (2 : Int) [({ Kind := ([116, 101, 120, 116] : Str), Text := ([120] : Str), Marks := [], Attrs := [], Kids := [] } : api_Node)]).bind fun (r_1, r_2) =>
  if (r_2 == (0 : Int)) = true then
    if ((r_1.Kids.length : Int) == (1 : Int)) = true then
      (rd r_1.Kids (0 : Int)).bind fun x_3 =>
      if ((x_3.Kids.length : Int) == (1 : Int)) = true then
        (rd x_3.Kids (0 : Int)).bind fun x_4 =>
        some (x_4.Text == ([104, 120, 105] : Str))
      else
        some false
    else
      some false
  else
    some false
noncomputable def diptychlaw5_pick (c_1 : Int) (n_2 : Int) : Option Int :=
  if (decide (c_1 < (0 : Int))) = true then
    chk (n_2 ≠ 0) (
      some ((w64 (0 - (w64 (c_1 + (1 : Int))))).tmod n_2))
  else
    chk (n_2 ≠ 0) (
      some (c_1.tmod n_2))
noncomputable def diptychref1_sameNames_l0 (b_2 : (List Str)) : List Str → Int → Option (Bool ⊕ Unit)
  | [], i_5 =>
    some (.inr ())
  | y_8 :: suf, i_5 =>
    (rd b_2 i_5).bind fun x_9 =>
    if (!(y_8 == x_9)) = true then
      some (.inl false)
    else
      diptychref1_sameNames_l0 b_2 suf (i_5 + 1)
noncomputable def diptychref1_sameNames (a_1 : (List Str)) (b_2 : (List Str)) : Option Bool :=
  if ((a_1.length : Int) != (b_2.length : Int)) = true then
    some false
  else
    (chk (a_1.length ≤ 9223372036854775807) (diptychref1_sameNames_l0 b_2 a_1 (0 : Int))).bind fun e => match e with
    | .inl res_10 =>
      some res_10
    | .inr _ =>
      some true
noncomputable def diptychref1_Join_l0 : List api_Node → Int → (List api_Node) → Option (List api_Node)
  | [], i_13, out_14 =>
    some out_14
  | y_26 :: suf, i_13, out_14 =>
    ((
        if (y_26.Kind == ([116, 101, 120, 116] : Str)) = true then
          if (y_26.Text == ([] : Str)) = true then
            some (.inl ())
          else
            some (.inr ())
        else
          some (.inr ())) : Option (Unit ⊕ Unit)).bind fun e => match e with
    | .inl _ =>
      diptychref1_Join_l0 suf (i_13 + 1) out_14
    | .inr _ =>
      if (y_26.Kind == ([116, 101, 120, 116] : Str)) = true then
        if (decide ((w64 ((out_14.length : Int) - (1 : Int))) ≥ (0 : Int))) = true then
          (rd out_14 (w64 ((out_14.length : Int) - (1 : Int)))).bind fun x_28 =>
          if (x_28.Kind == ([116, 101, 120, 116] : Str)) = true then
            (diptychref1_sameNames x_28.Marks y_26.Marks).bind fun samena_29 =>
            if (samena_29) = true then
              chk (x_28.Text.length + y_26.Text.length ≤ 9223372036854775807) (
                (sl out_14 (0 : Int) (w64 ((out_14.length : Int) - (1 : Int)))).bind fun s_30 =>
                (app 104 ([] : List api_Node) s_30).bind fun l_31 =>
                (app 104 l_31 [{ y_26 with Text := x_28.Text ++ y_26.Text }]).bind fun l_32 =>
                diptychref1_Join_l0 suf (i_13 + 1) l_32)
            else
              (app 104 out_14 [y_26]).bind fun l_33 =>
              diptychref1_Join_l0 suf (i_13 + 1) l_33
          else
            (app 104 out_14 [y_26]).bind fun l_34 =>
            diptychref1_Join_l0 suf (i_13 + 1) l_34
        else
          (app 104 out_14 [y_26]).bind fun l_35 =>
          diptychref1_Join_l0 suf (i_13 + 1) l_35
      else
        (app 104 out_14 [y_26]).bind fun l_36 =>
        diptychref1_Join_l0 suf (i_13 + 1) l_36
noncomputable def diptychref1_Join (l_1 : (List api_Node)) : Option (List api_Node) :=
  (chk (l_1.length ≤ 9223372036854775807) (diptychref1_Join_l0 l_1 (0 : Int) ([] : List api_Node))).bind fun out_39 =>
  some out_39
noncomputable def diptychlaw5_made_l0 : List diptychlaw5_Cell → Int → (List api_Node) → Option (List api_Node)
  | [], i_26, out_27 =>
    some out_27
  | y_52 :: suf, i_26, out_27 =>
    if (decide (i_26 < (19 : Int))) = true then
      (diptychlaw5_pick y_52.A (4 : Int)).bind fun pick_53 =>
      (rd [([112, 97, 114, 97] : Str), ([105, 116, 101, 109] : Str), ([108, 105, 115, 116] : Str), ([110, 111, 116, 101] : Str)] pick_53).bind fun x_54 =>
      ((
          (diptychlaw5_pick y_52.B (3 : Int)).bind fun pick_55 =>
          if (pick_55 == (1 : Int)) = true then
            (diptychlaw5_pick (w64 (y_52.B.tdiv (3 : Int))) (5 : Int)).bind fun pick_56 =>
            (rd [([97] : Str), ([98, 99] : Str), ([195, 169] : Str), ([120, 32, 121] : Str), ([230, 151, 165, 230, 156, 172] : Str)] pick_56).bind fun x_57 =>
            some [({ Name := ([97, 108, 105, 103, 110] : Str), Value := x_57 } : api_Attr)]
          else
            some []) : Option (List api_Attr)).bind fun n_58 =>
      (diptychlaw5_pick y_52.Op (8 : Int)).bind fun pick_59 =>
      ((
          if (pick_59 == (0 : Int)) = true then
            some (pick_59 == (0 : Int))
          else
            if (pick_59 == (1 : Int)) = true then
              some (pick_59 == (1 : Int))
            else
              if (pick_59 == (2 : Int)) = true then
                some (pick_59 == (2 : Int))
              else
                some (pick_59 == (3 : Int))) : Option Bool).bind fun v_60 =>
      if (v_60) = true then
        (diptychlaw5_pick y_52.A (5 : Int)).bind fun pick_61 =>
        (rd [([97] : Str), ([98, 99] : Str), ([195, 169] : Str), ([120, 32, 121] : Str), ([230, 151, 165, 230, 156, 172] : Str)] pick_61).bind fun x_62 =>
        ((
            (diptychlaw5_pick y_52.B (3 : Int)).bind fun pick_63 =>
            if (pick_63 == (1 : Int)) = true then
              some [([98] : Str)]
            else
              some []) : Option (List Str)).bind fun n_64 =>
        (diptychlaw5_pick y_52.B (3 : Int)).bind fun pick_65 =>
        if (pick_65 == (2 : Int)) = true then
          (app 104 out_27 [({ Kind := ([116, 101, 120, 116] : Str), Text := x_62, Marks := [([98] : Str), ([105] : Str)], Attrs := [], Kids := [] } : api_Node)]).bind fun l_66 =>
          diptychlaw5_made_l0 suf (i_26 + 1) l_66
        else
          (app 104 out_27 [({ Kind := ([116, 101, 120, 116] : Str), Text := x_62, Marks := n_64, Attrs := [], Kids := [] } : api_Node)]).bind fun l_67 =>
          diptychlaw5_made_l0 suf (i_26 + 1) l_67
      else
        ((
            if (pick_59 == (4 : Int)) = true then
              some (pick_59 == (4 : Int))
            else
              if (pick_59 == (5 : Int)) = true then
                some (pick_59 == (5 : Int))
              else
                some (pick_59 == (6 : Int))) : Option Bool).bind fun v_68 =>
        if (v_68) = true then
          (diptychlaw5_pick (w64 (y_52.B.tdiv (3 : Int))) (w64 ((if (6 : Int) < (out_27.length : Int) then (6 : Int) else (out_27.length : Int)) + (1 : Int)))).bind fun pick_69 =>
          (sl out_27 (w64 ((out_27.length : Int) - pick_69)) (out_27.length : Int)).bind fun s_70 =>
          (diptychref1_Join s_70).bind fun join_71 =>
          (sl out_27 (0 : Int) (w64 ((out_27.length : Int) - pick_69))).bind fun s_72 =>
          (app 104 ([] : List api_Node) s_72).bind fun l_73 =>
          (app 104 l_73 [({ Kind := x_54, Text := ([] : Str), Marks := [], Attrs := n_58, Kids := join_71 } : api_Node)]).bind fun l_74 =>
          diptychlaw5_made_l0 suf (i_26 + 1) l_74
        else
          (app 104 out_27 [({ Kind := x_54, Text := ([] : Str), Marks := [], Attrs := n_58, Kids := [] } : api_Node)]).bind fun l_75 =>
          diptychlaw5_made_l0 suf (i_26 + 1) l_75
    else
      some out_27
noncomputable def diptychlaw5_made (l_1 : (List diptychlaw5_Cell)) : Option (List api_Node) :=
  (chk (l_1.length ≤ 9223372036854775807) (diptychlaw5_made_l0 l_1 (0 : Int) ([] : List api_Node))).bind fun out_78 =>
  (diptychref1_Join out_78).bind fun join_79 =>
  some join_79
noncomputable def diptychlaw5_doc (l_1 : (List diptychlaw5_Cell)) : Option api_Node :=
  (diptychlaw5_made l_1).bind fun made_2 =>
  some ({ Kind := ([100, 111, 99] : Str), Text := ([] : Str), Marks := [], Attrs := [], Kids := made_2 } : api_Node)
noncomputable def diptychref4_same_l0 (b_2 : (List Int)) : List Int → Int → Option (Bool ⊕ Unit)
  | [], i_5 =>
    some (.inr ())
  | y_8 :: suf, i_5 =>
    (rd b_2 i_5).bind fun x_9 =>
    if (y_8 != x_9) = true then
      some (.inl false)
    else
      diptychref4_same_l0 b_2 suf (i_5 + 1)
noncomputable def diptychref4_same (a_1 : (List Int)) (b_2 : (List Int)) : Option Bool :=
  if ((a_1.length : Int) != (b_2.length : Int)) = true then
    some false
  else
    (chk (a_1.length ≤ 9223372036854775807) (diptychref4_same_l0 b_2 a_1 (0 : Int))).bind fun e => match e with
    | .inl res_10 =>
      some res_10
    | .inr _ =>
      some true
noncomputable def diptychref4_Same (a_1 : diptychref4_Spot) (b_2 : diptychref4_Spot) : Option Bool :=
  (diptychref4_same a_1.Path b_2.Path).bind fun same_3 =>
  if (same_3) = true then
    if (a_1.Index == b_2.Index) = true then
      some (a_1.Offset == b_2.Offset)
    else
      some false
  else
    some false
noncomputable def diptychlaw5_flat_l0 (n_1 : api_Node) (pick_5 : Int) (r_8 : place_Spot) : Nat → Int → Option Int
  | 0, _ => none
  | k + 1, b_13 =>
    if (b_13 != pick_5) = true then
      (place_Resolve n_1 b_13).bind fun (r_14, r_15) =>
      (diptychref4_Same ({ Path := r_8.Path, Index := (0 : Int), Offset := (0 : Int) } : diptychref4_Spot) ({ Path := r_14.Path, Index := (0 : Int), Offset := (0 : Int) } : diptychref4_Spot)).bind fun same_16 =>
      if (same_16) = true then
        some b_13
      else
        if (decide (b_13 < pick_5)) = true then
          diptychlaw5_flat_l0 n_1 pick_5 r_8 k (w64 (b_13 + (1 : Int)))
        else
          diptychlaw5_flat_l0 n_1 pick_5 r_8 k (w64 (b_13 - (1 : Int)))
    else
      some b_13
noncomputable def diptychlaw5_flat (n_1 : api_Node) (from_2 : Int) (to_3 : Int) : Option (Int × Int) :=
  (node_Total n_1.Kids).bind fun total_4 =>
  (diptychlaw5_pick from_2 (w64 (total_4 + (1 : Int)))).bind fun pick_5 =>
  (node_Total n_1.Kids).bind fun total_6 =>
  (diptychlaw5_pick to_3 (w64 (total_6 + (1 : Int)))).bind fun pick_7 =>
  (place_Resolve n_1 pick_5).bind fun (r_8, r_9) =>
  (lim fun k => diptychlaw5_flat_l0 n_1 pick_5 r_8 k pick_7).bind fun b_17 =>
  some ((if b_17 < pick_5 then b_17 else pick_5), (if b_17 > pick_5 then b_17 else pick_5))
noncomputable def strings_Join (l : (List Str)) (sep : Str) : Option Str :=
  chk (l.length ≤ 140737488355328 ∧ (Lib.join l sep).length ≤ 140737488355328) (some (Lib.join l sep))
noncomputable def strings_ReplaceAll (s : Str) (old : Str) (new : Str) : Option Str :=
  chk (s.length < 4294967281 ∧ 1 ≤ old.length ∧ s.length + Lib.countB (ba s) (ba old) * new.length ≤ 140737488355328) (some (Lib.replaceAll s old new))
noncomputable def codec_Quote (s_1 : Str) : Option Str :=
  (strings_ReplaceAll s_1 ([92] : Str) ([92, 92] : Str)).bind fun replac_2 =>
  (strings_ReplaceAll replac_2 ([34] : Str) ([92, 34] : Str)).bind fun replac_3 =>
  chk (([34] : Str).length + replac_3.length ≤ 9223372036854775807) (
    chk ((([34] : Str) ++ replac_3).length + ([34] : Str).length ≤ 9223372036854775807) (
      some ((([34] : Str) ++ replac_3) ++ ([34] : Str))))
noncomputable def codec_Head_l0 : List api_Attr → Int → (List Str) → Option (List Str)
  | [], v_6, l_7 =>
    some l_7
  | y_11 :: suf, v_6, l_7 =>
    chk (y_11.Name.length + ([61] : Str).length ≤ 9223372036854775807) (
      (codec_Quote y_11.Value).bind fun quote_12 =>
      chk ((y_11.Name ++ ([61] : Str)).length + quote_12.length ≤ 9223372036854775807) (
        (app 16 l_7 [(y_11.Name ++ ([61] : Str)) ++ quote_12]).bind fun l_13 =>
        codec_Head_l0 suf (v_6 + 1) l_13))
noncomputable def codec_Head (n_1 : api_Node) : Option Str :=
  if (n_1.Kind == ([116, 101, 120, 116] : Str)) = true then
    if ((n_1.Marks.length : Int) == (0 : Int)) = true then
      some ([] : Str)
    else
      (strings_Join n_1.Marks ([44] : Str)).bind fun join_2 =>
      chk (([60] : Str).length + join_2.length ≤ 9223372036854775807) (
        chk ((([60] : Str) ++ join_2).length + ([62] : Str).length ≤ 9223372036854775807) (
          some ((([60] : Str) ++ join_2) ++ ([62] : Str))))
  else
    if ((n_1.Attrs.length : Int) == (0 : Int)) = true then
      some n_1.Kind
    else
      (chk (n_1.Attrs.length ≤ 9223372036854775807) (codec_Head_l0 n_1.Attrs (0 : Int) ([] : List Str))).bind fun l_16 =>
      chk (n_1.Kind.length + ([40] : Str).length ≤ 9223372036854775807) (
        (strings_Join l_16 ([32] : Str)).bind fun join_17 =>
        chk ((n_1.Kind ++ ([40] : Str)).length + join_17.length ≤ 9223372036854775807) (
          chk (((n_1.Kind ++ ([40] : Str)) ++ join_17).length + ([41] : Str).length ≤ 9223372036854775807) (
            some (((n_1.Kind ++ ([40] : Str)) ++ join_17) ++ ([41] : Str)))))
noncomputable def token_Of_l7 (y_32 : api_Node) : Nat → (List token_Token) → Nat → Option (List token_Token)
  | 0, _, _ => none
  | k + 1, out_35, v_36 =>
    ((
        if (decide (v_36 < y_32.Text.length)) = true then
          some (.inr ())
        else
          some (.inl ())) : Option (Unit ⊕ Unit)).bind fun e => match e with
    | .inl _ =>
      some out_35
    | .inr _ =>
      (codec_Head y_32).bind fun head_37 =>
      (app 40 out_35 [({ Kind := (116 : Int), Text := rune1 (runeAt y_32.Text v_36), Head := head_37 } : token_Token)]).bind fun l_38 =>
      token_Of_l7 y_32 k l_38 (v_36 + runeW y_32.Text v_36)
noncomputable def token_Of_l0 (token_Of_r : (List api_Node) → Option (List token_Token)) : List api_Node → Int → (List token_Token) → Option (List token_Token)
  | [], v_16, out_17 =>
    some out_17
  | y_32 :: suf, v_16, out_17 =>
    if (y_32.Kind == ([116, 101, 120, 116] : Str)) = true then
      (lim fun k => token_Of_l7 y_32 k out_17 0).bind fun out_39 =>
      token_Of_l0 token_Of_r suf (v_16 + 1) out_39
    else
      (codec_Head y_32).bind fun head_41 =>
      (app 40 out_17 [({ Kind := (111 : Int), Text := ([] : Str), Head := head_41 } : token_Token)]).bind fun l_42 =>
      (token_Of_r y_32.Kids).bind fun of_43 =>
      (app 40 l_42 of_43).bind fun l_44 =>
      (app 40 l_44 [({ Kind := (99 : Int), Text := ([] : Str), Head := ([] : Str) } : token_Token)]).bind fun l_45 =>
      token_Of_l0 token_Of_r suf (v_16 + 1) l_45
noncomputable def token_Of_k : Nat → (List api_Node) → Option (List token_Token)
  | 0, _ => none
  | kr + 1, l_1 =>
    (chk (l_1.length ≤ 9223372036854775807) (token_Of_l0 (token_Of_k kr) l_1 (0 : Int) ([] : List token_Token))).bind fun out_48 =>
    some out_48
noncomputable def token_Of (l_1 : (List api_Node)) : Option (List token_Token) := lim fun kr => token_Of_k kr l_1
noncomputable def diptychlaw5_PieceTokens_l0 (r_7 : Int) (r_8 : Int) (of_12 : (List token_Token)) (of_14 : (List token_Token)) : List token_Token → Int → Option (Bool ⊕ Unit)
  | [], i_20 =>
    some (.inr ())
  | y_26 :: suf, i_20 =>
    ((
        if (decide (i_20 < r_7)) = true then
          (rd of_12 i_20).bind fun x_27 =>
          some x_27
        else
          if (decide (i_20 < (w64 (r_7 + (of_14.length : Int))))) = true then
            (rd of_14 (w64 (i_20 - r_7))).bind fun x_28 =>
            some x_28
          else
            (rd of_12 (w64 ((w64 ((w64 (i_20 - (of_14.length : Int))) + r_8)) - r_7))).bind fun x_29 =>
            some x_29) : Option token_Token).bind fun w_30 =>
    if ((((w_30.Kind == y_26.Kind) && ((w_30.Text == y_26.Text) && (w_30.Head == y_26.Head))) != true)) = true then
      some (.inl false)
    else
      diptychlaw5_PieceTokens_l0 r_7 r_8 of_12 of_14 suf (i_20 + 1)
noncomputable def diptychlaw5_PieceTokens (l_1 : (List diptychlaw5_Cell)) (k_2 : (List diptychlaw5_Cell)) (from_3 : Int) (to_4 : Int) : Option Bool :=
  (diptychlaw5_shown).bind fun shown_5 =>
  if (!shown_5) = true then
    some false
  else
    (diptychlaw5_doc l_1).bind fun doc_6 =>
    (diptychlaw5_flat doc_6 from_3 to_4).bind fun (r_7, r_8) =>
    (diptychlaw5_made k_2).bind fun made_9 =>
    (piece_Put doc_6 r_7 r_8 made_9).bind fun (r_10, r_11) =>
    if (r_11 != (0 : Int)) = true then
      some false
    else
      (token_Of doc_6.Kids).bind fun of_12 =>
      (token_Of r_10.Kids).bind fun of_13 =>
      (token_Of made_9).bind fun of_14 =>
      if ((of_13.length : Int) != (w64 ((w64 ((of_12.length : Int) - (w64 (r_8 - r_7)))) + (of_14.length : Int)))) = true then
        some false
      else
        (chk (of_13.length ≤ 9223372036854775807) (diptychlaw5_PieceTokens_l0 r_7 r_8 of_12 of_14 of_13 (0 : Int))).bind fun e => match e with
        | .inl res_31 =>
          some res_31
        | .inr _ =>
          some true

end Go.Proofs.YtblielhogcnnkaaDoor
