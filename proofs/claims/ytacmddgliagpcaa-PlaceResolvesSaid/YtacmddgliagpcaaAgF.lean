/- The functions of the program, written over numbers and rows. -/
import Derived.Test.YtacmddgliagpcaaAgT
namespace Go.Proofs.Ytacmddgliagpcaa
set_option linter.unusedSimpArgs false
set_option linter.unusedVariables false
open Go
set_option maxRecDepth 100000

noncomputable def diptychlaw4_as (s_1 : place_Spot) : Option diptychref4_Spot :=
  some ({ Path := s_1.Path, Index := s_1.Index, Offset := s_1.Offset } : diptychref4_Spot)
noncomputable def diptychref4_same_l0 (b_2 : (List Int)) : List Int → Int → Option (Bool ⊕ Unit)
  | [], i_5 =>
    some (.inr ())
  | y_8 :: suf, i_5 =>
    (rd b_2 i_5).bind fun x_9 =>
    if (y_8 != x_9) = true then
      some (.inl false)
    else
      diptychref4_same_l0 b_2 suf (i_5 + 1)
noncomputable def diptychref4_same (a_1 : (List Int)) (b_2 : (List Int)) : Option Bool :=
  if ((a_1.length : Int) != (b_2.length : Int)) = true then
    some false
  else
    (chk (a_1.length ≤ 9223372036854775807) (diptychref4_same_l0 b_2 a_1 (0 : Int))).bind fun e => match e with
    | .inl res_10 =>
      some res_10
    | .inr _ =>
      some true
noncomputable def diptychref4_Same (a_1 : diptychref4_Spot) (b_2 : diptychref4_Spot) : Option Bool :=
  (diptychref4_same a_1.Path b_2.Path).bind fun same_3 =>
  if (same_3) = true then
    if (a_1.Index == b_2.Index) = true then
      some (a_1.Offset == b_2.Offset)
    else
      some false
  else
    some false
noncomputable def node_isText (n_1 : api_Node) : Option Bool :=
  some (n_1.Kind == ([116, 101, 120, 116] : Str))
noncomputable def unicode_utf8_RuneCountInString_l0 (s_1 : Str) : Nat → Int → Nat → Option Int
  | 0, _, _ => none
  | k + 1, n_2, v_3 =>
    if (decide (v_3 < s_1.length)) = true then
      unicode_utf8_RuneCountInString_l0 s_1 k (w64 (n_2 + (1 : Int))) (v_3 + runeW s_1 v_3)
    else
      some n_2
noncomputable def unicode_utf8_RuneCountInString (s_1 : Str) : Option Int :=
  (lim fun k => unicode_utf8_RuneCountInString_l0 s_1 k (0 : Int) 0).bind fun n_4 =>
  some n_4
noncomputable def node_Total_l0 (node_Size_r : api_Node → Option Int) : List api_Node → Int → Int → Option Int
  | [], v_5, many_4 =>
    some many_4
  | y_8 :: suf, v_5, many_4 =>
    (node_Size_r y_8).bind fun size_9 =>
    node_Total_l0 node_Size_r suf (v_5 + 1) (w64 (many_4 + size_9))
mutual
noncomputable def node_Size_k : Nat → api_Node → Option Int
  | 0, _ => none
  | kr + 1, n_1 =>
    (node_isText n_1).bind fun istext_2 =>
    if (istext_2) = true then
      (unicode_utf8_RuneCountInString n_1.Text).bind fun runeco_3 =>
      some runeco_3
    else
      ((node_Total_k kr) n_1.Kids).bind fun total_4 =>
      some (w64 ((2 : Int) + total_4))
noncomputable def node_Total_k : Nat → (List api_Node) → Option Int
  | 0, _ => none
  | kr + 1, l_1 =>
    (chk (l_1.length ≤ 9223372036854775807) (node_Total_l0 (node_Size_k kr) l_1 (0 : Int) (0 : Int))).bind fun many_10 =>
    some many_10
end
noncomputable def node_Size (n_1 : api_Node) : Option Int := lim fun kr => node_Size_k kr n_1
noncomputable def node_Total (l_1 : (List api_Node)) : Option Int := lim fun kr => node_Total_k kr l_1
noncomputable def place_Resolve_l2 (v_24 : (List Int)) : List api_Node → Int → Int → Option ((place_Spot × Int) ⊕ ((Int × api_Node × (List Int)) ⊕ Unit))
  | [], v_29, pos_28 =>
    some (.inr (.inr ()))
  | y_33 :: suf, v_29, pos_28 =>
    (node_Size y_33).bind fun size_34 =>
    if (decide (pos_28 ≥ size_34)) = true then
      place_Resolve_l2 v_24 suf (v_29 + 1) (w64 (pos_28 - size_34))
    else
      if (y_33.Kind == ([116, 101, 120, 116] : Str)) = true then
        some (.inl (({ Path := v_24, Index := v_29, Offset := pos_28 } : place_Spot), (0 : Int)))
      else
        if (pos_28 == (0 : Int)) = true then
          some (.inl (({ Path := v_24, Index := v_29, Offset := (0 : Int) } : place_Spot), (0 : Int)))
        else
          (app 8 v_24 [v_29]).bind fun l_35 =>
          some (.inr (.inl (w64 (pos_28 - (1 : Int)), y_33, l_35)))
noncomputable def place_Resolve_l0 : Nat → Int → api_Node → (List Int) → Option (place_Spot × Int)
  | 0, _, _, _ => none
  | k + 1, pos_23, n_22, v_24 =>
    (chk (n_22.Kids.length ≤ 9223372036854775807) (place_Resolve_l2 v_24 n_22.Kids (0 : Int) pos_23)).bind fun e => match e with
    | .inl res_36 =>
      some res_36
    | .inr (.inl (pos_37, n_38, v_39)) =>
      place_Resolve_l0 k pos_37 n_38 v_39
    | .inr (.inr _) =>
      some (({ Path := v_24, Index := (n_22.Kids.length : Int), Offset := (0 : Int) } : place_Spot), (0 : Int))
noncomputable def place_Resolve (n_1 : api_Node) (pos_2 : Int) : Option (place_Spot × Int) :=
  if (n_1.Kind == ([116, 101, 120, 116] : Str)) = true then
    some (({ Path := [], Index := (0 : Int), Offset := (0 : Int) } : place_Spot), (3 : Int))
  else
    if (decide (pos_2 < (0 : Int))) = true then
      some (({ Path := [], Index := (0 : Int), Offset := (0 : Int) } : place_Spot), (3 : Int))
    else
      (node_Total n_1.Kids).bind fun total_3 =>
      if (decide (pos_2 > total_3)) = true then
        some (({ Path := [], Index := (0 : Int), Offset := (0 : Int) } : place_Spot), (3 : Int))
      else
        (lim fun k => place_Resolve_l0 k pos_2 n_1 []).bind fun res_43 =>
        some res_43
noncomputable def diptychlaw4_shown : Option Bool :=
  (place_Resolve ({ Kind := ([100, 111, 99] : Str), Text := ([] : Str), Marks := [], Attrs := [], Kids := [({ Kind := ([112] : Str), Text := ([] : Str), Marks := [], Attrs := [], Kids := [({ Kind := ([116, 101, 120, 116] : Str), Text := ([104, 105] : Str), Marks := [], Attrs := [], Kids := [] } : api_Node)] } : api_Node)] } : api_Node) (2 : Int)).bind fun (r_1, r_2) =>
  if (r_2 == (0 : Int)) = true then
    if ((r_1.Path.length : Int) == (1 : Int)) = true then
      (rd r_1.Path (0 : Int)).bind fun x_3 =>
      if (x_3 == (0 : Int)) = true then
        if (r_1.Index == (0 : Int)) = true then
          some (r_1.Offset == (1 : Int))
        else
          some false
      else
        some false
    else
      some false
  else
    some false
noncomputable def diptychlaw4_pick (c_1 : Int) (n_2 : Int) : Option Int :=
  if (decide (c_1 < (0 : Int))) = true then
    chk (n_2 ≠ 0) (
      some ((w64 (0 - (w64 (c_1 + (1 : Int))))).tmod n_2))
  else
    chk (n_2 ≠ 0) (
      some (c_1.tmod n_2))
noncomputable def diptychref1_sameNames_l0 (b_2 : (List Str)) : List Str → Int → Option (Bool ⊕ Unit)
  | [], i_5 =>
    some (.inr ())
  | y_8 :: suf, i_5 =>
    (rd b_2 i_5).bind fun x_9 =>
    if (!(y_8 == x_9)) = true then
      some (.inl false)
    else
      diptychref1_sameNames_l0 b_2 suf (i_5 + 1)
noncomputable def diptychref1_sameNames (a_1 : (List Str)) (b_2 : (List Str)) : Option Bool :=
  if ((a_1.length : Int) != (b_2.length : Int)) = true then
    some false
  else
    (chk (a_1.length ≤ 9223372036854775807) (diptychref1_sameNames_l0 b_2 a_1 (0 : Int))).bind fun e => match e with
    | .inl res_10 =>
      some res_10
    | .inr _ =>
      some true
noncomputable def diptychref1_Join_l0 : List api_Node → Int → (List api_Node) → Option (List api_Node)
  | [], i_13, out_14 =>
    some out_14
  | y_26 :: suf, i_13, out_14 =>
    ((
        if (y_26.Kind == ([116, 101, 120, 116] : Str)) = true then
          if (y_26.Text == ([] : Str)) = true then
            some (.inl ())
          else
            some (.inr ())
        else
          some (.inr ())) : Option (Unit ⊕ Unit)).bind fun e => match e with
    | .inl _ =>
      diptychref1_Join_l0 suf (i_13 + 1) out_14
    | .inr _ =>
      if (y_26.Kind == ([116, 101, 120, 116] : Str)) = true then
        if (decide ((w64 ((out_14.length : Int) - (1 : Int))) ≥ (0 : Int))) = true then
          (rd out_14 (w64 ((out_14.length : Int) - (1 : Int)))).bind fun x_28 =>
          if (x_28.Kind == ([116, 101, 120, 116] : Str)) = true then
            (diptychref1_sameNames x_28.Marks y_26.Marks).bind fun samena_29 =>
            if (samena_29) = true then
              chk (x_28.Text.length + y_26.Text.length ≤ 9223372036854775807) (
                (sl out_14 (0 : Int) (w64 ((out_14.length : Int) - (1 : Int)))).bind fun s_30 =>
                (app 104 ([] : List api_Node) s_30).bind fun l_31 =>
                (app 104 l_31 [{ y_26 with Text := x_28.Text ++ y_26.Text }]).bind fun l_32 =>
                diptychref1_Join_l0 suf (i_13 + 1) l_32)
            else
              (app 104 out_14 [y_26]).bind fun l_33 =>
              diptychref1_Join_l0 suf (i_13 + 1) l_33
          else
            (app 104 out_14 [y_26]).bind fun l_34 =>
            diptychref1_Join_l0 suf (i_13 + 1) l_34
        else
          (app 104 out_14 [y_26]).bind fun l_35 =>
          diptychref1_Join_l0 suf (i_13 + 1) l_35
      else
        (app 104 out_14 [y_26]).bind fun l_36 =>
        diptychref1_Join_l0 suf (i_13 + 1) l_36
noncomputable def diptychref1_Join (l_1 : (List api_Node)) : Option (List api_Node) :=
  (chk (l_1.length ≤ 9223372036854775807) (diptychref1_Join_l0 l_1 (0 : Int) [])).bind fun out_39 =>
  some out_39
noncomputable def diptychlaw4_made_l0 : List diptychlaw4_Cell → Int → (List api_Node) → Option (List api_Node)
  | [], i_26, out_27 =>
    some out_27
  | y_52 :: suf, i_26, out_27 =>
    if (decide (i_26 < (19 : Int))) = true then
      (diptychlaw4_pick y_52.A (4 : Int)).bind fun pick_53 =>
      (rd [([112, 97, 114, 97] : Str), ([105, 116, 101, 109] : Str), ([108, 105, 115, 116] : Str), ([110, 111, 116, 101] : Str)] pick_53).bind fun x_54 =>
      ((
          (diptychlaw4_pick y_52.B (3 : Int)).bind fun pick_55 =>
          if (pick_55 == (1 : Int)) = true then
            (diptychlaw4_pick (w64 (y_52.B.tdiv (3 : Int))) (5 : Int)).bind fun pick_56 =>
            (rd [([97] : Str), ([98, 99] : Str), ([195, 169] : Str), ([120, 32, 121] : Str), ([230, 151, 165, 230, 156, 172] : Str)] pick_56).bind fun x_57 =>
            some [({ Name := ([97, 108, 105, 103, 110] : Str), Value := x_57 } : api_Attr)]
          else
            some []) : Option (List api_Attr)).bind fun n_58 =>
      (diptychlaw4_pick y_52.Op (8 : Int)).bind fun pick_59 =>
      ((
          if (pick_59 == (0 : Int)) = true then
            some (pick_59 == (0 : Int))
          else
            if (pick_59 == (1 : Int)) = true then
              some (pick_59 == (1 : Int))
            else
              if (pick_59 == (2 : Int)) = true then
                some (pick_59 == (2 : Int))
              else
                some (pick_59 == (3 : Int))) : Option Bool).bind fun v_60 =>
      if (v_60) = true then
        (diptychlaw4_pick y_52.A (5 : Int)).bind fun pick_61 =>
        (rd [([97] : Str), ([98, 99] : Str), ([195, 169] : Str), ([120, 32, 121] : Str), ([230, 151, 165, 230, 156, 172] : Str)] pick_61).bind fun x_62 =>
        ((
            (diptychlaw4_pick y_52.B (3 : Int)).bind fun pick_63 =>
            if (pick_63 == (1 : Int)) = true then
              some [([98] : Str)]
            else
              some []) : Option (List Str)).bind fun n_64 =>
        (diptychlaw4_pick y_52.B (3 : Int)).bind fun pick_65 =>
        if (pick_65 == (2 : Int)) = true then
          (app 104 out_27 [({ Kind := ([116, 101, 120, 116] : Str), Text := x_62, Marks := [([98] : Str), ([105] : Str)], Attrs := [], Kids := [] } : api_Node)]).bind fun l_66 =>
          diptychlaw4_made_l0 suf (i_26 + 1) l_66
        else
          (app 104 out_27 [({ Kind := ([116, 101, 120, 116] : Str), Text := x_62, Marks := n_64, Attrs := [], Kids := [] } : api_Node)]).bind fun l_67 =>
          diptychlaw4_made_l0 suf (i_26 + 1) l_67
      else
        ((
            if (pick_59 == (4 : Int)) = true then
              some (pick_59 == (4 : Int))
            else
              if (pick_59 == (5 : Int)) = true then
                some (pick_59 == (5 : Int))
              else
                some (pick_59 == (6 : Int))) : Option Bool).bind fun v_68 =>
        if (v_68) = true then
          (diptychlaw4_pick (w64 (y_52.B.tdiv (3 : Int))) (w64 ((if (6 : Int) < (out_27.length : Int) then (6 : Int) else (out_27.length : Int)) + (1 : Int)))).bind fun pick_69 =>
          (sl out_27 (w64 ((out_27.length : Int) - pick_69)) (out_27.length : Int)).bind fun s_70 =>
          (diptychref1_Join s_70).bind fun join_71 =>
          (sl out_27 (0 : Int) (w64 ((out_27.length : Int) - pick_69))).bind fun s_72 =>
          (app 104 ([] : List api_Node) s_72).bind fun l_73 =>
          (app 104 l_73 [({ Kind := x_54, Text := ([] : Str), Marks := [], Attrs := n_58, Kids := join_71 } : api_Node)]).bind fun l_74 =>
          diptychlaw4_made_l0 suf (i_26 + 1) l_74
        else
          (app 104 out_27 [({ Kind := x_54, Text := ([] : Str), Marks := [], Attrs := n_58, Kids := [] } : api_Node)]).bind fun l_75 =>
          diptychlaw4_made_l0 suf (i_26 + 1) l_75
    else
      some out_27
noncomputable def diptychlaw4_made (l_1 : (List diptychlaw4_Cell)) : Option (List api_Node) :=
  (chk (l_1.length ≤ 9223372036854775807) (diptychlaw4_made_l0 l_1 (0 : Int) [])).bind fun out_78 =>
  (diptychref1_Join out_78).bind fun join_79 =>
  some join_79
noncomputable def diptychlaw4_doc (l_1 : (List diptychlaw4_Cell)) : Option api_Node :=
  (diptychlaw4_made l_1).bind fun made_2 =>
  some ({ Kind := ([100, 111, 99] : Str), Text := ([] : Str), Marks := [], Attrs := [], Kids := made_2 } : api_Node)
noncomputable def diptychref1_runes (s_1 : Str) : Option ((List Int) × Bool) :=
  some (runes s_1, (runesStr (runes s_1)) == s_1)
noncomputable def diptychref1_Total_l0 (diptychref1_Size_r : api_Node → Option Int) : List api_Node → Int → Int → Option Int
  | [], i_5, many_4 =>
    some many_4
  | y_8 :: suf, i_5, many_4 =>
    (diptychref1_Size_r y_8).bind fun size_9 =>
    diptychref1_Total_l0 diptychref1_Size_r suf (i_5 + 1) (w64 (many_4 + size_9))
mutual
noncomputable def diptychref1_Total_k : Nat → (List api_Node) → Option Int
  | 0, _ => none
  | kr + 1, l_1 =>
    (chk (l_1.length ≤ 9223372036854775807) (diptychref1_Total_l0 (diptychref1_Size_k kr) l_1 (0 : Int) (0 : Int))).bind fun many_10 =>
    some many_10
noncomputable def diptychref1_Size_k : Nat → api_Node → Option Int
  | 0, _ => none
  | kr + 1, n_1 =>
    if (n_1.Kind == ([116, 101, 120, 116] : Str)) = true then
      (diptychref1_runes n_1.Text).bind fun (r_2, r_3) =>
      some (r_2.length : Int)
    else
      ((diptychref1_Total_k kr) n_1.Kids).bind fun total_4 =>
      some (w64 ((2 : Int) + total_4))
end
noncomputable def diptychref1_Total (l_1 : (List api_Node)) : Option Int := lim fun kr => diptychref1_Total_k kr l_1
noncomputable def diptychref1_Size (n_1 : api_Node) : Option Int := lim fun kr => diptychref1_Size_k kr n_1
noncomputable def diptychref4_Spots_l3 (path_2 : (List Int)) (i_18 : Int) (y_35 : api_Node) : Nat → Int → (List diptychref4_Spot) → Option (List diptychref4_Spot)
  | 0, _, _ => none
  | k + 1, j_38, out_39 =>
    (diptychref1_Size y_35).bind fun size_40 =>
    if (decide (j_38 < size_40)) = true then
      (app 40 out_39 [({ Path := path_2, Index := i_18, Offset := j_38 } : diptychref4_Spot)]).bind fun l_41 =>
      diptychref4_Spots_l3 path_2 i_18 y_35 k (w64 (j_38 + (1 : Int))) l_41
    else
      some out_39
noncomputable def diptychref4_Spots_l0 (path_2 : (List Int)) (diptychref4_Spots_r : api_Node → (List Int) → Option (List diptychref4_Spot)) : List api_Node → Int → (List diptychref4_Spot) → Option (List diptychref4_Spot)
  | [], i_18, out_19 =>
    some out_19
  | y_35 :: suf, i_18, out_19 =>
    if (y_35.Kind == ([116, 101, 120, 116] : Str)) = true then
      (lim fun k => diptychref4_Spots_l3 path_2 i_18 y_35 k (0 : Int) out_19).bind fun out_44 =>
      diptychref4_Spots_l0 path_2 diptychref4_Spots_r suf (i_18 + 1) out_44
    else
      (app 40 out_19 [({ Path := path_2, Index := i_18, Offset := (0 : Int) } : diptychref4_Spot)]).bind fun l_45 =>
      (app 8 ([] : List Int) path_2).bind fun l_46 =>
      (app 8 l_46 [i_18]).bind fun l_47 =>
      (diptychref4_Spots_r y_35 l_47).bind fun spots_48 =>
      (app 40 l_45 spots_48).bind fun l_49 =>
      diptychref4_Spots_l0 path_2 diptychref4_Spots_r suf (i_18 + 1) l_49
noncomputable def diptychref4_Spots_k : Nat → api_Node → (List Int) → Option (List diptychref4_Spot)
  | 0, _, _ => none
  | kr + 1, n_1, path_2 =>
    (chk (n_1.Kids.length ≤ 9223372036854775807) (diptychref4_Spots_l0 path_2 (diptychref4_Spots_k kr) n_1.Kids (0 : Int) [])).bind fun out_52 =>
    (app 40 out_52 [({ Path := path_2, Index := (n_1.Kids.length : Int), Offset := (0 : Int) } : diptychref4_Spot)]).bind fun l_53 =>
    some l_53
noncomputable def diptychref4_Spots (n_1 : api_Node) (path_2 : (List Int)) : Option (List diptychref4_Spot) := lim fun kr => diptychref4_Spots_k kr n_1 path_2
noncomputable def diptychref4_Resolve (n_1 : api_Node) (pos_2 : Int) : Option (diptychref4_Spot × Int) :=
  if (n_1.Kind == ([116, 101, 120, 116] : Str)) = true then
    some (({ Path := [], Index := (0 : Int), Offset := (0 : Int) } : diptychref4_Spot), (3 : Int))
  else
    (diptychref4_Spots n_1 []).bind fun spots_3 =>
    if (decide (pos_2 < (0 : Int))) = true then
      some (({ Path := [], Index := (0 : Int), Offset := (0 : Int) } : diptychref4_Spot), (3 : Int))
    else
      if (decide (pos_2 ≥ (spots_3.length : Int))) = true then
        some (({ Path := [], Index := (0 : Int), Offset := (0 : Int) } : diptychref4_Spot), (3 : Int))
      else
        (rd spots_3 pos_2).bind fun x_4 =>
        some (x_4, (0 : Int))
noncomputable def place_Inner_l0 : List Int → Int → api_Node → Option ((api_Node × Int) ⊕ api_Node)
  | [], v_6, n_5 =>
    some (.inr n_5)
  | y_9 :: suf, v_6, n_5 =>
    if (decide (y_9 < (0 : Int))) = true then
      some (.inl (({ Kind := ([] : Str), Text := ([] : Str), Marks := [], Attrs := [], Kids := [] } : api_Node), (9 : Int)))
    else
      if (decide (y_9 ≥ (n_5.Kids.length : Int))) = true then
        some (.inl (({ Kind := ([] : Str), Text := ([] : Str), Marks := [], Attrs := [], Kids := [] } : api_Node), (9 : Int)))
      else
        if (n_5.Kind == ([116, 101, 120, 116] : Str)) = true then
          some (.inl (({ Kind := ([] : Str), Text := ([] : Str), Marks := [], Attrs := [], Kids := [] } : api_Node), (9 : Int)))
        else
          (rd n_5.Kids y_9).bind fun x_10 =>
          place_Inner_l0 suf (v_6 + 1) x_10
noncomputable def place_Inner (n_1 : api_Node) (path_2 : (List Int)) : Option (api_Node × Int) :=
  (chk (path_2.length ≤ 9223372036854775807) (place_Inner_l0 path_2 (0 : Int) n_1)).bind fun e => match e with
  | .inl res_11 =>
    some res_11
  | .inr n_14 =>
    if (n_14.Kind == ([116, 101, 120, 116] : Str)) = true then
      some (({ Kind := ([] : Str), Text := ([] : Str), Marks := [], Attrs := [], Kids := [] } : api_Node), (9 : Int))
    else
      some (n_14, (0 : Int))
noncomputable def place_Start_l0 : List Int → Int → Int → api_Node → Option Int
  | [], v_11, at_10, n_9 =>
    some at_10
  | y_16 :: suf, v_11, at_10, n_9 =>
    (sl n_9.Kids (0 : Int) y_16).bind fun s_17 =>
    (node_Total s_17).bind fun total_18 =>
    (rd n_9.Kids y_16).bind fun x_19 =>
    place_Start_l0 suf (v_11 + 1) (w64 (at_10 + (w64 (total_18 + (1 : Int))))) x_19
noncomputable def place_Start (n_1 : api_Node) (path_2 : (List Int)) : Option (Int × Int) :=
  (place_Inner n_1 path_2).bind fun (r_3, r_4) =>
  if (r_4 != (0 : Int)) = true then
    some ((0 : Int), r_4)
  else
    (chk (path_2.length ≤ 9223372036854775807) (place_Start_l0 path_2 (0 : Int) (0 : Int) n_1)).bind fun at_20 =>
    some (at_20, (0 : Int))
noncomputable def place_Pos (n_1 : api_Node) (s_2 : place_Spot) : Option (Int × Int) :=
  (place_Start n_1 s_2.Path).bind fun (r_3, r_4) =>
  if (r_4 != (0 : Int)) = true then
    some ((0 : Int), r_4)
  else
    (place_Inner n_1 s_2.Path).bind fun (r_5, r_6) =>
    if (decide (s_2.Index < (0 : Int))) = true then
      some ((0 : Int), (9 : Int))
    else
      if (decide (s_2.Index > (r_5.Kids.length : Int))) = true then
        some ((0 : Int), (9 : Int))
      else
        if (decide (s_2.Offset < (0 : Int))) = true then
          some ((0 : Int), (9 : Int))
        else
          if (decide (s_2.Offset > (0 : Int))) = true then
            if (s_2.Index == (r_5.Kids.length : Int)) = true then
              some ((0 : Int), (9 : Int))
            else
              (rd r_5.Kids s_2.Index).bind fun x_7 =>
              if (!(x_7.Kind == ([116, 101, 120, 116] : Str))) = true then
                some ((0 : Int), (9 : Int))
              else
                (node_Size x_7).bind fun size_8 =>
                if (decide (s_2.Offset ≥ size_8)) = true then
                  some ((0 : Int), (9 : Int))
                else
                  if (decide (s_2.Index < (r_5.Kids.length : Int))) = true then
                    (node_Size x_7).bind fun size_9 =>
                    if (size_9 == (0 : Int)) = true then
                      some ((0 : Int), (9 : Int))
                    else
                      (sl r_5.Kids (0 : Int) s_2.Index).bind fun s_10 =>
                      (node_Total s_10).bind fun total_11 =>
                      some (w64 ((w64 (r_3 + total_11)) + s_2.Offset), (0 : Int))
                  else
                    (sl r_5.Kids (0 : Int) s_2.Index).bind fun s_12 =>
                    (node_Total s_12).bind fun total_13 =>
                    some (w64 ((w64 (r_3 + total_13)) + s_2.Offset), (0 : Int))
          else
            if (decide (s_2.Index < (r_5.Kids.length : Int))) = true then
              (rd r_5.Kids s_2.Index).bind fun x_14 =>
              (node_Size x_14).bind fun size_15 =>
              if (size_15 == (0 : Int)) = true then
                some ((0 : Int), (9 : Int))
              else
                (sl r_5.Kids (0 : Int) s_2.Index).bind fun s_16 =>
                (node_Total s_16).bind fun total_17 =>
                some (w64 ((w64 (r_3 + total_17)) + s_2.Offset), (0 : Int))
            else
              (sl r_5.Kids (0 : Int) s_2.Index).bind fun s_18 =>
              (node_Total s_18).bind fun total_19 =>
              some (w64 ((w64 (r_3 + total_19)) + s_2.Offset), (0 : Int))
noncomputable def diptychref4_Pos_l0 (s_2 : diptychref4_Spot) : List diptychref4_Spot → Int → Option ((Int × Int) ⊕ Unit)
  | [], i_6 =>
    some (.inr ())
  | y_9 :: suf, i_6 =>
    (diptychref4_Same y_9 s_2).bind fun same_10 =>
    if (same_10) = true then
      some (.inl (i_6, (0 : Int)))
    else
      diptychref4_Pos_l0 s_2 suf (i_6 + 1)
noncomputable def diptychref4_Pos (n_1 : api_Node) (s_2 : diptychref4_Spot) : Option (Int × Int) :=
  if (n_1.Kind == ([116, 101, 120, 116] : Str)) = true then
    some ((0 : Int), (9 : Int))
  else
    (diptychref4_Spots n_1 []).bind fun spots_3 =>
    (chk (spots_3.length ≤ 9223372036854775807) (diptychref4_Pos_l0 s_2 spots_3 (0 : Int))).bind fun e => match e with
    | .inl res_11 =>
      some res_11
    | .inr _ =>
      some ((0 : Int), (9 : Int))
noncomputable def diptychlaw4_PlaceResolves (l_1 : (List diptychlaw4_Cell)) (pos_2 : Int) (s_3 : place_Spot) : Option Bool :=
  (diptychlaw4_shown).bind fun shown_4 =>
  if (!shown_4) = true then
    some shown_4
  else
    if (decide ((s_3.Path.length : Int) > (50 : Int))) = true then
      some shown_4
    else
      (diptychlaw4_doc l_1).bind fun doc_5 =>
      (place_Resolve doc_5 pos_2).bind fun (r_6, r_7) =>
      (diptychref4_Resolve doc_5 pos_2).bind fun (r_8, r_9) =>
      (place_Pos doc_5 s_3).bind fun (r_10, r_11) =>
      (diptychlaw4_as s_3).bind fun as_12 =>
      (diptychref4_Pos doc_5 as_12).bind fun (r_13, r_14) =>
      (place_Resolve ({ Kind := ([116, 101, 120, 116] : Str), Text := ([97, 98] : Str), Marks := [], Attrs := [], Kids := [] } : api_Node) pos_2).bind fun (r_15, r_16) =>
      (place_Pos ({ Kind := ([116, 101, 120, 116] : Str), Text := ([97, 98] : Str), Marks := [], Attrs := [], Kids := [] } : api_Node) s_3).bind fun (r_17, r_18) =>
      (diptychlaw4_as r_6).bind fun as_19 =>
      (diptychref4_Same as_19 r_8).bind fun same_20 =>
      if (same_20) = true then
        if (r_7 == r_9) = true then
          if (r_10 == r_13) = true then
            if (r_11 == r_14) = true then
              if (r_16 == (3 : Int)) = true then
                some (r_18 == (9 : Int))
              else
                some false
            else
              some false
          else
            some false
        else
          some false
      else
        some false

end Go.Proofs.Ytacmddgliagpcaa
