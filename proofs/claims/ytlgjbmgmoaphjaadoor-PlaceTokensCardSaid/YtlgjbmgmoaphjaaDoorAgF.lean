/- The functions of the program, written over numbers and rows. -/
import Derived.Test.YtlgjbmgmoaphjaaDoorAgT
import Derived.Test.YtlgjbmgmoaphjaaDoorAgLib
namespace Go.Proofs.YtlgjbmgmoaphjaaDoor
set_option linter.unusedSimpArgs false
set_option linter.unusedVariables false
open Go
set_option maxRecDepth 100000

noncomputable def strings_Join (l : (List Str)) (sep : Str) : Option Str :=
  chk (l.length ≤ 140737488355328 ∧ (Lib.join l sep).length ≤ 140737488355328) (some (Lib.join l sep))
noncomputable def strings_ReplaceAll (s : Str) (old : Str) (new : Str) : Option Str :=
  chk (s.length < 4294967281 ∧ 1 ≤ old.length ∧ s.length + Lib.countB (ba s) (ba old) * new.length ≤ 140737488355328) (some (Lib.replaceAll s old new))
noncomputable def codec_Quote (s_1 : Str) : Option Str :=
  (strings_ReplaceAll s_1 ([92] : Str) ([92, 92] : Str)).bind fun replac_2 =>
  (strings_ReplaceAll replac_2 ([34] : Str) ([92, 34] : Str)).bind fun replac_3 =>
  chk (([34] : Str).length + replac_3.length ≤ 9223372036854775807) (
    chk ((([34] : Str) ++ replac_3).length + ([34] : Str).length ≤ 9223372036854775807) (
      some ((([34] : Str) ++ replac_3) ++ ([34] : Str))))
noncomputable def codec_Head_l0 : List api_Attr → Int → (List Str) → Option (List Str)
  | [], v_6, l_7 =>
    some l_7
  | y_11 :: suf, v_6, l_7 =>
    chk (y_11.Name.length + ([61] : Str).length ≤ 9223372036854775807) (
      (codec_Quote y_11.Value).bind fun quote_12 =>
      chk ((y_11.Name ++ ([61] : Str)).length + quote_12.length ≤ 9223372036854775807) (
        (app 16 l_7 [(y_11.Name ++ ([61] : Str)) ++ quote_12]).bind fun l_13 =>
        codec_Head_l0 suf (v_6 + 1) l_13))
noncomputable def codec_Head (n_1 : api_Node) : Option Str :=
  if (n_1.Kind == ([116, 101, 120, 116] : Str)) = true then
    if ((n_1.Marks.length : Int) == (0 : Int)) = true then
      some ([] : Str)
    else
      (strings_Join n_1.Marks ([44] : Str)).bind fun join_2 =>
      chk (([60] : Str).length + join_2.length ≤ 9223372036854775807) (
        chk ((([60] : Str) ++ join_2).length + ([62] : Str).length ≤ 9223372036854775807) (
          some ((([60] : Str) ++ join_2) ++ ([62] : Str))))
  else
    if ((n_1.Attrs.length : Int) == (0 : Int)) = true then
      some n_1.Kind
    else
      (chk (n_1.Attrs.length ≤ 9223372036854775807) (codec_Head_l0 n_1.Attrs (0 : Int) [])).bind fun l_16 =>
      chk (n_1.Kind.length + ([40] : Str).length ≤ 9223372036854775807) (
        (strings_Join l_16 ([32] : Str)).bind fun join_17 =>
        chk ((n_1.Kind ++ ([40] : Str)).length + join_17.length ≤ 9223372036854775807) (
          chk (((n_1.Kind ++ ([40] : Str)) ++ join_17).length + ([41] : Str).length ≤ 9223372036854775807) (
            some (((n_1.Kind ++ ([40] : Str)) ++ join_17) ++ ([41] : Str)))))
noncomputable def token_Of_l7 (y_32 : api_Node) : Nat → (List token_Token) → Nat → Option (List token_Token)
  | 0, _, _ => none
  | k + 1, out_35, v_36 =>
    ((
        if (decide (v_36 < y_32.Text.length)) = true then
          some (.inr ())
        else
          some (.inl ())) : Option (Unit ⊕ Unit)).bind fun e => match e with
    | .inl _ =>
      some out_35
    | .inr _ =>
      (codec_Head y_32).bind fun head_37 =>
      (app 40 out_35 [({ Kind := (116 : Int), Text := rune1 (runeAt y_32.Text v_36), Head := head_37 } : token_Token)]).bind fun l_38 =>
      token_Of_l7 y_32 k l_38 (v_36 + runeW y_32.Text v_36)
noncomputable def token_Of_l0 (token_Of_r : (List api_Node) → Option (List token_Token)) : List api_Node → Int → (List token_Token) → Option (List token_Token)
  | [], v_16, out_17 =>
    some out_17
  | y_32 :: suf, v_16, out_17 =>
    if (y_32.Kind == ([116, 101, 120, 116] : Str)) = true then
      (lim fun k => token_Of_l7 y_32 k out_17 0).bind fun out_39 =>
      token_Of_l0 token_Of_r suf (v_16 + 1) out_39
    else
      (codec_Head y_32).bind fun head_41 =>
      (app 40 out_17 [({ Kind := (111 : Int), Text := ([] : Str), Head := head_41 } : token_Token)]).bind fun l_42 =>
      (token_Of_r y_32.Kids).bind fun of_43 =>
      (app 40 l_42 of_43).bind fun l_44 =>
      (app 40 l_44 [({ Kind := (99 : Int), Text := ([] : Str), Head := ([] : Str) } : token_Token)]).bind fun l_45 =>
      token_Of_l0 token_Of_r suf (v_16 + 1) l_45
noncomputable def token_Of_k : Nat → (List api_Node) → Option (List token_Token)
  | 0, _ => none
  | kr + 1, l_1 =>
    (chk (l_1.length ≤ 9223372036854775807) (token_Of_l0 (token_Of_k kr) l_1 (0 : Int) [])).bind fun out_48 =>
    some out_48
noncomputable def token_Of (l_1 : (List api_Node)) : Option (List token_Token) := lim fun kr => token_Of_k kr l_1
noncomputable def node_isText (n_1 : api_Node) : Option Bool :=
  some (n_1.Kind == ([116, 101, 120, 116] : Str))
noncomputable def unicode_utf8_RuneCountInString_l0 (s_1 : Str) : Nat → Int → Nat → Option Int
  | 0, _, _ => none
  | k + 1, n_2, v_3 =>
    if (decide (v_3 < s_1.length)) = true then
      unicode_utf8_RuneCountInString_l0 s_1 k (w64 (n_2 + (1 : Int))) (v_3 + runeW s_1 v_3)
    else
      some n_2
noncomputable def unicode_utf8_RuneCountInString (s_1 : Str) : Option Int :=
  (lim fun k => unicode_utf8_RuneCountInString_l0 s_1 k (0 : Int) 0).bind fun n_4 =>
  some n_4
noncomputable def node_Total_l0 (node_Size_r : api_Node → Option Int) : List api_Node → Int → Int → Option Int
  | [], v_5, many_4 =>
    some many_4
  | y_8 :: suf, v_5, many_4 =>
    (node_Size_r y_8).bind fun size_9 =>
    node_Total_l0 node_Size_r suf (v_5 + 1) (w64 (many_4 + size_9))
mutual
noncomputable def node_Size_k : Nat → api_Node → Option Int
  | 0, _ => none
  | kr + 1, n_1 =>
    (node_isText n_1).bind fun istext_2 =>
    if (istext_2) = true then
      (unicode_utf8_RuneCountInString n_1.Text).bind fun runeco_3 =>
      some runeco_3
    else
      ((node_Total_k kr) n_1.Kids).bind fun total_4 =>
      some (w64 ((2 : Int) + total_4))
noncomputable def node_Total_k : Nat → (List api_Node) → Option Int
  | 0, _ => none
  | kr + 1, l_1 =>
    (chk (l_1.length ≤ 9223372036854775807) (node_Total_l0 (node_Size_k kr) l_1 (0 : Int) (0 : Int))).bind fun many_10 =>
    some many_10
end
noncomputable def node_Size (n_1 : api_Node) : Option Int := lim fun kr => node_Size_k kr n_1
noncomputable def node_Total (l_1 : (List api_Node)) : Option Int := lim fun kr => node_Total_k kr l_1
noncomputable def place_Resolve_l2 (v_24 : (List Int)) : List api_Node → Int → Int → Option ((place_Spot × Int) ⊕ ((Int × api_Node × (List Int)) ⊕ Unit))
  | [], v_29, pos_28 =>
    some (.inr (.inr ()))
  | y_33 :: suf, v_29, pos_28 =>
    (node_Size y_33).bind fun size_34 =>
    if (decide (pos_28 ≥ size_34)) = true then
      place_Resolve_l2 v_24 suf (v_29 + 1) (w64 (pos_28 - size_34))
    else
      if (y_33.Kind == ([116, 101, 120, 116] : Str)) = true then
        some (.inl (({ Path := v_24, Index := v_29, Offset := pos_28 } : place_Spot), (0 : Int)))
      else
        if (pos_28 == (0 : Int)) = true then
          some (.inl (({ Path := v_24, Index := v_29, Offset := (0 : Int) } : place_Spot), (0 : Int)))
        else
          (app 8 v_24 [v_29]).bind fun l_35 =>
          some (.inr (.inl (w64 (pos_28 - (1 : Int)), y_33, l_35)))
noncomputable def place_Resolve_l0 : Nat → Int → api_Node → (List Int) → Option (place_Spot × Int)
  | 0, _, _, _ => none
  | k + 1, pos_23, n_22, v_24 =>
    (chk (n_22.Kids.length ≤ 9223372036854775807) (place_Resolve_l2 v_24 n_22.Kids (0 : Int) pos_23)).bind fun e => match e with
    | .inl res_36 =>
      some res_36
    | .inr (.inl (pos_37, n_38, v_39)) =>
      place_Resolve_l0 k pos_37 n_38 v_39
    | .inr (.inr _) =>
      some (({ Path := v_24, Index := (n_22.Kids.length : Int), Offset := (0 : Int) } : place_Spot), (0 : Int))
noncomputable def place_Resolve (n_1 : api_Node) (pos_2 : Int) : Option (place_Spot × Int) :=
  if (n_1.Kind == ([116, 101, 120, 116] : Str)) = true then
    some (({ Path := [], Index := (0 : Int), Offset := (0 : Int) } : place_Spot), (3 : Int))
  else
    if (decide (pos_2 < (0 : Int))) = true then
      some (({ Path := [], Index := (0 : Int), Offset := (0 : Int) } : place_Spot), (3 : Int))
    else
      (node_Total n_1.Kids).bind fun total_3 =>
      if (decide (pos_2 > total_3)) = true then
        some (({ Path := [], Index := (0 : Int), Offset := (0 : Int) } : place_Spot), (3 : Int))
      else
        (lim fun k => place_Resolve_l0 k pos_2 n_1 []).bind fun res_43 =>
        some res_43
noncomputable def diptychlaw4_shown : Option Bool :=
  (place_Resolve ({ Kind := ([100, 111, 99] : Str), Text := ([] : Str), Marks := [], Attrs := [], Kids := [({ Kind := ([112] : Str), Text := ([] : Str), Marks := [], Attrs := [], Kids := [({ Kind := ([116, 101, 120, 116] : Str), Text := ([104, 105] : Str), Marks := [], Attrs := [], Kids := [] } : api_Node)] } : api_Node)] } : api_Node) (2 : Int)).bind fun (r_1, r_2) =>
  if (r_2 == (0 : Int)) = true then
    if ((r_1.Path.length : Int) == (1 : Int)) = true then
      (rd r_1.Path (0 : Int)).bind fun x_3 =>
      if (x_3 == (0 : Int)) = true then
        if (r_1.Index == (0 : Int)) = true then
          some (r_1.Offset == (1 : Int))
        else
          some false
      else
        some false
    else
      some false
  else
    some false
noncomputable def diptychref1_sameNames_l0 (b_2 : (List Str)) : List Str → Int → Option (Bool ⊕ Unit)
  | [], i_5 =>
    some (.inr ())
  | y_8 :: suf, i_5 =>
    (rd b_2 i_5).bind fun x_9 =>
    if (!(y_8 == x_9)) = true then
      some (.inl false)
    else
      diptychref1_sameNames_l0 b_2 suf (i_5 + 1)
noncomputable def diptychref1_sameNames (a_1 : (List Str)) (b_2 : (List Str)) : Option Bool :=
  if ((a_1.length : Int) != (b_2.length : Int)) = true then
    some false
  else
    (chk (a_1.length ≤ 9223372036854775807) (diptychref1_sameNames_l0 b_2 a_1 (0 : Int))).bind fun e => match e with
    | .inl res_10 =>
      some res_10
    | .inr _ =>
      some true
noncomputable def diptychref1_Join_l0 : List api_Node → Int → (List api_Node) → Option (List api_Node)
  | [], i_13, out_14 =>
    some out_14
  | y_26 :: suf, i_13, out_14 =>
    ((
        if (y_26.Kind == ([116, 101, 120, 116] : Str)) = true then
          if (y_26.Text == ([] : Str)) = true then
            some (.inl ())
          else
            some (.inr ())
        else
          some (.inr ())) : Option (Unit ⊕ Unit)).bind fun e => match e with
    | .inl _ =>
      diptychref1_Join_l0 suf (i_13 + 1) out_14
    | .inr _ =>
      if (y_26.Kind == ([116, 101, 120, 116] : Str)) = true then
        if (decide ((w64 ((out_14.length : Int) - (1 : Int))) ≥ (0 : Int))) = true then
          (rd out_14 (w64 ((out_14.length : Int) - (1 : Int)))).bind fun x_28 =>
          if (x_28.Kind == ([116, 101, 120, 116] : Str)) = true then
            (diptychref1_sameNames x_28.Marks y_26.Marks).bind fun samena_29 =>
            if (samena_29) = true then
              chk (x_28.Text.length + y_26.Text.length ≤ 9223372036854775807) (
                (sl out_14 (0 : Int) (w64 ((out_14.length : Int) - (1 : Int)))).bind fun s_30 =>
                (app 104 ([] : List api_Node) s_30).bind fun l_31 =>
                (app 104 l_31 [{ y_26 with Text := x_28.Text ++ y_26.Text }]).bind fun l_32 =>
                diptychref1_Join_l0 suf (i_13 + 1) l_32)
            else
              (app 104 out_14 [y_26]).bind fun l_33 =>
              diptychref1_Join_l0 suf (i_13 + 1) l_33
          else
            (app 104 out_14 [y_26]).bind fun l_34 =>
            diptychref1_Join_l0 suf (i_13 + 1) l_34
        else
          (app 104 out_14 [y_26]).bind fun l_35 =>
          diptychref1_Join_l0 suf (i_13 + 1) l_35
      else
        (app 104 out_14 [y_26]).bind fun l_36 =>
        diptychref1_Join_l0 suf (i_13 + 1) l_36
noncomputable def diptychref1_Join (l_1 : (List api_Node)) : Option (List api_Node) :=
  (chk (l_1.length ≤ 9223372036854775807) (diptychref1_Join_l0 l_1 (0 : Int) [])).bind fun out_39 =>
  some out_39
noncomputable def diptychlaw4_pick (c_1 : Int) (n_2 : Int) : Option Int :=
  if (decide (c_1 < (0 : Int))) = true then
    chk (n_2 ≠ 0) (
      some ((w64 (0 - (w64 (c_1 + (1 : Int))))).tmod n_2))
  else
    chk (n_2 ≠ 0) (
      some (c_1.tmod n_2))
noncomputable def diptychlaw4_made_l0 : List diptychlaw4_Cell → Int → (List api_Node) → Option (List api_Node)
  | [], i_26, out_27 =>
    some out_27
  | y_52 :: suf, i_26, out_27 =>
    if (decide (i_26 < (19 : Int))) = true then
      (diptychlaw4_pick y_52.A (4 : Int)).bind fun pick_53 =>
      (rd [([112, 97, 114, 97] : Str), ([105, 116, 101, 109] : Str), ([108, 105, 115, 116] : Str), ([110, 111, 116, 101] : Str)] pick_53).bind fun x_54 =>
      ((
          (diptychlaw4_pick y_52.B (3 : Int)).bind fun pick_55 =>
          if (pick_55 == (1 : Int)) = true then
            (diptychlaw4_pick (w64 (y_52.B.tdiv (3 : Int))) (5 : Int)).bind fun pick_56 =>
            (rd [([97] : Str), ([98, 99] : Str), ([195, 169] : Str), ([120, 32, 121] : Str), ([230, 151, 165, 230, 156, 172] : Str)] pick_56).bind fun x_57 =>
            some [({ Name := ([97, 108, 105, 103, 110] : Str), Value := x_57 } : api_Attr)]
          else
            some []) : Option (List api_Attr)).bind fun n_58 =>
      (diptychlaw4_pick y_52.Op (8 : Int)).bind fun pick_59 =>
      ((
          if (pick_59 == (0 : Int)) = true then
            some (pick_59 == (0 : Int))
          else
            if (pick_59 == (1 : Int)) = true then
              some (pick_59 == (1 : Int))
            else
              if (pick_59 == (2 : Int)) = true then
                some (pick_59 == (2 : Int))
              else
                some (pick_59 == (3 : Int))) : Option Bool).bind fun v_60 =>
      if (v_60) = true then
        (diptychlaw4_pick y_52.A (5 : Int)).bind fun pick_61 =>
        (rd [([97] : Str), ([98, 99] : Str), ([195, 169] : Str), ([120, 32, 121] : Str), ([230, 151, 165, 230, 156, 172] : Str)] pick_61).bind fun x_62 =>
        ((
            (diptychlaw4_pick y_52.B (3 : Int)).bind fun pick_63 =>
            if (pick_63 == (1 : Int)) = true then
              some [([98] : Str)]
            else
              some []) : Option (List Str)).bind fun n_64 =>
        (diptychlaw4_pick y_52.B (3 : Int)).bind fun pick_65 =>
        if (pick_65 == (2 : Int)) = true then
          (app 104 out_27 [({ Kind := ([116, 101, 120, 116] : Str), Text := x_62, Marks := [([98] : Str), ([105] : Str)], Attrs := [], Kids := [] } : api_Node)]).bind fun l_66 =>
          diptychlaw4_made_l0 suf (i_26 + 1) l_66
        else
          (app 104 out_27 [({ Kind := ([116, 101, 120, 116] : Str), Text := x_62, Marks := n_64, Attrs := [], Kids := [] } : api_Node)]).bind fun l_67 =>
          diptychlaw4_made_l0 suf (i_26 + 1) l_67
      else
        ((
            if (pick_59 == (4 : Int)) = true then
              some (pick_59 == (4 : Int))
            else
              if (pick_59 == (5 : Int)) = true then
                some (pick_59 == (5 : Int))
              else
                some (pick_59 == (6 : Int))) : Option Bool).bind fun v_68 =>
        if (v_68) = true then
          (diptychlaw4_pick (w64 (y_52.B.tdiv (3 : Int))) (w64 ((if (6 : Int) < (out_27.length : Int) then (6 : Int) else (out_27.length : Int)) + (1 : Int)))).bind fun pick_69 =>
          (sl out_27 (w64 ((out_27.length : Int) - pick_69)) (out_27.length : Int)).bind fun s_70 =>
          (diptychref1_Join s_70).bind fun join_71 =>
          (sl out_27 (0 : Int) (w64 ((out_27.length : Int) - pick_69))).bind fun s_72 =>
          (app 104 ([] : List api_Node) s_72).bind fun l_73 =>
          (app 104 l_73 [({ Kind := x_54, Text := ([] : Str), Marks := [], Attrs := n_58, Kids := join_71 } : api_Node)]).bind fun l_74 =>
          diptychlaw4_made_l0 suf (i_26 + 1) l_74
        else
          (app 104 out_27 [({ Kind := x_54, Text := ([] : Str), Marks := [], Attrs := n_58, Kids := [] } : api_Node)]).bind fun l_75 =>
          diptychlaw4_made_l0 suf (i_26 + 1) l_75
    else
      some out_27
noncomputable def diptychlaw4_made (l_1 : (List diptychlaw4_Cell)) : Option (List api_Node) :=
  (chk (l_1.length ≤ 9223372036854775807) (diptychlaw4_made_l0 l_1 (0 : Int) [])).bind fun out_78 =>
  (diptychref1_Join out_78).bind fun join_79 =>
  some join_79
noncomputable def diptychlaw4_doc (l_1 : (List diptychlaw4_Cell)) : Option api_Node :=
  (diptychlaw4_made l_1).bind fun made_2 =>
  some ({ Kind := ([100, 111, 99] : Str), Text := ([] : Str), Marks := [], Attrs := [], Kids := made_2 } : api_Node)
noncomputable def place_Inner_l0 : List Int → Int → api_Node → Option ((api_Node × Int) ⊕ api_Node)
  | [], v_6, n_5 =>
    some (.inr n_5)
  | y_9 :: suf, v_6, n_5 =>
    if (decide (y_9 < (0 : Int))) = true then
      some (.inl (({ Kind := ([] : Str), Text := ([] : Str), Marks := [], Attrs := [], Kids := [] } : api_Node), (9 : Int)))
    else
      if (decide (y_9 ≥ (n_5.Kids.length : Int))) = true then
        some (.inl (({ Kind := ([] : Str), Text := ([] : Str), Marks := [], Attrs := [], Kids := [] } : api_Node), (9 : Int)))
      else
        if (n_5.Kind == ([116, 101, 120, 116] : Str)) = true then
          some (.inl (({ Kind := ([] : Str), Text := ([] : Str), Marks := [], Attrs := [], Kids := [] } : api_Node), (9 : Int)))
        else
          (rd n_5.Kids y_9).bind fun x_10 =>
          place_Inner_l0 suf (v_6 + 1) x_10
noncomputable def place_Inner (n_1 : api_Node) (path_2 : (List Int)) : Option (api_Node × Int) :=
  (chk (path_2.length ≤ 9223372036854775807) (place_Inner_l0 path_2 (0 : Int) n_1)).bind fun e => match e with
  | .inl res_11 =>
    some res_11
  | .inr n_14 =>
    if (n_14.Kind == ([116, 101, 120, 116] : Str)) = true then
      some (({ Kind := ([] : Str), Text := ([] : Str), Marks := [], Attrs := [], Kids := [] } : api_Node), (9 : Int))
    else
      some (n_14, (0 : Int))
noncomputable def diptychlaw4_PlaceTokens_l0 (doc_3 : api_Node) : List token_Token → Int → Option (Bool ⊕ Unit)
  | [], pos_15 =>
    some (.inr ())
  | y_26 :: suf, pos_15 =>
    (place_Resolve doc_3 pos_15).bind fun (r_27, r_28) =>
    (place_Inner doc_3 r_27.Path).bind fun (r_29, r_30) =>
    if (r_28 != (0 : Int)) = true then
      some (.inl false)
    else
      if (r_30 != (0 : Int)) = true then
        some (.inl false)
      else
        if (r_27.Index == (r_29.Kids.length : Int)) = true then
          if (y_26.Kind != (99 : Int)) = true then
            some (.inl false)
          else
            diptychlaw4_PlaceTokens_l0 doc_3 suf (pos_15 + 1)
        else
          (rd r_29.Kids r_27.Index).bind fun x_31 =>
          if (x_31.Kind == ([116, 101, 120, 116] : Str)) = true then
            if (y_26.Kind != (116 : Int)) = true then
              some (.inl false)
            else
              if (decide (r_27.Offset ≥ ((runes x_31.Text).length : Int))) = true then
                some (.inl false)
              else
                (sl (runes x_31.Text) r_27.Offset (w64 (r_27.Offset + (1 : Int)))).bind fun s_32 =>
                if (!(y_26.Text == (runesStr s_32))) = true then
                  some (.inl false)
                else
                  diptychlaw4_PlaceTokens_l0 doc_3 suf (pos_15 + 1)
          else
            if (y_26.Kind != (111 : Int)) = true then
              some (.inl false)
            else
              (codec_Head x_31).bind fun head_33 =>
              if (!(y_26.Head == head_33)) = true then
                some (.inl false)
              else
                if (r_27.Offset != (0 : Int)) = true then
                  some (.inl false)
                else
                  diptychlaw4_PlaceTokens_l0 doc_3 suf (pos_15 + 1)
noncomputable def diptychlaw4_PlaceTokens (l_1 : (List diptychlaw4_Cell)) : Option Bool :=
  (diptychlaw4_shown).bind fun shown_2 =>
  if (!shown_2) = true then
    some false
  else
    (diptychlaw4_doc l_1).bind fun doc_3 =>
    (token_Of doc_3.Kids).bind fun of_4 =>
    (chk (of_4.length ≤ 9223372036854775807) (diptychlaw4_PlaceTokens_l0 doc_3 of_4 (0 : Int))).bind fun e => match e with
    | .inl res_34 =>
      some res_34
    | .inr _ =>
      (node_Total doc_3.Kids).bind fun total_37 =>
      some ((of_4.length : Int) == total_37)

end Go.Proofs.YtlgjbmgmoaphjaaDoor
