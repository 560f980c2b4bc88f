/- The functions of the program, written over numbers and rows. -/
import Derived.Test.YtlgjbmgmoaphjaaDoorAgT
import Derived.Test.YtlgjbmgmoaphjaaDoorAgLib
namespace Go.Proofs.YtlgjbmgmoaphjaaDoor
set_option linter.unusedSimpArgs false
set_option linter.unusedVariables false
open Go
set_option maxRecDepth 100000

noncomputable def strings_Join (l : (List Str)) (sep : Str) : Option Str :=
  chk (l.length ≤ 140737488355328 ∧ (Lib.join l sep).length ≤ 140737488355328) (some (Lib.join l sep))
noncomputable def strings_ReplaceAll (s : Str) (old : Str) (new : Str) : Option Str :=
  chk (s.length < 4294967281 ∧ 1 ≤ old.length ∧ s.length + Lib.countB (ba s) (ba old) * new.length ≤ 140737488355328) (some (Lib.replaceAll s old new))
noncomputable def codec_Quote (s_1 : Str) : Option Str :=
  (strings_ReplaceAll s_1 ([92] : Str) ([92, 92] : Str)).bind fun replac_2 =>
  (strings_ReplaceAll replac_2 ([34] : Str) ([92, 34] : Str)).bind fun replac_3 =>
  chk (([34] : Str).length + replac_3.length ≤ 9223372036854775807) (
    chk ((([34] : Str) ++ replac_3).length + ([34] : Str).length ≤ 9223372036854775807) (
      some ((([34] : Str) ++ replac_3) ++ ([34] : Str))))
noncomputable def codec_Head_l0 : List api_Attr → Int → (List Str) → Option (List Str)
  | [], v_6, l_7 =>
    some l_7
  | y_11 :: suf, v_6, l_7 =>
    chk (y_11.Name.length + ([61] : Str).length ≤ 9223372036854775807) (
      (codec_Quote y_11.Value).bind fun quote_12 =>
      chk ((y_11.Name ++ ([61] : Str)).length + quote_12.length ≤ 9223372036854775807) (
        (app 16 l_7 [(y_11.Name ++ ([61] : Str)) ++ quote_12]).bind fun l_13 =>
        codec_Head_l0 suf (v_6 + 1) l_13))
noncomputable def codec_Head (n_1 : api_Node) : Option Str :=
  if (n_1.Kind == ([116, 101, 120, 116] : Str)) = true then
    if ((n_1.Marks.length : Int) == (0 : Int)) = true then
      some ([] : Str)
    else
      (strings_Join n_1.Marks ([44] : Str)).bind fun join_2 =>
      chk (([60] : Str).length + join_2.length ≤ 9223372036854775807) (
        chk ((([60] : Str) ++ join_2).length + ([62] : Str).length ≤ 9223372036854775807) (
          some ((([60] : Str) ++ join_2) ++ ([62] : Str))))
  else
    if ((n_1.Attrs.length : Int) == (0 : Int)) = true then
      some n_1.Kind
    else
      (chk (n_1.Attrs.length ≤ 9223372036854775807) (codec_Head_l0 n_1.Attrs (0 : Int) [])).bind fun l_16 =>
      chk (n_1.Kind.length + ([40] : Str).length ≤ 9223372036854775807) (
        (strings_Join l_16 ([32] : Str)).bind fun join_17 =>
        chk ((n_1.Kind ++ ([40] : Str)).length + join_17.length ≤ 9223372036854775807) (
          chk (((n_1.Kind ++ ([40] : Str)) ++ join_17).length + ([41] : Str).length ≤ 9223372036854775807) (
            some (((n_1.Kind ++ ([40] : Str)) ++ join_17) ++ ([41] : Str)))))
noncomputable def token_Of_l7 (y_32 : api_Node) : Nat → (List token_Token) → Nat → Option (List token_Token)
  | 0, _, _ => none
  | k + 1, out_35, v_36 =>
    ((
        if (decide (v_36 < y_32.Text.length)) = true then
          some (.inr ())
        else
          some (.inl ())) : Option (Unit ⊕ Unit)).bind fun e => match e with
    | .inl _ =>
      some out_35
    | .inr _ =>
      (codec_Head y_32).bind fun head_37 =>
      (app 40 out_35 [({ Kind := (116 : Int), Text := rune1 (runeAt y_32.Text v_36), Head := head_37 } : token_Token)]).bind fun l_38 =>
      token_Of_l7 y_32 k l_38 (v_36 + runeW y_32.Text v_36)
noncomputable def token_Of_l0 (token_Of_r : (List api_Node) → Option (List token_Token)) : List api_Node → Int → (List token_Token) → Option (List token_Token)
  | [], v_16, out_17 =>
    some out_17
  | y_32 :: suf, v_16, out_17 =>
    if (y_32.Kind == ([116, 101, 120, 116] : Str)) = true then
      (lim fun k => token_Of_l7 y_32 k out_17 0).bind fun out_39 =>
      token_Of_l0 token_Of_r suf (v_16 + 1) out_39
    else
      (codec_Head y_32).bind fun head_41 =>
      (app 40 out_17 [({ Kind := (111 : Int), Text := ([] : Str), Head := head_41 } : token_Token)]).bind fun l_42 =>
      (token_Of_r y_32.Kids).bind fun of_43 =>
      (app 40 l_42 of_43).bind fun l_44 =>
      (app 40 l_44 [({ Kind := (99 : Int), Text := ([] : Str), Head := ([] : Str) } : token_Token)]).bind fun l_45 =>
      token_Of_l0 token_Of_r suf (v_16 + 1) l_45
noncomputable def token_Of_k : Nat → (List api_Node) → Option (List token_Token)
  | 0, _ => none
  | kr + 1, l_1 =>
    (chk (l_1.length ≤ 9223372036854775807) (token_Of_l0 (token_Of_k kr) l_1 (0 : Int) [])).bind fun out_48 =>
    some out_48
noncomputable def token_Of (l_1 : (List api_Node)) : Option (List token_Token) := lim fun kr => token_Of_k kr l_1
noncomputable def diptychlaw3_shown : Option Bool :=
  (token_Of [({ Kind := ([112, 97, 114, 97] : Str), Text := ([] : Str), Marks := [], Attrs := [], Kids := [({ Kind := ([116, 101, 120, 116] : Str), Text := ([104, 105] : Str), Marks := [], Attrs := [], Kids := [] } : api_Node)] } : api_Node)]).bind fun of_1 =>
  if ((of_1.length : Int) == (4 : Int)) = true then
    (rd of_1 (0 : Int)).bind fun x_2 =>
    if ((((x_2.Kind == (111 : Int)) && ((x_2.Text == ([] : Str)) && (x_2.Head == ([112, 97, 114, 97] : Str)))) != false)) = true then
      (rd of_1 (1 : Int)).bind fun x_3 =>
      if ((((x_3.Kind == (116 : Int)) && ((x_3.Text == ([104] : Str)) && (x_3.Head == ([] : Str)))) != false)) = true then
        (rd of_1 (3 : Int)).bind fun x_4 =>
        some (((x_4.Kind == (99 : Int)) && ((x_4.Text == ([] : Str)) && (x_4.Head == ([] : Str)))) != false)
      else
        some false
    else
      some false
  else
    some false
noncomputable def diptychlaw3_short_l0 : List Str → Int → Int → Option Int
  | [], i_4, left_3 =>
    some left_3
  | y_6 :: suf, i_4, left_3 =>
    if (decide (left_3 > (0 : Int))) = true then
      diptychlaw3_short_l0 suf (i_4 + 1) (w64 ((w64 (left_3 - (1 : Int))) - (y_6.length : Int)))
    else
      some left_3
noncomputable def diptychlaw3_short_l1 : List api_Attr → Int → Int → Option Int
  | [], i_12, left_11 =>
    some left_11
  | y_14 :: suf, i_12, left_11 =>
    if (decide (left_11 > (0 : Int))) = true then
      diptychlaw3_short_l1 suf (i_12 + 1) (w64 ((w64 ((w64 (left_11 - (1 : Int))) - (y_14.Name.length : Int))) - (y_14.Value.length : Int)))
    else
      some left_11
noncomputable def diptychlaw3_short (n_1 : api_Node) : Option Bool :=
  (chk (n_1.Marks.length ≤ 9223372036854775807) (diptychlaw3_short_l0 n_1.Marks (0 : Int) (w64 ((w64 ((500 : Int) - (n_1.Kind.length : Int))) - (n_1.Text.length : Int))))).bind fun left_7 =>
  (chk (n_1.Attrs.length ≤ 9223372036854775807) (diptychlaw3_short_l1 n_1.Attrs (0 : Int) left_7)).bind fun left_15 =>
  some (decide (left_15 > (0 : Int)))
noncomputable def diptychlaw3_pick (c_1 : Int) (n_2 : Int) : Option Int :=
  if (decide (c_1 < (0 : Int))) = true then
    chk (n_2 ≠ 0) (
      some ((w64 (0 - (w64 (c_1 + (1 : Int))))).tmod n_2))
  else
    chk (n_2 ≠ 0) (
      some (c_1.tmod n_2))
noncomputable def diptychref1_sameNames_l0 (b_2 : (List Str)) : List Str → Int → Option (Bool ⊕ Unit)
  | [], i_5 =>
    some (.inr ())
  | y_8 :: suf, i_5 =>
    (rd b_2 i_5).bind fun x_9 =>
    if (!(y_8 == x_9)) = true then
      some (.inl false)
    else
      diptychref1_sameNames_l0 b_2 suf (i_5 + 1)
noncomputable def diptychref1_sameNames (a_1 : (List Str)) (b_2 : (List Str)) : Option Bool :=
  if ((a_1.length : Int) != (b_2.length : Int)) = true then
    some false
  else
    (chk (a_1.length ≤ 9223372036854775807) (diptychref1_sameNames_l0 b_2 a_1 (0 : Int))).bind fun e => match e with
    | .inl res_10 =>
      some res_10
    | .inr _ =>
      some true
noncomputable def diptychref1_Join_l0 : List api_Node → Int → (List api_Node) → Option (List api_Node)
  | [], i_13, out_14 =>
    some out_14
  | y_26 :: suf, i_13, out_14 =>
    ((
        if (y_26.Kind == ([116, 101, 120, 116] : Str)) = true then
          if (y_26.Text == ([] : Str)) = true then
            some (.inl ())
          else
            some (.inr ())
        else
          some (.inr ())) : Option (Unit ⊕ Unit)).bind fun e => match e with
    | .inl _ =>
      diptychref1_Join_l0 suf (i_13 + 1) out_14
    | .inr _ =>
      if (y_26.Kind == ([116, 101, 120, 116] : Str)) = true then
        if (decide ((w64 ((out_14.length : Int) - (1 : Int))) ≥ (0 : Int))) = true then
          (rd out_14 (w64 ((out_14.length : Int) - (1 : Int)))).bind fun x_28 =>
          if (x_28.Kind == ([116, 101, 120, 116] : Str)) = true then
            (diptychref1_sameNames x_28.Marks y_26.Marks).bind fun samena_29 =>
            if (samena_29) = true then
              chk (x_28.Text.length + y_26.Text.length ≤ 9223372036854775807) (
                (sl out_14 (0 : Int) (w64 ((out_14.length : Int) - (1 : Int)))).bind fun s_30 =>
                (app 104 ([] : List api_Node) s_30).bind fun l_31 =>
                (app 104 l_31 [{ y_26 with Text := x_28.Text ++ y_26.Text }]).bind fun l_32 =>
                diptychref1_Join_l0 suf (i_13 + 1) l_32)
            else
              (app 104 out_14 [y_26]).bind fun l_33 =>
              diptychref1_Join_l0 suf (i_13 + 1) l_33
          else
            (app 104 out_14 [y_26]).bind fun l_34 =>
            diptychref1_Join_l0 suf (i_13 + 1) l_34
        else
          (app 104 out_14 [y_26]).bind fun l_35 =>
          diptychref1_Join_l0 suf (i_13 + 1) l_35
      else
        (app 104 out_14 [y_26]).bind fun l_36 =>
        diptychref1_Join_l0 suf (i_13 + 1) l_36
noncomputable def diptychref1_Join (l_1 : (List api_Node)) : Option (List api_Node) :=
  (chk (l_1.length ≤ 9223372036854775807) (diptychref1_Join_l0 l_1 (0 : Int) [])).bind fun out_39 =>
  some out_39
noncomputable def diptychlaw3_made_l0 : List diptychlaw3_Cell → Int → (List api_Node) → Option (List api_Node)
  | [], i_26, out_27 =>
    some out_27
  | y_52 :: suf, i_26, out_27 =>
    if (decide (i_26 < (19 : Int))) = true then
      (diptychlaw3_pick y_52.A (4 : Int)).bind fun pick_53 =>
      (rd [([112, 97, 114, 97] : Str), ([105, 116, 101, 109] : Str), ([108, 105, 115, 116] : Str), ([110, 111, 116, 101] : Str)] pick_53).bind fun x_54 =>
      ((
          (diptychlaw3_pick y_52.B (3 : Int)).bind fun pick_55 =>
          if (pick_55 == (1 : Int)) = true then
            (diptychlaw3_pick (w64 (y_52.B.tdiv (3 : Int))) (5 : Int)).bind fun pick_56 =>
            (rd [([97] : Str), ([98, 99] : Str), ([195, 169] : Str), ([120, 32, 121] : Str), ([230, 151, 165, 230, 156, 172] : Str)] pick_56).bind fun x_57 =>
            some [({ Name := ([97, 108, 105, 103, 110] : Str), Value := x_57 } : api_Attr)]
          else
            some []) : Option (List api_Attr)).bind fun n_58 =>
      (diptychlaw3_pick y_52.Op (8 : Int)).bind fun pick_59 =>
      ((
          if (pick_59 == (0 : Int)) = true then
            some (pick_59 == (0 : Int))
          else
            if (pick_59 == (1 : Int)) = true then
              some (pick_59 == (1 : Int))
            else
              if (pick_59 == (2 : Int)) = true then
                some (pick_59 == (2 : Int))
              else
                some (pick_59 == (3 : Int))) : Option Bool).bind fun v_60 =>
      if (v_60) = true then
        (diptychlaw3_pick y_52.A (5 : Int)).bind fun pick_61 =>
        (rd [([97] : Str), ([98, 99] : Str), ([195, 169] : Str), ([120, 32, 121] : Str), ([230, 151, 165, 230, 156, 172] : Str)] pick_61).bind fun x_62 =>
        ((
            (diptychlaw3_pick y_52.B (3 : Int)).bind fun pick_63 =>
            if (pick_63 == (1 : Int)) = true then
              some [([98] : Str)]
            else
              some []) : Option (List Str)).bind fun n_64 =>
        (diptychlaw3_pick y_52.B (3 : Int)).bind fun pick_65 =>
        if (pick_65 == (2 : Int)) = true then
          (app 104 out_27 [({ Kind := ([116, 101, 120, 116] : Str), Text := x_62, Marks := [([98] : Str), ([105] : Str)], Attrs := [], Kids := [] } : api_Node)]).bind fun l_66 =>
          diptychlaw3_made_l0 suf (i_26 + 1) l_66
        else
          (app 104 out_27 [({ Kind := ([116, 101, 120, 116] : Str), Text := x_62, Marks := n_64, Attrs := [], Kids := [] } : api_Node)]).bind fun l_67 =>
          diptychlaw3_made_l0 suf (i_26 + 1) l_67
      else
        ((
            if (pick_59 == (4 : Int)) = true then
              some (pick_59 == (4 : Int))
            else
              if (pick_59 == (5 : Int)) = true then
                some (pick_59 == (5 : Int))
              else
                some (pick_59 == (6 : Int))) : Option Bool).bind fun v_68 =>
        if (v_68) = true then
          (diptychlaw3_pick (w64 (y_52.B.tdiv (3 : Int))) (w64 ((if (6 : Int) < (out_27.length : Int) then (6 : Int) else (out_27.length : Int)) + (1 : Int)))).bind fun pick_69 =>
          (sl out_27 (w64 ((out_27.length : Int) - pick_69)) (out_27.length : Int)).bind fun s_70 =>
          (diptychref1_Join s_70).bind fun join_71 =>
          (sl out_27 (0 : Int) (w64 ((out_27.length : Int) - pick_69))).bind fun s_72 =>
          (app 104 ([] : List api_Node) s_72).bind fun l_73 =>
          (app 104 l_73 [({ Kind := x_54, Text := ([] : Str), Marks := [], Attrs := n_58, Kids := join_71 } : api_Node)]).bind fun l_74 =>
          diptychlaw3_made_l0 suf (i_26 + 1) l_74
        else
          (app 104 out_27 [({ Kind := x_54, Text := ([] : Str), Marks := [], Attrs := n_58, Kids := [] } : api_Node)]).bind fun l_75 =>
          diptychlaw3_made_l0 suf (i_26 + 1) l_75
    else
      some out_27
noncomputable def diptychlaw3_made (l_1 : (List diptychlaw3_Cell)) : Option (List api_Node) :=
  (chk (l_1.length ≤ 9223372036854775807) (diptychlaw3_made_l0 l_1 (0 : Int) [])).bind fun out_78 =>
  (diptychref1_Join out_78).bind fun join_79 =>
  some join_79
noncomputable def diptychlaw3_same_l0 (b_2 : (List diptychref3_Token)) : List token_Token → Int → Option (Bool ⊕ Unit)
  | [], i_5 =>
    some (.inr ())
  | y_8 :: suf, i_5 =>
    (rd b_2 i_5).bind fun x_9 =>
    if (y_8.Kind != x_9.Kind) = true then
      some (.inl false)
    else
      if (!(y_8.Text == x_9.Text)) = true then
        some (.inl false)
      else
        if (!(y_8.Head == x_9.Head)) = true then
          some (.inl false)
        else
          diptychlaw3_same_l0 b_2 suf (i_5 + 1)
noncomputable def diptychlaw3_same (a_1 : (List token_Token)) (b_2 : (List diptychref3_Token)) : Option Bool :=
  if ((a_1.length : Int) != (b_2.length : Int)) = true then
    some false
  else
    (chk (a_1.length ≤ 9223372036854775807) (diptychlaw3_same_l0 b_2 a_1 (0 : Int))).bind fun e => match e with
    | .inl res_10 =>
      some res_10
    | .inr _ =>
      some true
noncomputable def diptychref2_Quote_l0 (s_1 : Str) : Nat → Str → Int → Option Str
  | 0, _, _ => none
  | k + 1, out_5, i_6 =>
    if (decide (i_6 < (s_1.length : Int))) = true then
      chk (0 ≤ i_6 ∧ i_6 < (s_1.length : Int)) (
        if (((s_1.getD i_6.toNat 0).toNat : Int) == (34 : Int)) = true then
          chk (out_5.length + ([92] : Str).length ≤ 9223372036854775807) (
            (sl s_1 i_6 (w64 (i_6 + (1 : Int)))).bind fun s_7 =>
            chk ((out_5 ++ ([92] : Str)).length + s_7.length ≤ 9223372036854775807) (
              diptychref2_Quote_l0 s_1 k ((out_5 ++ ([92] : Str)) ++ s_7) (w64 (i_6 + (1 : Int)))))
        else
          chk (0 ≤ i_6 ∧ i_6 < (s_1.length : Int)) (
            if (((s_1.getD i_6.toNat 0).toNat : Int) == (92 : Int)) = true then
              chk (out_5.length + ([92] : Str).length ≤ 9223372036854775807) (
                (sl s_1 i_6 (w64 (i_6 + (1 : Int)))).bind fun s_8 =>
                chk ((out_5 ++ ([92] : Str)).length + s_8.length ≤ 9223372036854775807) (
                  diptychref2_Quote_l0 s_1 k ((out_5 ++ ([92] : Str)) ++ s_8) (w64 (i_6 + (1 : Int)))))
            else
              (sl s_1 i_6 (w64 (i_6 + (1 : Int)))).bind fun s_9 =>
              chk (out_5.length + s_9.length ≤ 9223372036854775807) (
                diptychref2_Quote_l0 s_1 k (out_5 ++ s_9) (w64 (i_6 + (1 : Int))))))
    else
      some out_5
noncomputable def diptychref2_Quote (s_1 : Str) : Option Str :=
  (lim fun k => diptychref2_Quote_l0 s_1 k ([34] : Str) (0 : Int)).bind fun out_10 =>
  chk (out_10.length + ([34] : Str).length ≤ 9223372036854775807) (
    some (out_10 ++ ([34] : Str)))
noncomputable def diptychref2_Head_l0 : List Str → Int → Str → Option Str
  | [], i_5, s_4 =>
    some s_4
  | y_8 :: suf, i_5, s_4 =>
    if (decide (i_5 > (0 : Int))) = true then
      chk (s_4.length + ([44] : Str).length ≤ 9223372036854775807) (
        chk ((s_4 ++ ([44] : Str)).length + y_8.length ≤ 9223372036854775807) (
          diptychref2_Head_l0 suf (i_5 + 1) ((s_4 ++ ([44] : Str)) ++ y_8)))
    else
      chk (s_4.length + y_8.length ≤ 9223372036854775807) (
        diptychref2_Head_l0 suf (i_5 + 1) (s_4 ++ y_8))
noncomputable def diptychref2_Head_l1 : List api_Attr → Int → Str → Option Str
  | [], i_17, s_16 =>
    some s_16
  | y_22 :: suf, i_17, s_16 =>
    if (decide (i_17 > (0 : Int))) = true then
      chk (s_16.length + ([32] : Str).length ≤ 9223372036854775807) (
        chk ((s_16 ++ ([32] : Str)).length + y_22.Name.length ≤ 9223372036854775807) (
          chk (((s_16 ++ ([32] : Str)) ++ y_22.Name).length + ([61] : Str).length ≤ 9223372036854775807) (
            (diptychref2_Quote y_22.Value).bind fun quote_23 =>
            chk ((((s_16 ++ ([32] : Str)) ++ y_22.Name) ++ ([61] : Str)).length + quote_23.length ≤ 9223372036854775807) (
              diptychref2_Head_l1 suf (i_17 + 1) ((((s_16 ++ ([32] : Str)) ++ y_22.Name) ++ ([61] : Str)) ++ quote_23)))))
    else
      chk (s_16.length + y_22.Name.length ≤ 9223372036854775807) (
        chk ((s_16 ++ y_22.Name).length + ([61] : Str).length ≤ 9223372036854775807) (
          (diptychref2_Quote y_22.Value).bind fun quote_24 =>
          chk (((s_16 ++ y_22.Name) ++ ([61] : Str)).length + quote_24.length ≤ 9223372036854775807) (
            diptychref2_Head_l1 suf (i_17 + 1) (((s_16 ++ y_22.Name) ++ ([61] : Str)) ++ quote_24))))
noncomputable def diptychref2_Head (n_1 : api_Node) : Option Str :=
  if (n_1.Kind == ([116, 101, 120, 116] : Str)) = true then
    (chk (n_1.Marks.length ≤ 9223372036854775807) (diptychref2_Head_l0 n_1.Marks (0 : Int) ([] : Str))).bind fun s_9 =>
    if (decide ((n_1.Marks.length : Int) > (0 : Int))) = true then
      chk (([60] : Str).length + s_9.length ≤ 9223372036854775807) (
        chk ((([60] : Str) ++ s_9).length + ([62] : Str).length ≤ 9223372036854775807) (
          some ((([60] : Str) ++ s_9) ++ ([62] : Str))))
    else
      some s_9
  else
    (chk (n_1.Attrs.length ≤ 9223372036854775807) (diptychref2_Head_l1 n_1.Attrs (0 : Int) ([] : Str))).bind fun s_25 =>
    if (decide ((n_1.Attrs.length : Int) > (0 : Int))) = true then
      chk (([40] : Str).length + s_25.length ≤ 9223372036854775807) (
        chk ((([40] : Str) ++ s_25).length + ([41] : Str).length ≤ 9223372036854775807) (
          chk (n_1.Kind.length + ((([40] : Str) ++ s_25) ++ ([41] : Str)).length ≤ 9223372036854775807) (
            some (n_1.Kind ++ ((([40] : Str) ++ s_25) ++ ([41] : Str))))))
    else
      chk (n_1.Kind.length + s_25.length ≤ 9223372036854775807) (
        some (n_1.Kind ++ s_25))
noncomputable def diptychref3_Of_l3 (y_46 : api_Node) : List Int → Int → (List diptychref3_Token) → Option (List diptychref3_Token)
  | [], k_50, out_51 =>
    some out_51
  | y_55 :: suf, k_50, out_51 =>
    (sl (runes y_46.Text) k_50 (k_50 + 1)).bind fun s_56 =>
    (diptychref2_Head y_46).bind fun head_57 =>
    (app 40 out_51 [({ Kind := (116 : Int), Text := runesStr s_56, Head := head_57 } : diptychref3_Token)]).bind fun l_58 =>
    diptychref3_Of_l3 y_46 suf (k_50 + 1) l_58
noncomputable def diptychref3_Of_l0 (diptychref3_Of_r : (List api_Node) → Option (List diptychref3_Token)) : List api_Node → Int → (List diptychref3_Token) → Option (List diptychref3_Token)
  | [], i_23, out_24 =>
    some out_24
  | y_46 :: suf, i_23, out_24 =>
    if (y_46.Kind == ([116, 101, 120, 116] : Str)) = true then
      (chk ((runes y_46.Text).length ≤ 9223372036854775807) (diptychref3_Of_l3 y_46 (runes y_46.Text) (0 : Int) out_24)).bind fun out_61 =>
      diptychref3_Of_l0 diptychref3_Of_r suf (i_23 + 1) out_61
    else
      (diptychref2_Head y_46).bind fun head_62 =>
      (app 40 out_24 [({ Kind := (111 : Int), Text := ([] : Str), Head := head_62 } : diptychref3_Token)]).bind fun l_63 =>
      (diptychref3_Of_r y_46.Kids).bind fun of_64 =>
      (app 40 l_63 of_64).bind fun l_65 =>
      (app 40 l_65 [({ Kind := (99 : Int), Text := ([] : Str), Head := ([] : Str) } : diptychref3_Token)]).bind fun l_66 =>
      diptychref3_Of_l0 diptychref3_Of_r suf (i_23 + 1) l_66
noncomputable def diptychref3_Of_k : Nat → (List api_Node) → Option (List diptychref3_Token)
  | 0, _ => none
  | kr + 1, l_1 =>
    (chk (l_1.length ≤ 9223372036854775807) (diptychref3_Of_l0 (diptychref3_Of_k kr) l_1 (0 : Int) [])).bind fun out_69 =>
    some out_69
noncomputable def diptychref3_Of (l_1 : (List api_Node)) : Option (List diptychref3_Token) := lim fun kr => diptychref3_Of_k kr l_1
noncomputable def node_isText (n_1 : api_Node) : Option Bool :=
  some (n_1.Kind == ([116, 101, 120, 116] : Str))
noncomputable def unicode_utf8_RuneCountInString_l0 (s_1 : Str) : Nat → Int → Nat → Option Int
  | 0, _, _ => none
  | k + 1, n_2, v_3 =>
    if (decide (v_3 < s_1.length)) = true then
      unicode_utf8_RuneCountInString_l0 s_1 k (w64 (n_2 + (1 : Int))) (v_3 + runeW s_1 v_3)
    else
      some n_2
noncomputable def unicode_utf8_RuneCountInString (s_1 : Str) : Option Int :=
  (lim fun k => unicode_utf8_RuneCountInString_l0 s_1 k (0 : Int) 0).bind fun n_4 =>
  some n_4
noncomputable def node_Total_l0 (node_Size_r : api_Node → Option Int) : List api_Node → Int → Int → Option Int
  | [], v_5, many_4 =>
    some many_4
  | y_8 :: suf, v_5, many_4 =>
    (node_Size_r y_8).bind fun size_9 =>
    node_Total_l0 node_Size_r suf (v_5 + 1) (w64 (many_4 + size_9))
mutual
noncomputable def node_Size_k : Nat → api_Node → Option Int
  | 0, _ => none
  | kr + 1, n_1 =>
    (node_isText n_1).bind fun istext_2 =>
    if (istext_2) = true then
      (unicode_utf8_RuneCountInString n_1.Text).bind fun runeco_3 =>
      some runeco_3
    else
      ((node_Total_k kr) n_1.Kids).bind fun total_4 =>
      some (w64 ((2 : Int) + total_4))
noncomputable def node_Total_k : Nat → (List api_Node) → Option Int
  | 0, _ => none
  | kr + 1, l_1 =>
    (chk (l_1.length ≤ 9223372036854775807) (node_Total_l0 (node_Size_k kr) l_1 (0 : Int) (0 : Int))).bind fun many_10 =>
    some many_10
end
noncomputable def node_Size (n_1 : api_Node) : Option Int := lim fun kr => node_Size_k kr n_1
noncomputable def node_Total (l_1 : (List api_Node)) : Option Int := lim fun kr => node_Total_k kr l_1
noncomputable def diptychlaw3_TokenRows (l_1 : (List diptychlaw3_Cell)) (n_2 : api_Node) : Option Bool :=
  (diptychlaw3_shown).bind fun shown_3 =>
  (diptychlaw3_short n_2).bind fun short_4 =>
  if (!shown_3) = true then
    some shown_3
  else
    if (!short_4) = true then
      some shown_3
    else
      if (decide ((n_2.Kids.length : Int) > (0 : Int))) = true then
        some shown_3
      else
        (diptychlaw3_made l_1).bind fun made_5 =>
        (token_Of made_5).bind fun of_6 =>
        (diptychref3_Of made_5).bind fun of_7 =>
        (diptychlaw3_same of_6 of_7).bind fun same_8 =>
        if (same_8) = true then
          (node_Total made_5).bind fun total_9 =>
          if ((of_6.length : Int) == total_9) = true then
            (token_Of [n_2]).bind fun of_10 =>
            (diptychref3_Of [n_2]).bind fun of_11 =>
            (diptychlaw3_same of_10 of_11).bind fun same_12 =>
            some same_12
          else
            some false
        else
          some false
noncomputable def token_Same_l0 (b_2 : (List token_Token)) : List token_Token → Int → Option (Int ⊕ Unit)
  | [], v_5 =>
    some (.inr ())
  | y_8 :: suf, v_5 =>
    if (v_5 == (b_2.length : Int)) = true then
      some (.inl v_5)
    else
      (rd b_2 v_5).bind fun x_9 =>
      if ((((y_8.Kind == x_9.Kind) && ((y_8.Text == x_9.Text) && (y_8.Head == x_9.Head))) != true)) = true then
        some (.inl v_5)
      else
        token_Same_l0 b_2 suf (v_5 + 1)
noncomputable def token_Same (a_1 : (List token_Token)) (b_2 : (List token_Token)) : Option Int :=
  (chk (a_1.length ≤ 9223372036854775807) (token_Same_l0 b_2 a_1 (0 : Int))).bind fun e => match e with
  | .inl res_10 =>
    some res_10
  | .inr _ =>
    some (a_1.length : Int)
noncomputable def slices_Clone_token_Token (l : (List token_Token)) : Option (List token_Token) :=
  app 40 [] l
noncomputable def slices_Reverse_token_Token_x_l0 : Nat → Int → Int → (List token_Token) → Option (List token_Token)
  | 0, _, _, _ => none
  | k + 1, i_7, j_8, s_9 =>
    if (decide (i_7 < j_8)) = true then
      (rd s_9 j_8).bind fun x_10 =>
      (rd s_9 i_7).bind fun x_11 =>
      (wr s_9 i_7 x_10).bind fun l_12 =>
      (rd l_12 j_8).bind fun x_13 =>
      (wr l_12 j_8 x_11).bind fun l_14 =>
      slices_Reverse_token_Token_x_l0 k (w64 (i_7 + (1 : Int))) (w64 (j_8 - (1 : Int))) l_14
    else
      some s_9
noncomputable def slices_Reverse_token_Token_x (l_1 : (List token_Token)) : Option (List token_Token) :=
  (lim fun k => slices_Reverse_token_Token_x_l0 k (0 : Int) (w64 ((l_1.length : Int) - (1 : Int))) l_1).bind fun s_18 =>
  some s_18
noncomputable def token_Back (a_1 : (List token_Token)) (b_2 : (List token_Token)) : Option Int :=
  (token_Same a_1 b_2).bind fun same_3 =>
  (sl a_1 same_3 (a_1.length : Int)).bind fun s_4 =>
  (slices_Clone_token_Token s_4).bind fun token_5 =>
  (sl b_2 same_3 (b_2.length : Int)).bind fun s_6 =>
  (slices_Clone_token_Token s_6).bind fun token_7 =>
  (slices_Reverse_token_Token_x token_5).bind fun l_8 =>
  chk (token_5.length = l_8.length) (
    (slices_Reverse_token_Token_x token_7).bind fun l_9 =>
    chk (token_7.length = l_9.length) (
      (token_Same l_8 l_9).bind fun same_10 =>
      some same_10))
noncomputable def diptychlaw3_TokenEnds_l0 (of_5 : (List token_Token)) (of_7 : (List token_Token)) (same_8 : Int) : Nat → Int → Option (Bool ⊕ Unit)
  | 0, _ => none
  | k + 1, i_12 =>
    if (decide (i_12 < same_8)) = true then
      (rd of_5 i_12).bind fun x_13 =>
      (rd of_7 i_12).bind fun x_14 =>
      if ((((x_13.Kind == x_14.Kind) && ((x_13.Text == x_14.Text) && (x_13.Head == x_14.Head))) != true)) = true then
        some (.inl false)
      else
        diptychlaw3_TokenEnds_l0 of_5 of_7 same_8 k (w64 (i_12 + (1 : Int)))
    else
      some (.inr ())
noncomputable def diptychlaw3_TokenEnds_l1 (of_5 : (List token_Token)) (of_7 : (List token_Token)) (back_9 : Int) : Nat → Int → Option (Bool ⊕ Unit)
  | 0, _ => none
  | k + 1, i_20 =>
    if (decide (i_20 ≤ back_9)) = true then
      (rd of_5 (w64 ((of_5.length : Int) - i_20))).bind fun x_21 =>
      (rd of_7 (w64 ((of_7.length : Int) - i_20))).bind fun x_22 =>
      if ((((x_21.Kind == x_22.Kind) && ((x_21.Text == x_22.Text) && (x_21.Head == x_22.Head))) != true)) = true then
        some (.inl false)
      else
        diptychlaw3_TokenEnds_l1 of_5 of_7 back_9 k (w64 (i_20 + (1 : Int)))
    else
      some (.inr ())
noncomputable def diptychlaw3_TokenEnds (a_1 : (List diptychlaw3_Cell)) (b_2 : (List diptychlaw3_Cell)) : Option Bool :=
  (diptychlaw3_shown).bind fun shown_3 =>
  if (!shown_3) = true then
    some false
  else
    (diptychlaw3_made a_1).bind fun made_4 =>
    (token_Of made_4).bind fun of_5 =>
    (diptychlaw3_made b_2).bind fun made_6 =>
    (token_Of made_6).bind fun of_7 =>
    (token_Same of_5 of_7).bind fun same_8 =>
    (token_Back of_5 of_7).bind fun back_9 =>
    if (decide (same_8 < (0 : Int))) = true then
      some false
    else
      if (decide (back_9 < (0 : Int))) = true then
        some false
      else
        if (decide ((w64 (same_8 + back_9)) > (if (of_7.length : Int) < (of_5.length : Int) then (of_7.length : Int) else (of_5.length : Int)))) = true then
          some false
        else
          (lim fun k => diptychlaw3_TokenEnds_l0 of_5 of_7 same_8 k (0 : Int)).bind fun e => match e with
          | .inl res_15 =>
            some res_15
          | .inr _ =>
            (lim fun k => diptychlaw3_TokenEnds_l1 of_5 of_7 back_9 k (1 : Int)).bind fun e => match e with
            | .inl res_23 =>
              some res_23
            | .inr _ =>
              if (decide (same_8 < (of_5.length : Int))) = true then
                if (decide (same_8 < (of_7.length : Int))) = true then
                  (rd of_5 same_8).bind fun x_26 =>
                  (rd of_7 same_8).bind fun x_27 =>
                  if ((((x_26.Kind == x_27.Kind) && ((x_26.Text == x_27.Text) && (x_26.Head == x_27.Head))) != false)) = true then
                    some false
                  else
                    if ((w64 (same_8 + back_9)) == (if (of_7.length : Int) < (of_5.length : Int) then (of_7.length : Int) else (of_5.length : Int))) = true then
                      some true
                    else
                      (rd of_5 (w64 ((w64 ((of_5.length : Int) - (1 : Int))) - back_9))).bind fun x_28 =>
                      (rd of_7 (w64 ((w64 ((of_7.length : Int) - (1 : Int))) - back_9))).bind fun x_29 =>
                      some (((x_28.Kind == x_29.Kind) && ((x_28.Text == x_29.Text) && (x_28.Head == x_29.Head))) != true)
                else
                  if ((w64 (same_8 + back_9)) == (if (of_7.length : Int) < (of_5.length : Int) then (of_7.length : Int) else (of_5.length : Int))) = true then
                    some true
                  else
                    (rd of_5 (w64 ((w64 ((of_5.length : Int) - (1 : Int))) - back_9))).bind fun x_30 =>
                    (rd of_7 (w64 ((w64 ((of_7.length : Int) - (1 : Int))) - back_9))).bind fun x_31 =>
                    some (((x_30.Kind == x_31.Kind) && ((x_30.Text == x_31.Text) && (x_30.Head == x_31.Head))) != true)
              else
                if ((w64 (same_8 + back_9)) == (if (of_7.length : Int) < (of_5.length : Int) then (of_7.length : Int) else (of_5.length : Int))) = true then
                  some true
                else
                  (rd of_5 (w64 ((w64 ((of_5.length : Int) - (1 : Int))) - back_9))).bind fun x_32 =>
                  (rd of_7 (w64 ((w64 ((of_7.length : Int) - (1 : Int))) - back_9))).bind fun x_33 =>
                  some (((x_32.Kind == x_33.Kind) && ((x_32.Text == x_33.Text) && (x_32.Head == x_33.Head))) != true)
noncomputable def diptychlaw3_as_l0 : List token_Token → Int → (List diptychref3_Token) → Option (List diptychref3_Token)
  | [], i_4, out_5 =>
    some out_5
  | y_8 :: suf, i_4, out_5 =>
    (app 40 out_5 [({ Kind := y_8.Kind, Text := y_8.Text, Head := y_8.Head } : diptychref3_Token)]).bind fun l_9 =>
    diptychlaw3_as_l0 suf (i_4 + 1) l_9
noncomputable def diptychlaw3_as (l_1 : (List token_Token)) : Option (List diptychref3_Token) :=
  (chk (l_1.length ≤ 9223372036854775807) (diptychlaw3_as_l0 l_1 (0 : Int) [])).bind fun out_12 =>
  some out_12
noncomputable def diptychlaw3_TokenLens (a_1 : (List diptychlaw3_Cell)) (b_2 : (List diptychlaw3_Cell)) : Option Bool :=
  (diptychlaw3_shown).bind fun shown_3 =>
  if (!shown_3) = true then
    some false
  else
    (diptychlaw3_made a_1).bind fun made_4 =>
    (token_Of made_4).bind fun of_5 =>
    (diptychlaw3_made b_2).bind fun made_6 =>
    (token_Of made_6).bind fun of_7 =>
    (token_Same of_5 of_7).bind fun same_8 =>
    (token_Back of_5 of_7).bind fun back_9 =>
    if (decide ((w64 (same_8 + back_9)) > (if (of_7.length : Int) < (of_5.length : Int) then (of_7.length : Int) else (of_5.length : Int)))) = true then
      some false
    else
      if (decide (same_8 < (0 : Int))) = true then
        some false
      else
        if (decide (back_9 < (0 : Int))) = true then
          some false
        else
          (sl of_5 (0 : Int) same_8).bind fun s_10 =>
          (app 40 ([] : List token_Token) s_10).bind fun l_11 =>
          (sl of_7 same_8 (w64 ((of_7.length : Int) - back_9))).bind fun s_12 =>
          (app 40 l_11 s_12).bind fun l_13 =>
          (sl of_5 (w64 ((of_5.length : Int) - back_9)) (of_5.length : Int)).bind fun s_14 =>
          (app 40 l_13 s_14).bind fun l_15 =>
          (diptychlaw3_as of_7).bind fun as_16 =>
          (diptychlaw3_same l_15 as_16).bind fun same_17 =>
          if (same_17) = true then
            (token_Same of_7 of_5).bind fun same_18 =>
            if (same_18 == same_8) = true then
              (token_Back of_7 of_5).bind fun back_19 =>
              some (back_19 == back_9)
            else
              some false
          else
            some false

end Go.Proofs.YtlgjbmgmoaphjaaDoor
