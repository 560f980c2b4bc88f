/- The functions of the program, written over numbers and rows. -/
import Derived.Test.YtpjdafhmneiohaaDoorAgT
import Derived.Test.YtpjdafhmneiohaaDoorAgStr
namespace Go.Proofs.YtpjdafhmneiohaaDoor
set_option linter.unusedSimpArgs false
set_option linter.unusedVariables false
open Go
set_option maxRecDepth 100000

noncomputable def lens_Turn (p_1 : lens_Prim) : Option lens_Prim :=
  if (p_1.Op == (114 : Int)) = true then
    some ({ p_1 with Kind := p_1.New, New := p_1.Kind })
  else
    ((
        if (p_1.Op == (109 : Int)) = true then
          some (p_1.Op == (109 : Int))
        else
          some (p_1.Op == (110 : Int))) : Option Bool).bind fun v_2 =>
    if (v_2) = true then
      some ({ p_1 with Name := p_1.New, New := p_1.Name })
    else
      if (p_1.Op == (116 : Int)) = true then
        some ({ p_1 with Values := p_1.To, To := p_1.Values })
      else
        if (p_1.Op == (97 : Int)) = true then
          some ({ p_1 with Op := (100 : Int) })
        else
          if (p_1.Op == (100 : Int)) = true then
            some ({ p_1 with Op := (97 : Int) })
          else
            if (p_1.Op == (119 : Int)) = true then
              some ({ p_1 with Op := (117 : Int) })
            else
              if (p_1.Op == (117 : Int)) = true then
                some ({ p_1 with Op := (119 : Int) })
              else
                if (p_1.Op == (104 : Int)) = true then
                  some ({ p_1 with Op := (115 : Int) })
                else
                  if (p_1.Op == (115 : Int)) = true then
                    some ({ p_1 with Op := (104 : Int) })
                  else
                    some p_1
noncomputable def slices_Reverse_lens_Prim_x_l0 : Nat → Int → Int → (List lens_Prim) → Option (List lens_Prim)
  | 0, _, _, _ => none
  | k + 1, i_7, j_8, s_9 =>
    if (decide (i_7 < j_8)) = true then
      (rd s_9 j_8).bind fun x_10 =>
      (rd s_9 i_7).bind fun x_11 =>
      (wr s_9 i_7 x_10).bind fun l_12 =>
      (rd l_12 j_8).bind fun x_13 =>
      (wr l_12 j_8 x_11).bind fun l_14 =>
      slices_Reverse_lens_Prim_x_l0 k (w64 (i_7 + (1 : Int))) (w64 (j_8 - (1 : Int))) l_14
    else
      some s_9
noncomputable def slices_Reverse_lens_Prim_x (l_1 : (List lens_Prim)) : Option (List lens_Prim) :=
  (lim fun k => slices_Reverse_lens_Prim_x_l0 k (0 : Int) (w64 ((l_1.length : Int) - (1 : Int))) l_1).bind fun s_18 =>
  some s_18
noncomputable def lens_Flat_l0 (lens_Flat_r : lens_Lens → Option (List lens_Prim)) : List lens_Lens → Int → (List lens_Prim) → Option (List lens_Prim)
  | [], v_5, out_6 =>
    some out_6
  | y_10 :: suf, v_5, out_6 =>
    (lens_Flat_r y_10).bind fun flat_11 =>
    (app 104 out_6 flat_11).bind fun l_12 =>
    lens_Flat_l0 lens_Flat_r suf (v_5 + 1) l_12
noncomputable def lens_Flat_l1 (l_16 : (List lens_Prim)) : Nat → Int → (List lens_Prim) → Option (List lens_Prim)
  | 0, _, _ => none
  | k + 1, v_20, out_21 =>
    if (decide (v_20 < (l_16.length : Int))) = true then
      (rd out_21 v_20).bind fun x_22 =>
      (lens_Turn x_22).bind fun turn_23 =>
      (wr out_21 v_20 turn_23).bind fun l_24 =>
      lens_Flat_l1 l_16 k (w64 (v_20 + (1 : Int))) l_24
    else
      some out_21
noncomputable def lens_Flat_k : Nat → lens_Lens → Option (List lens_Prim)
  | 0, _ => none
  | kr + 1, l_1 =>
    if (l_1.Prim.Op != (0 : Int)) = true then
      some [l_1.Prim]
    else
      (chk (l_1.Kids.length ≤ 9223372036854775807) (lens_Flat_l0 (lens_Flat_k kr) l_1.Kids (0 : Int) ([] : List lens_Prim))).bind fun out_15 =>
      if (l_1.Turned) = true then
        (slices_Reverse_lens_Prim_x out_15).bind fun l_16 =>
        chk (out_15.length = l_16.length) (
          (lim fun k => lens_Flat_l1 l_16 k (0 : Int) l_16).bind fun out_27 =>
          some out_27)
      else
        some out_15
noncomputable def lens_Flat (l_1 : lens_Lens) : Option (List lens_Prim) := lim fun kr => lens_Flat_k kr l_1
noncomputable def lens_Lens_many_l0 (lens_Lens_many_r : lens_Lens → Option Int) : List lens_Lens → Int → Int → Option Int
  | [], v_5, n_4 =>
    some n_4
  | y_8 :: suf, v_5, n_4 =>
    (lens_Lens_many_r y_8).bind fun many_9 =>
    lens_Lens_many_l0 lens_Lens_many_r suf (v_5 + 1) (w64 (n_4 + many_9))
noncomputable def lens_Lens_many_k : Nat → lens_Lens → Option Int
  | 0, _ => none
  | kr + 1, l_1 =>
    (chk (l_1.Kids.length ≤ 9223372036854775807) (lens_Lens_many_l0 (lens_Lens_many_k kr) l_1.Kids (0 : Int) (1 : Int))).bind fun n_10 =>
    some n_10
noncomputable def lens_Lens_many (l_1 : lens_Lens) : Option Int := lim fun kr => lens_Lens_many_k kr l_1
noncomputable def lens_Lens_plain (l_1 : lens_Lens) : Option Bool :=
  if (l_1.Prim.Op == (0 : Int)) = true then
    some (!l_1.Turned)
  else
    some false
noncomputable def strings_Trim (s : Str) (cutset : Str) : Option Str :=
  chk (s.length ≤ 9223372036854775807 ∧ cutset.length < 4294967281 ∧ cutset.all (fun b => decide (b.toNat < 128)) = true) (some (Lib.trimS s cutset))
noncomputable def node_Name (s_1 : Str) : Option Bool :=
  (strings_Trim s_1 ([97, 98, 99, 100, 101, 102, 103, 104, 105, 106, 107, 108, 109, 110, 111, 112, 113, 114, 115, 116, 117, 118, 119, 120, 121, 122] : Str)).bind fun trim_2 =>
  if (trim_2 == ([] : Str)) = true then
    if (!(s_1 == ([] : Str))) = true then
      if (decide ((s_1.length : Int) ≤ (8 : Int))) = true then
        some (!(s_1 == ([116, 101, 120, 116] : Str)))
      else
        some false
    else
      some false
  else
    some false
noncomputable def slices_Index_string_l0 (v_2 : Str) : List Str → Int → Option (Int ⊕ Unit)
  | [], v_4 =>
    some (.inr ())
  | y_6 :: suf, v_4 =>
    if (v_2 == y_6) = true then
      some (.inl v_4)
    else
      slices_Index_string_l0 v_2 suf (v_4 + 1)
noncomputable def slices_Index_string (s_1 : (List Str)) (v_2 : Str) : Option Int :=
  (chk (s_1.length ≤ 9223372036854775807) (slices_Index_string_l0 v_2 s_1 (0 : Int))).bind fun e => match e with
  | .inl res_7 =>
    some res_7
  | .inr _ =>
    some (-1 : Int)
noncomputable def slices_Contains_string (s_1 : (List Str)) (v_2 : Str) : Option Bool :=
  (slices_Index_string s_1 v_2).bind fun string_3 =>
  some (decide (string_3 ≥ (0 : Int)))
noncomputable def lens_values_l0 (l_1 : (List Str)) : List Str → Int → Option (Bool ⊕ Unit)
  | [], v_7 =>
    some (.inr ())
  | y_12 :: suf, v_7 =>
    (node_Name y_12).bind fun name_13 =>
    if (!name_13) = true then
      some (.inl false)
    else
      (sl l_1 (0 : Int) v_7).bind fun s_14 =>
      (slices_Contains_string s_14 y_12).bind fun string_15 =>
      if (string_15) = true then
        some (.inl false)
      else
        lens_values_l0 l_1 suf (v_7 + 1)
noncomputable def lens_values (l_1 : (List Str)) (least_2 : Int) : Option Bool :=
  (chk (l_1.length ≤ 9223372036854775807) (lens_values_l0 l_1 l_1 (0 : Int))).bind fun e => match e with
  | .inl res_16 =>
    some res_16
  | .inr _ =>
    if (decide ((l_1.length : Int) ≥ least_2)) = true then
      some (decide ((l_1.length : Int) ≤ (6 : Int)))
    else
      some false
noncomputable def lens_Prim_right (p_1 : lens_Prim) : Option Bool :=
  (node_Name p_1.Kind).bind fun name_2 =>
  (node_Name p_1.Name).bind fun name_3 =>
  (node_Name p_1.New).bind fun name_4 =>
  ((
      if (p_1.Op == (114 : Int)) = true then
        some (.inl ())
      else
        if (p_1.Op == (119 : Int)) = true then
          some (.inl ())
        else
          if (p_1.Op == (117 : Int)) = true then
            some (.inl ())
          else
            some (.inr ())) : Option (Unit ⊕ Unit)).bind fun e => match e with
  | .inl _ =>
    if ((w64 ((p_1.Values.length : Int) + (p_1.To.length : Int))) == (0 : Int)) = true then
      if (name_2) = true then
        if (name_4) = true then
          some (p_1.Name == ([] : Str))
        else
          some false
      else
        some false
    else
      some false
  | .inr _ =>
    if (p_1.Op == (109 : Int)) = true then
      if ((w64 ((p_1.Values.length : Int) + (p_1.To.length : Int))) == (0 : Int)) = true then
        if (name_3) = true then
          if (name_4) = true then
            some (p_1.Kind == ([] : Str))
          else
            some false
        else
          some false
      else
        some false
    else
      if (p_1.Op == (110 : Int)) = true then
        if ((w64 ((p_1.Values.length : Int) + (p_1.To.length : Int))) == (0 : Int)) = true then
          if (name_2) = true then
            if (name_3) = true then
              some name_4
            else
              some false
          else
            some false
        else
          some false
      else
        if (p_1.Op == (116 : Int)) = true then
          (lens_values p_1.Values (1 : Int)).bind fun values_6 =>
          if (values_6) = true then
            (lens_values p_1.To (1 : Int)).bind fun values_7 =>
            if (values_7) = true then
              if ((p_1.Values.length : Int) == (p_1.To.length : Int)) = true then
                if (name_2) = true then
                  if (name_3) = true then
                    some (p_1.New == ([] : Str))
                  else
                    some false
                else
                  some false
              else
                some false
            else
              some false
          else
            some false
        else
          ((
              if (p_1.Op == (97 : Int)) = true then
                some (.inl ())
              else
                if (p_1.Op == (100 : Int)) = true then
                  some (.inl ())
                else
                  some (.inr ())) : Option (Unit ⊕ Unit)).bind fun e => match e with
          | .inl _ =>
            (lens_values p_1.Values (0 : Int)).bind fun values_9 =>
            if (values_9) = true then
              if ((p_1.To.length : Int) == (0 : Int)) = true then
                if (name_2) = true then
                  if (name_3) = true then
                    some (p_1.New == ([] : Str))
                  else
                    some false
                else
                  some false
              else
                some false
            else
              some false
          | .inr _ =>
            if (p_1.Op == (104 : Int)) = true then
              if ((w64 ((p_1.Values.length : Int) + (p_1.To.length : Int))) == (0 : Int)) = true then
                if (name_2) = true then
                  if (name_3) = true then
                    some (p_1.New == ([] : Str))
                  else
                    some false
                else
                  some false
              else
                some false
            else
              if (p_1.Op == (115 : Int)) = true then
                if ((w64 ((p_1.Values.length : Int) + (p_1.To.length : Int))) == (0 : Int)) = true then
                  if (name_2) = true then
                    if (name_3) = true then
                      some (p_1.New == ([] : Str))
                    else
                      some false
                  else
                    some false
                else
                  some false
              else
                some false
noncomputable def slices_IndexFunc_lens_Lens_lens_Lens_formed_1_l0 (lens_Lens_formed_1_r : lens_Lens → Option Bool) : List lens_Lens → Int → Option (Int ⊕ Unit)
  | [], v_4 =>
    some (.inr ())
  | y_7 :: suf, v_4 =>
    (lens_Lens_formed_1_r y_7).bind fun f1_8 =>
    if (f1_8) = true then
      some (.inl v_4)
    else
      slices_IndexFunc_lens_Lens_lens_Lens_formed_1_l0 lens_Lens_formed_1_r suf (v_4 + 1)
mutual
noncomputable def lens_Lens_formed_1_k : Nat → lens_Lens → Option Bool
  | 0, _ => none
  | kr + 1, k_1 =>
    (lens_Lens_plain k_1).bind fun plain_2 =>
    if (plain_2) = true then
      some true
    else
      ((lens_Lens_formed_k kr) k_1).bind fun formed_3 =>
      some (!formed_3)
noncomputable def slices_IndexFunc_lens_Lens_lens_Lens_formed_1_k : Nat → (List lens_Lens) → Option Int
  | 0, _ => none
  | kr + 1, s_1 =>
    (chk (s_1.length ≤ 9223372036854775807) (slices_IndexFunc_lens_Lens_lens_Lens_formed_1_l0 (lens_Lens_formed_1_k kr) s_1 (0 : Int))).bind fun e => match e with
    | .inl res_9 =>
      some res_9
    | .inr _ =>
      some (-1 : Int)
noncomputable def slices_ContainsFunc_lens_Lens_lens_Lens_formed_1_k : Nat → (List lens_Lens) → Option Bool
  | 0, _ => none
  | kr + 1, s_1 =>
    ((slices_IndexFunc_lens_Lens_lens_Lens_formed_1_k kr) s_1).bind fun lens_2 =>
    some (decide (lens_2 ≥ (0 : Int)))
noncomputable def lens_Lens_formed_k : Nat → lens_Lens → Option Bool
  | 0, _ => none
  | kr + 1, l_1 =>
    if (l_1.Prim.Op != (0 : Int)) = true then
      (lens_Prim_right l_1.Prim).bind fun right_2 =>
      if (right_2) = true then
        if (!l_1.Turned) = true then
          some ((l_1.Kids.length : Int) == (0 : Int))
        else
          some false
      else
        some false
    else
      ((
          chk (l_1.Prim.Kind.length + l_1.Prim.Name.length ≤ 9223372036854775807) (
            chk ((l_1.Prim.Kind ++ l_1.Prim.Name).length + l_1.Prim.New.length ≤ 9223372036854775807) (
              if (((l_1.Prim.Kind ++ l_1.Prim.Name) ++ l_1.Prim.New) == ([] : Str)) = true then
                some ((w64 ((l_1.Prim.Values.length : Int) + (l_1.Prim.To.length : Int))) == (0 : Int))
              else
                some false))) : Option Bool).bind fun empty_3 =>
      if (empty_3) = true then
        if (l_1.Turned) = true then
          ((slices_ContainsFunc_lens_Lens_lens_Lens_formed_1_k kr) l_1.Kids).bind fun lens_4 =>
          some (!lens_4)
        else
          if ((l_1.Kids.length : Int) != (1 : Int)) = true then
            ((slices_ContainsFunc_lens_Lens_lens_Lens_formed_1_k kr) l_1.Kids).bind fun lens_5 =>
            some (!lens_5)
          else
            some false
      else
        some false
end
noncomputable def lens_Lens_formed_1 (k_1 : lens_Lens) : Option Bool := lim fun kr => lens_Lens_formed_1_k kr k_1
noncomputable def slices_IndexFunc_lens_Lens_lens_Lens_formed_1 (s_1 : (List lens_Lens)) : Option Int := lim fun kr => slices_IndexFunc_lens_Lens_lens_Lens_formed_1_k kr s_1
noncomputable def slices_ContainsFunc_lens_Lens_lens_Lens_formed_1 (s_1 : (List lens_Lens)) : Option Bool := lim fun kr => slices_ContainsFunc_lens_Lens_lens_Lens_formed_1_k kr s_1
noncomputable def lens_Lens_formed (l_1 : lens_Lens) : Option Bool := lim fun kr => lens_Lens_formed_k kr l_1
noncomputable def lens_Right (l_1 : lens_Lens) : Option Bool :=
  (lens_Lens_many l_1).bind fun many_2 =>
  if (decide (many_2 ≤ (20 : Int))) = true then
    (lens_Lens_formed l_1).bind fun formed_3 =>
    some formed_3
  else
    some false
noncomputable def lens_opOf (s_1 : Str) : Option Int :=
  if (s_1 == ([97, 116, 116, 114] : Str)) = true then
    some (110 : Int)
  else
    if (s_1 == ([] : Str)) = true then
      some (0 : Int)
    else
      chk (0 ≤ (0 : Int) ∧ (0 : Int) < (s_1.length : Int)) (
        some ((s_1.getD (0 : Int).toNat 0).toNat : Int))
noncomputable def lens_verb_l0 (op_1 : Int) : Nat → Int → Option (Str ⊕ Unit)
  | 0, _ => none
  | k + 1, v_4 =>
    if (decide (v_4 < ([([114, 101, 110, 97, 109, 101] : Str), ([109, 97, 114, 107] : Str), ([97, 116, 116, 114] : Str), ([97, 100, 100] : Str), ([100, 114, 111, 112] : Str), ([116, 97, 98, 108, 101] : Str), ([119, 114, 97, 112] : Str), ([117, 110, 119, 114, 97, 112] : Str), ([104, 101, 97, 100] : Str), ([115, 112, 114, 101, 97, 100] : Str)].length : Int))) = true then
      (rd [([114, 101, 110, 97, 109, 101] : Str), ([109, 97, 114, 107] : Str), ([97, 116, 116, 114] : Str), ([97, 100, 100] : Str), ([100, 114, 111, 112] : Str), ([116, 97, 98, 108, 101] : Str), ([119, 114, 97, 112] : Str), ([117, 110, 119, 114, 97, 112] : Str), ([104, 101, 97, 100] : Str), ([115, 112, 114, 101, 97, 100] : Str)] v_4).bind fun x_5 =>
      (lens_opOf x_5).bind fun opof_6 =>
      if (opof_6 == op_1) = true then
        some (.inl x_5)
      else
        lens_verb_l0 op_1 k (w64 (v_4 + (1 : Int)))
    else
      some (.inr ())
noncomputable def lens_verb (op_1 : Int) : Option Str :=
  (lim fun k => lens_verb_l0 op_1 k (0 : Int)).bind fun e => match e with
  | .inl res_7 =>
    some res_7
  | .inr _ =>
    some ([] : Str)
noncomputable def strings_Join (l : (List Str)) (sep : Str) : Option Str :=
  chk (l.length ≤ 140737488355328 ∧ (Lib.join l sep).length ≤ 140737488355328) (some (Lib.join l sep))
noncomputable def lens_Prim_text_l0 (p_1 : lens_Prim) : Nat → Int → (List Str) → Option (List Str)
  | 0, _, _ => none
  | k + 1, v_5, words_6 =>
    if (decide (v_5 < ([p_1.Kind, p_1.Name, p_1.New].length : Int))) = true then
      (rd [p_1.Kind, p_1.Name, p_1.New] v_5).bind fun x_7 =>
      if (!(x_7 == ([] : Str))) = true then
        (app 16 words_6 [x_7]).bind fun l_8 =>
        lens_Prim_text_l0 p_1 k (w64 (v_5 + (1 : Int))) l_8
      else
        lens_Prim_text_l0 p_1 k (w64 (v_5 + (1 : Int))) words_6
    else
      some words_6
noncomputable def lens_Prim_text_l2 (p_1 : lens_Prim) : List Str → Int → (List Str) → Option (List Str)
  | [], v_23, l_24 =>
    some l_24
  | y_28 :: suf, v_23, l_24 =>
    chk (y_28.length + ([58] : Str).length ≤ 9223372036854775807) (
      (rd p_1.To v_23).bind fun x_29 =>
      chk ((y_28 ++ ([58] : Str)).length + x_29.length ≤ 9223372036854775807) (
        (app 16 l_24 [(y_28 ++ ([58] : Str)) ++ x_29]).bind fun l_30 =>
        lens_Prim_text_l2 p_1 suf (v_23 + 1) l_30))
noncomputable def lens_Prim_text (p_1 : lens_Prim) : Option Str :=
  (lens_verb p_1.Op).bind fun verb_2 =>
  (lim fun k => lens_Prim_text_l0 p_1 k (0 : Int) [verb_2]).bind fun words_11 =>
  ((
      if (p_1.Op == (97 : Int)) = true then
        some (p_1.Op == (97 : Int))
      else
        some (p_1.Op == (100 : Int))) : Option Bool).bind fun v_12 =>
  if (v_12) = true then
    (strings_Join p_1.Values ([124] : Str)).bind fun join_13 =>
    if (join_13 == ([] : Str)) = true then
      (rd words_11 (2 : Int)).bind fun x_14 =>
      chk (([61] : Str).length + ([42] : Str).length ≤ 9223372036854775807) (
        chk (x_14.length + (([61] : Str) ++ ([42] : Str)).length ≤ 9223372036854775807) (
          (wr words_11 (2 : Int) (x_14 ++ (([61] : Str) ++ ([42] : Str)))).bind fun l_15 =>
          (strings_Join l_15 ([32] : Str)).bind fun join_16 =>
          some join_16))
    else
      (rd words_11 (2 : Int)).bind fun x_17 =>
      chk (([61] : Str).length + join_13.length ≤ 9223372036854775807) (
        chk (x_17.length + (([61] : Str) ++ join_13).length ≤ 9223372036854775807) (
          (wr words_11 (2 : Int) (x_17 ++ (([61] : Str) ++ join_13))).bind fun l_18 =>
          (strings_Join l_18 ([32] : Str)).bind fun join_19 =>
          some join_19))
  else
    if (p_1.Op == (116 : Int)) = true then
      (chk (p_1.Values.length ≤ 9223372036854775807) (lens_Prim_text_l2 p_1 p_1.Values (0 : Int) ([] : List Str))).bind fun l_33 =>
      (strings_Join l_33 ([44] : Str)).bind fun join_34 =>
      (app 16 words_11 [join_34]).bind fun l_35 =>
      (strings_Join l_35 ([32] : Str)).bind fun join_36 =>
      some join_36
    else
      (strings_Join words_11 ([32] : Str)).bind fun join_37 =>
      some join_37
noncomputable def lens_Lens_text_l0 (lens_Lens_text_r : lens_Lens → Option Str) : List lens_Lens → Int → (List Str) → Option (List Str)
  | [], v_6, words_7 =>
    some words_7
  | y_11 :: suf, v_6, words_7 =>
    (lens_Lens_text_r y_11).bind fun text_12 =>
    (app 16 words_7 [text_12]).bind fun l_13 =>
    lens_Lens_text_l0 lens_Lens_text_r suf (v_6 + 1) l_13
noncomputable def lens_Lens_text_k : Nat → lens_Lens → Option Str
  | 0, _ => none
  | kr + 1, l_1 =>
    if (l_1.Prim.Op != (0 : Int)) = true then
      (lens_Prim_text l_1.Prim).bind fun text_2 =>
      some text_2
    else
      (chk (l_1.Kids.length ≤ 9223372036854775807) (lens_Lens_text_l0 (lens_Lens_text_k kr) l_1.Kids (0 : Int) ([] : List Str))).bind fun words_16 =>
      (strings_Join words_16 ([59, 32] : Str)).bind fun join_17 =>
      if (l_1.Turned) = true then
        chk (([105, 110, 118, 101, 114, 116, 40] : Str).length + join_17.length ≤ 9223372036854775807) (
          chk ((([105, 110, 118, 101, 114, 116, 40] : Str) ++ join_17).length + ([41] : Str).length ≤ 9223372036854775807) (
            some ((([105, 110, 118, 101, 114, 116, 40] : Str) ++ join_17) ++ ([41] : Str))))
      else
        some join_17
noncomputable def lens_Lens_text (l_1 : lens_Lens) : Option Str := lim fun kr => lens_Lens_text_k kr l_1
noncomputable def lens_Print (l_1 : lens_Lens) : Option (Str × Int) :=
  (lens_Right l_1).bind fun right_2 =>
  if (!right_2) = true then
    some (([] : Str), (2 : Int))
  else
    (lens_Lens_text l_1).bind fun text_3 =>
    some (text_3, (0 : Int))
noncomputable def internal_stringslite_HasPrefix (s_1 : Str) (prefix_2 : Str) : Option Bool :=
  if (decide ((s_1.length : Int) ≥ (prefix_2.length : Int))) = true then
    (sl s_1 (0 : Int) (prefix_2.length : Int)).bind fun s_3 =>
    some (s_3 == prefix_2)
  else
    some false
noncomputable def internal_stringslite_CutPrefix (s_1 : Str) (prefix_2 : Str) : Option (Str × Bool) :=
  (internal_stringslite_HasPrefix s_1 prefix_2).bind fun haspre_3 =>
  if (!haspre_3) = true then
    some (s_1, false)
  else
    (sl s_1 (prefix_2.length : Int) (s_1.length : Int)).bind fun s_4 =>
    some (s_4, true)
noncomputable def strings_CutPrefix (s_1 : Str) (prefix_2 : Str) : Option (Str × Bool) :=
  (internal_stringslite_CutPrefix s_1 prefix_2).bind fun (r_3, r_4) =>
  some (r_3, r_4)
noncomputable def strings_HasPrefix (s_1 : Str) (prefix_2 : Str) : Option Bool :=
  (internal_stringslite_HasPrefix s_1 prefix_2).bind fun haspre_3 =>
  some haspre_3
noncomputable def strings_IndexAny (s : Str) (cutset : Str) : Option Int :=
  chk (s.length < 4294967281 ∧ cutset.length < 4294967281 ∧ s.all (fun b => decide (b.toNat < 128)) = true ∧ cutset.all (fun b => decide (b.toNat < 128)) = true) (some (Lib.indexAny s cutset))
noncomputable def strings_Split (s : Str) (sep : Str) : Option (List Str) :=
  chk (s.length < 4294967281 ∧ 1 ≤ sep.length) (some (splitL s sep))
noncomputable def strings_Cut (s : Str) (sep : Str) : Option (Str × Str × Bool) :=
  chk (s.length < 4294967281) (some (Lib.cut s sep))
noncomputable def lens_prim_l2 : List Str → Int → (List Str) → (List Str) → Option ((List Str) × (List Str))
  | [], v_28, v_29, v_30 =>
    some (v_29, v_30)
  | y_37 :: suf, v_28, v_29, v_30 =>
    (strings_Cut y_37 ([58] : Str)).bind fun (r_38, r_39, r_40) =>
    (app 16 v_29 [r_38]).bind fun l_41 =>
    (app 16 v_30 [r_39]).bind fun l_42 =>
    lens_prim_l2 suf (v_28 + 1) l_41 l_42
noncomputable def lens_prim (text_1 : Str) : Option (lens_Prim × Bool) :=
  (strings_Split text_1 ([32] : Str)).bind fun split_2 =>
  (rd split_2 (0 : Int)).bind fun x_3 =>
  (lens_opOf x_3).bind fun opof_4 =>
  (lens_verb opof_4).bind fun verb_5 =>
  if (!(verb_5 == x_3)) = true then
    some (({ Op := opof_4, Kind := ([] : Str), Name := ([] : Str), New := ([] : Str), Values := ([] : List Str), To := ([] : List Str) } : lens_Prim), false)
  else
    if (decide ((split_2.length : Int) < (3 : Int))) = true then
      some (({ Op := opof_4, Kind := ([] : Str), Name := ([] : Str), New := ([] : Str), Values := ([] : List Str), To := ([] : List Str) } : lens_Prim), false)
    else
      (rd split_2 (1 : Int)).bind fun x_6 =>
      (rd split_2 (2 : Int)).bind fun x_7 =>
      ((
          if (opof_4 == (114 : Int)) = true then
            some (opof_4 == (114 : Int))
          else
            if (opof_4 == (119 : Int)) = true then
              some (opof_4 == (119 : Int))
            else
              some (opof_4 == (117 : Int))) : Option Bool).bind fun v_8 =>
      if (v_8) = true then
        (lens_Prim_right ({ Op := opof_4, Kind := x_6, Name := ([] : Str), New := x_7, Values := ([] : List Str), To := ([] : List Str) } : lens_Prim)).bind fun right_9 =>
        some (({ Op := opof_4, Kind := x_6, Name := ([] : Str), New := x_7, Values := ([] : List Str), To := ([] : List Str) } : lens_Prim), right_9)
      else
        if (opof_4 == (109 : Int)) = true then
          (lens_Prim_right ({ Op := opof_4, Kind := ([] : Str), Name := x_6, New := x_7, Values := ([] : List Str), To := ([] : List Str) } : lens_Prim)).bind fun right_10 =>
          some (({ Op := opof_4, Kind := ([] : Str), Name := x_6, New := x_7, Values := ([] : List Str), To := ([] : List Str) } : lens_Prim), right_10)
        else
          if (opof_4 == (110 : Int)) = true then
            (rd split_2 (w64 ((split_2.length : Int) - (1 : Int)))).bind fun x_11 =>
            (lens_Prim_right ({ Op := opof_4, Kind := x_6, Name := x_7, New := x_11, Values := ([] : List Str), To := ([] : List Str) } : lens_Prim)).bind fun right_12 =>
            some (({ Op := opof_4, Kind := x_6, Name := x_7, New := x_11, Values := ([] : List Str), To := ([] : List Str) } : lens_Prim), right_12)
          else
            ((
                if (opof_4 == (97 : Int)) = true then
                  some (opof_4 == (97 : Int))
                else
                  some (opof_4 == (100 : Int))) : Option Bool).bind fun v_13 =>
            if (v_13) = true then
              (strings_Cut x_7 ([61] : Str)).bind fun (r_14, r_15, r_16) =>
              if (!(r_15 == ([42] : Str))) = true then
                (strings_Split r_15 ([124] : Str)).bind fun split_17 =>
                (lens_Prim_right ({ Op := opof_4, Kind := x_6, Name := r_14, New := ([] : Str), Values := split_17, To := ([] : List Str) } : lens_Prim)).bind fun right_18 =>
                some (({ Op := opof_4, Kind := x_6, Name := r_14, New := ([] : Str), Values := split_17, To := ([] : List Str) } : lens_Prim), right_18)
              else
                (lens_Prim_right ({ Op := opof_4, Kind := x_6, Name := r_14, New := ([] : Str), Values := ([] : List Str), To := ([] : List Str) } : lens_Prim)).bind fun right_19 =>
                some (({ Op := opof_4, Kind := x_6, Name := r_14, New := ([] : Str), Values := ([] : List Str), To := ([] : List Str) } : lens_Prim), right_19)
            else
              if (opof_4 == (116 : Int)) = true then
                (rd split_2 (w64 ((split_2.length : Int) - (1 : Int)))).bind fun x_20 =>
                (strings_Split x_20 ([44] : Str)).bind fun split_21 =>
                (chk (split_21.length ≤ 9223372036854775807) (lens_prim_l2 split_21 (0 : Int) ([] : List Str) ([] : List Str))).bind fun (v_45, v_46) =>
                (lens_Prim_right ({ Op := opof_4, Kind := x_6, Name := x_7, New := ([] : Str), Values := v_45, To := v_46 } : lens_Prim)).bind fun right_47 =>
                some (({ Op := opof_4, Kind := x_6, Name := x_7, New := ([] : Str), Values := v_45, To := v_46 } : lens_Prim), right_47)
              else
                (lens_Prim_right ({ Op := opof_4, Kind := x_6, Name := x_7, New := ([] : Str), Values := ([] : List Str), To := ([] : List Str) } : lens_Prim)).bind fun right_48 =>
                some (({ Op := opof_4, Kind := x_6, Name := x_7, New := ([] : Str), Values := ([] : List Str), To := ([] : List Str) } : lens_Prim), right_48)
noncomputable def lens_row_l0 (deep_2 : Int) (lens_row_r : Str → Int → Option ((List lens_Lens) × Str × Bool)) : Nat → Str → (List lens_Lens) → Option (((List lens_Lens) × Str × Bool) ⊕ Unit)
  | 0, _, _ => none
  | k + 1, text_22, l_23 =>
    if (decide (deep_2 < (20 : Int))) = true then
      ((
          (strings_CutPrefix text_22 ([105, 110, 118, 101, 114, 116, 40] : Str)).bind fun (r_24, r_25) =>
          if (r_25) = true then
            (lens_row_r r_24 (w64 (deep_2 + (1 : Int)))).bind fun (r_26, r_27, r_28) =>
            if (!r_28) = true then
              some (.inl ([], ([] : Str), false))
            else
              (strings_HasPrefix r_27 ([41] : Str)).bind fun haspre_29 =>
              if (!haspre_29) = true then
                some (.inl ([], ([] : Str), false))
              else
                (app 136 l_23 [({ Prim := ({ Op := (0 : Int), Kind := ([] : Str), Name := ([] : Str), New := ([] : Str), Values := [], To := [] } : lens_Prim), Turned := true, Kids := r_26 } : lens_Lens)]).bind fun l_30 =>
                (sl r_27 (1 : Int) (r_27.length : Int)).bind fun s_31 =>
                some (.inr (s_31, l_30))
          else
            chk (text_22.length + ([59] : Str).length ≤ 9223372036854775807) (
              (strings_IndexAny (text_22 ++ ([59] : Str)) ([59, 41] : Str)).bind fun indexa_32 =>
              if (decide (indexa_32 > (0 : Int))) = true then
                (sl text_22 (0 : Int) indexa_32).bind fun s_33 =>
                (lens_prim s_33).bind fun (r_34, r_35) =>
                if (!r_35) = true then
                  some (.inl ([], ([] : Str), false))
                else
                  (app 136 l_23 [({ Prim := r_34, Turned := false, Kids := [] } : lens_Lens)]).bind fun l_36 =>
                  (sl text_22 indexa_32 (text_22.length : Int)).bind fun s_37 =>
                  some (.inr (s_37, l_36))
              else
                some (.inr (text_22, l_23)))) : Option (((List lens_Lens) × Str × Bool) ⊕ (Str × (List lens_Lens)))).bind fun e => match e with
      | .inl res_38 =>
        some (.inl res_38)
      | .inr (text_39, l_40) =>
        (strings_CutPrefix text_39 ([59, 32] : Str)).bind fun (r_41, r_42) =>
        if (!r_42) = true then
          some (.inl (l_40, text_39, decide ((l_40.length : Int) ≤ (20 : Int))))
        else
          lens_row_l0 deep_2 lens_row_r k r_41 l_40
    else
      some (.inr ())
noncomputable def lens_row_k : Nat → Str → Int → Option ((List lens_Lens) × Str × Bool)
  | 0, _, _ => none
  | kr + 1, text_1, deep_2 =>
    (lim fun k => lens_row_l0 deep_2 (lens_row_k kr) k text_1 ([] : List lens_Lens)).bind fun e => match e with
    | .inl res_43 =>
      some res_43
    | .inr _ =>
      some ([], ([] : Str), false)
noncomputable def lens_row (text_1 : Str) (deep_2 : Int) : Option ((List lens_Lens) × Str × Bool) := lim fun kr => lens_row_k kr text_1 deep_2
noncomputable def lens_Parse (text_1 : Str) : Option (lens_Lens × Int) :=
  (lens_row text_1 (0 : Int)).bind fun (r_2, r_3, r_4) =>
  ((
      if ((r_2.length : Int) == (1 : Int)) = true then
        (rd r_2 (0 : Int)).bind fun x_5 =>
        some x_5
      else
        some ({ Prim := ({ Op := (0 : Int), Kind := ([] : Str), Name := ([] : Str), New := ([] : Str), Values := [], To := [] } : lens_Prim), Turned := false, Kids := r_2 } : lens_Lens)) : Option lens_Lens).bind fun out_6 =>
  (lens_Print out_6).bind fun (r_7, r_8) =>
  if (!r_4) = true then
    some (({ Prim := ({ Op := (0 : Int), Kind := ([] : Str), Name := ([] : Str), New := ([] : Str), Values := [], To := [] } : lens_Prim), Turned := false, Kids := [] } : lens_Lens), (2 : Int))
  else
    if (!(r_3 == ([] : Str))) = true then
      some (({ Prim := ({ Op := (0 : Int), Kind := ([] : Str), Name := ([] : Str), New := ([] : Str), Values := [], To := [] } : lens_Prim), Turned := false, Kids := [] } : lens_Lens), (2 : Int))
    else
      if (r_8 != (0 : Int)) = true then
        some (({ Prim := ({ Op := (0 : Int), Kind := ([] : Str), Name := ([] : Str), New := ([] : Str), Values := [], To := [] } : lens_Prim), Turned := false, Kids := [] } : lens_Lens), (2 : Int))
      else
        if (!(r_7 == text_1)) = true then
          some (({ Prim := ({ Op := (0 : Int), Kind := ([] : Str), Name := ([] : Str), New := ([] : Str), Values := [], To := [] } : lens_Prim), Turned := false, Kids := [] } : lens_Lens), (2 : Int))
        else
          some (out_6, (0 : Int))
noncomputable def diptychlaw13_shown : Option Bool :=
  (lens_Parse ([114, 101, 110, 97, 109, 101, 32, 112, 97, 114, 97, 32, 112, 59, 32, 105, 110, 118, 101, 114, 116, 40, 119, 114, 97, 112, 32, 105, 116, 101, 109, 32, 98, 111, 120, 41] : Str)).bind fun (r_1, r_2) =>
  (lens_Flat r_1).bind fun flat_3 =>
  if (r_2 == (0 : Int)) = true then
    if ((flat_3.length : Int) == (2 : Int)) = true then
      (rd flat_3 (0 : Int)).bind fun x_4 =>
      if (x_4.Op == (114 : Int)) = true then
        if (x_4.New == ([112] : Str)) = true then
          (rd flat_3 (1 : Int)).bind fun x_5 =>
          if (x_5.Op == (117 : Int)) = true then
            if (x_5.Kind == ([105, 116, 101, 109] : Str)) = true then
              some (x_5.New == ([98, 111, 120] : Str))
            else
              some false
          else
            some false
        else
          some false
      else
        some false
    else
      some false
  else
    some false
noncomputable def diptychlaw13_light_l0 (diptychlaw13_light_r : lens_Lens → Int → Option Int) : List lens_Lens → Int → Int → Option Int
  | [], i_6, left_5 =>
    some left_5
  | y_9 :: suf, i_6, left_5 =>
    if (decide (left_5 > (0 : Int))) = true then
      (diptychlaw13_light_r y_9 left_5).bind fun light_10 =>
      diptychlaw13_light_l0 diptychlaw13_light_r suf (i_6 + 1) light_10
    else
      some left_5
noncomputable def diptychlaw13_light_k : Nat → lens_Lens → Int → Option Int
  | 0, _, _ => none
  | kr + 1, l_1, left_2 =>
    (chk (l_1.Kids.length ≤ 9223372036854775807) (diptychlaw13_light_l0 (diptychlaw13_light_k kr) l_1.Kids (0 : Int) (w64 ((w64 ((w64 (left_2 - (1 : Int))) - (l_1.Prim.Values.length : Int))) - (l_1.Prim.To.length : Int))))).bind fun left_11 =>
    if (decide (left_11 < (1 : Int))) = true then
      some (-1 : Int)
    else
      some left_11
noncomputable def diptychlaw13_light (l_1 : lens_Lens) (left_2 : Int) : Option Int := lim fun kr => diptychlaw13_light_k kr l_1 left_2
noncomputable def diptychlaw13_asPrim (p_1 : lens_Prim) : Option diptychref13_Prim :=
  some ({ Op := p_1.Op, Kind := p_1.Kind, Name := p_1.Name, New := p_1.New, Values := p_1.Values, To := p_1.To } : diptychref13_Prim)
noncomputable def diptychlaw13_asLens_l0 (diptychlaw13_asLens_r : lens_Lens → Option diptychref13_Lens) : List lens_Lens → Int → (List diptychref13_Lens) → Option (List diptychref13_Lens)
  | [], i_6, v_7 =>
    some v_7
  | y_11 :: suf, i_6, v_7 =>
    (diptychlaw13_asLens_r y_11).bind fun aslens_12 =>
    (app 136 v_7 [aslens_12]).bind fun l_13 =>
    diptychlaw13_asLens_l0 diptychlaw13_asLens_r suf (i_6 + 1) l_13
noncomputable def diptychlaw13_asLens_k : Nat → lens_Lens → Option diptychref13_Lens
  | 0, _ => none
  | kr + 1, l_1 =>
    (diptychlaw13_asPrim l_1.Prim).bind fun asprim_2 =>
    (chk (l_1.Kids.length ≤ 9223372036854775807) (diptychlaw13_asLens_l0 (diptychlaw13_asLens_k kr) l_1.Kids (0 : Int) ([] : List diptychref13_Lens))).bind fun v_16 =>
    some ({ Prim := asprim_2, Turned := l_1.Turned, Kids := v_16 } : diptychref13_Lens)
noncomputable def diptychlaw13_asLens (l_1 : lens_Lens) : Option diptychref13_Lens := lim fun kr => diptychlaw13_asLens_k kr l_1
noncomputable def diptychlaw13_sameNames_l0 (b_2 : (List Str)) : List Str → Int → Option (Bool ⊕ Unit)
  | [], i_5 =>
    some (.inr ())
  | y_8 :: suf, i_5 =>
    (rd b_2 i_5).bind fun x_9 =>
    if (!(y_8 == x_9)) = true then
      some (.inl false)
    else
      diptychlaw13_sameNames_l0 b_2 suf (i_5 + 1)
noncomputable def diptychlaw13_sameNames (a_1 : (List Str)) (b_2 : (List Str)) : Option Bool :=
  if ((a_1.length : Int) != (b_2.length : Int)) = true then
    some false
  else
    (chk (a_1.length ≤ 9223372036854775807) (diptychlaw13_sameNames_l0 b_2 a_1 (0 : Int))).bind fun e => match e with
    | .inl res_10 =>
      some res_10
    | .inr _ =>
      some true
noncomputable def diptychlaw13_samePrim (a_1 : lens_Prim) (b_2 : diptychref13_Prim) : Option Bool :=
  if (a_1.Op == b_2.Op) = true then
    if (a_1.Kind == b_2.Kind) = true then
      if (a_1.Name == b_2.Name) = true then
        if (a_1.New == b_2.New) = true then
          (diptychlaw13_sameNames a_1.Values b_2.Values).bind fun samena_3 =>
          if (samena_3) = true then
            (diptychlaw13_sameNames a_1.To b_2.To).bind fun samena_4 =>
            some samena_4
          else
            some false
        else
          some false
      else
        some false
    else
      some false
  else
    some false
noncomputable def diptychlaw13_sameLens_l0 (b_2 : diptychref13_Lens) (diptychlaw13_sameLens_r : lens_Lens → diptychref13_Lens → Option Bool) : List lens_Lens → Int → Option (Bool ⊕ Unit)
  | [], i_7 =>
    some (.inr ())
  | y_11 :: suf, i_7 =>
    (rd b_2.Kids i_7).bind fun x_12 =>
    (diptychlaw13_sameLens_r y_11 x_12).bind fun samele_13 =>
    if (!samele_13) = true then
      some (.inl false)
    else
      diptychlaw13_sameLens_l0 b_2 diptychlaw13_sameLens_r suf (i_7 + 1)
noncomputable def diptychlaw13_sameLens_k : Nat → lens_Lens → diptychref13_Lens → Option Bool
  | 0, _, _ => none
  | kr + 1, a_1, b_2 =>
    (diptychlaw13_samePrim a_1.Prim b_2.Prim).bind fun samepr_3 =>
    if (!samepr_3) = true then
      some false
    else
      if (((a_1.Turned == b_2.Turned) != true)) = true then
        some false
      else
        if ((a_1.Kids.length : Int) != (b_2.Kids.length : Int)) = true then
          some false
        else
          (chk (a_1.Kids.length ≤ 9223372036854775807) (diptychlaw13_sameLens_l0 b_2 (diptychlaw13_sameLens_k kr) a_1.Kids (0 : Int))).bind fun e => match e with
          | .inl res_14 =>
            some res_14
          | .inr _ =>
            some true
noncomputable def diptychlaw13_sameLens (a_1 : lens_Lens) (b_2 : diptychref13_Lens) : Option Bool := lim fun kr => diptychlaw13_sameLens_k kr a_1 b_2
noncomputable def slices_Clone_lens_Lens (l : (List lens_Lens)) : Option (List lens_Lens) :=
  app 136 [] l
noncomputable def lens_Invert (l_1 : lens_Lens) : Option lens_Lens :=
  if (l_1.Prim.Op != (0 : Int)) = true then
    some ({ Prim := ({ Op := (0 : Int), Kind := ([] : Str), Name := ([] : Str), New := ([] : Str), Values := [], To := [] } : lens_Prim), Turned := true, Kids := [l_1] } : lens_Lens)
  else
    if (l_1.Turned) = true then
      if ((l_1.Kids.length : Int) == (1 : Int)) = true then
        (rd l_1.Kids (0 : Int)).bind fun x_2 =>
        some x_2
      else
        (slices_Clone_lens_Lens l_1.Kids).bind fun lens_3 =>
        some ({ Prim := ({ Op := (0 : Int), Kind := ([] : Str), Name := ([] : Str), New := ([] : Str), Values := [], To := [] } : lens_Prim), Turned := false, Kids := lens_3 } : lens_Lens)
    else
      (slices_Clone_lens_Lens l_1.Kids).bind fun lens_4 =>
      some ({ Prim := ({ Op := (0 : Int), Kind := ([] : Str), Name := ([] : Str), New := ([] : Str), Values := [], To := [] } : lens_Prim), Turned := true, Kids := lens_4 } : lens_Lens)
noncomputable def diptychlaw13_LensApart (a_1 : lens_Lens) (b_2 : lens_Lens) : Option Bool :=
  (diptychlaw13_shown).bind fun shown_3 =>
  if (!shown_3) = true then
    some shown_3
  else
    (diptychlaw13_light a_1 (300 : Int)).bind fun light_4 =>
    if (decide (light_4 < (0 : Int))) = true then
      some shown_3
    else
      (diptychlaw13_light b_2 (300 : Int)).bind fun light_5 =>
      if (decide (light_5 < (0 : Int))) = true then
        some shown_3
      else
        (lens_Right a_1).bind fun right_6 =>
        if (!right_6) = true then
          some shown_3
        else
          (lens_Right b_2).bind fun right_7 =>
          if (!right_7) = true then
            some shown_3
          else
            (lens_Print a_1).bind fun (r_8, r_9) =>
            (lens_Print b_2).bind fun (r_10, r_11) =>
            (lens_Invert a_1).bind fun invert_12 =>
            (lens_Print invert_12).bind fun (r_13, r_14) =>
            if (r_9 != (0 : Int)) = true then
              some false
            else
              if (r_11 != (0 : Int)) = true then
                some false
              else
                (diptychlaw13_asLens b_2).bind fun aslens_15 =>
                (diptychlaw13_sameLens a_1 aslens_15).bind fun samele_16 =>
                if ((((r_8 == r_10) == samele_16) != true)) = true then
                  some false
                else
                  if (r_14 == (2 : Int)) = true then
                    if (r_13 == ([] : Str)) = true then
                      (lens_Invert a_1).bind fun invert_17 =>
                      (lens_Right invert_17).bind fun right_18 =>
                      if (!right_18) = true then
                        some true
                      else
                        if (r_14 == (0 : Int)) = true then
                          some (!(r_13 == r_8))
                        else
                          some false
                    else
                      if (r_14 == (0 : Int)) = true then
                        some (!(r_13 == r_8))
                      else
                        some false
                  else
                    if (r_14 == (0 : Int)) = true then
                      some (!(r_13 == r_8))
                    else
                      some false

end Go.Proofs.YtpjdafhmneiohaaDoor
