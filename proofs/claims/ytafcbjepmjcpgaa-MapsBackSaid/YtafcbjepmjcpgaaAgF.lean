/- The functions of the program, written over numbers and rows. -/
import Derived.Test.YtafcbjepmjcpgaaAgT
namespace Go.Proofs.Ytafcbjepmjcpgaa
set_option linter.unusedSimpArgs false
set_option linter.unusedVariables false
open Go
set_option maxRecDepth 100000

noncomputable def maps_Range_end (r_1 : maps_Range) : Option Int :=
  some (w64 (r_1.Pos + r_1.Old))
noncomputable def maps_Range_side (r_1 : maps_Range) (pos_2 : Int) (right_3 : Bool) : Option Bool :=
  if (r_1.Old == (0 : Int)) = true then
    some right_3
  else
    if (pos_2 == r_1.Pos) = true then
      some false
    else
      if (right_3) = true then
        some true
      else
        (maps_Range_end r_1).bind fun end_4 =>
        some (pos_2 == end_4)
noncomputable def maps_To_l0 (pos_2 : Int) (right_3 : Bool) : List maps_Range → Int → Int → Option (Int ⊕ Int)
  | [], v_8, shift_7 =>
    some (.inr shift_7)
  | y_12 :: suf, v_8, shift_7 =>
    (maps_Range_end y_12).bind fun end_13 =>
    if (decide (end_13 < pos_2)) = true then
      maps_To_l0 pos_2 right_3 suf (v_8 + 1) (w64 (shift_7 + (w64 (y_12.New - y_12.Old))))
    else
      if (decide (y_12.Pos > pos_2)) = true then
        some (.inr shift_7)
      else
        (maps_Range_side y_12 pos_2 right_3).bind fun side_14 =>
        if (side_14) = true then
          some (.inl (w64 ((w64 (y_12.Pos + shift_7)) + y_12.New)))
        else
          some (.inl (w64 (y_12.Pos + shift_7)))
noncomputable def maps_To (m_1 : (List maps_Range)) (pos_2 : Int) (right_3 : Bool) : Option Int :=
  (chk (m_1.length ≤ 9223372036854775807) (maps_To_l0 pos_2 right_3 m_1 (0 : Int) (0 : Int))).bind fun e => match e with
  | .inl res_15 =>
    some res_15
  | .inr shift_16 =>
    some (w64 (pos_2 + shift_16))
noncomputable def diptychlaw10_shown : Option Bool :=
  (maps_To [({ Pos := (3 : Int), Old := (2 : Int), New := (5 : Int) } : maps_Range)] (3 : Int) true).bind fun to_1 =>
  if (to_1 == (3 : Int)) = true then
    (maps_To [({ Pos := (3 : Int), Old := (2 : Int), New := (5 : Int) } : maps_Range)] (4 : Int) false).bind fun to_2 =>
    if (to_2 == (3 : Int)) = true then
      (maps_To [({ Pos := (3 : Int), Old := (2 : Int), New := (5 : Int) } : maps_Range)] (4 : Int) true).bind fun to_3 =>
      if (to_3 == (8 : Int)) = true then
        (maps_To [({ Pos := (3 : Int), Old := (2 : Int), New := (5 : Int) } : maps_Range)] (5 : Int) false).bind fun to_4 =>
        if (to_4 == (8 : Int)) = true then
          (maps_To [({ Pos := (3 : Int), Old := (2 : Int), New := (5 : Int) } : maps_Range)] (6 : Int) false).bind fun to_5 =>
          some (to_5 == (9 : Int))
        else
          some false
      else
        some false
    else
      some false
  else
    some false
noncomputable def maps_Right_l0 : List maps_Range → Int → Int → Option (Bool ⊕ Unit)
  | [], v_5, last_4 =>
    some (.inr ())
  | y_8 :: suf, v_5, last_4 =>
    if (decide ((if y_8.New < (if y_8.Old < y_8.Pos then y_8.Old else y_8.Pos) then y_8.New else (if y_8.Old < y_8.Pos then y_8.Old else y_8.Pos)) < (0 : Int))) = true then
      some (.inl false)
    else
      if (decide ((if y_8.New > (if y_8.Old > y_8.Pos then y_8.Old else y_8.Pos) then y_8.New else (if y_8.Old > y_8.Pos then y_8.Old else y_8.Pos)) > (1048576 : Int))) = true then
        some (.inl false)
      else
        if ((w64 (y_8.Old + y_8.New)) == (0 : Int)) = true then
          some (.inl false)
        else
          if (decide (y_8.Pos ≤ last_4)) = true then
            some (.inl false)
          else
            (maps_Range_end y_8).bind fun end_9 =>
            maps_Right_l0 suf (v_5 + 1) end_9
noncomputable def maps_Right (m_1 : (List maps_Range)) : Option Bool :=
  (chk (m_1.length ≤ 9223372036854775807) (maps_Right_l0 m_1 (0 : Int) (-1 : Int))).bind fun e => match e with
  | .inl res_10 =>
    some res_10
  | .inr _ =>
    some true
noncomputable def maps_Through_l0 (right_3 : Bool) : List (List maps_Range) → Int → Int → Option Int
  | [], v_7, pos_6 =>
    some pos_6
  | y_10 :: suf, v_7, pos_6 =>
    (maps_To y_10 pos_6 right_3).bind fun to_11 =>
    maps_Through_l0 right_3 suf (v_7 + 1) to_11
noncomputable def maps_Through (l_1 : (List (List maps_Range))) (pos_2 : Int) (right_3 : Bool) : Option Int :=
  (chk (l_1.length ≤ 9223372036854775807) (maps_Through_l0 right_3 l_1 (0 : Int) pos_2)).bind fun pos_12 =>
  some pos_12
noncomputable def maps_Grows_l0 : List maps_Range → Int → Int → Option Int
  | [], v_4, n_3 =>
    some n_3
  | y_6 :: suf, v_4, n_3 =>
    maps_Grows_l0 suf (v_4 + 1) (w64 (n_3 + (w64 (y_6.New - y_6.Old))))
noncomputable def maps_Grows (m_1 : (List maps_Range)) : Option Int :=
  (chk (m_1.length ≤ 9223372036854775807) (maps_Grows_l0 m_1 (0 : Int) (0 : Int))).bind fun n_7 =>
  some n_7
noncomputable def maps_Turn_l0 (m_1 : (List maps_Range)) : List maps_Range → Int → (List maps_Range) → Option (List maps_Range)
  | [], v_6, out_7 =>
    some out_7
  | y_12 :: suf, v_6, out_7 =>
    (sl m_1 (0 : Int) v_6).bind fun s_13 =>
    (maps_Grows s_13).bind fun grows_14 =>
    (app 24 out_7 [({ Pos := w64 (y_12.Pos + grows_14), Old := y_12.New, New := y_12.Old } : maps_Range)]).bind fun l_15 =>
    maps_Turn_l0 m_1 suf (v_6 + 1) l_15
noncomputable def maps_Turn (m_1 : (List maps_Range)) : Option (List maps_Range) :=
  (chk (m_1.length ≤ 9223372036854775807) (maps_Turn_l0 m_1 m_1 (0 : Int) [])).bind fun out_18 =>
  some out_18
noncomputable def diptychlaw10_MapsTurned_l0 (pos_2 : Int) (throug_9 : Int) : List maps_Range → Int → Option (Bool ⊕ Unit)
  | [], i_11 =>
    some (.inr ())
  | y_13 :: suf, i_11 =>
    if (decide (pos_2 ≥ y_13.Pos)) = true then
      if (decide (pos_2 ≤ (w64 (y_13.Pos + y_13.Old)))) = true then
        if (throug_9 == y_13.Pos) = true then
          some (.inl true)
        else
          some (.inl (throug_9 == (w64 (y_13.Pos + y_13.Old))))
      else
        diptychlaw10_MapsTurned_l0 pos_2 throug_9 suf (i_11 + 1)
    else
      diptychlaw10_MapsTurned_l0 pos_2 throug_9 suf (i_11 + 1)
noncomputable def diptychlaw10_MapsTurned (m_1 : (List maps_Range)) (pos_2 : Int) (right_3 : Bool) : Option Bool :=
  (diptychlaw10_shown).bind fun shown_4 =>
  if (!shown_4) = true then
    some shown_4
  else
    if (decide ((m_1.length : Int) > (100 : Int))) = true then
      some shown_4
    else
      (maps_Right m_1).bind fun right_5 =>
      if (!right_5) = true then
        some shown_4
      else
        if (decide (pos_2 < (0 : Int))) = true then
          some shown_4
        else
          if (decide (pos_2 > (33554432 : Int))) = true then
            some shown_4
          else
            (maps_Turn m_1).bind fun turn_6 =>
            (maps_Right turn_6).bind fun right_7 =>
            if (!right_7) = true then
              some true
            else
              (maps_Turn m_1).bind fun turn_8 =>
              (maps_Through [m_1, turn_8] pos_2 right_3).bind fun throug_9 =>
              (chk (m_1.length ≤ 9223372036854775807) (diptychlaw10_MapsTurned_l0 pos_2 throug_9 m_1 (0 : Int))).bind fun e => match e with
              | .inl res_14 =>
                some res_14
              | .inr _ =>
                some (throug_9 == pos_2)
noncomputable def maps_Lost_l0 (pos_2 : Int) : List maps_Range → Int → Option (Bool ⊕ Unit)
  | [], v_5 =>
    some (.inr ())
  | y_8 :: suf, v_5 =>
    if (decide (y_8.Pos < pos_2)) = true then
      (maps_Range_end y_8).bind fun end_9 =>
      if (decide (pos_2 < end_9)) = true then
        some (.inl true)
      else
        maps_Lost_l0 pos_2 suf (v_5 + 1)
    else
      maps_Lost_l0 pos_2 suf (v_5 + 1)
noncomputable def maps_Lost (m_1 : (List maps_Range)) (pos_2 : Int) : Option Bool :=
  (chk (m_1.length ≤ 9223372036854775807) (maps_Lost_l0 pos_2 m_1 (0 : Int))).bind fun e => match e with
  | .inl res_10 =>
    some res_10
  | .inr _ =>
    some false
noncomputable def diptychref10_Right_l0 (m_1 : (List diptychref10_Range)) : List diptychref10_Range → Int → Option (Bool ⊕ Unit)
  | [], i_4 =>
    some (.inr ())
  | y_7 :: suf, i_4 =>
    if (decide (y_7.Pos < (0 : Int))) = true then
      some (.inl false)
    else
      if (decide (y_7.Old < (0 : Int))) = true then
        some (.inl false)
      else
        if (decide (y_7.New < (0 : Int))) = true then
          some (.inl false)
        else
          if (decide (y_7.Pos > (1048576 : Int))) = true then
            some (.inl false)
          else
            if (decide (y_7.Old > (1048576 : Int))) = true then
              some (.inl false)
            else
              if (decide (y_7.New > (1048576 : Int))) = true then
                some (.inl false)
              else
                if ((w64 (y_7.Old + y_7.New)) == (0 : Int)) = true then
                  some (.inl false)
                else
                  if (decide (i_4 > (0 : Int))) = true then
                    (rd m_1 (w64 (i_4 - (1 : Int)))).bind fun x_8 =>
                    if (decide (y_7.Pos ≤ (w64 (x_8.Pos + x_8.Old)))) = true then
                      some (.inl false)
                    else
                      diptychref10_Right_l0 m_1 suf (i_4 + 1)
                  else
                    diptychref10_Right_l0 m_1 suf (i_4 + 1)
noncomputable def diptychref10_Right (m_1 : (List diptychref10_Range)) : Option Bool :=
  (chk (m_1.length ≤ 9223372036854775807) (diptychref10_Right_l0 m_1 m_1 (0 : Int))).bind fun e => match e with
  | .inl res_9 =>
    some res_9
  | .inr _ =>
    some true
noncomputable def diptychlaw10_as_l0 : List maps_Range → Int → (List diptychref10_Range) → Option (List diptychref10_Range)
  | [], i_4, out_5 =>
    some out_5
  | y_8 :: suf, i_4, out_5 =>
    (app 24 out_5 [({ Pos := y_8.Pos, Old := y_8.Old, New := y_8.New } : diptychref10_Range)]).bind fun l_9 =>
    diptychlaw10_as_l0 suf (i_4 + 1) l_9
noncomputable def diptychlaw10_as (m_1 : (List maps_Range)) : Option (List diptychref10_Range) :=
  (chk (m_1.length ≤ 9223372036854775807) (diptychlaw10_as_l0 m_1 (0 : Int) [])).bind fun out_12 =>
  some out_12
noncomputable def diptychref10_Grows_l0 : List diptychref10_Range → Int → Int → Option Int
  | [], i_4, n_3 =>
    some n_3
  | y_6 :: suf, i_4, n_3 =>
    diptychref10_Grows_l0 suf (i_4 + 1) (w64 ((w64 (n_3 + y_6.New)) - y_6.Old))
noncomputable def diptychref10_Grows (m_1 : (List diptychref10_Range)) : Option Int :=
  (chk (m_1.length ≤ 9223372036854775807) (diptychref10_Grows_l0 m_1 (0 : Int) (0 : Int))).bind fun n_7 =>
  some n_7
noncomputable def diptychlaw10_same_l0 (b_2 : (List diptychref10_Range)) : List maps_Range → Int → Option (Bool ⊕ Unit)
  | [], i_5 =>
    some (.inr ())
  | y_8 :: suf, i_5 =>
    (rd b_2 i_5).bind fun x_9 =>
    if (y_8.Pos != x_9.Pos) = true then
      some (.inl false)
    else
      if (y_8.Old != x_9.Old) = true then
        some (.inl false)
      else
        if (y_8.New != x_9.New) = true then
          some (.inl false)
        else
          diptychlaw10_same_l0 b_2 suf (i_5 + 1)
noncomputable def diptychlaw10_same (a_1 : (List maps_Range)) (b_2 : (List diptychref10_Range)) : Option Bool :=
  if ((a_1.length : Int) != (b_2.length : Int)) = true then
    some false
  else
    (chk (a_1.length ≤ 9223372036854775807) (diptychlaw10_same_l0 b_2 a_1 (0 : Int))).bind fun e => match e with
    | .inl res_10 =>
      some res_10
    | .inr _ =>
      some true
noncomputable def diptychref10_Turn_l0 (m_1 : (List diptychref10_Range)) : List diptychref10_Range → Int → (List diptychref10_Range) → Option (List diptychref10_Range)
  | [], i_6, out_7 =>
    some out_7
  | y_12 :: suf, i_6, out_7 =>
    (sl m_1 (0 : Int) i_6).bind fun s_13 =>
    (diptychref10_Grows s_13).bind fun grows_14 =>
    (app 24 out_7 [({ Pos := w64 (y_12.Pos + grows_14), Old := y_12.New, New := y_12.Old } : diptychref10_Range)]).bind fun l_15 =>
    diptychref10_Turn_l0 m_1 suf (i_6 + 1) l_15
noncomputable def diptychref10_Turn (m_1 : (List diptychref10_Range)) : Option (List diptychref10_Range) :=
  (chk (m_1.length ≤ 9223372036854775807) (diptychref10_Turn_l0 m_1 m_1 (0 : Int) [])).bind fun out_18 =>
  some out_18
noncomputable def diptychref10_at_l0 (pos_2 : Int) : List diptychref10_Range → Int → Option (Int ⊕ Unit)
  | [], i_4 =>
    some (.inr ())
  | y_6 :: suf, i_4 =>
    if (decide (pos_2 ≥ y_6.Pos)) = true then
      if (decide (pos_2 ≤ (w64 (y_6.Pos + y_6.Old)))) = true then
        some (.inl i_4)
      else
        diptychref10_at_l0 pos_2 suf (i_4 + 1)
    else
      diptychref10_at_l0 pos_2 suf (i_4 + 1)
noncomputable def diptychref10_at (m_1 : (List diptychref10_Range)) (pos_2 : Int) : Option Int :=
  (chk (m_1.length ≤ 9223372036854775807) (diptychref10_at_l0 pos_2 m_1 (0 : Int))).bind fun e => match e with
  | .inl res_7 =>
    some res_7
  | .inr _ =>
    some (-1 : Int)
noncomputable def diptychref10_To_l0 (pos_2 : Int) : List diptychref10_Range → Int → Option Int
  | [], n_6 =>
    some n_6
  | y_8 :: suf, n_6 =>
    if (decide (y_8.Pos < pos_2)) = true then
      diptychref10_To_l0 pos_2 suf (n_6 + 1)
    else
      some n_6
noncomputable def diptychref10_To (m_1 : (List diptychref10_Range)) (pos_2 : Int) (right_3 : Bool) : Option Int :=
  (diptychref10_at m_1 pos_2).bind fun at_4 =>
  if (decide (at_4 < (0 : Int))) = true then
    (chk (m_1.length ≤ 9223372036854775807) (diptychref10_To_l0 pos_2 m_1 (0 : Int))).bind fun n_9 =>
    (sl m_1 (0 : Int) n_9).bind fun s_11 =>
    (diptychref10_Grows s_11).bind fun grows_12 =>
    some (w64 (pos_2 + grows_12))
  else
    (rd m_1 at_4).bind fun x_13 =>
    ((
        if (decide (x_13.Old > (0 : Int))) = true then
          if (pos_2 == x_13.Pos) = true then
            some false
          else
            some right_3
        else
          some right_3) : Option Bool).bind fun right_14 =>
    ((
        if (decide (x_13.Old > (0 : Int))) = true then
          if (pos_2 == (w64 (x_13.Pos + x_13.Old))) = true then
            some true
          else
            some right_14
        else
          some right_14) : Option Bool).bind fun right_15 =>
    (sl m_1 (0 : Int) at_4).bind fun s_16 =>
    (diptychref10_Grows s_16).bind fun grows_17 =>
    if (right_15) = true then
      some (w64 ((w64 (x_13.Pos + grows_17)) + x_13.New))
    else
      some (w64 (x_13.Pos + grows_17))
noncomputable def diptychref10_Lost (m_1 : (List diptychref10_Range)) (pos_2 : Int) : Option Bool :=
  (diptychref10_at m_1 pos_2).bind fun at_3 =>
  if (decide (at_3 ≥ (0 : Int))) = true then
    (rd m_1 at_3).bind fun x_4 =>
    if (decide (pos_2 > x_4.Pos)) = true then
      some (decide (pos_2 < (w64 (x_4.Pos + x_4.Old))))
    else
      some false
  else
    some false
noncomputable def diptychlaw10_MapsTell (m_1 : (List maps_Range)) (pos_2 : Int) (right_3 : Bool) : Option Bool :=
  (diptychlaw10_shown).bind fun shown_4 =>
  if (!shown_4) = true then
    some shown_4
  else
    if (decide ((m_1.length : Int) > (100 : Int))) = true then
      some shown_4
    else
      (maps_Right m_1).bind fun right_5 =>
      (diptychlaw10_as m_1).bind fun as_6 =>
      (diptychref10_Right as_6).bind fun right_7 =>
      if (((right_5 == right_7) != true)) = true then
        some false
      else
        (maps_Right m_1).bind fun right_8 =>
        if (!right_8) = true then
          some true
        else
          if (decide (pos_2 > (1073741824 : Int))) = true then
            some true
          else
            if (decide (pos_2 < (-1073741824 : Int))) = true then
              some true
            else
              (diptychlaw10_as m_1).bind fun as_9 =>
              (maps_Grows m_1).bind fun grows_10 =>
              (diptychref10_Grows as_9).bind fun grows_11 =>
              if (grows_10 == grows_11) = true then
                (maps_Turn m_1).bind fun turn_12 =>
                (diptychref10_Turn as_9).bind fun turn_13 =>
                (diptychlaw10_same turn_12 turn_13).bind fun same_14 =>
                if (same_14) = true then
                  (maps_To m_1 pos_2 right_3).bind fun to_15 =>
                  (diptychref10_To as_9 pos_2 right_3).bind fun to_16 =>
                  if (to_15 == to_16) = true then
                    (maps_Lost m_1 pos_2).bind fun lost_17 =>
                    (diptychref10_Lost as_9 pos_2).bind fun lost_18 =>
                    some ((lost_17 == lost_18) != false)
                  else
                    some false
                else
                  some false
              else
                some false
noncomputable def diptychlaw10_MapsBack_l0 (m_1 : (List maps_Range)) (pos_2 : Int) (turn_5 : (List maps_Range)) : List maps_Range → Int → Option (Bool ⊕ Unit)
  | [], i_15 =>
    some (.inr ())
  | y_19 :: suf, i_15 =>
    if (decide (pos_2 ≥ y_19.Pos)) = true then
      if (decide (pos_2 ≤ (w64 (y_19.Pos + y_19.Old)))) = true then
        (maps_To m_1 y_19.Pos false).bind fun to_20 =>
        (maps_To turn_5 to_20 false).bind fun to_21 =>
        some (.inl (to_21 == y_19.Pos))
      else
        diptychlaw10_MapsBack_l0 m_1 pos_2 turn_5 suf (i_15 + 1)
    else
      diptychlaw10_MapsBack_l0 m_1 pos_2 turn_5 suf (i_15 + 1)
noncomputable def diptychlaw10_MapsBack (m_1 : (List maps_Range)) (pos_2 : Int) : Option Bool :=
  (diptychlaw10_shown).bind fun shown_3 =>
  if (!shown_3) = true then
    some shown_3
  else
    if (decide ((m_1.length : Int) > (100 : Int))) = true then
      some shown_3
    else
      (maps_Right m_1).bind fun right_4 =>
      if (!right_4) = true then
        some shown_3
      else
        if (decide (pos_2 < (0 : Int))) = true then
          some shown_3
        else
          if (decide (pos_2 > (33554432 : Int))) = true then
            some shown_3
          else
            (maps_Turn m_1).bind fun turn_5 =>
            (maps_Right turn_5).bind fun right_6 =>
            if (!right_6) = true then
              some true
            else
              (maps_Turn turn_5).bind fun turn_7 =>
              (diptychlaw10_as m_1).bind fun as_8 =>
              (diptychlaw10_same turn_7 as_8).bind fun same_9 =>
              if (!same_9) = true then
                some false
              else
                (maps_Grows turn_5).bind fun grows_10 =>
                (maps_Grows m_1).bind fun grows_11 =>
                if (grows_10 != (w64 (0 - grows_11))) = true then
                  some false
                else
                  (chk (m_1.length ≤ 9223372036854775807) (diptychlaw10_MapsBack_l0 m_1 pos_2 turn_5 m_1 (0 : Int))).bind fun e => match e with
                  | .inl res_22 =>
                    some res_22
                  | .inr _ =>
                    (maps_To m_1 pos_2 false).bind fun to_25 =>
                    (maps_To m_1 pos_2 true).bind fun to_26 =>
                    if (to_25 == to_26) = true then
                      (maps_To turn_5 to_25 false).bind fun to_27 =>
                      if (to_27 == pos_2) = true then
                        (maps_To turn_5 to_25 true).bind fun to_28 =>
                        if (to_28 == pos_2) = true then
                          (maps_Lost m_1 pos_2).bind fun lost_29 =>
                          if (!lost_29) = true then
                            (maps_Lost turn_5 to_25).bind fun lost_30 =>
                            some (!lost_30)
                          else
                            some false
                        else
                          some false
                      else
                        some false
                    else
                      some false
noncomputable def diptychlaw10_MapsStay (x_1 : maps_Range) (pos_2 : Int) : Option Bool :=
  (diptychlaw10_shown).bind fun shown_3 =>
  if (!shown_3) = true then
    some shown_3
  else
    (maps_Right [x_1]).bind fun right_4 =>
    if (!right_4) = true then
      some shown_3
    else
      if (decide (pos_2 < (0 : Int))) = true then
        some shown_3
      else
        if (decide (pos_2 > (33554432 : Int))) = true then
          some shown_3
        else
          (maps_To [] pos_2 true).bind fun to_5 =>
          if (to_5 != pos_2) = true then
            some false
          else
            (maps_To [] pos_2 false).bind fun to_6 =>
            if (to_6 != pos_2) = true then
              some false
            else
              (maps_Lost [] pos_2).bind fun lost_7 =>
              if (lost_7) = true then
                some false
              else
                (maps_Grows []).bind fun grows_8 =>
                if (grows_8 != (0 : Int)) = true then
                  some false
                else
                  (maps_Turn []).bind fun turn_9 =>
                  if ((turn_9.length : Int) != (0 : Int)) = true then
                    some false
                  else
                    (maps_Right []).bind fun right_10 =>
                    if (!right_10) = true then
                      some false
                    else
                      (maps_To [x_1] pos_2 false).bind fun to_11 =>
                      (maps_To [x_1] pos_2 true).bind fun to_12 =>
                      if (decide (pos_2 < x_1.Pos)) = true then
                        if (to_11 == pos_2) = true then
                          if (to_12 == pos_2) = true then
                            (maps_Lost [x_1] pos_2).bind fun lost_13 =>
                            some (!lost_13)
                          else
                            some false
                        else
                          some false
                      else
                        if (decide (pos_2 > (w64 (x_1.Pos + x_1.Old)))) = true then
                          if (to_11 == (w64 ((w64 (pos_2 + x_1.New)) - x_1.Old))) = true then
                            if (to_12 == to_11) = true then
                              (maps_Lost [x_1] pos_2).bind fun lost_14 =>
                              some (!lost_14)
                            else
                              some false
                          else
                            some false
                        else
                          if (to_11 == x_1.Pos) = true then
                            if (to_12 == x_1.Pos) = true then
                              (maps_Lost [x_1] pos_2).bind fun lost_15 =>
                              if (decide (pos_2 > x_1.Pos)) = true then
                                if (((lost_15 == (decide (pos_2 < (w64 (x_1.Pos + x_1.Old))))) != false)) = true then
                                  (maps_Grows [x_1]).bind fun grows_16 =>
                                  some (grows_16 == (w64 (x_1.New - x_1.Old)))
                                else
                                  some false
                              else
                                if (((lost_15 == false) != false)) = true then
                                  (maps_Grows [x_1]).bind fun grows_17 =>
                                  some (grows_17 == (w64 (x_1.New - x_1.Old)))
                                else
                                  some false
                            else
                              if (to_12 == (w64 (x_1.Pos + x_1.New))) = true then
                                (maps_Lost [x_1] pos_2).bind fun lost_18 =>
                                if (decide (pos_2 > x_1.Pos)) = true then
                                  if (((lost_18 == (decide (pos_2 < (w64 (x_1.Pos + x_1.Old))))) != false)) = true then
                                    (maps_Grows [x_1]).bind fun grows_19 =>
                                    some (grows_19 == (w64 (x_1.New - x_1.Old)))
                                  else
                                    some false
                                else
                                  if (((lost_18 == false) != false)) = true then
                                    (maps_Grows [x_1]).bind fun grows_20 =>
                                    some (grows_20 == (w64 (x_1.New - x_1.Old)))
                                  else
                                    some false
                              else
                                some false
                          else
                            if (to_11 == (w64 (x_1.Pos + x_1.New))) = true then
                              if (to_12 == x_1.Pos) = true then
                                (maps_Lost [x_1] pos_2).bind fun lost_21 =>
                                if (decide (pos_2 > x_1.Pos)) = true then
                                  if (((lost_21 == (decide (pos_2 < (w64 (x_1.Pos + x_1.Old))))) != false)) = true then
                                    (maps_Grows [x_1]).bind fun grows_22 =>
                                    some (grows_22 == (w64 (x_1.New - x_1.Old)))
                                  else
                                    some false
                                else
                                  if (((lost_21 == false) != false)) = true then
                                    (maps_Grows [x_1]).bind fun grows_23 =>
                                    some (grows_23 == (w64 (x_1.New - x_1.Old)))
                                  else
                                    some false
                              else
                                if (to_12 == (w64 (x_1.Pos + x_1.New))) = true then
                                  (maps_Lost [x_1] pos_2).bind fun lost_24 =>
                                  if (decide (pos_2 > x_1.Pos)) = true then
                                    if (((lost_24 == (decide (pos_2 < (w64 (x_1.Pos + x_1.Old))))) != false)) = true then
                                      (maps_Grows [x_1]).bind fun grows_25 =>
                                      some (grows_25 == (w64 (x_1.New - x_1.Old)))
                                    else
                                      some false
                                  else
                                    if (((lost_24 == false) != false)) = true then
                                      (maps_Grows [x_1]).bind fun grows_26 =>
                                      some (grows_26 == (w64 (x_1.New - x_1.Old)))
                                    else
                                      some false
                                else
                                  some false
                            else
                              some false

end Go.Proofs.Ytafcbjepmjcpgaa
