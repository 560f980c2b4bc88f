/- Texts of the proof of stepMarksCard -/
import Derived.Test.YtclohbgnaopjfaaDoorAgT
import Derived.Test.YtclohbgnaopjfaaDoorAgBld
import Derived.Test.YtclohbgnaopjfaaDoorAgWith
import Derived.Test.YtclohbgnaopjfaaDoorAgLib
namespace Go.Proofs.YtclohbgnaopjfaaDoor
set_option linter.unusedSimpArgs false
set_option linter.unusedVariables false
open Go
set_option maxRecDepth 100000
noncomputable def vC (n_1 : za) : Option Bool :=
  some (n_1.Kind == ([116, 101, 120, 116] : Str))
noncomputable def zI (s_1 : Str) : Nat → Int → Nat → Option Int
  | 0, _, _ => none
  | k + 1, n_2, v_3 =>
    if (decide (v_3 < s_1.length)) = true then
      zI s_1 k (w64 (n_2 + (1 : Int))) (v_3 + apM s_1 v_3)
    else
      some n_2
noncomputable def qU (s_1 : Str) : Option Int :=
  (lim fun k => zI s_1 k (0 : Int) 0).bind fun n_4 =>
  some n_4
noncomputable def vW (node_Size_r : za → Option Int) : List za → Int → Int → Option Int
  | [], v_5, Xh =>
    some Xh
  | y_8 :: suf, v_5, Xh =>
    (node_Size_r y_8).bind fun apo =>
    vW node_Size_r suf (v_5 + 1) (w64 (Xh + apo))
mutual
noncomputable def xg : Nat → (List za) → Option Int
  | 0, _ => none
  | kr + 1, l_1 =>
    (chk (l_1.length ≤ 9223372036854775807) (vW (vY kr) l_1 (0 : Int) (0 : Int))).bind fun acd =>
    some acd
noncomputable def vY : Nat → za → Option Int
  | 0, _ => none
  | kr + 1, n_1 =>
    (vC n_1).bind fun xL =>
    if (xL) = true then
      (qU n_1.Text).bind fun aj7 =>
      some aj7
    else
      ((xg kr) n_1.Kids).bind fun am8 =>
      some (w64 ((2 : Int) + am8))
end
noncomputable def jI (l_1 : (List za)) : Option Int := lim fun kr => xg kr l_1
noncomputable def yl (n_1 : za) : Option Int := lim fun kr => vY kr n_1
noncomputable def wB (s : Str) : Option Bool :=
  chk (s.length ≤ 9223372036854775807) (some (Lib.validD s))
noncomputable def zW (vD : (List Str)) : List Str → Int → Option (Bool ⊕ Unit)
  | [], v_5 =>
    some (.inr ())
  | y_8 :: suf, v_5 =>
    (rd vD v_5).bind fun x_9 =>
    if (!(y_8 == x_9)) = true then
      some (.inl false)
    else
      zW vD suf (v_5 + 1)
noncomputable def slices_Equal_string (kI : (List Str)) (vD : (List Str)) : Option Bool :=
  if ((kI.length : Int) != (vD.length : Int)) = true then
    some false
  else
    (chk (kI.length ≤ 9223372036854775807) (zW vD kI (0 : Int))).bind fun e => match e with
    | .inl wG =>
      some wG
    | .inr _ =>
      some true
noncomputable def Zg (a_1 : za) (b_2 : za) : Option Bool :=
  (vC a_1).bind fun Ky =>
  if (Ky) = true then
    (vC b_2).bind fun af9 =>
    if (af9) = true then
      (slices_Equal_string a_1.Marks b_2.Marks).bind fun akV =>
      some akV
    else
      some false
  else
    some false
noncomputable def WV (s : Str) (cutset : Str) : Option Str :=
  chk (s.length ≤ 9223372036854775807 ∧ cutset.length < 4294967281 ∧ cutset.all (fun b => decide (b.toNat < 128)) = true) (some (Lib.trimS s cutset))
noncomputable def x9 (s_1 : Str) : Option Bool :=
  (WV s_1 ([97, 98, 99, 100, 101, 102, 103, 104, 105, 106, 107, 108, 109, 110, 111, 112, 113, 114, 115, 116, 117, 118, 119, 120, 121, 122] : Str)).bind fun alR =>
  if (alR == ([] : Str)) = true then
    if (!(s_1 == ([] : Str))) = true then
      if (decide ((s_1.length : Int) ≤ (8 : Int))) = true then
        some (!(s_1 == ([116, 101, 120, 116] : Str)))
      else
        some false
    else
      some false
  else
    some false
noncomputable def kV (l_1 : (List Str)) : List Str → Int → Option (Bool ⊕ Unit)
  | [], v_5 =>
    some (.inr ())
  | y_9 :: suf, v_5 =>
    (x9 y_9).bind fun ah5 =>
    if (!ah5) = true then
      some (.inl false)
    else
      if (decide (v_5 > (0 : Int))) = true then
        (rd l_1 (w64 (v_5 - (1 : Int)))).bind fun agB =>
        if ((Op.bytesLess y_9 agB || y_9 == agB)) = true then
          some (.inl false)
        else
          kV l_1 suf (v_5 + 1)
      else
        kV l_1 suf (v_5 + 1)
noncomputable def Kh (l_1 : (List Str)) : Option Bool :=
  (chk (l_1.length ≤ 9223372036854775807) (kV l_1 l_1 (0 : Int))).bind fun e => match e with
  | .inl afa =>
    some afa
  | .inr _ =>
    some true
noncomputable def QF (s_1 : Str) : Option Bool :=
  if (decide ((s_1.length : Int) ≤ (40 : Int))) = true then
    (wB s_1).bind fun ajt =>
    some ajt
  else
    some false
noncomputable def ve : List zg → Int → (List Str) → Option (Bool ⊕ (List Str))
  | [], v_8, W9 =>
    some (.inr W9)
  | aqK :: suf, v_8, W9 =>
    (QF aqK.Value).bind fun afK =>
    if (!afK) = true then
      some (.inl false)
    else
      (app 16 W9 [aqK.Name]).bind fun atD =>
      ve suf (v_8 + 1) atD
noncomputable def w9 (n_1 : za) (node_formed_r : za → Option Bool) : List za → Int → Option (Bool ⊕ Unit)
  | [], Xr =>
    some (.inr ())
  | aoI :: suf, Xr =>
    (node_formed_r aoI).bind fun acA =>
    if (!acA) = true then
      some (.inl false)
    else
      if (decide (Xr > (0 : Int))) = true then
        (rd n_1.Kids (w64 (Xr - (1 : Int)))).bind fun asW =>
        (Zg asW aoI).bind fun afp =>
        if (afp) = true then
          some (.inl false)
        else
          w9 n_1 node_formed_r suf (Xr + 1)
      else
        w9 n_1 node_formed_r suf (Xr + 1)
noncomputable def kD : Nat → za → Option Bool
  | 0, _ => none
  | kr + 1, n_1 =>
    (vC n_1).bind fun xL =>
    if (xL) = true then
      if (!(n_1.Text == ([] : Str))) = true then
        (wB n_1.Text).bind fun afo =>
        if (afo) = true then
          (Kh n_1.Marks).bind fun alu =>
          if (alu) = true then
            some ((w64 ((n_1.zu.length : Int) + (n_1.Kids.length : Int))) == (0 : Int))
          else
            some false
        else
          some false
      else
        some false
    else
      (chk (n_1.zu.length ≤ 9223372036854775807) (ve n_1.zu (0 : Int) ([] : List Str))).bind fun e => match e with
      | .inl aeN =>
        some aeN
      | .inr V4 =>
        (x9 n_1.Kind).bind fun aiY =>
        if (!aiY) = true then
          some false
        else
          if (!(n_1.Text == ([] : Str))) = true then
            some false
          else
            if (decide ((n_1.Marks.length : Int) > (0 : Int))) = true then
              some false
            else
              (Kh V4).bind fun aib =>
              if (!aib) = true then
                some false
              else
                (chk (n_1.Kids.length ≤ 9223372036854775807) (w9 n_1 (kD kr) n_1.Kids (0 : Int))).bind fun e => match e with
                | .inl agr =>
                  some agr
                | .inr _ =>
                  some true
noncomputable def Q0 (n_1 : za) : Option Bool := lim fun kr => kD kr n_1
noncomputable def kY (node_Depth_r : za → Option Int) : List za → Int → Int → Option Int
  | [], v_6, yg =>
    some yg
  | y_9 :: suf, v_6, yg =>
    (node_Depth_r y_9).bind fun ae6 =>
    kY node_Depth_r suf (v_6 + 1) (if ae6 > yg then ae6 else yg)
noncomputable def kX : Nat → za → Option Int
  | 0, _ => none
  | kr + 1, n_1 =>
    (vC n_1).bind fun xL =>
    if (xL) = true then
      some (0 : Int)
    else
      (chk (n_1.Kids.length ≤ 9223372036854775807) (kY (kX kr) n_1.Kids (0 : Int) (0 : Int))).bind fun Kt =>
      some (w64 (Kt + (1 : Int)))
noncomputable def Kq (n_1 : za) : Option Int := lim fun kr => kX kr n_1
noncomputable def xS (n_1 : za) : Option Int :=
  (Q0 n_1).bind fun af0 =>
  if (!af0) = true then
    some (2 : Int)
  else
    (Kq n_1).bind fun aiK =>
    if (decide (aiK > (40 : Int))) = true then
      some (4 : Int)
    else
      (yl n_1).bind fun amc =>
      if (decide (amc > (4000 : Int))) = true then
        some (5 : Int)
      else
        some (0 : Int)
noncomputable def QE (n_1 : za) : Option Bool :=
  (xS n_1).bind fun amR =>
  some (amR == (0 : Int))
noncomputable def xA (l : (List zg)) : Option (List zg) :=
  app 32 [] l
noncomputable def slices_Clone_int (l : (List Int)) : Option (List Int) :=
  app 8 [] l
noncomputable def xI : List Int → Int → za → Option ((za × Int) ⊕ za)
  | [], v_6, n_5 =>
    some (.inr n_5)
  | y_9 :: suf, v_6, n_5 =>
    if (decide (y_9 < (0 : Int))) = true then
      some (.inl (({ Kind := ([] : Str), Text := ([] : Str), Marks := [], zu := [], Kids := [] } : za), (9 : Int)))
    else
      if (decide (y_9 ≥ (n_5.Kids.length : Int))) = true then
        some (.inl (({ Kind := ([] : Str), Text := ([] : Str), Marks := [], zu := [], Kids := [] } : za), (9 : Int)))
      else
        if (n_5.Kind == ([116, 101, 120, 116] : Str)) = true then
          some (.inl (({ Kind := ([] : Str), Text := ([] : Str), Marks := [], zu := [], Kids := [] } : za), (9 : Int)))
        else
          (rd n_5.Kids y_9).bind fun agC =>
          xI suf (v_6 + 1) agC
noncomputable def xK (n_1 : za) (qV : (List Int)) : Option (za × Int) :=
  (chk (qV.length ≤ 9223372036854775807) (xI qV (0 : Int) n_1)).bind fun e => match e with
  | .inl VC =>
    some VC
  | .inr agq =>
    if (agq.Kind == ([116, 101, 120, 116] : Str)) = true then
      some (({ Kind := ([] : Str), Text := ([] : Str), Marks := [], zu := [], Kids := [] } : za), (9 : Int))
    else
      some (agq, (0 : Int))
noncomputable def jX (JQ : (List Int)) : List za → Int → Int → Option ((qP × Int) ⊕ ((Int × za × (List Int)) ⊕ Unit))
  | [], aes, QQ =>
    some (.inr (.inr ()))
  | aoc :: suf, aes, QQ =>
    (yl aoc).bind fun aeC =>
    if (decide (QQ ≥ aeC)) = true then
      jX JQ suf (aes + 1) (w64 (QQ - aeC))
    else
      if (aoc.Kind == ([116, 101, 120, 116] : Str)) = true then
        some (.inl (({ Path := JQ, Index := aes, Offset := QQ } : qP), (0 : Int)))
      else
        if (QQ == (0 : Int)) = true then
          some (.inl (({ Path := JQ, Index := aes, Offset := (0 : Int) } : qP), (0 : Int)))
        else
          (app 8 JQ [aes]).bind fun apJ =>
          some (.inr (.inl (w64 (QQ - (1 : Int)), aoc, apJ)))
noncomputable def jR : Nat → Int → za → (List Int) → Option (qP × Int)
  | 0, _, _, _ => none
  | k + 1, acC, Qn, JQ =>
    (chk (Qn.Kids.length ≤ 9223372036854775807) (jX JQ Qn.Kids (0 : Int) acC)).bind fun e => match e with
    | .inl XV =>
      some XV
    | .inr (.inl (afC, ajm, XP)) =>
      jR k afC ajm XP
    | .inr (.inr _) =>
      some (({ Path := JQ, Index := (Qn.Kids.length : Int), Offset := (0 : Int) } : qP), (0 : Int))
noncomputable def yU (n_1 : za) (KG : Int) : Option (qP × Int) :=
  if (n_1.Kind == ([116, 101, 120, 116] : Str)) = true then
    some (({ Path := [], Index := (0 : Int), Offset := (0 : Int) } : qP), (3 : Int))
  else
    if (decide (KG < (0 : Int))) = true then
      some (({ Path := [], Index := (0 : Int), Offset := (0 : Int) } : qP), (3 : Int))
    else
      (jI n_1.Kids).bind fun Qj =>
      if (decide (KG > Qj)) = true then
        some (({ Path := [], Index := (0 : Int), Offset := (0 : Int) } : qP), (3 : Int))
      else
        (lim fun k => jR k KG n_1 ([] : List Int)).bind fun Xm =>
        some Xm
noncomputable def XC (n_1 : za) (KG : Int) : Option ((List Int) × Bool) :=
  if (KG == (-1 : Int)) = true then
    some ([], true)
  else
    (yU n_1 KG).bind fun (r_3, r_4) =>
    if (r_4 != (0 : Int)) = true then
      some ([], false)
    else
      if (decide (r_3.Offset > (0 : Int))) = true then
        some ([], false)
      else
        (slices_Clone_int r_3.Path).bind fun arW =>
        (app 8 arW [r_3.Index]).bind fun l_6 =>
        (xK n_1 l_6).bind fun (r_7, r_8) =>
        some (l_6, r_8 == (0 : Int))
noncomputable def JE (a_1 : zg) (qC : zD) : Option Bool :=
  some (a_1.Name == qC.Name)
noncomputable def qR (qC : zD) : List zg → Int → Option ((Int × zD) ⊕ Unit)
  | [], v_5 =>
    some (.inr ())
  | y_8 :: suf, v_5 =>
    (JE y_8 qC).bind fun asx =>
    if (asx) = true then
      some (.inl (v_5, qC))
    else
      qR qC suf (v_5 + 1)
noncomputable def vS (s_1 : (List zg)) (qC : zD) : Option (Int × zD) :=
  (chk (s_1.length ≤ 9223372036854775807) (qR qC s_1 (0 : Int))).bind fun e => match e with
  | .inl wG =>
    some wG
  | .inr _ =>
    some ((-1 : Int), qC)
noncomputable def kQ (l : (List za)) : Option (List za) :=
  app 104 [] l
noncomputable def Qa : Nat → za → (List Int) → za → Option (za × Int)
  | 0, _, _, _ => none
  | kr + 1, n_1, qV, m_3 =>
    (xK n_1 qV).bind fun (r_4, r_5) =>
    if (r_5 != (0 : Int)) = true then
      some (({ Kind := ([] : Str), Text := ([] : Str), Marks := [], zu := [], Kids := [] } : za), r_5)
    else
      if ((qV.length : Int) == (0 : Int)) = true then
        some (m_3, (0 : Int))
      else
        (kQ n_1.Kids).bind fun alg =>
        (rd qV (0 : Int)).bind fun x_7 =>
        (rd alg x_7).bind fun x_8 =>
        (sl qV (1 : Int) (qV.length : Int)).bind fun s_9 =>
        ((Qa kr) x_8 s_9 m_3).bind fun (V8, abU) =>
        (wr alg x_7 V8).bind fun aj9 =>
        some ({ n_1 with Kids := aj9 }, (0 : Int))
noncomputable def Jq (n_1 : za) (qV : (List Int)) (m_3 : za) : Option (za × Int) := lim fun kr => Qa kr n_1 qV m_3
noncomputable def ab3 (n_1 : za) (s_2 : zD) : Option (za × Str × Int) :=
  (XC n_1 s_2.From).bind fun (r_3, r_4) =>
  if (!r_4) = true then
    some (({ Kind := ([] : Str), Text := ([] : Str), Marks := [], zu := [], Kids := [] } : za), ([] : Str), (3 : Int))
  else
    (xK n_1 r_3).bind fun (r_5, r_6) =>
    (vS r_5.zu s_2).bind fun (r_7, apq) =>
    if (decide (r_7 < (0 : Int))) = true then
      some (({ Kind := ([] : Str), Text := ([] : Str), Marks := [], zu := [], Kids := [] } : za), ([] : Str), (9 : Int))
    else
      (rd r_5.zu r_7).bind fun x_9 =>
      (xA r_5.zu).bind fun ah8 =>
      (rd ah8 r_7).bind fun agB =>
      (wr ah8 r_7 ({ agB with Value := apq.Value })).bind fun aj9 =>
      (Jq n_1 r_3 ({ r_5 with zu := aj9 })).bind fun (Xp, aei) =>
      some (Xp, x_9.Value, aei)
noncomputable def Qd (s : zD) (marks : (List Str)) : Option ((List Str) × Bool) :=
  chk (marks.length ≤ 1099511627776) (some (ZR s.Kind s.Name marks))
noncomputable def vP (Vz : Int) (aob : Int) (vv : Int) (zz : Int) (jg : Int) (wV : (List za)) (vw : Str) (wW : Str) (l_9 : (List zo)) : Option (Int × Int × Int × (List za) × Str × Str × (List zo)) :=
  if (decide ((w64 ((l_9.length : Int) - (1 : Int))) ≥ (0 : Int))) = true then
    (rd l_9 (w64 ((l_9.length : Int) - (1 : Int)))).bind fun agC =>
    if ((w64 (agC.Pos + agC.Old)) == Vz) = true then
      (wr l_9 (w64 ((l_9.length : Int) - (1 : Int))) ({ agC with Old := w64 (agC.Old + (w64 (aob - Vz))) })).bind fun aoS =>
      some (vv, zz, jg, wV, vw, wW, aoS)
    else
      (app 24 l_9 [({ Pos := Vz, Old := w64 (aob - Vz), New := (0 : Int) } : zo)]).bind fun aj9 =>
      some (vv, zz, jg, wV, vw, wW, aj9)
  else
    (app 24 l_9 [({ Pos := Vz, Old := w64 (aob - Vz), New := (0 : Int) } : zo)]).bind fun aoJ =>
    some (vv, zz, jg, wV, vw, wW, aoJ)
noncomputable def wC (a_1 : Int) (b_2 : Int) (aeJ : (List Str)) (QP : za) (v_5 : (List Int)) : Option za :=
  (sl v_5 a_1 b_2).bind fun s_6 =>
  some ({ Kind := QP.Kind, Text := zN s_6, Marks := aeJ, zu := [], Kids := [] } : za)
noncomputable def vN (n_1 : za) (zL : Int) (vv : Int) (zz : Int) (jg : Int) (wV : (List za)) (vw : Str) (wW : Str) (l_9 : (List zo)) : Option ((List za) × Int × Int × Int × (List za) × Str × Str × (List zo)) :=
  (Qd ({ Kind := vv, From := zz, To := jg, wM := wV, Name := vw, Value := wW } : zD) n_1.Marks).bind fun (V8, abU) =>
  if (!abU) = true then
    some ([n_1], vv, zz, jg, wV, vw, wW, l_9)
  else
    if ((if ((runes n_1.Text).length : Int) < (if (0 : Int) > (w64 (zz - zL)) then (0 : Int) else w64 (zz - zL)) then ((runes n_1.Text).length : Int) else (if (0 : Int) > (w64 (zz - zL)) then (0 : Int) else w64 (zz - zL))) == (if ((runes n_1.Text).length : Int) < (if (if ((runes n_1.Text).length : Int) < (if (0 : Int) > (w64 (zz - zL)) then (0 : Int) else w64 (zz - zL)) then ((runes n_1.Text).length : Int) else (if (0 : Int) > (w64 (zz - zL)) then (0 : Int) else w64 (zz - zL))) > (w64 (jg - zL)) then (if ((runes n_1.Text).length : Int) < (if (0 : Int) > (w64 (zz - zL)) then (0 : Int) else w64 (zz - zL)) then ((runes n_1.Text).length : Int) else (if (0 : Int) > (w64 (zz - zL)) then (0 : Int) else w64 (zz - zL))) else w64 (jg - zL)) then ((runes n_1.Text).length : Int) else (if (if ((runes n_1.Text).length : Int) < (if (0 : Int) > (w64 (zz - zL)) then (0 : Int) else w64 (zz - zL)) then ((runes n_1.Text).length : Int) else (if (0 : Int) > (w64 (zz - zL)) then (0 : Int) else w64 (zz - zL))) > (w64 (jg - zL)) then (if ((runes n_1.Text).length : Int) < (if (0 : Int) > (w64 (zz - zL)) then (0 : Int) else w64 (zz - zL)) then ((runes n_1.Text).length : Int) else (if (0 : Int) > (w64 (zz - zL)) then (0 : Int) else w64 (zz - zL))) else w64 (jg - zL)))) = true then
      some ([n_1], vv, zz, jg, wV, vw, wW, l_9)
    else
      (vP (w64 (zL + (if ((runes n_1.Text).length : Int) < (if (0 : Int) > (w64 (zz - zL)) then (0 : Int) else w64 (zz - zL)) then ((runes n_1.Text).length : Int) else (if (0 : Int) > (w64 (zz - zL)) then (0 : Int) else w64 (zz - zL))))) (w64 (zL + (if ((runes n_1.Text).length : Int) < (if (if ((runes n_1.Text).length : Int) < (if (0 : Int) > (w64 (zz - zL)) then (0 : Int) else w64 (zz - zL)) then ((runes n_1.Text).length : Int) else (if (0 : Int) > (w64 (zz - zL)) then (0 : Int) else w64 (zz - zL))) > (w64 (jg - zL)) then (if ((runes n_1.Text).length : Int) < (if (0 : Int) > (w64 (zz - zL)) then (0 : Int) else w64 (zz - zL)) then ((runes n_1.Text).length : Int) else (if (0 : Int) > (w64 (zz - zL)) then (0 : Int) else w64 (zz - zL))) else w64 (jg - zL)) then ((runes n_1.Text).length : Int) else (if (if ((runes n_1.Text).length : Int) < (if (0 : Int) > (w64 (zz - zL)) then (0 : Int) else w64 (zz - zL)) then ((runes n_1.Text).length : Int) else (if (0 : Int) > (w64 (zz - zL)) then (0 : Int) else w64 (zz - zL))) > (w64 (jg - zL)) then (if ((runes n_1.Text).length : Int) < (if (0 : Int) > (w64 (zz - zL)) then (0 : Int) else w64 (zz - zL)) then ((runes n_1.Text).length : Int) else (if (0 : Int) > (w64 (zz - zL)) then (0 : Int) else w64 (zz - zL))) else w64 (jg - zL))))) vv zz jg wV vw wW l_9).bind fun (amw, am1, arS, aj8, anc, akM, aov) =>
      (wC (0 : Int) (if ((runes n_1.Text).length : Int) < (if (0 : Int) > (w64 (zz - zL)) then (0 : Int) else w64 (zz - zL)) then ((runes n_1.Text).length : Int) else (if (0 : Int) > (w64 (zz - zL)) then (0 : Int) else w64 (zz - zL))) n_1.Marks n_1 (runes n_1.Text)).bind fun arN =>
      (wC (if ((runes n_1.Text).length : Int) < (if (0 : Int) > (w64 (zz - zL)) then (0 : Int) else w64 (zz - zL)) then ((runes n_1.Text).length : Int) else (if (0 : Int) > (w64 (zz - zL)) then (0 : Int) else w64 (zz - zL))) (if ((runes n_1.Text).length : Int) < (if (if ((runes n_1.Text).length : Int) < (if (0 : Int) > (w64 (zz - zL)) then (0 : Int) else w64 (zz - zL)) then ((runes n_1.Text).length : Int) else (if (0 : Int) > (w64 (zz - zL)) then (0 : Int) else w64 (zz - zL))) > (w64 (jg - zL)) then (if ((runes n_1.Text).length : Int) < (if (0 : Int) > (w64 (zz - zL)) then (0 : Int) else w64 (zz - zL)) then ((runes n_1.Text).length : Int) else (if (0 : Int) > (w64 (zz - zL)) then (0 : Int) else w64 (zz - zL))) else w64 (jg - zL)) then ((runes n_1.Text).length : Int) else (if (if ((runes n_1.Text).length : Int) < (if (0 : Int) > (w64 (zz - zL)) then (0 : Int) else w64 (zz - zL)) then ((runes n_1.Text).length : Int) else (if (0 : Int) > (w64 (zz - zL)) then (0 : Int) else w64 (zz - zL))) > (w64 (jg - zL)) then (if ((runes n_1.Text).length : Int) < (if (0 : Int) > (w64 (zz - zL)) then (0 : Int) else w64 (zz - zL)) then ((runes n_1.Text).length : Int) else (if (0 : Int) > (w64 (zz - zL)) then (0 : Int) else w64 (zz - zL))) else w64 (jg - zL))) V8 n_1 (runes n_1.Text)).bind fun arU =>
      (wC (if ((runes n_1.Text).length : Int) < (if (if ((runes n_1.Text).length : Int) < (if (0 : Int) > (w64 (zz - zL)) then (0 : Int) else w64 (zz - zL)) then ((runes n_1.Text).length : Int) else (if (0 : Int) > (w64 (zz - zL)) then (0 : Int) else w64 (zz - zL))) > (w64 (jg - zL)) then (if ((runes n_1.Text).length : Int) < (if (0 : Int) > (w64 (zz - zL)) then (0 : Int) else w64 (zz - zL)) then ((runes n_1.Text).length : Int) else (if (0 : Int) > (w64 (zz - zL)) then (0 : Int) else w64 (zz - zL))) else w64 (jg - zL)) then ((runes n_1.Text).length : Int) else (if (if ((runes n_1.Text).length : Int) < (if (0 : Int) > (w64 (zz - zL)) then (0 : Int) else w64 (zz - zL)) then ((runes n_1.Text).length : Int) else (if (0 : Int) > (w64 (zz - zL)) then (0 : Int) else w64 (zz - zL))) > (w64 (jg - zL)) then (if ((runes n_1.Text).length : Int) < (if (0 : Int) > (w64 (zz - zL)) then (0 : Int) else w64 (zz - zL)) then ((runes n_1.Text).length : Int) else (if (0 : Int) > (w64 (zz - zL)) then (0 : Int) else w64 (zz - zL))) else w64 (jg - zL))) ((runes n_1.Text).length : Int) n_1.Marks n_1 (runes n_1.Text)).bind fun arO =>
      some ([arN, arU, arO], amw, am1, arS, aj8, anc, akM, aov)
noncomputable def wE : List za → Int → (List za) → Option (List za)
  | [], ZJ, vM =>
    some vM
  | Ko :: suf, ZJ, vM =>
    (vC Ko).bind fun acV =>
    if (acV) = true then
      if (Ko.Text == ([] : Str)) = true then
        wE suf (ZJ + 1) vM
      else
        if (decide ((w64 ((vM.length : Int) - (1 : Int))) ≥ (0 : Int))) = true then
          (rd vM (w64 ((vM.length : Int) - (1 : Int)))).bind fun aq2 =>
          (Zg aq2 Ko).bind fun afJ =>
          if (afJ) = true then
            chk (aq2.Text.length + Ko.Text.length ≤ 9223372036854775807) (
              (wr vM (w64 ((vM.length : Int) - (1 : Int))) ({ Ko with Text := aq2.Text ++ Ko.Text })).bind fun aql =>
              wE suf (ZJ + 1) aql)
          else
            (app 104 vM [Ko]).bind fun apl =>
            wE suf (ZJ + 1) apl
        else
          (app 104 vM [Ko]).bind fun apL =>
          wE suf (ZJ + 1) apL
    else
      if (decide ((w64 ((vM.length : Int) - (1 : Int))) ≥ (0 : Int))) = true then
        (rd vM (w64 ((vM.length : Int) - (1 : Int)))).bind fun aqP =>
        (Zg aqP Ko).bind fun af1 =>
        if (af1) = true then
          chk (aqP.Text.length + Ko.Text.length ≤ 9223372036854775807) (
            (wr vM (w64 ((vM.length : Int) - (1 : Int))) ({ Ko with Text := aqP.Text ++ Ko.Text })).bind fun atl =>
            wE suf (ZJ + 1) atl)
        else
          (app 104 vM [Ko]).bind fun aty =>
          wE suf (ZJ + 1) aty
      else
        (app 104 vM [Ko]).bind fun atT =>
        wE suf (ZJ + 1) atT
noncomputable def QA (l_1 : (List za)) : Option (List za) :=
  (chk (l_1.length ≤ 9223372036854775807) (wE l_1 (0 : Int) ([] : List za))).bind fun acM =>
  some acM
noncomputable def zX (step_painter_kids_x_r : (List za) → Int → Int → Int → Int → (List za) → Str → Str → (List zo) → Option ((List za) × Int × Int × Int × (List za) × Str × Str × (List zo))) : List za → Int → Int → (List za) → Int → Int → Int → (List za) → Str → Str → (List zo) → Option ((List za) × Int × Int × Int × (List za) × Str × Str × (List zo))
  | [], aeL, Y7, Vw, ai0, aiR, aik, ajg, aim, aiV, XP =>
    some (Vw, ai0, aiR, aik, ajg, aim, aiV, XP)
  | aif :: suf, aeL, Y7, Vw, ai0, aiR, aik, ajg, aim, aiV, XP =>
    (yl aif).bind fun ai8 =>
    if (aif.Kind == ([116, 101, 120, 116] : Str)) = true then
      (vN aif Y7 ai0 aiR aik ajg aim aiV XP).bind fun (atN, am5, amZ, arK, akb, amn, akT, alo) =>
      (app 104 Vw atN).bind fun as3 =>
      zX step_painter_kids_x_r suf (aeL + 1) (w64 (Y7 + ai8)) as3 am5 amZ arK akb amn akT alo
    else
      (step_painter_kids_x_r aif.Kids (w64 (Y7 + (1 : Int))) ai0 aiR aik ajg aim aiV XP).bind fun (as5, amQ, amm, arL, akP, amP, akI, atP) =>
      (app 104 Vw [{ aif with Kids := as5 }]).bind fun alV =>
      zX step_painter_kids_x_r suf (aeL + 1) (w64 (Y7 + ai8)) alV amQ amm arL akP amP akI atP
noncomputable def qo : Nat → (List za) → Int → Int → Int → Int → (List za) → Str → Str → (List zo) → Option ((List za) × Int × Int × Int × (List za) × Str × Str × (List zo))
  | 0, _, _, _, _, _, _, _, _, _ => none
  | kr + 1, l_1, zL, vv, zz, jg, wV, vw, wW, l_9 =>
    (chk (l_1.length ≤ 9223372036854775807) (zX (qo kr) l_1 (0 : Int) zL ([] : List za) vv zz jg wV vw wW l_9)).bind fun (adt, apH, ap9, apn, apx, apP, aoQ, aog) =>
    (QA adt).bind fun amU =>
    some (amU, apH, ap9, apn, apx, apP, aoQ, aog)
noncomputable def vO (l_1 : (List za)) (zL : Int) (vv : Int) (zz : Int) (jg : Int) (wV : (List za)) (vw : Str) (wW : Str) (l_9 : (List zo)) : Option ((List za) × Int × Int × Int × (List za) × Str × Str × (List zo)) := lim fun kr => qo kr l_1 zL vv zz jg wV vw wW l_9
noncomputable def Zh (n_1 : za) (s_2 : zD) : Option (za × (List zo) × Int) :=
  (jI n_1.Kids).bind fun Qj =>
  if (decide (s_2.To > Qj)) = true then
    some (({ Kind := ([] : Str), Text := ([] : Str), Marks := [], zu := [], Kids := [] } : za), [], (3 : Int))
  else
    (vO n_1.Kids (0 : Int) s_2.Kind s_2.From s_2.To s_2.wM s_2.Name s_2.Value ([] : List zo)).bind fun (r_4, asl, ar0, auh, arb, asw, apG, aoS) =>
    some ({ n_1 with Kids := r_4 }, aoS, (0 : Int))
noncomputable def Zj (s_1 : zD) : Option Bool :=
  ((
      if (decide (s_1.From ≥ (0 : Int))) = true then
        if (decide (s_1.From ≤ s_1.To)) = true then
          some (decide (s_1.To ≤ (1048576 : Int)))
        else
          some false
      else
        some false) : Option Bool).bind fun Vy =>
  if (s_1.Kind == (114 : Int)) = true then
    (xS ({ Kind := ([120] : Str), Text := ([] : Str), Marks := [], zu := [], Kids := s_1.wM } : za)).bind fun aih =>
    if (Vy) = true then
      if (aih != (2 : Int)) = true then
        chk (s_1.Name.length + s_1.Value.length ≤ 9223372036854775807) (
          some ((s_1.Name ++ s_1.Value) == ([] : Str)))
      else
        some false
    else
      some false
  else
    if (s_1.Kind == (97 : Int)) = true then
      if (decide (s_1.From ≥ (-1 : Int))) = true then
        if (decide (s_1.From ≤ (1048576 : Int))) = true then
          if (s_1.To == (0 : Int)) = true then
            (x9 s_1.Name).bind fun alW =>
            if (alW) = true then
              (QF s_1.Value).bind fun aip =>
              if (aip) = true then
                some ((s_1.wM.length : Int) == (0 : Int))
              else
                some false
            else
              some false
          else
            some false
        else
          some false
      else
        some false
    else
      if (s_1.Kind == (109 : Int)) = true then
        if (Vy) = true then
          (x9 s_1.Name).bind fun alY =>
          if (alY) = true then
            if ((s_1.wM.length : Int) == (0 : Int)) = true then
              some (s_1.Value == ([] : Str))
            else
              some false
          else
            some false
        else
          some false
      else
        if (s_1.Kind == (117 : Int)) = true then
          if (Vy) = true then
            (x9 s_1.Name).bind fun alM =>
            if (alM) = true then
              if ((s_1.wM.length : Int) == (0 : Int)) = true then
                some (s_1.Value == ([] : Str))
              else
                some false
            else
              some false
          else
            some false
        else
          some false
noncomputable def ku (v_1 : Int) (Ku : qx) : Option (Int × qx) :=
  if (v_1 != (0 : Int)) = true then
    some (v_1, ({ path := [], in_ := ({ Kind := ([] : Str), Text := ([] : Str), Marks := [], zu := [], Kids := [] } : za), from_ := (0 : Int), to_ := (0 : Int) } : qx))
  else
    some (v_1, Ku)
noncomputable def vQ (vD : (List Int)) : List Int → Int → Option (Bool ⊕ Unit)
  | [], v_5 =>
    some (.inr ())
  | y_8 :: suf, v_5 =>
    (rd vD v_5).bind fun x_9 =>
    if (y_8 != x_9) = true then
      some (.inl false)
    else
      vQ vD suf (v_5 + 1)
noncomputable def slices_Equal_int (kI : (List Int)) (vD : (List Int)) : Option Bool :=
  if ((kI.length : Int) != (vD.length : Int)) = true then
    some false
  else
    (chk (kI.length ≤ 9223372036854775807) (vQ vD kI (0 : Int))).bind fun e => match e with
    | .inl wG =>
      some wG
    | .inr _ =>
      some true
noncomputable def xP : List Int → Int → Int → za → Option Int
  | [], QH, adV, n_9 =>
    some adV
  | aqO :: suf, QH, adV, n_9 =>
    (sl n_9.Kids (0 : Int) aqO).bind fun atZ =>
    (jI atZ).bind fun ajP =>
    (rd n_9.Kids aqO).bind fun asV =>
    xP suf (QH + 1) (w64 (adV + (w64 (ajP + (1 : Int))))) asV
noncomputable def X3 (n_1 : za) (qV : (List Int)) : Option (Int × Int) :=
  (xK n_1 qV).bind fun (r_3, r_4) =>
  if (r_4 != (0 : Int)) = true then
    some ((0 : Int), r_4)
  else
    (chk (qV.length ≤ 9223372036854775807) (xP qV (0 : Int) (0 : Int) n_1)).bind fun ajy =>
    some (ajy, (0 : Int))
noncomputable def X8 (n_1 : za) (xz : Int) (JS : Int) : Option (qx × Int) :=
  if (n_1.Kind == ([116, 101, 120, 116] : Str)) = true then
    (ku (2 : Int) ({ path := [], in_ := ({ Kind := ([] : Str), Text := ([] : Str), Marks := [], zu := [], Kids := [] } : za), from_ := (0 : Int), to_ := (0 : Int) } : qx)).bind fun (v_4, ap2) =>
    some (ap2, v_4)
  else
    (QE n_1).bind fun ajj =>
    if (!ajj) = true then
      (ku (2 : Int) ({ path := [], in_ := ({ Kind := ([] : Str), Text := ([] : Str), Marks := [], zu := [], Kids := [] } : za), from_ := (0 : Int), to_ := (0 : Int) } : qx)).bind fun (v_7, aot) =>
      some (aot, v_7)
    else
      (yU n_1 xz).bind fun (r_9, V8) =>
      if (V8 != (0 : Int)) = true then
        (ku V8 ({ path := [], in_ := ({ Kind := ([] : Str), Text := ([] : Str), Marks := [], zu := [], Kids := [] } : za), from_ := (0 : Int), to_ := (0 : Int) } : qx)).bind fun (QH, am0) =>
        some (am0, QH)
      else
        (yU n_1 JS).bind fun (Xp, aei) =>
        if (aei != (0 : Int)) = true then
          (ku aei ({ path := [], in_ := ({ Kind := ([] : Str), Text := ([] : Str), Marks := [], zu := [], Kids := [] } : za), from_ := (0 : Int), to_ := (0 : Int) } : qx)).bind fun (afW, amz) =>
          some (amz, afW)
        else
          if (decide (JS < xz)) = true then
            (ku (3 : Int) ({ path := [], in_ := ({ Kind := ([] : Str), Text := ([] : Str), Marks := [], zu := [], Kids := [] } : za), from_ := (0 : Int), to_ := (0 : Int) } : qx)).bind fun (aki, amM) =>
            some (amM, aki)
          else
            (slices_Equal_int r_9.Path Xp.Path).bind fun alk =>
            if (!alk) = true then
              (ku (10 : Int) ({ path := [], in_ := ({ Kind := ([] : Str), Text := ([] : Str), Marks := [], zu := [], Kids := [] } : za), from_ := (0 : Int), to_ := (0 : Int) } : qx)).bind fun (aow, anb) =>
              some (anb, aow)
            else
              (X3 n_1 r_9.Path).bind fun (asM, aua) =>
              (xK n_1 r_9.Path).bind fun (atM, at0) =>
              (ku at0 ({ path := r_9.Path, in_ := atM, from_ := w64 (xz - asM), to_ := w64 (JS - asM) } : qx)).bind fun (Xr, amJ) =>
              some (amJ, Xr)
noncomputable def xY : List za → Int → Int → Option (Int × Int)
  | [], i_8, afj =>
    some (afj, i_8)
  | ajQ :: suf, i_8, afj =>
    (yl ajQ).bind fun ah4 =>
    if (decide (afj ≥ ah4)) = true then
      (yl ajQ).bind fun amF =>
      xY suf (i_8 + 1) (w64 (afj - amF))
    else
      some (afj, i_8)
noncomputable def Vb (l_1 : (List za)) (zL : Int) : Option ((List za) × (List za) × Int) :=
  if (decide (zL < (0 : Int))) = true then
    some ([], [], (3 : Int))
  else
    (jI l_1).bind fun Qj =>
    if (decide (zL > Qj)) = true then
      some ([], [], (3 : Int))
    else
      (chk (l_1.length ≤ 9223372036854775807) (xY l_1 (0 : Int) zL)).bind fun (adz, alj) =>
      (sl l_1 (0 : Int) alj).bind fun atu =>
      (kQ atu).bind fun ai6 =>
      (sl l_1 alj (l_1.length : Int)).bind fun atB =>
      (kQ atB).bind fun aez =>
      if (adz == (0 : Int)) = true then
        some (ai6, aez, (0 : Int))
      else
        (rd l_1 alj).bind fun alx =>
        if (!(alx.Kind == ([116, 101, 120, 116] : Str))) = true then
          some ([], [], (10 : Int))
        else
          (sl (runes alx.Text) (0 : Int) adz).bind fun at6 =>
          (sl (runes alx.Text) adz ((runes alx.Text).length : Int)).bind fun atj =>
          (rd aez (0 : Int)).bind fun as0 =>
          (wr aez (0 : Int) ({ as0 with Text := zN atj })).bind fun atQ =>
          (app 104 ai6 [{ alx with Text := zN at6 }]).bind fun as7 =>
          some (as7, atQ, (0 : Int))
noncomputable def xc (n : Int) : Option (List za) :=
  chk (0 ≤ n ∧ n * 104 ≤ 140737488355328) (some ([] : List za))
noncomputable def wN : List (List za) → Int → Int → Option Int
  | [], v_4, VB =>
    some VB
  | y_6 :: suf, v_4, VB =>
    if (decide ((w64 (VB + (y_6.length : Int))) < (0 : Int))) = true then
      none
    else
      wN suf (v_4 + 1) (w64 (VB + (y_6.length : Int)))
noncomputable def wO : List (List za) → Int → (List za) → Option (List za)
  | [], JY, jC =>
    some jC
  | asG :: suf, JY, jC =>
    (app 104 jC asG).bind fun aov =>
    wO suf (JY + 1) aov
noncomputable def xh (kg : (List (List za))) : Option (List za) :=
  (chk (kg.length ≤ 9223372036854775807) (wN kg (0 : Int) (0 : Int))).bind fun ae4 =>
  (xc ae4).bind fun amN =>
  (chk (kg.length ≤ 9223372036854775807) (wO kg (0 : Int) amN)).bind fun Zq =>
  some Zq
noncomputable def Yi (n_1 : za) (xz : Int) (JS : Int) (l_4 : (List za)) : Option (za × Int) :=
  (X8 n_1 xz JS).bind fun (r_5, r_6) =>
  if (r_6 == (2 : Int)) = true then
    some (({ Kind := ([] : Str), Text := ([] : Str), Marks := [], zu := [], Kids := [] } : za), (2 : Int))
  else
    (QA l_4).bind fun afA =>
    (xS ({ Kind := ([120] : Str), Text := ([] : Str), Marks := [], zu := [], Kids := afA } : za)).bind fun aiQ =>
    if (aiQ == (2 : Int)) = true then
      some (({ Kind := ([] : Str), Text := ([] : Str), Marks := [], zu := [], Kids := [] } : za), (2 : Int))
    else
      if (r_6 != (0 : Int)) = true then
        some (({ Kind := ([] : Str), Text := ([] : Str), Marks := [], zu := [], Kids := [] } : za), r_6)
      else
        (Vb r_5.in_.Kids r_5.from_).bind fun (r_9, V8, abU) =>
        (Vb r_5.in_.Kids r_5.to_).bind fun (aek, Xp, aei) =>
        (xh [r_9, l_4, Xp]).bind fun amT =>
        (QA amT).bind fun amr =>
        (Jq n_1 r_5.path ({ r_5.in_ with Kids := amr })).bind fun (alX, apD) =>
        (xS alX).bind fun acv =>
        if (acv != (0 : Int)) = true then
          some (({ Kind := ([] : Str), Text := ([] : Str), Marks := [], zu := [], Kids := [] } : za), acv)
        else
          some (alX, (0 : Int))
noncomputable def kE (n_1 : za) (s_2 : zD) : Option (za × Int) :=
  (Zj s_2).bind fun ail =>
  if (!ail) = true then
    some (({ Kind := ([] : Str), Text := ([] : Str), Marks := [], zu := [], Kids := [] } : za), (1 : Int))
  else
    if (n_1.Kind == ([116, 101, 120, 116] : Str)) = true then
      some (({ Kind := ([] : Str), Text := ([] : Str), Marks := [], zu := [], Kids := [] } : za), (2 : Int))
    else
      (QE n_1).bind fun aid =>
      if (!aid) = true then
        some (({ Kind := ([] : Str), Text := ([] : Str), Marks := [], zu := [], Kids := [] } : za), (2 : Int))
      else
        if (s_2.Kind == (114 : Int)) = true then
          (Yi n_1 s_2.From s_2.To s_2.wM).bind fun (r_5, r_6) =>
          some (r_5, r_6)
        else
          if (s_2.Kind == (97 : Int)) = true then
            (ab3 n_1 s_2).bind fun (r_7, r_8, r_9) =>
            some (r_7, r_9)
          else
            (Zh n_1 s_2).bind fun (V8, abU, aek) =>
            some (V8, aek)
noncomputable def xU : List zD → Int → za → Option ((za × Int) ⊕ za)
  | [], v_7, n_6 =>
    some (.inr n_6)
  | asy :: suf, v_7, n_6 =>
    (kE n_6 asy).bind fun (aek, Xp) =>
    if (Xp != (0 : Int)) = true then
      some (.inl (({ Kind := ([] : Str), Text := ([] : Str), Marks := [], zu := [], Kids := [] } : za), Xp))
    else
      xU suf (v_7 + 1) aek
noncomputable def Z9 (n_1 : za) (l_2 : (List zD)) : Option (za × Int) :=
  (chk (l_2.length ≤ 9223372036854775807) (xU l_2 (0 : Int) n_1)).bind fun e => match e with
  | .inl Vv =>
    some Vv
  | .inr aiq =>
    some (aiq, (0 : Int))
noncomputable def qD (vD : (List zg)) : List zg → Int → Option (Bool ⊕ Unit)
  | [], v_5 =>
    some (.inr ())
  | y_8 :: suf, v_5 =>
    (rd vD v_5).bind fun x_9 =>
    if ((((y_8.Name == x_9.Name) && (y_8.Value == x_9.Value)) != true)) = true then
      some (.inl false)
    else
      qD vD suf (v_5 + 1)
noncomputable def kP (kI : (List zg)) (vD : (List zg)) : Option Bool :=
  if ((kI.length : Int) != (vD.length : Int)) = true then
    some false
  else
    (chk (kI.length ≤ 9223372036854775807) (qD vD kI (0 : Int))).bind fun e => match e with
    | .inl wG =>
      some wG
    | .inr _ =>
      some true
noncomputable def zM (vD : (List za)) (node_Same_r : za → za → Option Bool) : List za → Int → Option (Bool ⊕ Unit)
  | [], v_6 =>
    some (.inr ())
  | asi :: suf, v_6 =>
    (rd vD v_6).bind fun agB =>
    (node_Same_r asi agB).bind fun aje =>
    if (!aje) = true then
      some (.inl false)
    else
      zM vD node_Same_r suf (v_6 + 1)
mutual
noncomputable def zZ : Nat → (List za) → (List za) → Option Bool
  | 0, _, _ => none
  | kr + 1, kI, vD =>
    if ((kI.length : Int) != (vD.length : Int)) = true then
      some false
    else
      (chk (kI.length ≤ 9223372036854775807) (zM vD (jE kr) kI (0 : Int))).bind fun e => match e with
      | .inl afx =>
        some afx
      | .inr _ =>
        some true
noncomputable def jE : Nat → za → za → Option Bool
  | 0, _, _ => none
  | kr + 1, a_1, b_2 =>
    if (a_1.Kind == b_2.Kind) = true then
      if (a_1.Text == b_2.Text) = true then
        (slices_Equal_string a_1.Marks b_2.Marks).bind fun afI =>
        if (afI) = true then
          (kP a_1.zu b_2.zu).bind fun aly =>
          if (aly) = true then
            ((zZ kr) a_1.Kids b_2.Kids).bind fun apS =>
            some apS
          else
            some false
        else
          some false
      else
        some false
    else
      some false
end
noncomputable def Zt (a_1 : za) (b_2 : za) : Option Bool := lim fun kr => jE kr a_1 b_2
noncomputable def je : Option Bool :=
  (kE ({ Kind := ([100, 111, 99] : Str), Text := ([] : Str), Marks := [], zu := [], Kids := [({ Kind := ([112] : Str), Text := ([] : Str), Marks := [], zu := [], Kids := [({ Kind := ([116, 101, 120, 116] : Str), Text := ([104, 105] : Str), Marks := [], zu := [], Kids := [] } : za)] } : za)] } : za) ({ Kind := (109 : Int), From := (2 : Int), To := (3 : Int), wM := [], Name := ([98] : Str), Value := ([] : Str) } : zD)).bind fun (r_1, r_2) =>
  if (r_2 == (0 : Int)) = true then
    if ((r_1.Kids.length : Int) == (1 : Int)) = true then
      (rd r_1.Kids (0 : Int)).bind fun x_3 =>
      if ((x_3.Kids.length : Int) == (2 : Int)) = true then
        (rd x_3.Kids (1 : Int)).bind fun x_4 =>
        if (x_4.Text == ([105] : Str)) = true then
          some ((x_4.Marks.length : Int) == (1 : Int))
        else
          some false
      else
        some false
    else
      some false
  else
    some false
noncomputable def zR (c_1 : Int) (n_2 : Int) : Option Int :=
  if (decide (c_1 < (0 : Int))) = true then
    chk (n_2 ≠ 0) (
      some ((w64 (0 - (w64 (c_1 + (1 : Int))))).tmod n_2))
  else
    chk (n_2 ≠ 0) (
      some (c_1.tmod n_2))
noncomputable def qA (diptychref1_Depth_r : za → Option Int) : List za → Int → Int → Option Int
  | [], i_5, d_4 =>
    some d_4
  | y_8 :: suf, i_5, d_4 =>
    (diptychref1_Depth_r y_8).bind fun ais =>
    qA diptychref1_Depth_r suf (i_5 + 1) (if ais > d_4 then ais else d_4)
noncomputable def qw : Nat → za → Option Int
  | 0, _ => none
  | kr + 1, n_1 =>
    if (n_1.Kind == ([116, 101, 120, 116] : Str)) = true then
      some (0 : Int)
    else
      (chk (n_1.Kids.length ≤ 9223372036854775807) (qA (qw kr) n_1.Kids (0 : Int) (0 : Int))).bind fun ao4 =>
      some (w64 (ao4 + (1 : Int)))
noncomputable def vI (n_1 : za) : Option Int := lim fun kr => qw kr n_1
noncomputable def qf (b_2 : (List Str)) : List Str → Int → Option (Bool ⊕ Unit)
  | [], i_5 =>
    some (.inr ())
  | y_8 :: suf, i_5 =>
    (rd b_2 i_5).bind fun x_9 =>
    if (!(y_8 == x_9)) = true then
      some (.inl false)
    else
      qf b_2 suf (i_5 + 1)
noncomputable def kN (a_1 : (List Str)) (b_2 : (List Str)) : Option Bool :=
  if ((a_1.length : Int) != (b_2.length : Int)) = true then
    some false
  else
    (chk (a_1.length ≤ 9223372036854775807) (qf b_2 a_1 (0 : Int))).bind fun e => match e with
    | .inl wG =>
      some wG
    | .inr _ =>
      some true
noncomputable def zS : List za → Int → (List za) → Option (List za)
  | [], Vu, vJ =>
    some vJ
  | yN :: suf, Vu, vJ =>
    ((
        if (yN.Kind == ([116, 101, 120, 116] : Str)) = true then
          if (yN.Text == ([] : Str)) = true then
            some (.inl ())
          else
            some (.inr ())
        else
          some (.inr ())) : Option (Unit ⊕ Unit)).bind fun e => match e with
    | .inl _ =>
      zS suf (Vu + 1) vJ
    | .inr _ =>
      if (yN.Kind == ([116, 101, 120, 116] : Str)) = true then
        if (decide ((w64 ((vJ.length : Int) - (1 : Int))) ≥ (0 : Int))) = true then
          (rd vJ (w64 ((vJ.length : Int) - (1 : Int)))).bind fun aon =>
          if (aon.Kind == ([116, 101, 120, 116] : Str)) = true then
            (kN aon.Marks yN.Marks).bind fun acE =>
            if (acE) = true then
              chk (aon.Text.length + yN.Text.length ≤ 9223372036854775807) (
                (sl vJ (0 : Int) (w64 ((vJ.length : Int) - (1 : Int)))).bind fun atn =>
                (app 104 ([] : List za) atn).bind fun atg =>
                (app 104 atg [{ yN with Text := aon.Text ++ yN.Text }]).bind fun aql =>
                zS suf (Vu + 1) aql)
            else
              (app 104 vJ [yN]).bind fun apl =>
              zS suf (Vu + 1) apl
          else
            (app 104 vJ [yN]).bind fun apL =>
            zS suf (Vu + 1) apL
        else
          (app 104 vJ [yN]).bind fun apJ =>
          zS suf (Vu + 1) apJ
      else
        (app 104 vJ [yN]).bind fun atc =>
        zS suf (Vu + 1) atc
noncomputable def jW (l_1 : (List za)) : Option (List za) :=
  (chk (l_1.length ≤ 9223372036854775807) (zS l_1 (0 : Int) ([] : List za))).bind fun adk =>
  some adk
noncomputable def vE (x_1 : zt) (aeA : (List za)) : Option za :=
  (zR x_1.zu (2 : Int)).bind fun apz =>
  (rd [([108, 101, 102, 116] : Str), ([114, 105, 103, 104, 116] : Str)] apz).bind fun x_4 =>
  (zR (w64 (x_1.zu.tdiv (2 : Int))) (4 : Int)).bind fun apr =>
  (rd [([] : Str), ([195, 169] : Str), ([34, 113, 92] : Str), ([110, 111, 116, 101] : Str)] apr).bind fun x_6 =>
  (jW aeA).bind fun afA =>
  some ({ Kind := ([112, 97, 114, 97] : Str), Text := ([] : Str), Marks := [], zu := [({ Name := ([97, 108, 105, 103, 110] : Str), Value := x_4 } : zg), ({ Name := ([110, 111, 116, 101] : Str), Value := x_6 } : zg)], Kids := afA } : za)
noncomputable def zA : List zt → Int → (List za) → (List za) → Option (List za)
  | [], QK, xq, yD =>
    some yD
  | acL :: suf, QK, xq, yD =>
    if (decide (QK < (40 : Int))) = true then
      (zR acL.Text (5 : Int)).bind fun amu =>
      (rd [([97] : Str), ([98, 99] : Str), ([195, 169] : Str), ([120, 32, 121] : Str), ([230, 151, 165, 230, 156, 172] : Str)] amu).bind fun arc =>
      ((
          (zR acL.Marks (4 : Int)).bind fun abX =>
          if ((ahA abX (1 : Int)) == (1 : Int)) = true then
            (app 16 ([] : List Str) [([98] : Str)]).bind fun alo =>
            some alo
          else
            some ([] : List Str)) : Option (List Str)).bind fun alQ =>
      ((
          (zR acL.Marks (4 : Int)).bind fun aaU =>
          if ((ahA aaU (2 : Int)) == (2 : Int)) = true then
            (app 16 alQ [([105] : Str)]).bind fun aqC =>
            some aqC
          else
            some alQ) : Option (List Str)).bind fun ano =>
      (app 104 xq [({ Kind := ([116, 101, 120, 116] : Str), Text := arc, Marks := ano, zu := [], Kids := [] } : za)]).bind fun asz =>
      (zR acL.In (5 : Int)).bind fun Jv =>
      if (Jv == (0 : Int)) = true then
        zA suf (QK + 1) asz yD
      else
        (vE acL asz).bind fun jN =>
        if (decide (Jv < (3 : Int))) = true then
          (app 104 yD [jN]).bind fun aq7 =>
          zA suf (QK + 1) ([] : List za) aq7
        else
          ((
              if (decide ((w64 ((yD.length : Int) - (1 : Int))) ≥ (0 : Int))) = true then
                (rd yD (w64 ((yD.length : Int) - (1 : Int)))).bind fun aiD =>
                if (aiD.Kind == ([108, 105, 115, 116] : Str)) = true then
                  if (Jv == (3 : Int)) = true then
                    (app 104 ([] : List za) aiD.Kids).bind fun alV =>
                    (app 104 alV [({ Kind := ([105, 116, 101, 109] : Str), Text := ([] : Str), Marks := [], zu := [], Kids := [jN] } : za)]).bind fun arn =>
                    (sl yD (0 : Int) (w64 ((yD.length : Int) - (1 : Int)))).bind fun aru =>
                    (app 104 ([] : List za) aru).bind fun aqB =>
                    (app 104 aqB [{ aiD with Kids := arn }]).bind fun aq9 =>
                    some (.inl aq9)
                  else
                    some (.inr ())
                else
                  some (.inr ())
              else
                some (.inr ())) : Option ((List za) ⊕ Unit)).bind fun e => match e with
          | .inl akk =>
            zA suf (QK + 1) ([] : List za) akk
          | .inr _ =>
            if (decide ((w64 ((yD.length : Int) - (1 : Int))) ≥ (0 : Int))) = true then
              (rd yD (w64 ((yD.length : Int) - (1 : Int)))).bind fun aic =>
              if (aic.Kind == ([108, 105, 115, 116] : Str)) = true then
                (vI aic).bind fun XA =>
                if (decide (XA < (30 : Int))) = true then
                  (app 104 [jN] [aic]).bind fun arx =>
                  (sl yD (0 : Int) (w64 ((yD.length : Int) - (1 : Int)))).bind fun aqA =>
                  (app 104 ([] : List za) aqA).bind fun arf =>
                  (app 104 arf [({ Kind := ([108, 105, 115, 116] : Str), Text := ([] : Str), Marks := [], zu := [], Kids := [({ Kind := ([105, 116, 101, 109] : Str), Text := ([] : Str), Marks := [], zu := [], Kids := arx } : za)] } : za)]).bind fun ark =>
                  zA suf (QK + 1) ([] : List za) ark
                else
                  (app 104 yD [({ Kind := ([108, 105, 115, 116] : Str), Text := ([] : Str), Marks := [], zu := [], Kids := [({ Kind := ([105, 116, 101, 109] : Str), Text := ([] : Str), Marks := [], zu := [], Kids := [jN] } : za)] } : za)]).bind fun ard =>
                  zA suf (QK + 1) ([] : List za) ard
              else
                (app 104 yD [({ Kind := ([108, 105, 115, 116] : Str), Text := ([] : Str), Marks := [], zu := [], Kids := [({ Kind := ([105, 116, 101, 109] : Str), Text := ([] : Str), Marks := [], zu := [], Kids := [jN] } : za)] } : za)]).bind fun arq =>
                zA suf (QK + 1) ([] : List za) arq
            else
              (app 104 yD [({ Kind := ([108, 105, 115, 116] : Str), Text := ([] : Str), Marks := [], zu := [], Kids := [({ Kind := ([105, 116, 101, 109] : Str), Text := ([] : Str), Marks := [], zu := [], Kids := [jN] } : za)] } : za)]).bind fun art =>
              zA suf (QK + 1) ([] : List za) art
    else
      some yD
noncomputable def jT (l_1 : (List zt)) : Option za :=
  (chk (l_1.length ≤ 9223372036854775807) (zA l_1 (0 : Int) ([] : List za) ([] : List za))).bind fun an0 =>
  some ({ Kind := ([100, 111, 99] : Str), Text := ([] : Str), Marks := [], zu := [], Kids := an0 } : za)
noncomputable def kU (l : Str) : Option (Str × (List UInt8)) :=
  chk (l.length ≤ 9223372036854775807) (some (l, l))
noncomputable def ky (l : Str) : Option (List UInt8) :=
  some l
noncomputable def qY (s_1 : Str) (l_2 : (List UInt8)) : Option (Int × (List UInt8)) :=
  (ky l_2).bind fun l_3 =>
  (app 1 l_3 s_1).bind fun l_4 =>
  some ((s_1.length : Int), l_4)
noncomputable def wS (node_Words_1_x_r : za → (List UInt8) → Option (List UInt8)) : List za → Int → (List UInt8) → Option (List UInt8)
  | [], v_8, v_9 =>
    some v_9
  | ajQ :: suf, v_8, v_9 =>
    (node_Words_1_x_r ajQ v_9).bind fun aoJ =>
    wS node_Words_1_x_r suf (v_8 + 1) aoJ
noncomputable def wJ : Nat → za → (List UInt8) → Option (List UInt8)
  | 0, _, _ => none
  | kr + 1, n_1, l_2 =>
    (vC n_1).bind fun Ky =>
    if (Ky) = true then
      (qY n_1.Text l_2).bind fun (r_4, l_5) =>
      some l_5
    else
      (chk (n_1.Kids.length ≤ 9223372036854775807) (wS (wJ kr) n_1.Kids (0 : Int) l_2)).bind fun aiN =>
      some aiN
noncomputable def xX (n_1 : za) (l_2 : (List UInt8)) : Option (List UInt8) := lim fun kr => wJ kr n_1 l_2
noncomputable def Zi (n_1 : za) : Option Str :=
  (xX n_1 ([] : Str)).bind fun l_2 =>
  (kU l_2).bind fun (r_3, l_4) =>
  some r_3
noncomputable def vV (l_1 : (List zt)) (xz : Int) (JS : Int) : Option Bool :=
  (je).bind fun ai4 =>
  if (!ai4) = true then
    some false
  else
    (jT l_1).bind fun aar =>
    (jI aar.Kids).bind fun amq =>
    (zR xz (w64 (amq + (1 : Int)))).bind fun qM =>
    (jI aar.Kids).bind fun am2 =>
    (zR JS (w64 (am2 + (1 : Int)))).bind fun qO =>
    (kE aar ({ Kind := (109 : Int), From := (if qO < qM then qO else qM), To := (if qO > qM then qO else qM), wM := [], Name := ([98] : Str), Value := ([] : Str) } : zD)).bind fun (V8, abU) =>
    (Z9 aar [({ Kind := (109 : Int), From := (if qO < qM then qO else qM), To := (if qO > qM then qO else qM), wM := [], Name := ([98] : Str), Value := ([] : Str) } : zD), ({ Kind := (109 : Int), From := (if qO < qM then qO else qM), To := (if qO > qM then qO else qM), wM := [], Name := ([98] : Str), Value := ([] : Str) } : zD)]).bind fun (aek, Xp) =>
    (Z9 aar [({ Kind := (109 : Int), From := (if qO < qM then qO else qM), To := (if qO > qM then qO else qM), wM := [], Name := ([98] : Str), Value := ([] : Str) } : zD), ({ Kind := (117 : Int), From := (if qO < qM then qO else qM), To := (if qO > qM then qO else qM), wM := [], Name := ([98] : Str), Value := ([] : Str) } : zD)]).bind fun (aei, asD) =>
    (kE aar ({ Kind := (117 : Int), From := (if qO < qM then qO else qM), To := (if qO > qM then qO else qM), wM := [], Name := ([98] : Str), Value := ([] : Str) } : zD)).bind fun (ata, alX) =>
    (Z9 aar [({ Kind := (109 : Int), From := (if qO < qM then qO else qM), To := (if qO > qM then qO else qM), wM := [], Name := ([98] : Str), Value := ([] : Str) } : zD), ({ Kind := (109 : Int), From := (if qO < qM then qO else qM), To := (if qO > qM then qO else qM), wM := [], Name := ([97] : Str), Value := ([] : Str) } : zD)]).bind fun (apD, asg) =>
    (Z9 aar [({ Kind := (109 : Int), From := (if qO < qM then qO else qM), To := (if qO > qM then qO else qM), wM := [], Name := ([97] : Str), Value := ([] : Str) } : zD), ({ Kind := (109 : Int), From := (if qO < qM then qO else qM), To := (if qO > qM then qO else qM), wM := [], Name := ([98] : Str), Value := ([] : Str) } : zD)]).bind fun (asT, arY) =>
    if (abU == (0 : Int)) = true then
      if (Xp == (0 : Int)) = true then
        if (asD == (0 : Int)) = true then
          if (alX == (0 : Int)) = true then
            if (asg == (0 : Int)) = true then
              if (arY == (0 : Int)) = true then
                (Zt V8 aek).bind fun aiF =>
                if (aiF) = true then
                  (Zt aei ata).bind fun aja =>
                  if (aja) = true then
                    (Zt apD asT).bind fun aiS =>
                    if (aiS) = true then
                      (Zi apD).bind fun akA =>
                      (Zi aar).bind fun ajE =>
                      some (akA == ajE)
                    else
                      some false
                  else
                    some false
                else
                  some false
              else
                some false
            else
              some false
          else
            some false
        else
          some false
      else
        some false
    else
      some false
end Go.Proofs.YtclohbgnaopjfaaDoor
