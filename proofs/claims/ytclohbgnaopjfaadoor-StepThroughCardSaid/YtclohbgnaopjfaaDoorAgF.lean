/- Texts of the proof of stepThroughCard -/
import Derived.Test.YtclohbgnaopjfaaDoorAgT
import Derived.Test.YtclohbgnaopjfaaDoorAgWith
import Derived.Test.YtclohbgnaopjfaaDoorAgLib
namespace Go.Proofs.YtclohbgnaopjfaaDoor
set_option linter.unusedSimpArgs false
set_option linter.unusedVariables false
open Go
set_option maxRecDepth 100000
noncomputable def jd (n_1 : za) : Option Bool :=
  some (n_1.Kind == ([116, 101, 120, 116] : Str))
noncomputable def zM (s_1 : Str) : Nat → Int → Nat → Option Int
  | 0, _, _ => none
  | k + 1, n_2, v_3 =>
    if (decide (v_3 < s_1.length)) = true then
      zM s_1 k (w64 (n_2 + (1 : Int))) (v_3 + apT s_1 v_3)
    else
      some n_2
noncomputable def qY (s_1 : Str) : Option Int :=
  (lim fun k => zM s_1 k (0 : Int) 0).bind fun n_4 =>
  some n_4
noncomputable def vZ (node_Size_r : za → Option Int) : List za → Int → Int → Option Int
  | [], v_5, XF =>
    some XF
  | y_8 :: suf, v_5, XF =>
    (node_Size_r y_8).bind fun aqL =>
    vZ node_Size_r suf (v_5 + 1) (w64 (XF + aqL))
mutual
noncomputable def xG : Nat → (List za) → Option Int
  | 0, _ => none
  | kr + 1, l_1 =>
    (chk (l_1.length ≤ 9223372036854775807) (vZ (jh kr) l_1 (0 : Int) (0 : Int))).bind fun ac3 =>
    some ac3
noncomputable def jh : Nat → za → Option Int
  | 0, _ => none
  | kr + 1, n_1 =>
    (jd n_1).bind fun yn =>
    if (yn) = true then
      (qY n_1.Text).bind fun akE =>
      some akE
    else
      ((xG kr) n_1.Kids).bind fun anV =>
      some (w64 ((2 : Int) + anV))
end
noncomputable def jr (l_1 : (List za)) : Option Int := lim fun kr => xG kr l_1
noncomputable def yI (n_1 : za) : Option Int := lim fun kr => jh kr n_1
noncomputable def wI (s : Str) : Option Bool :=
  chk (s.length ≤ 9223372036854775807) (some (Lib.validD s))
noncomputable def qb (vB : (List Str)) : List Str → Int → Option (Bool ⊕ Unit)
  | [], v_5 =>
    some (.inr ())
  | y_8 :: suf, v_5 =>
    (rd vB v_5).bind fun x_9 =>
    if (!(y_8 == x_9)) = true then
      some (.inl false)
    else
      qb vB suf (v_5 + 1)
noncomputable def slices_Equal_string (kN : (List Str)) (vB : (List Str)) : Option Bool :=
  if ((kN.length : Int) != (vB.length : Int)) = true then
    some false
  else
    (chk (kN.length ≤ 9223372036854775807) (qb vB kN (0 : Int))).bind fun e => match e with
    | .inl qf =>
      some qf
    | .inr _ =>
      some true
noncomputable def ZB (a_1 : za) (b_2 : za) : Option Bool :=
  (jd a_1).bind fun ahx =>
  if (ahx) = true then
    (jd b_2).bind fun ahs =>
    if (ahs) = true then
      (slices_Equal_string a_1.Marks b_2.Marks).bind fun alc =>
      some alc
    else
      some false
  else
    some false
noncomputable def Kv (s : Str) (cutset : Str) : Option Str :=
  chk (s.length ≤ 9223372036854775807 ∧ cutset.length < 4294967281 ∧ cutset.all (fun b => decide (b.toNat < 128)) = true) (some (Lib.trimS s cutset))
noncomputable def yG (s_1 : Str) : Option Bool :=
  (Kv s_1 ([97, 98, 99, 100, 101, 102, 103, 104, 105, 106, 107, 108, 109, 110, 111, 112, 113, 114, 115, 116, 117, 118, 119, 120, 121, 122] : Str)).bind fun am4 =>
  if (am4 == ([] : Str)) = true then
    if (!(s_1 == ([] : Str))) = true then
      if (decide ((s_1.length : Int) ≤ (8 : Int))) = true then
        some (!(s_1 == ([116, 101, 120, 116] : Str)))
      else
        some false
    else
      some false
  else
    some false
noncomputable def kX (l_1 : (List Str)) : List Str → Int → Option (Bool ⊕ Unit)
  | [], v_5 =>
    some (.inr ())
  | y_9 :: suf, v_5 =>
    (yG y_9).bind fun ajq =>
    if (!ajq) = true then
      some (.inl false)
    else
      if (decide (v_5 > (0 : Int))) = true then
        (rd l_1 (w64 (v_5 - (1 : Int)))).bind fun ahi =>
        if ((Op.bytesLess y_9 ahi || y_9 == ahi)) = true then
          some (.inl false)
        else
          kX l_1 suf (v_5 + 1)
      else
        kX l_1 suf (v_5 + 1)
noncomputable def KG (l_1 : (List Str)) : Option Bool :=
  (chk (l_1.length ≤ 9223372036854775807) (kX l_1 l_1 (0 : Int))).bind fun e => match e with
  | .inl ag2 =>
    some ag2
  | .inr _ =>
    some true
noncomputable def Q3 (s_1 : Str) : Option Bool :=
  if (decide ((s_1.length : Int) ≤ (40 : Int))) = true then
    (wI s_1).bind fun alC =>
    some alC
  else
    some false
noncomputable def vz : List zh → Int → (List Str) → Option (Bool ⊕ (List Str))
  | [], v_8, Ky =>
    some (.inr Ky)
  | asl :: suf, v_8, Ky =>
    (Q3 asl.Value).bind fun ahd =>
    if (!ahd) = true then
      some (.inl false)
    else
      (app 16 Ky [asl.Name]).bind fun auz =>
      vz suf (v_8 + 1) auz
noncomputable def kC (n_1 : za) (node_formed_r : za → Option Bool) : List za → Int → Option (Bool ⊕ Unit)
  | [], XI =>
    some (.inr ())
  | aqM :: suf, XI =>
    (node_formed_r aqM).bind fun adz =>
    if (!adz) = true then
      some (.inl false)
    else
      if (decide (XI > (0 : Int))) = true then
        (rd n_1.Kids (w64 (XI - (1 : Int)))).bind fun auY =>
        (ZB auY aqM).bind fun agH =>
        if (agH) = true then
          some (.inl false)
        else
          kC n_1 node_formed_r suf (XI + 1)
      else
        kC n_1 node_formed_r suf (XI + 1)
noncomputable def kG : Nat → za → Option Bool
  | 0, _ => none
  | kr + 1, n_1 =>
    (jd n_1).bind fun yn =>
    if (yn) = true then
      if (!(n_1.Text == ([] : Str))) = true then
        (wI n_1.Text).bind fun afO =>
        if (afO) = true then
          (KG n_1.Marks).bind fun amj =>
          if (amj) = true then
            some ((w64 ((n_1.zu.length : Int) + (n_1.Kids.length : Int))) == (0 : Int))
          else
            some false
        else
          some false
      else
        some false
    else
      (chk (n_1.zu.length ≤ 9223372036854775807) (vz n_1.zu (0 : Int) ([] : List Str))).bind fun e => match e with
      | .inl af7 =>
        some af7
      | .inr Je =>
        (yG n_1.Kind).bind fun ajK =>
        if (!ajK) = true then
          some false
        else
          if (!(n_1.Text == ([] : Str))) = true then
            some false
          else
            if (decide ((n_1.Marks.length : Int) > (0 : Int))) = true then
              some false
            else
              (KG Je).bind fun akg =>
              if (!akg) = true then
                some false
              else
                (chk (n_1.Kids.length ≤ 9223372036854775807) (kC n_1 (kG kr) n_1.Kids (0 : Int))).bind fun e => match e with
                | .inl afI =>
                  some afI
                | .inr _ =>
                  some true
noncomputable def WG (n_1 : za) : Option Bool := lim fun kr => kG kr n_1
noncomputable def kY (node_Depth_r : za → Option Int) : List za → Int → Int → Option Int
  | [], v_6, yK =>
    some yK
  | y_9 :: suf, v_6, yK =>
    (node_Depth_r y_9).bind fun ahB =>
    kY node_Depth_r suf (v_6 + 1) (if ahB > yK then ahB else yK)
noncomputable def kZ : Nat → za → Option Int
  | 0, _ => none
  | kr + 1, n_1 =>
    (jd n_1).bind fun yn =>
    if (yn) = true then
      some (0 : Int)
    else
      (chk (n_1.Kids.length ≤ 9223372036854775807) (kY (kZ kr) n_1.Kids (0 : Int) (0 : Int))).bind fun K6 =>
      some (w64 (K6 + (1 : Int)))
noncomputable def KY (n_1 : za) : Option Int := lim fun kr => kZ kr n_1
noncomputable def yw (n_1 : za) : Option Int :=
  (WG n_1).bind fun agk =>
  if (!agk) = true then
    some (2 : Int)
  else
    (KY n_1).bind fun aj7 =>
    if (decide (aj7 > (40 : Int))) = true then
      some (4 : Int)
    else
      (yI n_1).bind fun amx =>
      if (decide (amx > (4000 : Int))) = true then
        some (5 : Int)
      else
        some (0 : Int)
noncomputable def QY (n_1 : za) : Option Bool :=
  (yw n_1).bind fun anu =>
  some (anu == (0 : Int))
noncomputable def xS (l : (List zh)) : Option (List zh) :=
  app 32 [] l
noncomputable def slices_Clone_int (l : (List Int)) : Option (List Int) :=
  app 8 [] l
noncomputable def jm : List Int → Int → za → Option ((za × Int) ⊕ za)
  | [], v_6, n_5 =>
    some (.inr n_5)
  | y_9 :: suf, v_6, n_5 =>
    if (decide (y_9 < (0 : Int))) = true then
      some (.inl (({ Kind := ([] : Str), Text := ([] : Str), Marks := [], zu := [], Kids := [] } : za), (9 : Int)))
    else
      if (decide (y_9 ≥ (n_5.Kids.length : Int))) = true then
        some (.inl (({ Kind := ([] : Str), Text := ([] : Str), Marks := [], zu := [], Kids := [] } : za), (9 : Int)))
      else
        if (n_5.Kind == ([116, 101, 120, 116] : Str)) = true then
          some (.inl (({ Kind := ([] : Str), Text := ([] : Str), Marks := [], zu := [], Kids := [] } : za), (9 : Int)))
        else
          (rd n_5.Kids y_9).bind fun ahR =>
          jm suf (v_6 + 1) ahR
noncomputable def jP (n_1 : za) (qZ : (List Int)) : Option (za × Int) :=
  (chk (qZ.length ≤ 9223372036854775807) (jm qZ (0 : Int) n_1)).bind fun e => match e with
  | .inl VV =>
    some VV
  | .inr afV =>
    if (afV.Kind == ([116, 101, 120, 116] : Str)) = true then
      some (({ Kind := ([] : Str), Text := ([] : Str), Marks := [], zu := [], Kids := [] } : za), (9 : Int))
    else
      some (afV, (0 : Int))
noncomputable def zY (Xu : (List Int)) : List za → Int → Int → Option ((qU × Int) ⊕ ((Int × za × (List Int)) ⊕ Unit))
  | [], afi, QS =>
    some (.inr (.inr ()))
  | ao0 :: suf, afi, QS =>
    (yI ao0).bind fun afr =>
    if (decide (QS ≥ afr)) = true then
      zY Xu suf (afi + 1) (w64 (QS - afr))
    else
      if (ao0.Kind == ([116, 101, 120, 116] : Str)) = true then
        some (.inl (({ Path := Xu, Index := afi, Offset := QS } : qU), (0 : Int)))
      else
        if (QS == (0 : Int)) = true then
          some (.inl (({ Path := Xu, Index := afi, Offset := (0 : Int) } : qU), (0 : Int)))
        else
          (app 8 Xu [afi]).bind fun apO =>
          some (.inr (.inl (w64 (QS - (1 : Int)), ao0, apO)))
noncomputable def wU : Nat → Int → za → (List Int) → Option (qU × Int)
  | 0, _, _, _ => none
  | k + 1, ad1, QF, Xu =>
    (chk (QF.Kids.length ≤ 9223372036854775807) (zY Xu QF.Kids (0 : Int) ad1)).bind fun e => match e with
    | .inl X6 =>
      some X6
    | .inr (.inl (af3, aj2, Yl)) =>
      wU k af3 aj2 Yl
    | .inr (.inr _) =>
      some (({ Path := Xu, Index := (QF.Kids.length : Int), Offset := (0 : Int) } : qU), (0 : Int))
noncomputable def j4 (n_1 : za) (wC : Int) : Option (qU × Int) :=
  if (n_1.Kind == ([116, 101, 120, 116] : Str)) = true then
    some (({ Path := [], Index := (0 : Int), Offset := (0 : Int) } : qU), (3 : Int))
  else
    if (decide (wC < (0 : Int))) = true then
      some (({ Path := [], Index := (0 : Int), Offset := (0 : Int) } : qU), (3 : Int))
    else
      (jr n_1.Kids).bind fun Qi =>
      if (decide (wC > Qi)) = true then
        some (({ Path := [], Index := (0 : Int), Offset := (0 : Int) } : qU), (3 : Int))
      else
        (lim fun k => wU k wC n_1 ([] : List Int)).bind fun X0 =>
        some X0
noncomputable def X3 (n_1 : za) (wC : Int) : Option ((List Int) × Bool) :=
  if (wC == (-1 : Int)) = true then
    some ([], true)
  else
    (j4 n_1 wC).bind fun (r_3, r_4) =>
    if (r_4 != (0 : Int)) = true then
      some ([], false)
    else
      if (decide (r_3.Offset > (0 : Int))) = true then
        some ([], false)
      else
        (slices_Clone_int r_3.Path).bind fun as6 =>
        (app 8 as6 [r_3.Index]).bind fun l_6 =>
        (jP n_1 l_6).bind fun (r_7, r_8) =>
        some (l_6, r_8 == (0 : Int))
noncomputable def J7 (a_1 : zh) (zH : zz) : Option Bool :=
  some (a_1.Name == zH.Name)
noncomputable def qW (zH : zz) : List zh → Int → Option ((Int × zz) ⊕ Unit)
  | [], v_5 =>
    some (.inr ())
  | y_8 :: suf, v_5 =>
    (J7 y_8 zH).bind fun ams =>
    if (ams) = true then
      some (.inl (v_5, zH))
    else
      qW zH suf (v_5 + 1)
noncomputable def vV (s_1 : (List zh)) (zH : zz) : Option (Int × zz) :=
  (chk (s_1.length ≤ 9223372036854775807) (qW zH s_1 (0 : Int))).bind fun e => match e with
  | .inl qf =>
    some qf
  | .inr _ =>
    some ((-1 : Int), zH)
noncomputable def qN (l : (List za)) : Option (List za) :=
  app 104 [] l
noncomputable def jR : Nat → za → (List Int) → za → Option (za × Int)
  | 0, _, _, _ => none
  | kr + 1, n_1, qZ, m_3 =>
    (jP n_1 qZ).bind fun (r_4, r_5) =>
    if (r_5 != (0 : Int)) = true then
      some (({ Kind := ([] : Str), Text := ([] : Str), Marks := [], zu := [], Kids := [] } : za), r_5)
    else
      if ((qZ.length : Int) == (0 : Int)) = true then
        some (m_3, (0 : Int))
      else
        (qN n_1.Kids).bind fun am5 =>
        (rd qZ (0 : Int)).bind fun x_7 =>
        (rd am5 x_7).bind fun x_8 =>
        (sl qZ (1 : Int) (qZ.length : Int)).bind fun s_9 =>
        ((jR kr) x_8 s_9 m_3).bind fun (XT, adp) =>
        (wr am5 x_7 XT).bind fun aku =>
        some ({ n_1 with Kids := aku }, (0 : Int))
noncomputable def Q7 (n_1 : za) (qZ : (List Int)) (m_3 : za) : Option (za × Int) := lim fun kr => jR kr n_1 qZ m_3
noncomputable def ac6 (n_1 : za) (s_2 : zz) : Option (za × Str × Int) :=
  (X3 n_1 s_2.From).bind fun (r_3, r_4) =>
  if (!r_4) = true then
    some (({ Kind := ([] : Str), Text := ([] : Str), Marks := [], zu := [], Kids := [] } : za), ([] : Str), (3 : Int))
  else
    (jP n_1 r_3).bind fun (r_5, r_6) =>
    (vV r_5.zu s_2).bind fun (r_7, aqi) =>
    if (decide (r_7 < (0 : Int))) = true then
      some (({ Kind := ([] : Str), Text := ([] : Str), Marks := [], zu := [], Kids := [] } : za), ([] : Str), (9 : Int))
    else
      (rd r_5.zu r_7).bind fun x_9 =>
      (xS r_5.zu).bind fun aki =>
      (rd aki r_7).bind fun ahi =>
      (wr aki r_7 ({ ahi with Value := aqi.Value })).bind fun aku =>
      (Q7 n_1 r_3 ({ r_5 with zu := aku })).bind fun (adE, ae0) =>
      some (adE, x_9.Value, ae0)
noncomputable def Qa (s : zz) (marks : (List Str)) : Option ((List Str) × Bool) :=
  chk (marks.length ≤ 1099511627776) (some (QD s.Kind s.Name marks))
noncomputable def vT (VQ : Int) (aph : Int) (vE : Int) (zA : Int) (jF : Int) (ko : (List za)) (vH : Str) (w9 : Str) (l_9 : (List zg)) : Option (Int × Int × Int × (List za) × Str × Str × (List zg)) :=
  if (decide ((w64 ((l_9.length : Int) - (1 : Int))) ≥ (0 : Int))) = true then
    (rd l_9 (w64 ((l_9.length : Int) - (1 : Int)))).bind fun ahR =>
    if ((w64 (ahR.Pos + ahR.Old)) == VQ) = true then
      (wr l_9 (w64 ((l_9.length : Int) - (1 : Int))) ({ ahR with Old := w64 (ahR.Old + (w64 (aph - VQ))) })).bind fun aqT =>
      some (vE, zA, jF, ko, vH, w9, aqT)
    else
      (app 24 l_9 [({ Pos := VQ, Old := w64 (aph - VQ), New := (0 : Int) } : zg)]).bind fun aku =>
      some (vE, zA, jF, ko, vH, w9, aku)
  else
    (app 24 l_9 [({ Pos := VQ, Old := w64 (aph - VQ), New := (0 : Int) } : zg)]).bind fun auG =>
    some (vE, zA, jF, ko, vH, w9, auG)
noncomputable def wL (a_1 : Int) (b_2 : Int) (afn : (List Str)) (QZ : za) (v_5 : (List Int)) : Option za :=
  (sl v_5 a_1 b_2).bind fun s_6 =>
  some ({ Kind := QZ.Kind, Text := zK s_6, Marks := afn, zu := [], Kids := [] } : za)
noncomputable def vR (n_1 : za) (zP : Int) (vE : Int) (zA : Int) (jF : Int) (ko : (List za)) (vH : Str) (w9 : Str) (l_9 : (List zg)) : Option ((List za) × Int × Int × Int × (List za) × Str × Str × (List zg)) :=
  (Qa ({ Kind := vE, From := zA, To := jF, qK := ko, Name := vH, Value := w9 } : zz) n_1.Marks).bind fun (XT, adp) =>
  if (!adp) = true then
    some ([n_1], vE, zA, jF, ko, vH, w9, l_9)
  else
    if ((if ((runes n_1.Text).length : Int) < (if (0 : Int) > (w64 (zA - zP)) then (0 : Int) else w64 (zA - zP)) then ((runes n_1.Text).length : Int) else (if (0 : Int) > (w64 (zA - zP)) then (0 : Int) else w64 (zA - zP))) == (if ((runes n_1.Text).length : Int) < (if (if ((runes n_1.Text).length : Int) < (if (0 : Int) > (w64 (zA - zP)) then (0 : Int) else w64 (zA - zP)) then ((runes n_1.Text).length : Int) else (if (0 : Int) > (w64 (zA - zP)) then (0 : Int) else w64 (zA - zP))) > (w64 (jF - zP)) then (if ((runes n_1.Text).length : Int) < (if (0 : Int) > (w64 (zA - zP)) then (0 : Int) else w64 (zA - zP)) then ((runes n_1.Text).length : Int) else (if (0 : Int) > (w64 (zA - zP)) then (0 : Int) else w64 (zA - zP))) else w64 (jF - zP)) then ((runes n_1.Text).length : Int) else (if (if ((runes n_1.Text).length : Int) < (if (0 : Int) > (w64 (zA - zP)) then (0 : Int) else w64 (zA - zP)) then ((runes n_1.Text).length : Int) else (if (0 : Int) > (w64 (zA - zP)) then (0 : Int) else w64 (zA - zP))) > (w64 (jF - zP)) then (if ((runes n_1.Text).length : Int) < (if (0 : Int) > (w64 (zA - zP)) then (0 : Int) else w64 (zA - zP)) then ((runes n_1.Text).length : Int) else (if (0 : Int) > (w64 (zA - zP)) then (0 : Int) else w64 (zA - zP))) else w64 (jF - zP)))) = true then
      some ([n_1], vE, zA, jF, ko, vH, w9, l_9)
    else
      (vT (w64 (zP + (if ((runes n_1.Text).length : Int) < (if (0 : Int) > (w64 (zA - zP)) then (0 : Int) else w64 (zA - zP)) then ((runes n_1.Text).length : Int) else (if (0 : Int) > (w64 (zA - zP)) then (0 : Int) else w64 (zA - zP))))) (w64 (zP + (if ((runes n_1.Text).length : Int) < (if (if ((runes n_1.Text).length : Int) < (if (0 : Int) > (w64 (zA - zP)) then (0 : Int) else w64 (zA - zP)) then ((runes n_1.Text).length : Int) else (if (0 : Int) > (w64 (zA - zP)) then (0 : Int) else w64 (zA - zP))) > (w64 (jF - zP)) then (if ((runes n_1.Text).length : Int) < (if (0 : Int) > (w64 (zA - zP)) then (0 : Int) else w64 (zA - zP)) then ((runes n_1.Text).length : Int) else (if (0 : Int) > (w64 (zA - zP)) then (0 : Int) else w64 (zA - zP))) else w64 (jF - zP)) then ((runes n_1.Text).length : Int) else (if (if ((runes n_1.Text).length : Int) < (if (0 : Int) > (w64 (zA - zP)) then (0 : Int) else w64 (zA - zP)) then ((runes n_1.Text).length : Int) else (if (0 : Int) > (w64 (zA - zP)) then (0 : Int) else w64 (zA - zP))) > (w64 (jF - zP)) then (if ((runes n_1.Text).length : Int) < (if (0 : Int) > (w64 (zA - zP)) then (0 : Int) else w64 (zA - zP)) then ((runes n_1.Text).length : Int) else (if (0 : Int) > (w64 (zA - zP)) then (0 : Int) else w64 (zA - zP))) else w64 (jF - zP))))) vE zA jF ko vH w9 l_9).bind fun (anw, anG, atj, alf, aoa, akP, aqw) =>
      (wL (0 : Int) (if ((runes n_1.Text).length : Int) < (if (0 : Int) > (w64 (zA - zP)) then (0 : Int) else w64 (zA - zP)) then ((runes n_1.Text).length : Int) else (if (0 : Int) > (w64 (zA - zP)) then (0 : Int) else w64 (zA - zP))) n_1.Marks n_1 (runes n_1.Text)).bind fun as5 =>
      (wL (if ((runes n_1.Text).length : Int) < (if (0 : Int) > (w64 (zA - zP)) then (0 : Int) else w64 (zA - zP)) then ((runes n_1.Text).length : Int) else (if (0 : Int) > (w64 (zA - zP)) then (0 : Int) else w64 (zA - zP))) (if ((runes n_1.Text).length : Int) < (if (if ((runes n_1.Text).length : Int) < (if (0 : Int) > (w64 (zA - zP)) then (0 : Int) else w64 (zA - zP)) then ((runes n_1.Text).length : Int) else (if (0 : Int) > (w64 (zA - zP)) then (0 : Int) else w64 (zA - zP))) > (w64 (jF - zP)) then (if ((runes n_1.Text).length : Int) < (if (0 : Int) > (w64 (zA - zP)) then (0 : Int) else w64 (zA - zP)) then ((runes n_1.Text).length : Int) else (if (0 : Int) > (w64 (zA - zP)) then (0 : Int) else w64 (zA - zP))) else w64 (jF - zP)) then ((runes n_1.Text).length : Int) else (if (if ((runes n_1.Text).length : Int) < (if (0 : Int) > (w64 (zA - zP)) then (0 : Int) else w64 (zA - zP)) then ((runes n_1.Text).length : Int) else (if (0 : Int) > (w64 (zA - zP)) then (0 : Int) else w64 (zA - zP))) > (w64 (jF - zP)) then (if ((runes n_1.Text).length : Int) < (if (0 : Int) > (w64 (zA - zP)) then (0 : Int) else w64 (zA - zP)) then ((runes n_1.Text).length : Int) else (if (0 : Int) > (w64 (zA - zP)) then (0 : Int) else w64 (zA - zP))) else w64 (jF - zP))) XT n_1 (runes n_1.Text)).bind fun atc =>
      (wL (if ((runes n_1.Text).length : Int) < (if (if ((runes n_1.Text).length : Int) < (if (0 : Int) > (w64 (zA - zP)) then (0 : Int) else w64 (zA - zP)) then ((runes n_1.Text).length : Int) else (if (0 : Int) > (w64 (zA - zP)) then (0 : Int) else w64 (zA - zP))) > (w64 (jF - zP)) then (if ((runes n_1.Text).length : Int) < (if (0 : Int) > (w64 (zA - zP)) then (0 : Int) else w64 (zA - zP)) then ((runes n_1.Text).length : Int) else (if (0 : Int) > (w64 (zA - zP)) then (0 : Int) else w64 (zA - zP))) else w64 (jF - zP)) then ((runes n_1.Text).length : Int) else (if (if ((runes n_1.Text).length : Int) < (if (0 : Int) > (w64 (zA - zP)) then (0 : Int) else w64 (zA - zP)) then ((runes n_1.Text).length : Int) else (if (0 : Int) > (w64 (zA - zP)) then (0 : Int) else w64 (zA - zP))) > (w64 (jF - zP)) then (if ((runes n_1.Text).length : Int) < (if (0 : Int) > (w64 (zA - zP)) then (0 : Int) else w64 (zA - zP)) then ((runes n_1.Text).length : Int) else (if (0 : Int) > (w64 (zA - zP)) then (0 : Int) else w64 (zA - zP))) else w64 (jF - zP))) ((runes n_1.Text).length : Int) n_1.Marks n_1 (runes n_1.Text)).bind fun atd =>
      some ([as5, atc, atd], anw, anG, atj, alf, aoa, akP, aqw)
noncomputable def wO : List za → Int → (List za) → Option (List za)
  | [], Wi, vQ =>
    some vQ
  | KW :: suf, Wi, vQ =>
    (jd KW).bind fun adV =>
    if (adV) = true then
      if (KW.Text == ([] : Str)) = true then
        wO suf (Wi + 1) vQ
      else
        if (decide ((w64 ((vQ.length : Int) - (1 : Int))) ≥ (0 : Int))) = true then
          (rd vQ (w64 ((vQ.length : Int) - (1 : Int)))).bind fun asn =>
          (ZB asn KW).bind fun agt =>
          if (agt) = true then
            chk (asn.Text.length + KW.Text.length ≤ 9223372036854775807) (
              (wr vQ (w64 ((vQ.length : Int) - (1 : Int))) ({ KW with Text := asn.Text ++ KW.Text })).bind fun apN =>
              wO suf (Wi + 1) apN)
          else
            (app 104 vQ [KW]).bind fun apY =>
            wO suf (Wi + 1) apY
        else
          (app 104 vQ [KW]).bind fun aqE =>
          wO suf (Wi + 1) aqE
    else
      if (decide ((w64 ((vQ.length : Int) - (1 : Int))) ≥ (0 : Int))) = true then
        (rd vQ (w64 ((vQ.length : Int) - (1 : Int)))).bind fun asy =>
        (ZB asy KW).bind fun agz =>
        if (agz) = true then
          chk (asy.Text.length + KW.Text.length ≤ 9223372036854775807) (
            (wr vQ (w64 ((vQ.length : Int) - (1 : Int))) ({ KW with Text := asy.Text ++ KW.Text })).bind fun aus =>
            wO suf (Wi + 1) aus)
        else
          (app 104 vQ [KW]).bind fun avp =>
          wO suf (Wi + 1) avp
      else
        (app 104 vQ [KW]).bind fun auT =>
        wO suf (Wi + 1) auT
noncomputable def Q6 (l_1 : (List za)) : Option (List za) :=
  (chk (l_1.length ≤ 9223372036854775807) (wO l_1 (0 : Int) ([] : List za))).bind fun adU =>
  some adU
noncomputable def qd (step_painter_kids_x_r : (List za) → Int → Int → Int → Int → (List za) → Str → Str → (List zg) → Option ((List za) × Int × Int × Int × (List za) × Str × Str × (List zg))) : List za → Int → Int → (List za) → Int → Int → Int → (List za) → Str → Str → (List zg) → Option ((List za) × Int × Int × Int × (List za) × Str × Str × (List zg))
  | [], ahk, aaq, VY, ajQ, ajJ, aj8, akb, ajm, akh, Yl =>
    some (VY, ajQ, ajJ, aj8, akb, ajm, akh, Yl)
  | ajE :: suf, ahk, aaq, VY, ajQ, ajJ, aj8, akb, ajm, akh, Yl =>
    (yI ajE).bind fun ajT =>
    if (ajE.Kind == ([116, 101, 120, 116] : Str)) = true then
      (vR ajE aaq ajQ ajJ aj8 akb ajm akh Yl).bind fun (ava, anU, aoi, as7, ak5, anT, alx, amC) =>
      (app 104 VY ava).bind fun avf =>
      qd step_painter_kids_x_r suf (ahk + 1) (w64 (aaq + ajT)) avf anU aoi as7 ak5 anT alx amC
    else
      (step_painter_kids_x_r ajE.Kids (w64 (aaq + (1 : Int))) ajQ ajJ aj8 akb ajm akh Yl).bind fun (auS, an4, ant, as8, alD, an6, ak8, auA) =>
      (app 104 VY [{ ajE with Kids := auS }]).bind fun amJ =>
      qd step_painter_kids_x_r suf (ahk + 1) (w64 (aaq + ajT)) amJ an4 ant as8 alD an6 ak8 auA
noncomputable def qB : Nat → (List za) → Int → Int → Int → Int → (List za) → Str → Str → (List zg) → Option ((List za) × Int × Int × Int × (List za) × Str × Str × (List zg))
  | 0, _, _, _, _, _, _, _, _, _ => none
  | kr + 1, l_1, zP, vE, zA, jF, ko, vH, w9, l_9 =>
    (chk (l_1.length ≤ 9223372036854775807) (qd (qB kr) l_1 (0 : Int) zP ([] : List za) vE zA jF ko vH w9 l_9)).bind fun (adG, aqu, arB, aqU, aqc, apW, ari, aou) =>
    (Q6 adG).bind fun anI =>
    some (anI, aqu, arB, aqU, aqc, apW, ari, aou)
noncomputable def vS (l_1 : (List za)) (zP : Int) (vE : Int) (zA : Int) (jF : Int) (ko : (List za)) (vH : Str) (w9 : Str) (l_9 : (List zg)) : Option ((List za) × Int × Int × Int × (List za) × Str × Str × (List zg)) := lim fun kr => qB kr l_1 zP vE zA jF ko vH w9 l_9
noncomputable def Zz (n_1 : za) (s_2 : zz) : Option (za × (List zg) × Int) :=
  (jr n_1.Kids).bind fun Qi =>
  if (decide (s_2.To > Qi)) = true then
    some (({ Kind := ([] : Str), Text := ([] : Str), Marks := [], zu := [], Kids := [] } : za), [], (3 : Int))
  else
    (vS n_1.Kids (0 : Int) s_2.Kind s_2.From s_2.To s_2.qK s_2.Name s_2.Value ([] : List zg)).bind fun (r_4, at5, auh, avO, ar5, atV, apV, aqT) =>
    some ({ n_1 with Kids := r_4 }, aqT, (0 : Int))
noncomputable def ym (s_1 : zz) : Option Bool :=
  ((
      if (decide (s_1.From ≥ (0 : Int))) = true then
        if (decide (s_1.From ≤ s_1.To)) = true then
          some (decide (s_1.To ≤ (1048576 : Int)))
        else
          some false
      else
        some false) : Option Bool).bind fun VT =>
  if (s_1.Kind == (114 : Int)) = true then
    (yw ({ Kind := ([120] : Str), Text := ([] : Str), Marks := [], zu := [], Kids := s_1.qK } : za)).bind fun aj0 =>
    if (VT) = true then
      if (aj0 != (2 : Int)) = true then
        chk (s_1.Name.length + s_1.Value.length ≤ 9223372036854775807) (
          some ((s_1.Name ++ s_1.Value) == ([] : Str)))
      else
        some false
    else
      some false
  else
    if (s_1.Kind == (97 : Int)) = true then
      if (decide (s_1.From ≥ (-1 : Int))) = true then
        if (decide (s_1.From ≤ (1048576 : Int))) = true then
          if (s_1.To == (0 : Int)) = true then
            (yG s_1.Name).bind fun ann =>
            if (ann) = true then
              (Q3 s_1.Value).bind fun ajZ =>
              if (ajZ) = true then
                some ((s_1.qK.length : Int) == (0 : Int))
              else
                some false
            else
              some false
          else
            some false
        else
          some false
      else
        some false
    else
      if (s_1.Kind == (109 : Int)) = true then
        if (VT) = true then
          (yG s_1.Name).bind fun am8 =>
          if (am8) = true then
            if ((s_1.qK.length : Int) == (0 : Int)) = true then
              some (s_1.Value == ([] : Str))
            else
              some false
          else
            some false
        else
          some false
      else
        if (s_1.Kind == (117 : Int)) = true then
          if (VT) = true then
            (yG s_1.Name).bind fun anl =>
            if (anl) = true then
              if ((s_1.qK.length : Int) == (0 : Int)) = true then
                some (s_1.Value == ([] : Str))
              else
                some false
            else
              some false
          else
            some false
        else
          some false
noncomputable def wR (v_1 : Int) (KQ : qH) : Option (Int × qH) :=
  if (v_1 != (0 : Int)) = true then
    some (v_1, ({ path := [], in_ := ({ Kind := ([] : Str), Text := ([] : Str), Marks := [], zu := [], Kids := [] } : za), from_ := (0 : Int), to_ := (0 : Int) } : qH))
  else
    some (v_1, KQ)
noncomputable def wJ (vB : (List Int)) : List Int → Int → Option (Bool ⊕ Unit)
  | [], v_5 =>
    some (.inr ())
  | y_8 :: suf, v_5 =>
    (rd vB v_5).bind fun x_9 =>
    if (y_8 != x_9) = true then
      some (.inl false)
    else
      wJ vB suf (v_5 + 1)
noncomputable def slices_Equal_int (kN : (List Int)) (vB : (List Int)) : Option Bool :=
  if ((kN.length : Int) != (vB.length : Int)) = true then
    some false
  else
    (chk (kN.length ≤ 9223372036854775807) (wJ vB kN (0 : Int))).bind fun e => match e with
    | .inl qf =>
      some qf
    | .inr _ =>
      some true
noncomputable def jq : List Int → Int → Int → za → Option Int
  | [], yY, aeQ, n_9 =>
    some aeQ
  | as2 :: suf, yY, aeQ, n_9 =>
    (sl n_9.Kids (0 : Int) as2).bind fun auN =>
    (jr auN).bind fun akv =>
    (rd n_9.Kids as2).bind fun ave =>
    jq suf (yY + 1) (w64 (aeQ + (w64 (akv + (1 : Int))))) ave
noncomputable def WJ (n_1 : za) (qZ : (List Int)) : Option (Int × Int) :=
  (jP n_1 qZ).bind fun (r_3, r_4) =>
  if (r_4 != (0 : Int)) = true then
    some ((0 : Int), r_4)
  else
    (chk (qZ.length ≤ 9223372036854775807) (jq qZ (0 : Int) (0 : Int) n_1)).bind fun alO =>
    some (alO, (0 : Int))
noncomputable def WK (n_1 : za) (xU : Int) (XB : Int) : Option (qH × Int) :=
  if (n_1.Kind == ([116, 101, 120, 116] : Str)) = true then
    (wR (2 : Int) ({ path := [], in_ := ({ Kind := ([] : Str), Text := ([] : Str), Marks := [], zu := [], Kids := [] } : za), from_ := (0 : Int), to_ := (0 : Int) } : qH)).bind fun (v_4, arq) =>
    some (arq, v_4)
  else
    (QY n_1).bind fun akc =>
    if (!akc) = true then
      (wR (2 : Int) ({ path := [], in_ := ({ Kind := ([] : Str), Text := ([] : Str), Marks := [], zu := [], Kids := [] } : za), from_ := (0 : Int), to_ := (0 : Int) } : qH)).bind fun (v_7, aq8) =>
      some (aq8, v_7)
    else
      (j4 n_1 xU).bind fun (r_9, XT) =>
      if (XT != (0 : Int)) = true then
        (wR XT ({ path := [], in_ := ({ Kind := ([] : Str), Text := ([] : Str), Marks := [], zu := [], Kids := [] } : za), from_ := (0 : Int), to_ := (0 : Int) } : qH)).bind fun (yY, an1) =>
        some (an1, yY)
      else
        (j4 n_1 XB).bind fun (adE, ae0) =>
        if (ae0 != (0 : Int)) = true then
          (wR ae0 ({ path := [], in_ := ({ Kind := ([] : Str), Text := ([] : Str), Marks := [], zu := [], Kids := [] } : za), from_ := (0 : Int), to_ := (0 : Int) } : qH)).bind fun (alo, anz) =>
          some (anz, alo)
        else
          if (decide (XB < xU)) = true then
            (wR (3 : Int) ({ path := [], in_ := ({ Kind := ([] : Str), Text := ([] : Str), Marks := [], zu := [], Kids := [] } : za), from_ := (0 : Int), to_ := (0 : Int) } : qH)).bind fun (alN, anX) =>
            some (anX, alN)
          else
            (slices_Equal_int r_9.Path adE.Path).bind fun amS =>
            if (!amS) = true then
              (wR (10 : Int) ({ path := [], in_ := ({ Kind := ([] : Str), Text := ([] : Str), Marks := [], zu := [], Kids := [] } : za), from_ := (0 : Int), to_ := (0 : Int) } : qH)).bind fun (aqj, an5) =>
              some (an5, aqj)
            else
              (WJ n_1 r_9.Path).bind fun (atY, avT) =>
              (jP n_1 r_9.Path).bind fun (au4, avn) =>
              (wR avn ({ path := r_9.Path, in_ := au4, from_ := w64 (xU - atY), to_ := w64 (XB - atY) } : qH)).bind fun (XI, anJ) =>
              some (anJ, XI)
noncomputable def vF : List za → Int → Int → Option (Int × Int)
  | [], i_8, agp =>
    some (agp, i_8)
  | aaa :: suf, i_8, agp =>
    (yI aaa).bind fun ajP =>
    if (decide (agp ≥ ajP)) = true then
      (yI aaa).bind fun an3 =>
      vF suf (i_8 + 1) (w64 (agp - an3))
    else
      some (agp, i_8)
noncomputable def xB (l_1 : (List za)) (zP : Int) : Option ((List za) × (List za) × Int) :=
  if (decide (zP < (0 : Int))) = true then
    some ([], [], (3 : Int))
  else
    (jr l_1).bind fun Qi =>
    if (decide (zP > Qi)) = true then
      some ([], [], (3 : Int))
    else
      (chk (l_1.length ≤ 9223372036854775807) (vF l_1 (0 : Int) zP)).bind fun (aeM, amq) =>
      (sl l_1 (0 : Int) amq).bind fun auU =>
      (qN auU).bind fun aj6 =>
      (sl l_1 amq (l_1.length : Int)).bind fun aur =>
      (qN aur).bind fun afx =>
      if (aeM == (0 : Int)) = true then
        some (aj6, afx, (0 : Int))
      else
        (rd l_1 amq).bind fun am9 =>
        if (!(am9.Kind == ([116, 101, 120, 116] : Str))) = true then
          some ([], [], (10 : Int))
        else
          (sl (runes am9.Text) (0 : Int) aeM).bind fun avi =>
          (sl (runes am9.Text) aeM ((runes am9.Text).length : Int)).bind fun au3 =>
          (rd afx (0 : Int)).bind fun au5 =>
          (wr afx (0 : Int) ({ au5 with Text := zK au3 })).bind fun avo =>
          (app 104 aj6 [{ am9 with Text := zK avi }]).bind fun avm =>
          some (avm, avo, (0 : Int))
noncomputable def vW (n : Int) : Option (List za) :=
  chk (0 ≤ n ∧ n * 104 ≤ 140737488355328) (some ([] : List za))
noncomputable def qi : List (List za) → Int → Int → Option Int
  | [], v_4, V4 =>
    some V4
  | y_6 :: suf, v_4, V4 =>
    if (decide ((w64 (V4 + (y_6.length : Int))) < (0 : Int))) = true then
      none
    else
      qi suf (v_4 + 1) (w64 (V4 + (y_6.length : Int)))
noncomputable def qh : List (List za) → Int → (List za) → Option (List za)
  | [], Xw, jN =>
    some jN
  | atv :: suf, Xw, jN =>
    (app 104 jN atv).bind fun aqw =>
    qh suf (Xw + 1) aqw
noncomputable def kL (ky : (List (List za))) : Option (List za) :=
  (chk (ky.length ≤ 9223372036854775807) (qi ky (0 : Int) (0 : Int))).bind fun ag4 =>
  (vW ag4).bind fun anY =>
  (chk (ky.length ≤ 9223372036854775807) (qh ky (0 : Int) anY)).bind fun ZP =>
  some ZP
noncomputable def QX (n_1 : za) (xU : Int) (XB : Int) (l_4 : (List za)) : Option (za × Int) :=
  (WK n_1 xU XB).bind fun (r_5, r_6) =>
  if (r_6 == (2 : Int)) = true then
    some (({ Kind := ([] : Str), Text := ([] : Str), Marks := [], zu := [], Kids := [] } : za), (2 : Int))
  else
    (Q6 l_4).bind fun agZ =>
    (yw ({ Kind := ([120] : Str), Text := ([] : Str), Marks := [], zu := [], Kids := agZ } : za)).bind fun ajB =>
    if (ajB == (2 : Int)) = true then
      some (({ Kind := ([] : Str), Text := ([] : Str), Marks := [], zu := [], Kids := [] } : za), (2 : Int))
    else
      if (r_6 != (0 : Int)) = true then
        some (({ Kind := ([] : Str), Text := ([] : Str), Marks := [], zu := [], Kids := [] } : za), r_6)
      else
        (xB r_5.in_.Kids r_5.from_).bind fun (r_9, XT, adp) =>
        (xB r_5.in_.Kids r_5.to_).bind fun (aeh, adE, ae0) =>
        (kL [r_9, l_4, adE]).bind fun aom =>
        (Q6 aom).bind fun an7 =>
        (Q7 n_1 r_5.path ({ r_5.in_ with Kids := an7 })).bind fun (amU, asx) =>
        (yw amU).bind fun acU =>
        if (acU != (0 : Int)) = true then
          some (({ Kind := ([] : Str), Text := ([] : Str), Marks := [], zu := [], Kids := [] } : za), acU)
        else
          some (amU, (0 : Int))
noncomputable def vN (n_1 : za) (s_2 : zz) : Option (za × Int) :=
  (ym s_2).bind fun vg =>
  if (!vg) = true then
    some (({ Kind := ([] : Str), Text := ([] : Str), Marks := [], zu := [], Kids := [] } : za), (1 : Int))
  else
    if (n_1.Kind == ([116, 101, 120, 116] : Str)) = true then
      some (({ Kind := ([] : Str), Text := ([] : Str), Marks := [], zu := [], Kids := [] } : za), (2 : Int))
    else
      (QY n_1).bind fun ajg =>
      if (!ajg) = true then
        some (({ Kind := ([] : Str), Text := ([] : Str), Marks := [], zu := [], Kids := [] } : za), (2 : Int))
      else
        if (s_2.Kind == (114 : Int)) = true then
          (QX n_1 s_2.From s_2.To s_2.qK).bind fun (r_5, r_6) =>
          some (r_5, r_6)
        else
          if (s_2.Kind == (97 : Int)) = true then
            (ac6 n_1 s_2).bind fun (r_7, r_8, r_9) =>
            some (r_7, r_9)
          else
            (Zz n_1 s_2).bind fun (XT, adp, aeh) =>
            some (XT, aeh)
noncomputable def yB : List zz → Int → za → Option ((za × Int) ⊕ za)
  | [], v_7, n_6 =>
    some (.inr n_6)
  | atq :: suf, v_7, n_6 =>
    (vN n_6 atq).bind fun (aeh, adE) =>
    if (adE != (0 : Int)) = true then
      some (.inl (({ Kind := ([] : Str), Text := ([] : Str), Marks := [], zu := [], Kids := [] } : za), adE))
    else
      yB suf (v_7 + 1) aeh
noncomputable def QC (n_1 : za) (l_2 : (List zz)) : Option (za × Int) :=
  (chk (l_2.length ≤ 9223372036854775807) (yB l_2 (0 : Int) n_1)).bind fun e => match e with
  | .inl VL =>
    some VL
  | .inr ajw =>
    some (ajw, (0 : Int))
noncomputable def qL (vB : (List zh)) : List zh → Int → Option (Bool ⊕ Unit)
  | [], v_5 =>
    some (.inr ())
  | y_8 :: suf, v_5 =>
    (rd vB v_5).bind fun x_9 =>
    if ((((y_8.Name == x_9.Name) && (y_8.Value == x_9.Value)) != true)) = true then
      some (.inl false)
    else
      qL vB suf (v_5 + 1)
noncomputable def kR (kN : (List zh)) (vB : (List zh)) : Option Bool :=
  if ((kN.length : Int) != (vB.length : Int)) = true then
    some false
  else
    (chk (kN.length ≤ 9223372036854775807) (qL vB kN (0 : Int))).bind fun e => match e with
    | .inl qf =>
      some qf
    | .inr _ =>
      some true
noncomputable def zQ (vB : (List za)) (node_Same_r : za → za → Option Bool) : List za → Int → Option (Bool ⊕ Unit)
  | [], v_6 =>
    some (.inr ())
  | atr :: suf, v_6 =>
    (rd vB v_6).bind fun ahi =>
    (node_Same_r atr ahi).bind fun aj5 =>
    if (!aj5) = true then
      some (.inl false)
    else
      zQ vB node_Same_r suf (v_6 + 1)
mutual
noncomputable def qg : Nat → (List za) → (List za) → Option Bool
  | 0, _, _ => none
  | kr + 1, kN, vB =>
    if ((kN.length : Int) != (vB.length : Int)) = true then
      some false
    else
      (chk (kN.length ≤ 9223372036854775807) (zQ vB (jQ kr) kN (0 : Int))).bind fun e => match e with
      | .inl af6 =>
        some af6
      | .inr _ =>
        some true
noncomputable def jQ : Nat → za → za → Option Bool
  | 0, _, _ => none
  | kr + 1, a_1, b_2 =>
    if (a_1.Kind == b_2.Kind) = true then
      if (a_1.Text == b_2.Text) = true then
        (slices_Equal_string a_1.Marks b_2.Marks).bind fun ahg =>
        if (ahg) = true then
          (kR a_1.zu b_2.zu).bind fun amF =>
          if (amF) = true then
            ((qg kr) a_1.Kids b_2.Kids).bind fun aqp =>
            some aqp
          else
            some false
        else
          some false
      else
        some false
    else
      some false
end
noncomputable def ZG (a_1 : za) (b_2 : za) : Option Bool := lim fun kr => jQ kr a_1 b_2
noncomputable def jA : Option Bool :=
  (vN ({ Kind := ([100, 111, 99] : Str), Text := ([] : Str), Marks := [], zu := [], Kids := [({ Kind := ([112] : Str), Text := ([] : Str), Marks := [], zu := [], Kids := [({ Kind := ([116, 101, 120, 116] : Str), Text := ([104, 105] : Str), Marks := [], zu := [], Kids := [] } : za)] } : za)] } : za) ({ Kind := (109 : Int), From := (2 : Int), To := (3 : Int), qK := [], Name := ([98] : Str), Value := ([] : Str) } : zz)).bind fun (r_1, r_2) =>
  if (r_2 == (0 : Int)) = true then
    if ((r_1.Kids.length : Int) == (1 : Int)) = true then
      (rd r_1.Kids (0 : Int)).bind fun x_3 =>
      if ((x_3.Kids.length : Int) == (2 : Int)) = true then
        (rd x_3.Kids (1 : Int)).bind fun x_4 =>
        if (x_4.Text == ([105] : Str)) = true then
          some ((x_4.Marks.length : Int) == (1 : Int))
        else
          some false
      else
        some false
    else
      some false
  else
    some false
noncomputable def zV (c_1 : Int) (n_2 : Int) : Option Int :=
  if (decide (c_1 < (0 : Int))) = true then
    chk (n_2 ≠ 0) (
      some ((w64 (0 - (w64 (c_1 + (1 : Int))))).tmod n_2))
  else
    chk (n_2 ≠ 0) (
      some (c_1.tmod n_2))
noncomputable def qI (diptychref1_Depth_r : za → Option Int) : List za → Int → Int → Option Int
  | [], i_5, d_4 =>
    some d_4
  | y_8 :: suf, i_5, d_4 =>
    (diptychref1_Depth_r y_8).bind fun ajz =>
    qI diptychref1_Depth_r suf (i_5 + 1) (if ajz > d_4 then ajz else d_4)
noncomputable def qF : Nat → za → Option Int
  | 0, _ => none
  | kr + 1, n_1 =>
    if (n_1.Kind == ([116, 101, 120, 116] : Str)) = true then
      some (0 : Int)
    else
      (chk (n_1.Kids.length ≤ 9223372036854775807) (qI (qF kr) n_1.Kids (0 : Int) (0 : Int))).bind fun aqz =>
      some (w64 (aqz + (1 : Int)))
noncomputable def vK (n_1 : za) : Option Int := lim fun kr => qF kr n_1
noncomputable def qw (b_2 : (List Str)) : List Str → Int → Option (Bool ⊕ Unit)
  | [], i_5 =>
    some (.inr ())
  | y_8 :: suf, i_5 =>
    (rd b_2 i_5).bind fun x_9 =>
    if (!(y_8 == x_9)) = true then
      some (.inl false)
    else
      qw b_2 suf (i_5 + 1)
noncomputable def kQ (a_1 : (List Str)) (b_2 : (List Str)) : Option Bool :=
  if ((a_1.length : Int) != (b_2.length : Int)) = true then
    some false
  else
    (chk (a_1.length ≤ 9223372036854775807) (qw b_2 a_1 (0 : Int))).bind fun e => match e with
    | .inl qf =>
      some qf
    | .inr _ =>
      some true
noncomputable def zW : List za → Int → (List za) → Option (List za)
  | [], V8, vP =>
    some vP
  | Zl :: suf, V8, vP =>
    ((
        if (Zl.Kind == ([116, 101, 120, 116] : Str)) = true then
          if (Zl.Text == ([] : Str)) = true then
            some (.inl ())
          else
            some (.inr ())
        else
          some (.inr ())) : Option (Unit ⊕ Unit)).bind fun e => match e with
    | .inl _ =>
      zW suf (V8 + 1) vP
    | .inr _ =>
      if (Zl.Kind == ([116, 101, 120, 116] : Str)) = true then
        if (decide ((w64 ((vP.length : Int) - (1 : Int))) ≥ (0 : Int))) = true then
          (rd vP (w64 ((vP.length : Int) - (1 : Int)))).bind fun ao1 =>
          if (ao1.Kind == ([116, 101, 120, 116] : Str)) = true then
            (kQ ao1.Marks Zl.Marks).bind fun ad9 =>
            if (ad9) = true then
              chk (ao1.Text.length + Zl.Text.length ≤ 9223372036854775807) (
                (sl vP (0 : Int) (w64 ((vP.length : Int) - (1 : Int)))).bind fun avl =>
                (app 104 ([] : List za) avl).bind fun auO =>
                (app 104 auO [{ Zl with Text := ao1.Text ++ Zl.Text }]).bind fun apN =>
                zW suf (V8 + 1) apN)
            else
              (app 104 vP [Zl]).bind fun apY =>
              zW suf (V8 + 1) apY
          else
            (app 104 vP [Zl]).bind fun aqE =>
            zW suf (V8 + 1) aqE
        else
          (app 104 vP [Zl]).bind fun apO =>
          zW suf (V8 + 1) apO
      else
        (app 104 vP [Zl]).bind fun auX =>
        zW suf (V8 + 1) auX
noncomputable def xn (l_1 : (List za)) : Option (List za) :=
  (chk (l_1.length ≤ 9223372036854775807) (zW l_1 (0 : Int) ([] : List za))).bind fun ady =>
  some ady
noncomputable def vM (x_1 : zx) (afp : (List za)) : Option za :=
  (zV x_1.zu (2 : Int)).bind fun apX =>
  (rd [([108, 101, 102, 116] : Str), ([114, 105, 103, 104, 116] : Str)] apX).bind fun x_4 =>
  (zV (w64 (x_1.zu.tdiv (2 : Int))) (4 : Int)).bind fun arF =>
  (rd [([] : Str), ([195, 169] : Str), ([34, 113, 92] : Str), ([110, 111, 116, 101] : Str)] arF).bind fun x_6 =>
  (xn afp).bind fun agZ =>
  some ({ Kind := ([112, 97, 114, 97] : Str), Text := ([] : Str), Marks := [], zu := [({ Name := ([97, 108, 105, 103, 110] : Str), Value := x_4 } : zh), ({ Name := ([110, 111, 116, 101] : Str), Value := x_6 } : zh)], Kids := agZ } : za)
noncomputable def zD : List zx → Int → (List za) → (List za) → Option (List za)
  | [], Q5, xI, y5 =>
    some y5
  | adO :: suf, Q5, xI, y5 =>
    if (decide (Q5 < (40 : Int))) = true then
      (zV adO.Text (5 : Int)).bind fun aof =>
      (rd [([97] : Str), ([98, 99] : Str), ([195, 169] : Str), ([120, 32, 121] : Str), ([230, 151, 165, 230, 156, 172] : Str)] aof).bind fun asq =>
      ((
          (zV adO.Marks (4 : Int)).bind fun acf =>
          if ((aiG acf (1 : Int)) == (1 : Int)) = true then
            (app 16 ([] : List Str) [([98] : Str)]).bind fun amC =>
            some amC
          else
            some ([] : List Str)) : Option (List Str)).bind fun anp =>
      ((
          (zV adO.Marks (4 : Int)).bind fun acg =>
          if ((aiG acg (2 : Int)) == (2 : Int)) = true then
            (app 16 anp [([105] : Str)]).bind fun asQ =>
            some asQ
          else
            some anp) : Option (List Str)).bind fun ao5 =>
      (app 104 xI [({ Kind := ([116, 101, 120, 116] : Str), Text := asq, Marks := ao5, zu := [], Kids := [] } : za)]).bind fun aug =>
      (zV adO.In (5 : Int)).bind fun JY =>
      if (JY == (0 : Int)) = true then
        zD suf (Q5 + 1) aug y5
      else
        (vM adO aug).bind fun xm =>
        if (decide (JY < (3 : Int))) = true then
          (app 104 y5 [xm]).bind fun asH =>
          zD suf (Q5 + 1) ([] : List za) asH
        else
          ((
              if (decide ((w64 ((y5.length : Int) - (1 : Int))) ≥ (0 : Int))) = true then
                (rd y5 (w64 ((y5.length : Int) - (1 : Int)))).bind fun ajG =>
                if (ajG.Kind == ([108, 105, 115, 116] : Str)) = true then
                  if (JY == (3 : Int)) = true then
                    (app 104 ([] : List za) ajG.Kids).bind fun amJ =>
                    (app 104 amJ [({ Kind := ([105, 116, 101, 109] : Str), Text := ([] : Str), Marks := [], zu := [], Kids := [xm] } : za)]).bind fun ast =>
                    (sl y5 (0 : Int) (w64 ((y5.length : Int) - (1 : Int)))).bind fun asz =>
                    (app 104 ([] : List za) asz).bind fun ase =>
                    (app 104 ase [{ ajG with Kids := ast }]).bind fun arY =>
                    some (.inl arY)
                  else
                    some (.inr ())
                else
                  some (.inr ())
              else
                some (.inr ())) : Option ((List za) ⊕ Unit)).bind fun e => match e with
          | .inl alg =>
            zD suf (Q5 + 1) ([] : List za) alg
          | .inr _ =>
            if (decide ((w64 ((y5.length : Int) - (1 : Int))) ≥ (0 : Int))) = true then
              (rd y5 (w64 ((y5.length : Int) - (1 : Int)))).bind fun aj4 =>
              if (aj4.Kind == ([108, 105, 115, 116] : Str)) = true then
                (vK aj4).bind fun Yq =>
                if (decide (Yq < (30 : Int))) = true then
                  (app 104 [xm] [aj4]).bind fun arV =>
                  (sl y5 (0 : Int) (w64 ((y5.length : Int) - (1 : Int)))).bind fun arU =>
                  (app 104 ([] : List za) arU).bind fun ass =>
                  (app 104 ass [({ Kind := ([108, 105, 115, 116] : Str), Text := ([] : Str), Marks := [], zu := [], Kids := [({ Kind := ([105, 116, 101, 109] : Str), Text := ([] : Str), Marks := [], zu := [], Kids := arV } : za)] } : za)]).bind fun asR =>
                  zD suf (Q5 + 1) ([] : List za) asR
                else
                  (app 104 y5 [({ Kind := ([108, 105, 115, 116] : Str), Text := ([] : Str), Marks := [], zu := [], Kids := [({ Kind := ([105, 116, 101, 109] : Str), Text := ([] : Str), Marks := [], zu := [], Kids := [xm] } : za)] } : za)]).bind fun asa =>
                  zD suf (Q5 + 1) ([] : List za) asa
              else
                (app 104 y5 [({ Kind := ([108, 105, 115, 116] : Str), Text := ([] : Str), Marks := [], zu := [], Kids := [({ Kind := ([105, 116, 101, 109] : Str), Text := ([] : Str), Marks := [], zu := [], Kids := [xm] } : za)] } : za)]).bind fun asB =>
                zD suf (Q5 + 1) ([] : List za) asB
            else
              (app 104 y5 [({ Kind := ([108, 105, 115, 116] : Str), Text := ([] : Str), Marks := [], zu := [], Kids := [({ Kind := ([105, 116, 101, 109] : Str), Text := ([] : Str), Marks := [], zu := [], Kids := [xm] } : za)] } : za)]).bind fun asW =>
              zD suf (Q5 + 1) ([] : List za) asW
    else
      some y5
noncomputable def xz (l_1 : (List zx)) : Option za :=
  (chk (l_1.length ≤ 9223372036854775807) (zD l_1 (0 : Int) ([] : List za) ([] : List za))).bind fun aoP =>
  some ({ Kind := ([100, 111, 99] : Str), Text := ([] : Str), Marks := [], zu := [], Kids := aoP } : za)
noncomputable def Q4 (r_1 : zg) (zH : zz) : Option Bool :=
  if (decide (r_1.Old > (0 : Int))) = true then
    some (r_1.Pos == zH.From)
  else
    some false
noncomputable def qJ (zH : zz) : List zg → Int → Option ((Int × zz) ⊕ Unit)
  | [], v_5 =>
    some (.inr ())
  | y_8 :: suf, v_5 =>
    (Q4 y_8 zH).bind fun ams =>
    if (ams) = true then
      some (.inl (v_5, zH))
    else
      qJ zH suf (v_5 + 1)
noncomputable def vC (s_1 : (List zg)) (zH : zz) : Option (Int × zz) :=
  (chk (s_1.length ≤ 9223372036854775807) (qJ zH s_1 (0 : Int))).bind fun e => match e with
  | .inl qf =>
    some qf
  | .inr _ =>
    some ((-1 : Int), zH)
noncomputable def kI (s_1 : (List zg)) (zH : zz) : Option (Bool × zz) :=
  (vC s_1 zH).bind fun (r_3, aql) =>
  some (decide (r_3 ≥ (0 : Int)), aql)
noncomputable def jy (r_1 : zg) : Option Int :=
  some (w64 (r_1.Pos + r_1.Old))
noncomputable def yE (wC : Int) : List zg → Int → Option (Bool ⊕ Unit)
  | [], v_5 =>
    some (.inr ())
  | y_8 :: suf, v_5 =>
    if (decide (y_8.Pos < wC)) = true then
      (jy y_8).bind fun ap1 =>
      if (decide (wC < ap1)) = true then
        some (.inl true)
      else
        yE wC suf (v_5 + 1)
    else
      yE wC suf (v_5 + 1)
noncomputable def adQ (m_1 : (List zg)) (wC : Int) : Option Bool :=
  (chk (m_1.length ≤ 9223372036854775807) (yE wC m_1 (0 : Int))).bind fun e => match e with
  | .inl qf =>
    some qf
  | .inr _ =>
    some false
noncomputable def WM (r_1 : zg) (wC : Int) (vg : Bool) : Option Bool :=
  if (r_1.Old == (0 : Int)) = true then
    some vg
  else
    if (wC == r_1.Pos) = true then
      some false
    else
      if (vg) = true then
        some true
      else
        (jy r_1).bind fun as4 =>
        some (wC == as4)
noncomputable def ZA (wC : Int) (vg : Bool) : List zg → Int → Int → Option (Int ⊕ Int)
  | [], v_8, Qb =>
    some (.inr Qb)
  | aaa :: suf, v_8, Qb =>
    (jy aaa).bind fun ami =>
    if (decide (ami < wC)) = true then
      ZA wC vg suf (v_8 + 1) (w64 (Qb + (w64 (aaa.New - aaa.Old))))
    else
      if (decide (aaa.Pos > wC)) = true then
        some (.inr Qb)
      else
        (WM aaa wC vg).bind fun akm =>
        if (akm) = true then
          some (.inl (w64 ((w64 (aaa.Pos + Qb)) + aaa.New)))
        else
          some (.inl (w64 (aaa.Pos + Qb)))
noncomputable def J4 (m_1 : (List zg)) (wC : Int) (vg : Bool) : Option Int :=
  (chk (m_1.length ≤ 9223372036854775807) (ZA wC vg m_1 (0 : Int) (0 : Int))).bind fun e => match e with
  | .inl ahj =>
    some ahj
  | .inr YF =>
    some (w64 (wC + YF))
noncomputable def yQ (s_1 : zz) (m_2 : (List zg)) : Option (zz × Bool) :=
  ((
      if (s_1.Kind == (97 : Int)) = true then
        if (s_1.From == (-1 : Int)) = true then
          some (.inl (s_1, true))
        else
          some (.inr ())
      else
        some (.inr ())) : Option ((zz × Bool) ⊕ Unit)).bind fun e => match e with
  | .inl Yz =>
    some Yz
  | .inr _ =>
    if (s_1.Kind == (97 : Int)) = true then
      (kI m_2 s_1).bind fun (r_5, ajV) =>
      if (r_5) = true then
        some (({ Kind := (0 : Int), From := (0 : Int), To := (0 : Int), qK := [], Name := ([] : Str), Value := ([] : Str) } : zz), false)
      else
        (adQ m_2 ajV.From).bind fun ane =>
        if (ane) = true then
          some (({ Kind := (0 : Int), From := (0 : Int), To := (0 : Int), qK := [], Name := ([] : Str), Value := ([] : Str) } : zz), false)
        else
          (J4 m_2 ajV.From true).bind fun auC =>
          some ({ ajV with From := auC }, true)
    else
      (J4 m_2 s_1.From true).bind fun asY =>
      (J4 m_2 s_1.To false).bind fun aqm =>
      some ({ s_1 with From := asY, To := (if aqm > asY then aqm else asY) }, true)
noncomputable def QU (s_1 : zz) : Option (List zg) :=
  (jr s_1.qK).bind fun abL =>
  if (s_1.Kind != (114 : Int)) = true then
    some []
  else
    if (s_1.From == s_1.To) = true then
      if (abL == (0 : Int)) = true then
        some []
      else
        some [({ Pos := s_1.From, Old := w64 (s_1.To - s_1.From), New := abL } : zg)]
    else
      some [({ Pos := s_1.From, Old := w64 (s_1.To - s_1.From), New := abL } : zg)]
noncomputable def kW (l_1 : (List zx)) (xU : Int) (XB : Int) : Option Bool :=
  (jA).bind fun ajO =>
  if (!ajO) = true then
    some false
  else
    (xz l_1).bind fun alM =>
    (jr alM.Kids).bind fun anB =>
    (zV xU (w64 (anB + (1 : Int)))).bind fun JZ =>
    (jr alM.Kids).bind fun anA =>
    (zV XB (w64 (anA + (1 : Int)))).bind fun JX =>
    if (JZ == JX) = true then
      some true
    else
      (QU ({ Kind := (114 : Int), From := JZ, To := JZ, qK := [({ Kind := ([116, 101, 120, 116] : Str), Text := ([111, 110, 101] : Str), Marks := [([122] : Str)], zu := [], Kids := [] } : za)], Name := ([] : Str), Value := ([] : Str) } : zz)).bind fun akw =>
      (yQ ({ Kind := (114 : Int), From := JX, To := JX, qK := [({ Kind := ([116, 101, 120, 116] : Str), Text := ([116, 119, 111] : Str), Marks := [([121] : Str)], zu := [], Kids := [] } : za)], Name := ([] : Str), Value := ([] : Str) } : zz) akw).bind fun (adp, aeh) =>
      (QU ({ Kind := (114 : Int), From := JX, To := JX, qK := [({ Kind := ([116, 101, 120, 116] : Str), Text := ([116, 119, 111] : Str), Marks := [([121] : Str)], zu := [], Kids := [] } : za)], Name := ([] : Str), Value := ([] : Str) } : zz)).bind fun ak0 =>
      (yQ ({ Kind := (114 : Int), From := JZ, To := JZ, qK := [({ Kind := ([116, 101, 120, 116] : Str), Text := ([111, 110, 101] : Str), Marks := [([122] : Str)], zu := [], Kids := [] } : za)], Name := ([] : Str), Value := ([] : Str) } : zz) ak0).bind fun (ae0, atK) =>
      (QC alM [({ Kind := (114 : Int), From := JZ, To := JZ, qK := [({ Kind := ([116, 101, 120, 116] : Str), Text := ([111, 110, 101] : Str), Marks := [([122] : Str)], zu := [], Kids := [] } : za)], Name := ([] : Str), Value := ([] : Str) } : zz), adp]).bind fun (au2, amU) =>
      (QC alM [({ Kind := (114 : Int), From := JX, To := JX, qK := [({ Kind := ([116, 101, 120, 116] : Str), Text := ([116, 119, 111] : Str), Marks := [([121] : Str)], zu := [], Kids := [] } : za)], Name := ([] : Str), Value := ([] : Str) } : zz), ae0]).bind fun (asx, auc) =>
      if (aeh) = true then
        if (atK) = true then
          if (amU == (0 : Int)) = true then
            if (auc == (0 : Int)) = true then
              (ZG au2 asx).bind fun aol =>
              some aol
            else
              some false
          else
            some false
        else
          some false
      else
        some false
end Go.Proofs.YtclohbgnaopjfaaDoor
