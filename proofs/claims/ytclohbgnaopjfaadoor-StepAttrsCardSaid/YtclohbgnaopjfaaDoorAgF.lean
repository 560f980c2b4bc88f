/- Texts of the proof of stepAttrsCard -/
import Derived.Test.YtclohbgnaopjfaaDoorAgT
import Derived.Test.YtclohbgnaopjfaaDoorAgBld
import Derived.Test.YtclohbgnaopjfaaDoorAgWith
import Derived.Test.YtclohbgnaopjfaaDoorAgLib
namespace Go.Proofs.YtclohbgnaopjfaaDoor
set_option linter.unusedSimpArgs false
set_option linter.unusedVariables false
open Go
set_option maxRecDepth 100000
noncomputable def vL (n_1 : za) : Option Bool :=
  some (n_1.Kind == ([116, 101, 120, 116] : Str))
noncomputable def zJ (s_1 : Str) : Nat → Int → Nat → Option Int
  | 0, _, _ => none
  | k + 1, n_2, v_3 =>
    if (decide (v_3 < s_1.length)) = true then
      zJ s_1 k (w64 (n_2 + (1 : Int))) (v_3 + aqz s_1 v_3)
    else
      some n_2
noncomputable def qW (s_1 : Str) : Option Int :=
  (lim fun k => zJ s_1 k (0 : Int) 0).bind fun n_4 =>
  some n_4
noncomputable def je (node_Size_r : za → Option Int) : List za → Int → Int → Option Int
  | [], v_5, Yu =>
    some Yu
  | y_8 :: suf, v_5, Yu =>
    (node_Size_r y_8).bind fun aqk =>
    je node_Size_r suf (v_5 + 1) (w64 (Yu + aqk))
mutual
noncomputable def xw : Nat → (List za) → Option Int
  | 0, _ => none
  | kr + 1, l_1 =>
    (chk (l_1.length ≤ 9223372036854775807) (je (jc kr) l_1 (0 : Int) (0 : Int))).bind fun acS =>
    some acS
noncomputable def jc : Nat → za → Option Int
  | 0, _ => none
  | kr + 1, n_1 =>
    (vL n_1).bind fun xX =>
    if (xX) = true then
      (qW n_1.Text).bind fun alC =>
      some alC
    else
      ((xw kr) n_1.Kids).bind fun ant =>
      some (w64 ((2 : Int) + ant))
end
noncomputable def jk (l_1 : (List za)) : Option Int := lim fun kr => xw kr l_1
noncomputable def yz (n_1 : za) : Option Int := lim fun kr => jc kr n_1
noncomputable def wz (s : Str) : Option Bool :=
  chk (s.length ≤ 9223372036854775807) (some (Lib.validD s))
noncomputable def z8 (vI : (List Str)) : List Str → Int → Option (Bool ⊕ Unit)
  | [], v_5 =>
    some (.inr ())
  | y_8 :: suf, v_5 =>
    (rd vI v_5).bind fun x_9 =>
    if (!(y_8 == x_9)) = true then
      some (.inl false)
    else
      z8 vI suf (v_5 + 1)
noncomputable def slices_Equal_string (kU : (List Str)) (vI : (List Str)) : Option Bool :=
  if ((kU.length : Int) != (vI.length : Int)) = true then
    some false
  else
    (chk (kU.length ≤ 9223372036854775807) (z8 vI kU (0 : Int))).bind fun e => match e with
    | .inl wK =>
      some wK
    | .inr _ =>
      some true
noncomputable def Zr (a_1 : za) (b_2 : za) : Option Bool :=
  (vL a_1).bind fun KI =>
  if (KI) = true then
    (vL b_2).bind fun agY =>
    if (agY) = true then
      (slices_Equal_string a_1.Marks b_2.Marks).bind fun ak9 =>
      some ak9
    else
      some false
  else
    some false
noncomputable def Kn (s : Str) (cutset : Str) : Option Str :=
  chk (s.length ≤ 9223372036854775807 ∧ cutset.length < 4294967281 ∧ cutset.all (fun b => decide (b.toNat < 128)) = true) (some (Lib.trimS s cutset))
noncomputable def yC (s_1 : Str) : Option Bool :=
  (Kn s_1 ([97, 98, 99, 100, 101, 102, 103, 104, 105, 106, 107, 108, 109, 110, 111, 112, 113, 114, 115, 116, 117, 118, 119, 120, 121, 122] : Str)).bind fun amT =>
  if (amT == ([] : Str)) = true then
    if (!(s_1 == ([] : Str))) = true then
      if (decide ((s_1.length : Int) ≤ (8 : Int))) = true then
        some (!(s_1 == ([116, 101, 120, 116] : Str)))
      else
        some false
    else
      some false
  else
    some false
noncomputable def vo (l_1 : (List Str)) : List Str → Int → Option (Bool ⊕ Unit)
  | [], v_5 =>
    some (.inr ())
  | y_9 :: suf, v_5 =>
    (yC y_9).bind fun ajU =>
    if (!ajU) = true then
      some (.inl false)
    else
      if (decide (v_5 > (0 : Int))) = true then
        (rd l_1 (w64 (v_5 - (1 : Int)))).bind fun ag1 =>
        if ((Op.bytesLess y_9 ag1 || y_9 == ag1)) = true then
          some (.inl false)
        else
          vo l_1 suf (v_5 + 1)
      else
        vo l_1 suf (v_5 + 1)
noncomputable def KD (l_1 : (List Str)) : Option Bool :=
  (chk (l_1.length ≤ 9223372036854775807) (vo l_1 l_1 (0 : Int))).bind fun e => match e with
  | .inl afS =>
    some afS
  | .inr _ =>
    some true
noncomputable def Q0 (s_1 : Str) : Option Bool :=
  if (decide ((s_1.length : Int) ≤ (40 : Int))) = true then
    (wz s_1).bind fun akT =>
    some akT
  else
    some false
noncomputable def vJ : List zf → Int → (List Str) → Option (Bool ⊕ (List Str))
  | [], v_8, Kk =>
    some (.inr Kk)
  | asa :: suf, v_8, Kk =>
    (Q0 asa.Value).bind fun ag4 =>
    if (!ag4) = true then
      some (.inl false)
    else
      (app 16 Kk [asa.Name]).bind fun auq =>
      vJ suf (v_8 + 1) auq
noncomputable def kD (n_1 : za) (node_formed_r : za → Option Bool) : List za → Int → Option (Bool ⊕ Unit)
  | [], Yh =>
    some (.inr ())
  | apQ :: suf, Yh =>
    (node_formed_r apQ).bind fun adx =>
    if (!adx) = true then
      some (.inl false)
    else
      if (decide (Yh > (0 : Int))) = true then
        (rd n_1.Kids (w64 (Yh - (1 : Int)))).bind fun ave =>
        (Zr ave apQ).bind fun af5 =>
        if (af5) = true then
          some (.inl false)
        else
          kD n_1 node_formed_r suf (Yh + 1)
      else
        kD n_1 node_formed_r suf (Yh + 1)
noncomputable def kP : Nat → za → Option Bool
  | 0, _ => none
  | kr + 1, n_1 =>
    (vL n_1).bind fun xX =>
    if (xX) = true then
      if (!(n_1.Text == ([] : Str))) = true then
        (wz n_1.Text).bind fun afK =>
        if (afK) = true then
          (KD n_1.Marks).bind fun amm =>
          if (amm) = true then
            some ((w64 ((n_1.zt.length : Int) + (n_1.Kids.length : Int))) == (0 : Int))
          else
            some false
        else
          some false
      else
        some false
    else
      (chk (n_1.zt.length ≤ 9223372036854775807) (vJ n_1.zt (0 : Int) ([] : List Str))).bind fun e => match e with
      | .inl afW =>
        some afW
      | .inr Jv =>
        (yC n_1.Kind).bind fun ajL =>
        if (!ajL) = true then
          some false
        else
          if (!(n_1.Text == ([] : Str))) = true then
            some false
          else
            if (decide ((n_1.Marks.length : Int) > (0 : Int))) = true then
              some false
            else
              (KD Jv).bind fun ajj =>
              if (!ajj) = true then
                some false
              else
                (chk (n_1.Kids.length ≤ 9223372036854775807) (kD n_1 (kP kr) n_1.Kids (0 : Int))).bind fun e => match e with
                | .inl agE =>
                  some agE
                | .inr _ =>
                  some true
noncomputable def Wu (n_1 : za) : Option Bool := lim fun kr => kP kr n_1
noncomputable def vB (node_Depth_r : za → Option Int) : List za → Int → Int → Option Int
  | [], v_6, yx =>
    some yx
  | y_9 :: suf, v_6, yx =>
    (node_Depth_r y_9).bind fun agx =>
    vB node_Depth_r suf (v_6 + 1) (if agx > yx then agx else yx)
noncomputable def vk : Nat → za → Option Int
  | 0, _ => none
  | kr + 1, n_1 =>
    (vL n_1).bind fun xX =>
    if (xX) = true then
      some (0 : Int)
    else
      (chk (n_1.Kids.length ≤ 9223372036854775807) (vB (vk kr) n_1.Kids (0 : Int) (0 : Int))).bind fun KH =>
      some (w64 (KH + (1 : Int)))
noncomputable def KO (n_1 : za) : Option Int := lim fun kr => vk kr n_1
noncomputable def xU (n_1 : za) : Option Int :=
  (Wu n_1).bind fun afG =>
  if (!afG) = true then
    some (2 : Int)
  else
    (KO n_1).bind fun ajw =>
    if (decide (ajw > (40 : Int))) = true then
      some (4 : Int)
    else
      (yz n_1).bind fun amy =>
      if (decide (amy > (4000 : Int))) = true then
        some (5 : Int)
      else
        some (0 : Int)
noncomputable def QT (n_1 : za) : Option Bool :=
  (xU n_1).bind fun anP =>
  some (anP == (0 : Int))
noncomputable def kY (l : (List zf)) : Option (List zf) :=
  app 32 [] l
noncomputable def slices_Clone_int (l : (List Int)) : Option (List Int) :=
  app 8 [] l
noncomputable def qw : List Int → Int → za → Option ((za × Int) ⊕ za)
  | [], v_6, n_5 =>
    some (.inr n_5)
  | y_9 :: suf, v_6, n_5 =>
    if (decide (y_9 < (0 : Int))) = true then
      some (.inl (({ Kind := ([] : Str), Text := ([] : Str), Marks := [], zt := [], Kids := [] } : za), (9 : Int)))
    else
      if (decide (y_9 ≥ (n_5.Kids.length : Int))) = true then
        some (.inl (({ Kind := ([] : Str), Text := ([] : Str), Marks := [], zt := [], Kids := [] } : za), (9 : Int)))
      else
        if (n_5.Kind == ([116, 101, 120, 116] : Str)) = true then
          some (.inl (({ Kind := ([] : Str), Text := ([] : Str), Marks := [], zt := [], Kids := [] } : za), (9 : Int)))
        else
          (rd n_5.Kids y_9).bind fun ahi =>
          qw suf (v_6 + 1) ahi
noncomputable def kS (n_1 : za) (qR : (List Int)) : Option (za × Int) :=
  (chk (qR.length ≤ 9223372036854775807) (qw qR (0 : Int) n_1)).bind fun e => match e with
  | .inl VH =>
    some VH
  | .inr agL =>
    if (agL.Kind == ([116, 101, 120, 116] : Str)) = true then
      some (({ Kind := ([] : Str), Text := ([] : Str), Marks := [], zt := [], Kids := [] } : za), (9 : Int))
    else
      some (agL, (0 : Int))
noncomputable def zY (Xj : (List Int)) : List za → Int → Int → Option ((qU × Int) ⊕ ((Int × za × (List Int)) ⊕ Unit))
  | [], aeU, QN =>
    some (.inr (.inr ()))
  | aox :: suf, aeU, QN =>
    (yz aox).bind fun ae1 =>
    if (decide (QN ≥ ae1)) = true then
      zY Xj suf (aeU + 1) (w64 (QN - ae1))
    else
      if (aox.Kind == ([116, 101, 120, 116] : Str)) = true then
        some (.inl (({ Path := Xj, Index := aeU, Offset := QN } : qU), (0 : Int)))
      else
        if (QN == (0 : Int)) = true then
          some (.inl (({ Path := Xj, Index := aeU, Offset := (0 : Int) } : qU), (0 : Int)))
        else
          (app 8 Xj [aeU]).bind fun aqa =>
          some (.inr (.inl (w64 (QN - (1 : Int)), aox, aqa)))
noncomputable def wP : Nat → Int → za → (List Int) → Option (qU × Int)
  | 0, _, _, _ => none
  | k + 1, adI, Qy, Xj =>
    (chk (Qy.Kids.length ≤ 9223372036854775807) (zY Xj Qy.Kids (0 : Int) adI)).bind fun e => match e with
    | .inl XQ =>
      some XQ
    | .inr (.inl (afY, ajo, Ym)) =>
      wP k afY ajo Ym
    | .inr (.inr _) =>
      some (({ Path := Xj, Index := (Qy.Kids.length : Int), Offset := (0 : Int) } : qU), (0 : Int))
noncomputable def kN (n_1 : za) (K9 : Int) : Option (qU × Int) :=
  if (n_1.Kind == ([116, 101, 120, 116] : Str)) = true then
    some (({ Path := [], Index := (0 : Int), Offset := (0 : Int) } : qU), (3 : Int))
  else
    if (decide (K9 < (0 : Int))) = true then
      some (({ Path := [], Index := (0 : Int), Offset := (0 : Int) } : qU), (3 : Int))
    else
      (jk n_1.Kids).bind fun Qt =>
      if (decide (K9 > Qt)) = true then
        some (({ Path := [], Index := (0 : Int), Offset := (0 : Int) } : qU), (3 : Int))
      else
        (lim fun k => wP k K9 n_1 ([] : List Int)).bind fun X8 =>
        some X8
noncomputable def yl (n_1 : za) (K9 : Int) : Option ((List Int) × Bool) :=
  if (K9 == (-1 : Int)) = true then
    some ([], true)
  else
    (kN n_1 K9).bind fun (r_3, r_4) =>
    if (r_4 != (0 : Int)) = true then
      some ([], false)
    else
      if (decide (r_3.Offset > (0 : Int))) = true then
        some ([], false)
      else
        (slices_Clone_int r_3.Path).bind fun asN =>
        (app 8 asN [r_3.Index]).bind fun l_6 =>
        (kS n_1 l_6).bind fun (r_7, r_8) =>
        some (l_6, r_8 == (0 : Int))
noncomputable def Kt (a_1 : zf) (qL : zz) : Option Bool :=
  some (a_1.Name == qL.Name)
noncomputable def zQ (qL : zz) : List zf → Int → Option ((Int × zz) ⊕ Unit)
  | [], v_5 =>
    some (.inr ())
  | y_8 :: suf, v_5 =>
    (Kt y_8 qL).bind fun atM =>
    if (atM) = true then
      some (.inl (v_5, qL))
    else
      zQ qL suf (v_5 + 1)
noncomputable def qM (s_1 : (List zf)) (qL : zz) : Option (Int × zz) :=
  (chk (s_1.length ≤ 9223372036854775807) (zQ qL s_1 (0 : Int))).bind fun e => match e with
  | .inl wK =>
    some wK
  | .inr _ =>
    some ((-1 : Int), qL)
noncomputable def kv (l : (List za)) : Option (List za) :=
  app 104 [] l
noncomputable def jN : Nat → za → (List Int) → za → Option (za × Int)
  | 0, _, _, _ => none
  | kr + 1, n_1, qR, m_3 =>
    (kS n_1 qR).bind fun (r_4, r_5) =>
    if (r_5 != (0 : Int)) = true then
      some (({ Kind := ([] : Str), Text := ([] : Str), Marks := [], zt := [], Kids := [] } : za), r_5)
    else
      if ((qR.length : Int) == (0 : Int)) = true then
        some (m_3, (0 : Int))
      else
        (kv n_1.Kids).bind fun amr =>
        (rd qR (0 : Int)).bind fun x_7 =>
        (rd amr x_7).bind fun x_8 =>
        (sl qR (1 : Int) (qR.length : Int)).bind fun s_9 =>
        ((jN kr) x_8 s_9 m_3).bind fun (KR, VI) =>
        (wr amr x_7 KR).bind fun alH =>
        some ({ n_1 with Kids := alH }, (0 : Int))
noncomputable def QQ (n_1 : za) (qR : (List Int)) (m_3 : za) : Option (za × Int) := lim fun kr => jN kr n_1 qR m_3
noncomputable def jZ (n_1 : za) (s_2 : zz) : Option (za × Str × Int) :=
  (yl n_1 s_2.From).bind fun (r_3, r_4) =>
  if (!r_4) = true then
    some (({ Kind := ([] : Str), Text := ([] : Str), Marks := [], zt := [], Kids := [] } : za), ([] : Str), (3 : Int))
  else
    (kS n_1 r_3).bind fun (r_5, r_6) =>
    (qM r_5.zt s_2).bind fun (r_7, apk) =>
    if (decide (r_7 < (0 : Int))) = true then
      some (({ Kind := ([] : Str), Text := ([] : Str), Marks := [], zt := [], Kids := [] } : za), ([] : Str), (9 : Int))
    else
      (rd r_5.zt r_7).bind fun x_9 =>
      (kY r_5.zt).bind fun aiW =>
      (rd aiW r_7).bind fun ag1 =>
      (wr aiW r_7 ({ ag1 with Value := apk.Value })).bind fun alH =>
      (QQ n_1 r_3 ({ r_5 with zt := alH })).bind fun (Kl, aeO) =>
      some (Kl, x_9.Value, aeO)
noncomputable def Ql (s : zz) (marks : (List Str)) : Option ((List Str) × Bool) :=
  chk (marks.length ≤ 1099511627776) (some (Qh s.Kind s.Name marks))
noncomputable def vX (VV : Int) (aoA : Int) (vF : Int) (zA : Int) (jr : Int) (wY : (List za)) (vH : Str) (wZ : Str) (l_9 : (List zn)) : Option (Int × Int × Int × (List za) × Str × Str × (List zn)) :=
  if (decide ((w64 ((l_9.length : Int) - (1 : Int))) ≥ (0 : Int))) = true then
    (rd l_9 (w64 ((l_9.length : Int) - (1 : Int)))).bind fun ahi =>
    if ((w64 (ahi.Pos + ahi.Old)) == VV) = true then
      (wr l_9 (w64 ((l_9.length : Int) - (1 : Int))) ({ ahi with Old := w64 (ahi.Old + (w64 (aoA - VV))) })).bind fun aqc =>
      some (vF, zA, jr, wY, vH, wZ, aqc)
    else
      (app 24 l_9 [({ Pos := VV, Old := w64 (aoA - VV), New := (0 : Int) } : zn)]).bind fun alH =>
      some (vF, zA, jr, wY, vH, wZ, alH)
  else
    (app 24 l_9 [({ Pos := VV, Old := w64 (aoA - VV), New := (0 : Int) } : zn)]).bind fun apG =>
    some (vF, zA, jr, wY, vH, wZ, apG)
noncomputable def wE (a_1 : Int) (b_2 : Int) (ae9 : (List Str)) (QW : za) (v_5 : (List Int)) : Option za :=
  (sl v_5 a_1 b_2).bind fun s_6 =>
  some ({ Kind := QW.Kind, Text := zN s_6, Marks := ae9, zt := [], Kids := [] } : za)
noncomputable def vV (n_1 : za) (zL : Int) (vF : Int) (zA : Int) (jr : Int) (wY : (List za)) (vH : Str) (wZ : Str) (l_9 : (List zn)) : Option ((List za) × Int × Int × Int × (List za) × Str × Str × (List zn)) :=
  (Ql ({ Kind := vF, From := zA, To := jr, wC := wY, Name := vH, Value := wZ } : zz) n_1.Marks).bind fun (KR, VI) =>
  if (!VI) = true then
    some ([n_1], vF, zA, jr, wY, vH, wZ, l_9)
  else
    if ((if ((runes n_1.Text).length : Int) < (if (0 : Int) > (w64 (zA - zL)) then (0 : Int) else w64 (zA - zL)) then ((runes n_1.Text).length : Int) else (if (0 : Int) > (w64 (zA - zL)) then (0 : Int) else w64 (zA - zL))) == (if ((runes n_1.Text).length : Int) < (if (if ((runes n_1.Text).length : Int) < (if (0 : Int) > (w64 (zA - zL)) then (0 : Int) else w64 (zA - zL)) then ((runes n_1.Text).length : Int) else (if (0 : Int) > (w64 (zA - zL)) then (0 : Int) else w64 (zA - zL))) > (w64 (jr - zL)) then (if ((runes n_1.Text).length : Int) < (if (0 : Int) > (w64 (zA - zL)) then (0 : Int) else w64 (zA - zL)) then ((runes n_1.Text).length : Int) else (if (0 : Int) > (w64 (zA - zL)) then (0 : Int) else w64 (zA - zL))) else w64 (jr - zL)) then ((runes n_1.Text).length : Int) else (if (if ((runes n_1.Text).length : Int) < (if (0 : Int) > (w64 (zA - zL)) then (0 : Int) else w64 (zA - zL)) then ((runes n_1.Text).length : Int) else (if (0 : Int) > (w64 (zA - zL)) then (0 : Int) else w64 (zA - zL))) > (w64 (jr - zL)) then (if ((runes n_1.Text).length : Int) < (if (0 : Int) > (w64 (zA - zL)) then (0 : Int) else w64 (zA - zL)) then ((runes n_1.Text).length : Int) else (if (0 : Int) > (w64 (zA - zL)) then (0 : Int) else w64 (zA - zL))) else w64 (jr - zL)))) = true then
      some ([n_1], vF, zA, jr, wY, vH, wZ, l_9)
    else
      (vX (w64 (zL + (if ((runes n_1.Text).length : Int) < (if (0 : Int) > (w64 (zA - zL)) then (0 : Int) else w64 (zA - zL)) then ((runes n_1.Text).length : Int) else (if (0 : Int) > (w64 (zA - zL)) then (0 : Int) else w64 (zA - zL))))) (w64 (zL + (if ((runes n_1.Text).length : Int) < (if (if ((runes n_1.Text).length : Int) < (if (0 : Int) > (w64 (zA - zL)) then (0 : Int) else w64 (zA - zL)) then ((runes n_1.Text).length : Int) else (if (0 : Int) > (w64 (zA - zL)) then (0 : Int) else w64 (zA - zL))) > (w64 (jr - zL)) then (if ((runes n_1.Text).length : Int) < (if (0 : Int) > (w64 (zA - zL)) then (0 : Int) else w64 (zA - zL)) then ((runes n_1.Text).length : Int) else (if (0 : Int) > (w64 (zA - zL)) then (0 : Int) else w64 (zA - zL))) else w64 (jr - zL)) then ((runes n_1.Text).length : Int) else (if (if ((runes n_1.Text).length : Int) < (if (0 : Int) > (w64 (zA - zL)) then (0 : Int) else w64 (zA - zL)) then ((runes n_1.Text).length : Int) else (if (0 : Int) > (w64 (zA - zL)) then (0 : Int) else w64 (zA - zL))) > (w64 (jr - zL)) then (if ((runes n_1.Text).length : Int) < (if (0 : Int) > (w64 (zA - zL)) then (0 : Int) else w64 (zA - zL)) then ((runes n_1.Text).length : Int) else (if (0 : Int) > (w64 (zA - zL)) then (0 : Int) else w64 (zA - zL))) else w64 (jr - zL))))) vF zA jr wY vH wZ l_9).bind fun (anv, anL, asL, alJ, anX, akt, aqR) =>
      (wE (0 : Int) (if ((runes n_1.Text).length : Int) < (if (0 : Int) > (w64 (zA - zL)) then (0 : Int) else w64 (zA - zL)) then ((runes n_1.Text).length : Int) else (if (0 : Int) > (w64 (zA - zL)) then (0 : Int) else w64 (zA - zL))) n_1.Marks n_1 (runes n_1.Text)).bind fun asP =>
      (wE (if ((runes n_1.Text).length : Int) < (if (0 : Int) > (w64 (zA - zL)) then (0 : Int) else w64 (zA - zL)) then ((runes n_1.Text).length : Int) else (if (0 : Int) > (w64 (zA - zL)) then (0 : Int) else w64 (zA - zL))) (if ((runes n_1.Text).length : Int) < (if (if ((runes n_1.Text).length : Int) < (if (0 : Int) > (w64 (zA - zL)) then (0 : Int) else w64 (zA - zL)) then ((runes n_1.Text).length : Int) else (if (0 : Int) > (w64 (zA - zL)) then (0 : Int) else w64 (zA - zL))) > (w64 (jr - zL)) then (if ((runes n_1.Text).length : Int) < (if (0 : Int) > (w64 (zA - zL)) then (0 : Int) else w64 (zA - zL)) then ((runes n_1.Text).length : Int) else (if (0 : Int) > (w64 (zA - zL)) then (0 : Int) else w64 (zA - zL))) else w64 (jr - zL)) then ((runes n_1.Text).length : Int) else (if (if ((runes n_1.Text).length : Int) < (if (0 : Int) > (w64 (zA - zL)) then (0 : Int) else w64 (zA - zL)) then ((runes n_1.Text).length : Int) else (if (0 : Int) > (w64 (zA - zL)) then (0 : Int) else w64 (zA - zL))) > (w64 (jr - zL)) then (if ((runes n_1.Text).length : Int) < (if (0 : Int) > (w64 (zA - zL)) then (0 : Int) else w64 (zA - zL)) then ((runes n_1.Text).length : Int) else (if (0 : Int) > (w64 (zA - zL)) then (0 : Int) else w64 (zA - zL))) else w64 (jr - zL))) KR n_1 (runes n_1.Text)).bind fun asQ =>
      (wE (if ((runes n_1.Text).length : Int) < (if (if ((runes n_1.Text).length : Int) < (if (0 : Int) > (w64 (zA - zL)) then (0 : Int) else w64 (zA - zL)) then ((runes n_1.Text).length : Int) else (if (0 : Int) > (w64 (zA - zL)) then (0 : Int) else w64 (zA - zL))) > (w64 (jr - zL)) then (if ((runes n_1.Text).length : Int) < (if (0 : Int) > (w64 (zA - zL)) then (0 : Int) else w64 (zA - zL)) then ((runes n_1.Text).length : Int) else (if (0 : Int) > (w64 (zA - zL)) then (0 : Int) else w64 (zA - zL))) else w64 (jr - zL)) then ((runes n_1.Text).length : Int) else (if (if ((runes n_1.Text).length : Int) < (if (0 : Int) > (w64 (zA - zL)) then (0 : Int) else w64 (zA - zL)) then ((runes n_1.Text).length : Int) else (if (0 : Int) > (w64 (zA - zL)) then (0 : Int) else w64 (zA - zL))) > (w64 (jr - zL)) then (if ((runes n_1.Text).length : Int) < (if (0 : Int) > (w64 (zA - zL)) then (0 : Int) else w64 (zA - zL)) then ((runes n_1.Text).length : Int) else (if (0 : Int) > (w64 (zA - zL)) then (0 : Int) else w64 (zA - zL))) else w64 (jr - zL))) ((runes n_1.Text).length : Int) n_1.Marks n_1 (runes n_1.Text)).bind fun asT =>
      some ([asP, asQ, asT], anv, anL, asL, alJ, anX, akt, aqR)
noncomputable def wF : List za → Int → (List za) → Option (List za)
  | [], ZV, vS =>
    some vS
  | K3 :: suf, ZV, vS =>
    (vL K3).bind fun adE =>
    if (adE) = true then
      if (K3.Text == ([] : Str)) = true then
        wF suf (ZV + 1) vS
      else
        if (decide ((w64 ((vS.length : Int) - (1 : Int))) ≥ (0 : Int))) = true then
          (rd vS (w64 ((vS.length : Int) - (1 : Int)))).bind fun ar6 =>
          (Zr ar6 K3).bind fun afC =>
          if (afC) = true then
            chk (ar6.Text.length + K3.Text.length ≤ 9223372036854775807) (
              (wr vS (w64 ((vS.length : Int) - (1 : Int))) ({ K3 with Text := ar6.Text ++ K3.Text })).bind fun arb =>
              wF suf (ZV + 1) arb)
          else
            (app 104 vS [K3]).bind fun aqQ =>
            wF suf (ZV + 1) aqQ
        else
          (app 104 vS [K3]).bind fun aqT =>
          wF suf (ZV + 1) aqT
    else
      if (decide ((w64 ((vS.length : Int) - (1 : Int))) ≥ (0 : Int))) = true then
        (rd vS (w64 ((vS.length : Int) - (1 : Int)))).bind fun arQ =>
        (Zr arQ K3).bind fun afM =>
        if (afM) = true then
          chk (arQ.Text.length + K3.Text.length ≤ 9223372036854775807) (
            (wr vS (w64 ((vS.length : Int) - (1 : Int))) ({ K3 with Text := arQ.Text ++ K3.Text })).bind fun auu =>
            wF suf (ZV + 1) auu)
        else
          (app 104 vS [K3]).bind fun auL =>
          wF suf (ZV + 1) auL
      else
        (app 104 vS [K3]).bind fun auh =>
        wF suf (ZV + 1) auh
noncomputable def QS (l_1 : (List za)) : Option (List za) :=
  (chk (l_1.length ≤ 9223372036854775807) (wF l_1 (0 : Int) ([] : List za))).bind fun adn =>
  some adn
noncomputable def qa (step_painter_kids_x_r : (List za) → Int → Int → Int → Int → (List za) → Str → Str → (List zn) → Option ((List za) × Int × Int × Int × (List za) × Str × Str × (List zn))) : List za → Int → Int → (List za) → Int → Int → Int → (List za) → Str → Str → (List zn) → Option ((List za) × Int × Int × Int × (List za) × Str × Str × (List zn))
  | [], afk, aan, VW, ajN, ajp, ajH, ajT, ajP, ajA, Ym =>
    some (VW, ajN, ajp, ajH, ajT, ajP, ajA, Ym)
  | ai5 :: suf, afk, aan, VW, ajN, ajp, ajH, ajT, ajP, ajA, Ym =>
    (yz ai5).bind fun ajD =>
    if (ai5.Kind == ([116, 101, 120, 116] : Str)) = true then
      (vV ai5 aan ajN ajp ajH ajT ajP ajA Ym).bind fun (auX, anh, anr, asR, ale, am4, akw, amv) =>
      (app 104 VW auX).bind fun avb =>
      qa step_painter_kids_x_r suf (afk + 1) (w64 (aan + ajD)) avb anh anr asR ale am4 akw amv
    else
      (step_painter_kids_x_r ai5.Kids (w64 (aan + (1 : Int))) ajN ajp ajH ajT ajP ajA Ym).bind fun (auw, anf, am7, asU, akr, ane, ajY, au0) =>
      (app 104 VW [{ ai5 with Kids := auw }]).bind fun amK =>
      qa step_painter_kids_x_r suf (afk + 1) (w64 (aan + ajD)) amK anf am7 asU akr ane ajY au0
noncomputable def qx : Nat → (List za) → Int → Int → Int → Int → (List za) → Str → Str → (List zn) → Option ((List za) × Int × Int × Int × (List za) × Str × Str × (List zn))
  | 0, _, _, _, _, _, _, _, _, _ => none
  | kr + 1, l_1, zL, vF, zA, jr, wY, vH, wZ, l_9 =>
    (chk (l_1.length ≤ 9223372036854775807) (qa (qx kr) l_1 (0 : Int) zL ([] : List za) vF zA jr wY vH wZ l_9)).bind fun (adL, arj, aq5, apF, aqg, ap8, aqf, ao7) =>
    (QS adL).bind fun anw =>
    some (anw, arj, aq5, apF, aqg, ap8, aqf, ao7)
noncomputable def vW (l_1 : (List za)) (zL : Int) (vF : Int) (zA : Int) (jr : Int) (wY : (List za)) (vH : Str) (wZ : Str) (l_9 : (List zn)) : Option ((List za) × Int × Int × Int × (List za) × Str × Str × (List zn)) := lim fun kr => qx kr l_1 zL vF zA jr wY vH wZ l_9
noncomputable def yf (n_1 : za) (s_2 : zz) : Option (za × (List zn) × Int) :=
  (jk n_1.Kids).bind fun Qt =>
  if (decide (s_2.To > Qt)) = true then
    some (({ Kind := ([] : Str), Text := ([] : Str), Marks := [], zt := [], Kids := [] } : za), [], (3 : Int))
  else
    (vW n_1.Kids (0 : Int) s_2.Kind s_2.From s_2.To s_2.wC s_2.Name s_2.Value ([] : List zn)).bind fun (r_4, ati, atU, avu, ase, as7, apK, aqc) =>
    some ({ n_1 with Kids := r_4 }, aqc, (0 : Int))
noncomputable def x8 (s_1 : zz) : Option Bool :=
  ((
      if (decide (s_1.From ≥ (0 : Int))) = true then
        if (decide (s_1.From ≤ s_1.To)) = true then
          some (decide (s_1.To ≤ (1048576 : Int)))
        else
          some false
      else
        some false) : Option Bool).bind fun VZ =>
  if (s_1.Kind == (114 : Int)) = true then
    (xU ({ Kind := ([120] : Str), Text := ([] : Str), Marks := [], zt := [], Kids := s_1.wC } : za)).bind fun aiI =>
    if (VZ) = true then
      if (aiI != (2 : Int)) = true then
        chk (s_1.Name.length + s_1.Value.length ≤ 9223372036854775807) (
          some ((s_1.Name ++ s_1.Value) == ([] : Str)))
      else
        some false
    else
      some false
  else
    if (s_1.Kind == (97 : Int)) = true then
      if (decide (s_1.From ≥ (-1 : Int))) = true then
        if (decide (s_1.From ≤ (1048576 : Int))) = true then
          if (s_1.To == (0 : Int)) = true then
            (yC s_1.Name).bind fun amL =>
            if (amL) = true then
              (Q0 s_1.Value).bind fun ajQ =>
              if (ajQ) = true then
                some ((s_1.wC.length : Int) == (0 : Int))
              else
                some false
            else
              some false
          else
            some false
        else
          some false
      else
        some false
    else
      if (s_1.Kind == (109 : Int)) = true then
        if (VZ) = true then
          (yC s_1.Name).bind fun amV =>
          if (amV) = true then
            if ((s_1.wC.length : Int) == (0 : Int)) = true then
              some (s_1.Value == ([] : Str))
            else
              some false
          else
            some false
        else
          some false
      else
        if (s_1.Kind == (117 : Int)) = true then
          if (VZ) = true then
            (yC s_1.Name).bind fun amJ =>
            if (amJ) = true then
              if ((s_1.wC.length : Int) == (0 : Int)) = true then
                some (s_1.Value == ([] : Str))
              else
                some false
            else
              some false
          else
            some false
        else
          some false
noncomputable def kE (v_1 : Int) (K7 : qC) : Option (Int × qC) :=
  if (v_1 != (0 : Int)) = true then
    some (v_1, ({ path := [], in_ := ({ Kind := ([] : Str), Text := ([] : Str), Marks := [], zt := [], Kids := [] } : za), from_ := (0 : Int), to_ := (0 : Int) } : qC))
  else
    some (v_1, K7)
noncomputable def vY (vI : (List Int)) : List Int → Int → Option (Bool ⊕ Unit)
  | [], v_5 =>
    some (.inr ())
  | y_8 :: suf, v_5 =>
    (rd vI v_5).bind fun x_9 =>
    if (y_8 != x_9) = true then
      some (.inl false)
    else
      vY vI suf (v_5 + 1)
noncomputable def slices_Equal_int (kU : (List Int)) (vI : (List Int)) : Option Bool :=
  if ((kU.length : Int) != (vI.length : Int)) = true then
    some false
  else
    (chk (kU.length ≤ 9223372036854775807) (vY vI kU (0 : Int))).bind fun e => match e with
    | .inl wK =>
      some wK
    | .inr _ =>
      some true
noncomputable def yj : List Int → Int → Int → za → Option Int
  | [], Q4, aef, n_9 =>
    some aef
  | asC :: suf, Q4, aef, n_9 =>
    (sl n_9.Kids (0 : Int) asC).bind fun au7 =>
    (jk au7).bind fun aka =>
    (rd n_9.Kids asC).bind fun auC =>
    yj suf (Q4 + 1) (w64 (aef + (w64 (aka + (1 : Int))))) auC
noncomputable def Xq (n_1 : za) (qR : (List Int)) : Option (Int × Int) :=
  (kS n_1 qR).bind fun (r_3, r_4) =>
  if (r_4 != (0 : Int)) = true then
    some ((0 : Int), r_4)
  else
    (chk (qR.length ≤ 9223372036854775807) (yj qR (0 : Int) (0 : Int) n_1)).bind fun ak3 =>
    some (ak3, (0 : Int))
noncomputable def Vu (n_1 : za) (xI : Int) (Xk : Int) : Option (qC × Int) :=
  if (n_1.Kind == ([116, 101, 120, 116] : Str)) = true then
    (kE (2 : Int) ({ path := [], in_ := ({ Kind := ([] : Str), Text := ([] : Str), Marks := [], zt := [], Kids := [] } : za), from_ := (0 : Int), to_ := (0 : Int) } : qC)).bind fun (v_4, aqh) =>
    some (aqh, v_4)
  else
    (QT n_1).bind fun ai4 =>
    if (!ai4) = true then
      (kE (2 : Int) ({ path := [], in_ := ({ Kind := ([] : Str), Text := ([] : Str), Marks := [], zt := [], Kids := [] } : za), from_ := (0 : Int), to_ := (0 : Int) } : qC)).bind fun (v_7, aqx) =>
      some (aqx, v_7)
    else
      (kN n_1 xI).bind fun (r_9, KR) =>
      if (KR != (0 : Int)) = true then
        (kE KR ({ path := [], in_ := ({ Kind := ([] : Str), Text := ([] : Str), Marks := [], zt := [], Kids := [] } : za), from_ := (0 : Int), to_ := (0 : Int) } : qC)).bind fun (Q4, ank) =>
        some (ank, Q4)
      else
        (kN n_1 Xk).bind fun (Kl, aeO) =>
        if (aeO != (0 : Int)) = true then
          (kE aeO ({ path := [], in_ := ({ Kind := ([] : Str), Text := ([] : Str), Marks := [], zt := [], Kids := [] } : za), from_ := (0 : Int), to_ := (0 : Int) } : qC)).bind fun (agd, anq) =>
          some (anq, agd)
        else
          if (decide (Xk < xI)) = true then
            (kE (3 : Int) ({ path := [], in_ := ({ Kind := ([] : Str), Text := ([] : Str), Marks := [], zt := [], Kids := [] } : za), from_ := (0 : Int), to_ := (0 : Int) } : qC)).bind fun (aj8, anu) =>
            some (anu, aj8)
          else
            (slices_Equal_int r_9.Path Kl.Path).bind fun amx =>
            if (!amx) = true then
              (kE (10 : Int) ({ path := [], in_ := ({ Kind := ([] : Str), Text := ([] : Str), Marks := [], zt := [], Kids := [] } : za), from_ := (0 : Int), to_ := (0 : Int) } : qC)).bind fun (apD, anW) =>
              some (anW, apD)
            else
              (Xq n_1 r_9.Path).bind fun (atj, avy) =>
              (kS n_1 r_9.Path).bind fun (arP, apa) =>
              (kE apa ({ path := r_9.Path, in_ := arP, from_ := w64 (xI - atj), to_ := w64 (Xk - atj) } : qC)).bind fun (Yh, anR) =>
              some (anR, Yh)
noncomputable def yg : List za → Int → Int → Option (Int × Int)
  | [], i_8, agD =>
    some (agD, i_8)
  | akj :: suf, i_8, agD =>
    (yz akj).bind fun ajR =>
    if (decide (agD ≥ ajR)) = true then
      (yz akj).bind fun anz =>
      yg suf (i_8 + 1) (w64 (agD - anz))
    else
      some (agD, i_8)
noncomputable def ZL (l_1 : (List za)) (zL : Int) : Option ((List za) × (List za) × Int) :=
  if (decide (zL < (0 : Int))) = true then
    some ([], [], (3 : Int))
  else
    (jk l_1).bind fun Qt =>
    if (decide (zL > Qt)) = true then
      some ([], [], (3 : Int))
    else
      (chk (l_1.length ≤ 9223372036854775807) (yg l_1 (0 : Int) zL)).bind fun (adZ, ame) =>
      (sl l_1 (0 : Int) ame).bind fun aun =>
      (kv aun).bind fun aiT =>
      (sl l_1 ame (l_1.length : Int)).bind fun auy =>
      (kv auy).bind fun ae8 =>
      if (adZ == (0 : Int)) = true then
        some (aiT, ae8, (0 : Int))
      else
        (rd l_1 ame).bind fun ami =>
        if (!(ami.Kind == ([116, 101, 120, 116] : Str))) = true then
          some ([], [], (10 : Int))
        else
          (sl (runes ami.Text) (0 : Int) adZ).bind fun auM =>
          (sl (runes ami.Text) adZ ((runes ami.Text).length : Int)).bind fun au3 =>
          (rd ae8 (0 : Int)).bind fun auI =>
          (wr ae8 (0 : Int) ({ auI with Text := zN au3 })).bind fun au1 =>
          (app 104 aiT [{ ami with Text := zN auM }]).bind fun auZ =>
          some (auZ, au1, (0 : Int))
noncomputable def xq (n : Int) : Option (List za) :=
  chk (0 ≤ n ∧ n * 104 ≤ 140737488355328) (some ([] : List za))
noncomputable def wV : List (List za) → Int → Int → Option Int
  | [], v_4, VN =>
    some VN
  | y_6 :: suf, v_4, VN =>
    if (decide ((w64 (VN + (y_6.length : Int))) < (0 : Int))) = true then
      none
    else
      wV suf (v_4 + 1) (w64 (VN + (y_6.length : Int)))
noncomputable def wR : List (List za) → Int → (List za) → Option (List za)
  | [], Xf, jK =>
    some jK
  | atO :: suf, Xf, jK =>
    (app 104 jK atO).bind fun aqR =>
    wR suf (Xf + 1) aqR
noncomputable def xx (kC : (List (List za))) : Option (List za) :=
  (chk (kC.length ≤ 9223372036854775807) (wV kC (0 : Int) (0 : Int))).bind fun afz =>
  (xq afz).bind fun anM =>
  (chk (kC.length ≤ 9223372036854775807) (wR kC (0 : Int) anM)).bind fun ZP =>
  some ZP
noncomputable def YD (n_1 : za) (xI : Int) (Xk : Int) (l_4 : (List za)) : Option (za × Int) :=
  (Vu n_1 xI Xk).bind fun (r_5, r_6) =>
  if (r_6 == (2 : Int)) = true then
    some (({ Kind := ([] : Str), Text := ([] : Str), Marks := [], zt := [], Kids := [] } : za), (2 : Int))
  else
    (QS l_4).bind fun afP =>
    (xU ({ Kind := ([120] : Str), Text := ([] : Str), Marks := [], zt := [], Kids := afP } : za)).bind fun aiM =>
    if (aiM == (2 : Int)) = true then
      some (({ Kind := ([] : Str), Text := ([] : Str), Marks := [], zt := [], Kids := [] } : za), (2 : Int))
    else
      if (r_6 != (0 : Int)) = true then
        some (({ Kind := ([] : Str), Text := ([] : Str), Marks := [], zt := [], Kids := [] } : za), r_6)
      else
        (ZL r_5.in_.Kids r_5.from_).bind fun (r_9, KR, VI) =>
        (ZL r_5.in_.Kids r_5.to_).bind fun (Ke, Kl, aeO) =>
        (xx [r_9, l_4, Kl]).bind fun amX =>
        (QS amX).bind fun ana =>
        (QQ n_1 r_5.path ({ r_5.in_ with Kids := ana })).bind fun (aoB, aqm) =>
        (xU aoB).bind fun abZ =>
        if (abZ != (0 : Int)) = true then
          some (({ Kind := ([] : Str), Text := ([] : Str), Marks := [], zt := [], Kids := [] } : za), abZ)
        else
          some (aoB, (0 : Int))
noncomputable def qP (n_1 : za) (s_2 : zz) : Option (za × Int) :=
  (x8 s_2).bind fun aiX =>
  if (!aiX) = true then
    some (({ Kind := ([] : Str), Text := ([] : Str), Marks := [], zt := [], Kids := [] } : za), (1 : Int))
  else
    if (n_1.Kind == ([116, 101, 120, 116] : Str)) = true then
      some (({ Kind := ([] : Str), Text := ([] : Str), Marks := [], zt := [], Kids := [] } : za), (2 : Int))
    else
      (QT n_1).bind fun ajB =>
      if (!ajB) = true then
        some (({ Kind := ([] : Str), Text := ([] : Str), Marks := [], zt := [], Kids := [] } : za), (2 : Int))
      else
        if (s_2.Kind == (114 : Int)) = true then
          (YD n_1 s_2.From s_2.To s_2.wC).bind fun (r_5, r_6) =>
          some (r_5, r_6)
        else
          if (s_2.Kind == (97 : Int)) = true then
            (jZ n_1 s_2).bind fun (r_7, r_8, r_9) =>
            some (r_7, r_9)
          else
            (yf n_1 s_2).bind fun (KR, VI, Ke) =>
            some (KR, Ke)
noncomputable def xQ : List zz → Int → za → Option ((za × Int) ⊕ za)
  | [], v_7, n_6 =>
    some (.inr n_6)
  | atS :: suf, v_7, n_6 =>
    (qP n_6 atS).bind fun (Ke, Kl) =>
    if (Kl != (0 : Int)) = true then
      some (.inl (({ Kind := ([] : Str), Text := ([] : Str), Marks := [], zt := [], Kids := [] } : za), Kl))
    else
      xQ suf (v_7 + 1) Ke
noncomputable def Qv (n_1 : za) (l_2 : (List zz)) : Option (za × Int) :=
  (chk (l_2.length ≤ 9223372036854775807) (xQ l_2 (0 : Int) n_1)).bind fun e => match e with
  | .inl VG =>
    some VG
  | .inr ajM =>
    some (ajM, (0 : Int))
noncomputable def qK (vI : (List zf)) : List zf → Int → Option (Bool ⊕ Unit)
  | [], v_5 =>
    some (.inr ())
  | y_8 :: suf, v_5 =>
    (rd vI v_5).bind fun x_9 =>
    if ((((y_8.Name == x_9.Name) && (y_8.Value == x_9.Value)) != true)) = true then
      some (.inl false)
    else
      qK vI suf (v_5 + 1)
noncomputable def kX (kU : (List zf)) (vI : (List zf)) : Option Bool :=
  if ((kU.length : Int) != (vI.length : Int)) = true then
    some false
  else
    (chk (kU.length ≤ 9223372036854775807) (qK vI kU (0 : Int))).bind fun e => match e with
    | .inl wK =>
      some wK
    | .inr _ =>
      some true
noncomputable def zM (vI : (List za)) (node_Same_r : za → za → Option Bool) : List za → Int → Option (Bool ⊕ Unit)
  | [], v_6 =>
    some (.inr ())
  | atQ :: suf, v_6 =>
    (rd vI v_6).bind fun ag1 =>
    (node_Same_r atQ ag1).bind fun ajk =>
    if (!ajk) = true then
      some (.inl false)
    else
      zM vI node_Same_r suf (v_6 + 1)
mutual
noncomputable def qb : Nat → (List za) → (List za) → Option Bool
  | 0, _, _ => none
  | kr + 1, kU, vI =>
    if ((kU.length : Int) != (vI.length : Int)) = true then
      some false
    else
      (chk (kU.length ≤ 9223372036854775807) (zM vI (jH kr) kU (0 : Int))).bind fun e => match e with
      | .inl agQ =>
        some agQ
      | .inr _ =>
        some true
noncomputable def jH : Nat → za → za → Option Bool
  | 0, _, _ => none
  | kr + 1, a_1, b_2 =>
    if (a_1.Kind == b_2.Kind) = true then
      if (a_1.Text == b_2.Text) = true then
        (slices_Equal_string a_1.Marks b_2.Marks).bind fun afl =>
        if (afl) = true then
          (kX a_1.zt b_2.zt).bind fun amW =>
          if (amW) = true then
            ((qb kr) a_1.Kids b_2.Kids).bind fun apt =>
            some apt
          else
            some false
        else
          some false
      else
        some false
    else
      some false
end
noncomputable def ZJ (a_1 : za) (b_2 : za) : Option Bool := lim fun kr => jH kr a_1 b_2
noncomputable def adG (n_1 : za) (xI : Int) (Xk : Int) : Option ((List za) × Int) :=
  (Vu n_1 xI Xk).bind fun (r_4, r_5) =>
  if (r_5 != (0 : Int)) = true then
    some ([], r_5)
  else
    (ZL r_4.in_.Kids r_4.to_).bind fun (r_6, r_7, r_8) =>
    (ZL r_6 r_4.from_).bind fun (r_9, KR, VI) =>
    some (KR, VI)
noncomputable def Qm (s_2 : zz) : List zn → Int → (List zz) → Option (List zz)
  | [], JX, JF =>
    some JF
  | ap9 :: suf, JX, JF =>
    (app 80 JF [({ Kind := IntKind.wrap .u8 ((226 : Int) - s_2.Kind), From := ap9.Pos, To := w64 (ap9.Pos + ap9.Old), wC := [], Name := s_2.Name, Value := ([] : Str) } : zz)]).bind fun auR =>
    Qm s_2 suf (JX + 1) auR
noncomputable def QX (n_1 : za) (s_2 : zz) : Option ((List zz) × Int) :=
  (qP n_1 s_2).bind fun (r_3, r_4) =>
  if (r_4 != (0 : Int)) = true then
    some ([], r_4)
  else
    if (s_2.Kind == (114 : Int)) = true then
      (adG n_1 s_2.From s_2.To).bind fun (r_5, r_6) =>
      (jk s_2.wC).bind fun abH =>
      some ([({ Kind := (114 : Int), From := s_2.From, To := w64 (s_2.From + abH), wC := r_5, Name := ([] : Str), Value := ([] : Str) } : zz)], r_6)
    else
      if (s_2.Kind == (97 : Int)) = true then
        (jZ n_1 s_2).bind fun (r_8, r_9, KR) =>
        some ([({ Kind := (97 : Int), From := s_2.From, To := (0 : Int), wC := [], Name := s_2.Name, Value := r_9 } : zz)], KR)
      else
        (yf n_1 s_2).bind fun (VI, Ke, Kl) =>
        (chk (Ke.length ≤ 9223372036854775807) (Qm s_2 Ke (0 : Int) ([] : List zz))).bind fun adu =>
        some (adu, Kl)
noncomputable def jo : Option Bool :=
  (qP ({ Kind := ([100, 111, 99] : Str), Text := ([] : Str), Marks := [], zt := [], Kids := [({ Kind := ([112] : Str), Text := ([] : Str), Marks := [], zt := [], Kids := [({ Kind := ([116, 101, 120, 116] : Str), Text := ([104, 105] : Str), Marks := [], zt := [], Kids := [] } : za)] } : za)] } : za) ({ Kind := (109 : Int), From := (2 : Int), To := (3 : Int), wC := [], Name := ([98] : Str), Value := ([] : Str) } : zz)).bind fun (r_1, r_2) =>
  if (r_2 == (0 : Int)) = true then
    if ((r_1.Kids.length : Int) == (1 : Int)) = true then
      (rd r_1.Kids (0 : Int)).bind fun x_3 =>
      if ((x_3.Kids.length : Int) == (2 : Int)) = true then
        (rd x_3.Kids (1 : Int)).bind fun x_4 =>
        if (x_4.Text == ([105] : Str)) = true then
          some ((x_4.Marks.length : Int) == (1 : Int))
        else
          some false
      else
        some false
    else
      some false
  else
    some false
noncomputable def zV (c_1 : Int) (n_2 : Int) : Option Int :=
  if (decide (c_1 < (0 : Int))) = true then
    chk (n_2 ≠ 0) (
      some ((w64 (0 - (w64 (c_1 + (1 : Int))))).tmod n_2))
  else
    chk (n_2 ≠ 0) (
      some (c_1.tmod n_2))
noncomputable def qI (diptychref1_Depth_r : za → Option Int) : List za → Int → Int → Option Int
  | [], i_5, d_4 =>
    some d_4
  | y_8 :: suf, i_5, d_4 =>
    (diptychref1_Depth_r y_8).bind fun ajs =>
    qI diptychref1_Depth_r suf (i_5 + 1) (if ajs > d_4 then ajs else d_4)
noncomputable def qz : Nat → za → Option Int
  | 0, _ => none
  | kr + 1, n_1 =>
    if (n_1.Kind == ([116, 101, 120, 116] : Str)) = true then
      some (0 : Int)
    else
      (chk (n_1.Kids.length ≤ 9223372036854775807) (qI (qz kr) n_1.Kids (0 : Int) (0 : Int))).bind fun apR =>
      some (w64 (apR + (1 : Int)))
noncomputable def vM (n_1 : za) : Option Int := lim fun kr => qz kr n_1
noncomputable def qh (b_2 : (List Str)) : List Str → Int → Option (Bool ⊕ Unit)
  | [], i_5 =>
    some (.inr ())
  | y_8 :: suf, i_5 =>
    (rd b_2 i_5).bind fun x_9 =>
    if (!(y_8 == x_9)) = true then
      some (.inl false)
    else
      qh b_2 suf (i_5 + 1)
noncomputable def kV (a_1 : (List Str)) (b_2 : (List Str)) : Option Bool :=
  if ((a_1.length : Int) != (b_2.length : Int)) = true then
    some false
  else
    (chk (a_1.length ≤ 9223372036854775807) (qh b_2 a_1 (0 : Int))).bind fun e => match e with
    | .inl wK =>
      some wK
    | .inr _ =>
      some true
noncomputable def zW : List za → Int → (List za) → Option (List za)
  | [], VK, vU =>
    some vU
  | Zq :: suf, VK, vU =>
    ((
        if (Zq.Kind == ([116, 101, 120, 116] : Str)) = true then
          if (Zq.Text == ([] : Str)) = true then
            some (.inl ())
          else
            some (.inr ())
        else
          some (.inr ())) : Option (Unit ⊕ Unit)).bind fun e => match e with
    | .inl _ =>
      zW suf (VK + 1) vU
    | .inr _ =>
      if (Zq.Kind == ([116, 101, 120, 116] : Str)) = true then
        if (decide ((w64 ((vU.length : Int) - (1 : Int))) ≥ (0 : Int))) = true then
          (rd vU (w64 ((vU.length : Int) - (1 : Int)))).bind fun aov =>
          if (aov.Kind == ([116, 101, 120, 116] : Str)) = true then
            (kV aov.Marks Zq.Marks).bind fun adv =>
            if (adv) = true then
              chk (aov.Text.length + Zq.Text.length ≤ 9223372036854775807) (
                (sl vU (0 : Int) (w64 ((vU.length : Int) - (1 : Int)))).bind fun auN =>
                (app 104 ([] : List za) auN).bind fun auF =>
                (app 104 auF [{ Zq with Text := aov.Text ++ Zq.Text }]).bind fun arb =>
                zW suf (VK + 1) arb)
            else
              (app 104 vU [Zq]).bind fun aqQ =>
              zW suf (VK + 1) aqQ
          else
            (app 104 vU [Zq]).bind fun aqT =>
            zW suf (VK + 1) aqT
        else
          (app 104 vU [Zq]).bind fun aqa =>
          zW suf (VK + 1) aqa
      else
        (app 104 vU [Zq]).bind fun auY =>
        zW suf (VK + 1) auY
noncomputable def j5 (l_1 : (List za)) : Option (List za) :=
  (chk (l_1.length ≤ 9223372036854775807) (zW l_1 (0 : Int) ([] : List za))).bind fun adz =>
  some adz
noncomputable def vN (x_1 : zu) (ae3 : (List za)) : Option za :=
  (zV x_1.zt (2 : Int)).bind fun apT =>
  (rd [([108, 101, 102, 116] : Str), ([114, 105, 103, 104, 116] : Str)] apT).bind fun x_4 =>
  (zV (w64 (x_1.zt.tdiv (2 : Int))) (4 : Int)).bind fun aro =>
  (rd [([] : Str), ([195, 169] : Str), ([34, 113, 92] : Str), ([110, 111, 116, 101] : Str)] aro).bind fun x_6 =>
  (j5 ae3).bind fun afP =>
  some ({ Kind := ([112, 97, 114, 97] : Str), Text := ([] : Str), Marks := [], zt := [({ Name := ([97, 108, 105, 103, 110] : Str), Value := x_4 } : zf), ({ Name := ([110, 111, 116, 101] : Str), Value := x_6 } : zf)], Kids := afP } : za)
noncomputable def zC : List zu → Int → (List za) → (List za) → Option (List za)
  | [], QM, xC, yO =>
    some yO
  | adK :: suf, QM, xC, yO =>
    if (decide (QM < (40 : Int))) = true then
      (zV adK.Text (5 : Int)).bind fun anj =>
      (rd [([97] : Str), ([98, 99] : Str), ([195, 169] : Str), ([120, 32, 121] : Str), ([230, 151, 165, 230, 156, 172] : Str)] anj).bind fun asr =>
      ((
          (zV adK.Marks (4 : Int)).bind fun acm =>
          if ((ahO acm (1 : Int)) == (1 : Int)) = true then
            (app 16 ([] : List Str) [([98] : Str)]).bind fun amv =>
            some amv
          else
            some ([] : List Str)) : Option (List Str)).bind fun amC =>
      ((
          (zV adK.Marks (4 : Int)).bind fun ab4 =>
          if ((ahO ab4 (2 : Int)) == (2 : Int)) = true then
            (app 16 amC [([105] : Str)]).bind fun arv =>
            some arv
          else
            some amC) : Option (List Str)).bind fun aoE =>
      (app 104 xC [({ Kind := ([116, 101, 120, 116] : Str), Text := asr, Marks := aoE, zt := [], Kids := [] } : za)]).bind fun at1 =>
      (zV adK.In (5 : Int)).bind fun JK =>
      if (JK == (0 : Int)) = true then
        zC suf (QM + 1) at1 yO
      else
        (vN adK at1).bind fun jW =>
        if (decide (JK < (3 : Int))) = true then
          (app 104 yO [jW]).bind fun ar1 =>
          zC suf (QM + 1) ([] : List za) ar1
        else
          ((
              if (decide ((w64 ((yO.length : Int) - (1 : Int))) ≥ (0 : Int))) = true then
                (rd yO (w64 ((yO.length : Int) - (1 : Int)))).bind fun ajl =>
                if (ajl.Kind == ([108, 105, 115, 116] : Str)) = true then
                  if (JK == (3 : Int)) = true then
                    (app 104 ([] : List za) ajl.Kids).bind fun amK =>
                    (app 104 amK [({ Kind := ([105, 116, 101, 109] : Str), Text := ([] : Str), Marks := [], zt := [], Kids := [jW] } : za)]).bind fun aru =>
                    (sl yO (0 : Int) (w64 ((yO.length : Int) - (1 : Int)))).bind fun arL =>
                    (app 104 ([] : List za) arL).bind fun arT =>
                    (app 104 arT [{ ajl with Kids := aru }]).bind fun ar2 =>
                    some (.inl ar2)
                  else
                    some (.inr ())
                else
                  some (.inr ())
              else
                some (.inr ())) : Option ((List za) ⊕ Unit)).bind fun e => match e with
          | .inl akS =>
            zC suf (QM + 1) ([] : List za) akS
          | .inr _ =>
            if (decide ((w64 ((yO.length : Int) - (1 : Int))) ≥ (0 : Int))) = true then
              (rd yO (w64 ((yO.length : Int) - (1 : Int)))).bind fun aiY =>
              if (aiY.Kind == ([108, 105, 115, 116] : Str)) = true then
                (vM aiY).bind fun XB =>
                if (decide (XB < (30 : Int))) = true then
                  (app 104 [jW] [aiY]).bind fun art =>
                  (sl yO (0 : Int) (w64 ((yO.length : Int) - (1 : Int)))).bind fun arW =>
                  (app 104 ([] : List za) arW).bind fun ar4 =>
                  (app 104 ar4 [({ Kind := ([108, 105, 115, 116] : Str), Text := ([] : Str), Marks := [], zt := [], Kids := [({ Kind := ([105, 116, 101, 109] : Str), Text := ([] : Str), Marks := [], zt := [], Kids := art } : za)] } : za)]).bind fun asx =>
                  zC suf (QM + 1) ([] : List za) asx
                else
                  (app 104 yO [({ Kind := ([108, 105, 115, 116] : Str), Text := ([] : Str), Marks := [], zt := [], Kids := [({ Kind := ([105, 116, 101, 109] : Str), Text := ([] : Str), Marks := [], zt := [], Kids := [jW] } : za)] } : za)]).bind fun arV =>
                  zC suf (QM + 1) ([] : List za) arV
              else
                (app 104 yO [({ Kind := ([108, 105, 115, 116] : Str), Text := ([] : Str), Marks := [], zt := [], Kids := [({ Kind := ([105, 116, 101, 109] : Str), Text := ([] : Str), Marks := [], zt := [], Kids := [jW] } : za)] } : za)]).bind fun ast =>
                zC suf (QM + 1) ([] : List za) ast
            else
              (app 104 yO [({ Kind := ([108, 105, 115, 116] : Str), Text := ([] : Str), Marks := [], zt := [], Kids := [({ Kind := ([105, 116, 101, 109] : Str), Text := ([] : Str), Marks := [], zt := [], Kids := [jW] } : za)] } : za)]).bind fun arB =>
              zC suf (QM + 1) ([] : List za) arB
    else
      some yO
noncomputable def j4 (l_1 : (List zu)) : Option za :=
  (chk (l_1.length ≤ 9223372036854775807) (zC l_1 (0 : Int) ([] : List za) ([] : List za))).bind fun aoD =>
  some ({ Kind := ([100, 111, 99] : Str), Text := ([] : Str), Marks := [], zt := [], Kids := aoD } : za)
noncomputable def vz (l : Str) : Option (Str × (List UInt8)) :=
  chk (l.length ≤ 9223372036854775807) (some (l, l))
noncomputable def kI (l : Str) : Option (List UInt8) :=
  some l
noncomputable def wm (s_1 : Str) (l_2 : (List UInt8)) : Option (Int × (List UInt8)) :=
  (kI l_2).bind fun l_3 =>
  (app 1 l_3 s_1).bind fun l_4 =>
  some ((s_1.length : Int), l_4)
noncomputable def w9 (node_Words_1_x_r : za → (List UInt8) → Option (List UInt8)) : List za → Int → (List UInt8) → Option (List UInt8)
  | [], v_8, v_9 =>
    some v_9
  | akj :: suf, v_8, v_9 =>
    (node_Words_1_x_r akj v_9).bind fun apG =>
    w9 node_Words_1_x_r suf (v_8 + 1) apG
noncomputable def wM : Nat → za → (List UInt8) → Option (List UInt8)
  | 0, _, _ => none
  | kr + 1, n_1, l_2 =>
    (vL n_1).bind fun KI =>
    if (KI) = true then
      (wm n_1.Text l_2).bind fun (r_4, l_5) =>
      some l_5
    else
      (chk (n_1.Kids.length ≤ 9223372036854775807) (w9 (wM kr) n_1.Kids (0 : Int) l_2)).bind fun JX =>
      some JX
noncomputable def x9 (n_1 : za) (l_2 : (List UInt8)) : Option (List UInt8) := lim fun kr => wM kr n_1 l_2
noncomputable def Zt (n_1 : za) : Option Str :=
  (x9 n_1 ([] : Str)).bind fun l_2 =>
  (vz l_2).bind fun (r_3, l_4) =>
  some r_3
noncomputable def jb (l_1 : (List zu)) (a_2 : Int) (b_3 : Int) (v_4 : Str) : Option Bool :=
  (jo).bind fun YH =>
  if (!YH) = true then
    some YH
  else
    if (decide ((v_4.length : Int) > (40 : Int))) = true then
      some YH
    else
      if (!((zN (runes v_4)) == v_4)) = true then
        some YH
      else
        (j4 l_1).bind fun aab =>
        (jk aab.Kids).bind fun abH =>
        (zV a_2 (w64 (abH + (1 : Int)))).bind fun XH =>
        (jk aab.Kids).bind fun anO =>
        (zV b_3 (w64 (anO + (1 : Int)))).bind fun afc =>
        (qP aab ({ Kind := (97 : Int), From := XH, To := (0 : Int), wC := [], Name := ([110, 111, 116, 101] : Str), Value := v_4 } : zz)).bind fun (VI, Ke) =>
        (QX aab ({ Kind := (97 : Int), From := XH, To := (0 : Int), wC := [], Name := ([110, 111, 116, 101] : Str), Value := v_4 } : zz)).bind fun (Kl, aeO) =>
        if (Ke != (0 : Int)) = true then
          some (aeO == Ke)
        else
          (Qv VI Kl).bind fun (aul, atw) =>
          (qP VI ({ Kind := (97 : Int), From := XH, To := (0 : Int), wC := [], Name := ([110, 111, 116, 101] : Str), Value := v_4 } : zz)).bind fun (aoB, aqm) =>
          if (atw != (0 : Int)) = true then
            some false
          else
            if (aqm != (0 : Int)) = true then
              some false
            else
              (ZJ aul aab).bind fun ai7 =>
              if (!ai7) = true then
                some false
              else
                (ZJ aoB VI).bind fun ajG =>
                if (!ajG) = true then
                  some false
                else
                  (Zt VI).bind fun afo =>
                  (Zt aab).bind fun ahb =>
                  if (!(afo == ahb)) = true then
                    some false
                  else
                    if ((Kl.length : Int) != (1 : Int)) = true then
                      some false
                    else
                      (rd Kl (0 : Int)).bind fun atZ =>
                      if (atZ.From != XH) = true then
                        some false
                      else
                        (qP aab ({ Kind := (97 : Int), From := afc, To := (0 : Int), wC := [], Name := ([97, 108, 105, 103, 110] : Str), Value := ([114, 105, 103, 104, 116] : Str) } : zz)).bind fun (arP, apa) =>
                        if (apa != (0 : Int)) = true then
                          some true
                        else
                          (Qv aab [({ Kind := (97 : Int), From := XH, To := (0 : Int), wC := [], Name := ([110, 111, 116, 101] : Str), Value := v_4 } : zz), ({ Kind := (97 : Int), From := afc, To := (0 : Int), wC := [], Name := ([97, 108, 105, 103, 110] : Str), Value := ([114, 105, 103, 104, 116] : Str) } : zz)]).bind fun (aue, atv) =>
                          (Qv aab [({ Kind := (97 : Int), From := afc, To := (0 : Int), wC := [], Name := ([97, 108, 105, 103, 110] : Str), Value := ([114, 105, 103, 104, 116] : Str) } : zz), ({ Kind := (97 : Int), From := XH, To := (0 : Int), wC := [], Name := ([110, 111, 116, 101] : Str), Value := v_4 } : zz)]).bind fun (au5, atu) =>
                          if (atv == (0 : Int)) = true then
                            if (atu == (0 : Int)) = true then
                              (ZJ aue au5).bind fun anp =>
                              some anp
                            else
                              some false
                          else
                            some false
end Go.Proofs.YtclohbgnaopjfaaDoor
