/- Texts of the proof of diffChainCard -/
import Derived.Test.YtclohbgnaopjfaaDoorAgT
import Derived.Test.YtclohbgnaopjfaaDoorAgWith
import Derived.Test.YtclohbgnaopjfaaDoorAgLib
namespace Go.Proofs.YtclohbgnaopjfaaDoor
set_option linter.unusedSimpArgs false
set_option linter.unusedVariables false
open Go
set_option maxRecDepth 100000
noncomputable def jO (n_1 : za) : Option Bool :=
 some (n_1.Kind == ([116, 101, 120, 116] : Str))
noncomputable def zO (s_1 : Str) : Nat → Int → Nat → Option Int
 | 0, _, _ => none
 | k + 1, n_2, v_3 =>
  if (decide (v_3 < s_1.length)) = true then
   zO s_1 k (w64 (n_2 + (1 : Int))) (v_3 + atC s_1 v_3)
  else
   some n_2
noncomputable def wF (s_1 : Str) : Option Int :=
 (lim fun k => zO s_1 k (0 : Int) 0).bind fun n_4 =>
 some n_4
noncomputable def jL (node_Size_r : za → Option Int) : List za → Int → Int → Option Int
 | [], v_5, aad =>
  some aad
 | y_8 :: suf, v_5, aad =>
  (node_Size_r y_8).bind fun ati =>
  jL node_Size_r suf (v_5 + 1) (w64 (aad + ati))
mutual
noncomputable def jJ : Nat → za → Option Int
 | 0, _ => none
 | kr + 1, n_1 =>
  (jO n_1).bind fun yY =>
  if (yY) = true then
   (wF n_1.Text).bind fun aon =>
   some aon
  else
   ((yA kr) n_1.Kids).bind fun aqB =>
   some (w64 ((2 : Int) + aqB))
noncomputable def yA : Nat → (List za) → Option Int
 | 0, _ => none
 | kr + 1, l_1 =>
  (chk (l_1.length ≤ 9223372036854775807) (jL (jJ kr) l_1 (0 : Int) (0 : Int))).bind fun adB =>
  some adB
end
noncomputable def Zg (n_1 : za) : Option Int := lim fun kr => jJ kr n_1
noncomputable def jv (l_1 : (List za)) : Option Int := lim fun kr => yA kr l_1
noncomputable def wT (s : Str) : Option Bool :=
 chk (s.length ≤ 9223372036854775807) (some (Lib.validD s))
noncomputable def qo (kT : (List Str)) : List Str → Int → Option (Bool ⊕ Unit)
 | [], v_5 =>
  some (.inr ())
 | y_8 :: suf, v_5 =>
  (rd kT v_5).bind fun x_9 =>
  if (!(y_8 == x_9)) = true then
   some (.inl false)
  else
   qo kT suf (v_5 + 1)
noncomputable def slices_Equal_string (kD : (List Str)) (kT : (List Str)) : Option Bool :=
 if ((kD.length : Int) != (kT.length : Int)) = true then
  some false
 else
  (chk (kD.length ≤ 9223372036854775807) (qo kT kD (0 : Int))).bind fun e => match e with
  | .inl kG =>
   some kG
  | .inr _ =>
   some true
noncomputable def Qd (a_1 : za) (b_2 : za) : Option Bool :=
 (jO a_1).bind fun ahl =>
 if (ahl) = true then
  (jO b_2).bind fun aiQ =>
  if (aiQ) = true then
   (slices_Equal_string a_1.Marks b_2.Marks).bind fun aos =>
   some aos
  else
   some false
 else
  some false
noncomputable def Vr (s : Str) (cutset : Str) : Option Str :=
 chk (s.length ≤ 9223372036854775807 ∧ cutset.length < 4294967281 ∧ cutset.all (fun b => decide (b.toNat < 128)) = true) (some (Lib.trimS s cutset))
noncomputable def Zh (s_1 : Str) : Option Bool :=
 (Vr s_1 ([97, 98, 99, 100, 101, 102, 103, 104, 105, 106, 107, 108, 109, 110, 111, 112, 113, 114, 115, 116, 117, 118, 119, 120, 121, 122] : Str)).bind fun aoW =>
 if (aoW == ([] : Str)) = true then
  if (!(s_1 == ([] : Str))) = true then
   if (decide ((s_1.length : Int) ≤ (8 : Int))) = true then
    some (!(s_1 == ([116, 101, 120, 116] : Str)))
   else
    some false
  else
   some false
 else
  some false
noncomputable def vS (l_1 : (List Str)) : List Str → Int → Option (Bool ⊕ Unit)
 | [], v_5 =>
  some (.inr ())
 | y_9 :: suf, v_5 =>
  (Zh y_9).bind fun alc =>
  if (!alc) = true then
   some (.inl false)
  else
   if (decide (v_5 > (0 : Int))) = true then
    (rd l_1 (w64 (v_5 - (1 : Int)))).bind fun aey =>
    if ((Op.bytesLess y_9 aey || y_9 == aey)) = true then
     some (.inl false)
    else
     vS l_1 suf (v_5 + 1)
   else
    vS l_1 suf (v_5 + 1)
noncomputable def Vw (l_1 : (List Str)) : Option Bool :=
 (chk (l_1.length ≤ 9223372036854775807) (vS l_1 l_1 (0 : Int))).bind fun e => match e with
 | .inl ahZ =>
  some ahZ
 | .inr _ =>
  some true
noncomputable def Ki (s_1 : Str) : Option Bool :=
 if (decide ((s_1.length : Int) ≤ (40 : Int))) = true then
  (wT s_1).bind fun aoI =>
  some aoI
 else
  some false
noncomputable def vU : List ze → Int → (List Str) → Option (Bool ⊕ (List Str))
 | [], v_8, Vs =>
  some (.inr Vs)
 | avC :: suf, v_8, Vs =>
  (Ki avC.Value).bind fun ah8 =>
  if (!ah8) = true then
   some (.inl false)
  else
   (app 16 Vs [avC.Name]).bind fun agW =>
   vU suf (v_8 + 1) agW
noncomputable def kY (n_1 : za) (node_formed_r : za → Option Bool) : List za → Int → Option (Bool ⊕ Unit)
 | [], aan =>
  some (.inr ())
 | auA :: suf, aan =>
  (node_formed_r auA).bind fun afE =>
  if (!afE) = true then
   some (.inl false)
  else
   if (decide (aan > (0 : Int))) = true then
    (rd n_1.Kids (w64 (aan - (1 : Int)))).bind fun ayd =>
    (Qd ayd auA).bind fun ah3 =>
    if (ah3) = true then
     some (.inl false)
    else
     kY n_1 node_formed_r suf (aan + 1)
   else
    kY n_1 node_formed_r suf (aan + 1)
noncomputable def vo : Nat → za → Option Bool
 | 0, _ => none
 | kr + 1, n_1 =>
  (jO n_1).bind fun yY =>
  if (yY) = true then
   if (!(n_1.Text == ([] : Str))) = true then
    (wT n_1.Text).bind fun aic =>
    if (aic) = true then
     (Vw n_1.Marks).bind fun ap3 =>
     if (ap3) = true then
      some ((w64 ((n_1.zh.length : Int) + (n_1.Kids.length : Int))) == (0 : Int))
     else
      some false
    else
     some false
   else
    some false
  else
   (chk (n_1.zh.length ≤ 9223372036854775807) (vU n_1.zh (0 : Int) ([] : List Str))).bind fun e => match e with
   | .inl ahY =>
    some ahY
   | .inr Xj =>
    (Zh n_1.Kind).bind fun alO =>
    if (!alO) = true then
     some false
    else
     if (!(n_1.Text == ([] : Str))) = true then
      some false
     else
      if (decide ((n_1.Marks.length : Int) > (0 : Int))) = true then
       some false
      else
       (Vw Xj).bind fun amq =>
       if (!amq) = true then
        some false
       else
        (chk (n_1.Kids.length ≤ 9223372036854775807) (kY n_1 (vo kr) n_1.Kids (0 : Int))).bind fun e => match e with
        | .inl aiV =>
         some aiV
        | .inr _ =>
         some true
noncomputable def Ko (n_1 : za) : Option Bool := lim fun kr => vo kr n_1
noncomputable def vP (node_Depth_r : za → Option Int) : List za → Int → Int → Option Int
 | [], v_6, Zf =>
  some Zf
 | y_9 :: suf, v_6, Zf =>
  (node_Depth_r y_9).bind fun ahy =>
  vP node_Depth_r suf (v_6 + 1) (if ahy > Zf then ahy else Zf)
noncomputable def vR : Nat → za → Option Int
 | 0, _ => none
 | kr + 1, n_1 =>
  (jO n_1).bind fun yY =>
  if (yY) = true then
   some (0 : Int)
  else
   (chk (n_1.Kids.length ≤ 9223372036854775807) (vP (vR kr) n_1.Kids (0 : Int) (0 : Int))).bind fun VO =>
   some (w64 (VO + (1 : Int)))
noncomputable def VT (n_1 : za) : Option Int := lim fun kr => vR kr n_1
noncomputable def yX (n_1 : za) : Option Int :=
 (Ko n_1).bind fun ahN =>
 if (!ahN) = true then
  some (2 : Int)
 else
  (VT n_1).bind fun alT =>
  if (decide (alT > (40 : Int))) = true then
   some (4 : Int)
  else
   (Zg n_1).bind fun apf =>
   if (decide (apf > (4000 : Int))) = true then
    some (5 : Int)
   else
    some (0 : Int)
noncomputable def yZ (n_1 : za) : Option Bool :=
 (yX n_1).bind fun aqW =>
 some (aqW == (0 : Int))
noncomputable def Vn (x_1 : ze) (y_2 : ze) : Option Bool :=
 some (x_1.Name == y_2.Name)
noncomputable def zM (kT : (List ze)) : List ze → Int → Option (Bool ⊕ Unit)
 | [], v_6 =>
  some (.inr ())
 | apV :: suf, v_6 =>
  (rd kT v_6).bind fun aey =>
  (Vn apV aey).bind fun atq =>
  if (!atq) = true then
   some (.inl false)
  else
   zM kT suf (v_6 + 1)
noncomputable def wu (kD : (List ze)) (kT : (List ze)) : Option Bool :=
 if ((kD.length : Int) != (kT.length : Int)) = true then
  some false
 else
  (chk (kD.length ≤ 9223372036854775807) (zM kT kD (0 : Int))).bind fun e => match e with
  | .inl V6 =>
   some V6
  | .inr _ =>
   some true
noncomputable def WT (a_1 : za) (b_2 : za) : Option Bool :=
 if (a_1.Kind == b_2.Kind) = true then
  if (!(a_1.Kind == ([116, 101, 120, 116] : Str))) = true then
   (wu a_1.zh b_2.zh).bind fun attr_3 =>
   some attr_3
  else
   some false
 else
  some false
noncomputable def qa (kT : (List ze)) : List ze → Int → Option (Bool ⊕ Unit)
 | [], v_5 =>
  some (.inr ())
 | y_8 :: suf, v_5 =>
  (rd kT v_5).bind fun x_9 =>
  if ((((y_8.Name == x_9.Name) && (y_8.Value == x_9.Value)) != true)) = true then
   some (.inl false)
  else
   qa kT suf (v_5 + 1)
noncomputable def wZ (kD : (List ze)) (kT : (List ze)) : Option Bool :=
 if ((kD.length : Int) != (kT.length : Int)) = true then
  some false
 else
  (chk (kD.length ≤ 9223372036854775807) (qa kT kD (0 : Int))).bind fun e => match e with
  | .inl kG =>
   some kG
  | .inr _ =>
   some true
noncomputable def zL (kT : (List za)) (node_Same_r : za → za → Option Bool) : List za → Int → Option (Bool ⊕ Unit)
 | [], v_6 =>
  some (.inr ())
 | apV :: suf, v_6 =>
  (rd kT v_6).bind fun aey =>
  (node_Same_r apV aey).bind fun alq =>
  if (!alq) = true then
   some (.inl false)
  else
   zL kT node_Same_r suf (v_6 + 1)
mutual
noncomputable def zY : Nat → (List za) → (List za) → Option Bool
 | 0, _, _ => none
 | kr + 1, kD, kT =>
  if ((kD.length : Int) != (kT.length : Int)) = true then
   some false
  else
   (chk (kD.length ≤ 9223372036854775807) (zL kT (vF kr) kD (0 : Int))).bind fun e => match e with
   | .inl V6 =>
    some V6
   | .inr _ =>
    some true
noncomputable def vF : Nat → za → za → Option Bool
 | 0, _, _ => none
 | kr + 1, a_1, b_2 =>
  if (a_1.Kind == b_2.Kind) = true then
   if (a_1.Text == b_2.Text) = true then
    (slices_Equal_string a_1.Marks b_2.Marks).bind fun ahH =>
    if (ahH) = true then
     (wZ a_1.zh b_2.zh).bind fun ap5 =>
     if (ap5) = true then
      ((zY kr) a_1.Kids b_2.Kids).bind fun avh =>
      some avh
     else
      some false
    else
     some false
   else
    some false
  else
   some false
end
noncomputable def jQ (a_1 : za) (b_2 : za) : Option Bool := lim fun kr => vF kr a_1 b_2
noncomputable def qx (yn : (List ze)) (WS : Int) : List ze → Int → (List zo) → Option (List zo)
 | [], Je, adp =>
  some adp
 | apH :: suf, Je, adp =>
  if (decide (Je < (yn.length : Int))) = true then
   (rd yn Je).bind fun awD =>
   if (!(awD.Value == apH.Value)) = true then
    (app 80 adp [({ Kind := (97 : Int), From := w64 (WS - (1 : Int)), To := (0 : Int), kF := [], Name := apH.Name, Value := awD.Value } : zo)]).bind fun auq =>
    qx yn WS suf (Je + 1) auq
   else
    qx yn WS suf (Je + 1) adp
  else
   qx yn WS suf (Je + 1) adp
noncomputable def jW (afc : Str) (afI : Str) (aaW : (List Str)) (yM : (List ze)) (aeP : (List za)) (aeM : Str) (afq : Str) (aaZ : (List Str)) (yn : (List ze)) (aaY : (List za)) (WS : Int) (aa1 : Int) (arY : Int) (YK : Int) (agW : (List Int)) (avi : (List zo)) : Option (Str × Str × (List Str) × (List ze) × (List za) × Str × Str × (List Str) × (List ze) × (List za) × Int × Int × Int × Int × (List Int) × (List zo)) :=
 (chk (yM.length ≤ 9223372036854775807) (qx yn WS yM (0 : Int) avi)).bind fun asg =>
 some (afc, afI, aaW, yM, aeP, aeM, afq, aaZ, yn, aaY, WS, aa1, arY, YK, agW, asg)
noncomputable def xI (qG : (List za)) (qO : (List za)) : Nat → Int → Option Int
 | 0, _ => none
 | k + 1, agI =>
  if (decide (agI < (if (qO.length : Int) < (qG.length : Int) then (qO.length : Int) else (qG.length : Int)))) = true then
   (rd qG agI).bind fun ay2 =>
   (rd qO agI).bind fun ax3 =>
   (jQ ay2 ax3).bind fun al1 =>
   if (al1) = true then
    xI qG qO k (w64 (agI + (1 : Int)))
   else
    some agI
  else
   some agI
noncomputable def yw (qG : (List za)) (qO : (List za)) (ZH : Int) : Nat → Int → Option Int
 | 0, _ => none
 | k + 1, Z9 =>
  if (decide (Z9 < (w64 ((if (qO.length : Int) < (qG.length : Int) then (qO.length : Int) else (qG.length : Int)) - ZH)))) = true then
   (rd qG (w64 ((w64 ((qG.length : Int) - (1 : Int))) - Z9))).bind fun ayt =>
   (rd qO (w64 ((w64 ((qO.length : Int) - (1 : Int))) - Z9))).bind fun ayw =>
   (jQ ayt ayw).bind fun alV =>
   if (alV) = true then
    yw qG qO ZH k (w64 (Z9 + (1 : Int)))
   else
    some Z9
  else
   some Z9
noncomputable def Zd : Nat → Str → Str → (List Str) → (List ze) → (List za) → Str → Str → (List Str) → (List ze) → (List za) → Int → Int → Int → Int → (List Int) → (List zo) → Option ((List za) × (List za) × Str × Str × (List Str) × (List ze) × Str × Str × (List Str) × (List ze) × Int × Int × Int × Int × (List Int) × (List zo))
 | 0, _, _, _, _, _, _, _, _, _, _, _, _, _, _, _, _ => none
 | k + 1, arP, aso, arR, ash, arZ, ar1, ars, ar9, asf, arf, asj, asb, arT, arK, aob, apA =>
  (jW arP aso arR ash arZ ar1 ars ar9 asf arf asj asb arT arK aob apA).bind fun (Jt, Jy, KO, Kw, qG, Jr, JA, KI, Kn, qO, Yg, avG, asT, atY, aec, aay) =>
  chk (aob.length = aec.length) (
   (lim fun k => xI qG qO k (0 : Int)).bind fun ZH =>
   (lim fun k => yw qG qO ZH k (0 : Int)).bind fun xQ =>
   if ((w64 ((w64 ((qG.length : Int) - ZH)) - xQ)) != (1 : Int)) = true then
    some (qG, qO, Jt, Jy, KO, Kw, Jr, JA, KI, Kn, Yg, ZH, w64 ((w64 ((qG.length : Int) - ZH)) - xQ), w64 ((w64 ((qO.length : Int) - ZH)) - xQ), aec, aay)
   else
    if ((w64 ((w64 ((qO.length : Int) - ZH)) - xQ)) != (1 : Int)) = true then
     some (qG, qO, Jt, Jy, KO, Kw, Jr, JA, KI, Kn, Yg, ZH, w64 ((w64 ((qG.length : Int) - ZH)) - xQ), w64 ((w64 ((qO.length : Int) - ZH)) - xQ), aec, aay)
    else
     (rd qG ZH).bind fun aoP =>
     (rd qO ZH).bind fun ao4 =>
     (WT aoP ao4).bind fun ahS =>
     if (!ahS) = true then
      some (qG, qO, Jt, Jy, KO, Kw, Jr, JA, KI, Kn, Yg, ZH, w64 ((w64 ((qG.length : Int) - ZH)) - xQ), w64 ((w64 ((qO.length : Int) - ZH)) - xQ), aec, aay)
     else
      (app 8 aec [ZH]).bind fun ax7 =>
      (sl qG (0 : Int) ZH).bind fun aya =>
      (jv aya).bind fun aor =>
      Zd k aoP.Kind aoP.Text aoP.Marks aoP.zh aoP.Kids ao4.Kind ao4.Text ao4.Marks ao4.zh ao4.Kids (w64 (Yg + (w64 (aor + (1 : Int))))) ZH (w64 ((w64 ((qG.length : Int) - ZH)) - xQ)) (w64 ((w64 ((qO.length : Int) - ZH)) - xQ)) ax7 aay)
noncomputable def aeg (a_1 : za) (b_2 : za) : Option jb :=
 (lim fun k => Zd k a_1.Kind a_1.Text a_1.Marks a_1.zh a_1.Kids b_2.Kind b_2.Text b_2.Marks b_2.zh b_2.Kids (0 : Int) (0 : Int) (0 : Int) (0 : Int) ([] : List Int) ([] : List zo)).bind fun (apo, ajh, akJ, akU, aj7, akI, akA, ala, akE, akC, akt, aks, akj, ak9, aiN, akQ) =>
 some ({ a := ({ Kind := akJ, Text := akU, Marks := aj7, zh := akI, Kids := apo } : za), b := ({ Kind := akA, Text := ala, Marks := akE, zh := akC, Kids := ajh } : za), path := aiN, at_ := akt, head := aks, m := akj, n := ak9, attrs := akQ } : jb)
noncomputable def slices_Clone_string (l : (List Str)) : Option (List Str) :=
 app 16 [] l
noncomputable def ko (l : (List ze)) : Option (List ze) :=
 app 32 [] l
noncomputable def qy (l : (List za)) : Option (List za) :=
 app 104 [] l
noncomputable def xG (jF : (List za)) (node_Copy_r : za → Option za) : Nat → Int → (List za) → Option (List za)
 | 0, _, _ => none
 | k + 1, v_8, v_9 =>
  if (decide (v_8 < (jF.length : Int))) = true then
   (rd v_9 v_8).bind fun aeQ =>
   (node_Copy_r aeQ).bind fun aqC =>
   (wr v_9 v_8 aqC).bind fun ahU =>
   xG jF node_Copy_r k (w64 (v_8 + (1 : Int))) ahU
  else
   some v_9
noncomputable def xB : Nat → za → Option za
 | 0, _ => none
 | kr + 1, n_1 =>
  (slices_Clone_string n_1.Marks).bind fun acZ =>
  (ko n_1.zh).bind fun attr_3 =>
  (qy n_1.Kids).bind fun jF =>
  (lim fun k => xG jF (xB kr) k (0 : Int) jF).bind fun Yc =>
  some ({ Kind := n_1.Kind, Text := n_1.Text, Marks := acZ, zh := attr_3, Kids := Yc } : za)
noncomputable def XB (n_1 : za) : Option za := lim fun kr => xB kr n_1
noncomputable def y8 (a_1 : za) (b_2 : za) : Option ((List zo) × Int) :=
 (yZ a_1).bind fun XZ =>
 if (!XZ) = true then
  some ([], (1 : Int))
 else
  (yZ b_2).bind fun XF =>
  if (!XF) = true then
   some ([], (1 : Int))
  else
   (WT a_1 b_2).bind fun amv =>
   if (!amv) = true then
    some ([], (1 : Int))
   else
    (aeg a_1 b_2).bind fun Yi =>
    if ((w64 (Yi.m + Yi.n)) == (0 : Int)) = true then
     some (Yi.attrs, (0 : Int))
    else
     (sl Yi.a.Kids (0 : Int) Yi.head).bind fun s_7 =>
     (jv s_7).bind fun amG =>
     (sl Yi.a.Kids Yi.head (w64 (Yi.head + Yi.m))).bind fun s_9 =>
     (jv s_9).bind fun am0 =>
     (sl Yi.b.Kids Yi.head (w64 (Yi.head + Yi.n))).bind fun axY =>
     (XB ({ Kind := ([] : Str), Text := ([] : Str), Marks := [], zh := [], Kids := axY } : za)).bind fun aqD =>
     (app 80 Yi.attrs [({ Kind := (114 : Int), From := w64 (Yi.at_ + amG), To := w64 ((w64 (Yi.at_ + amG)) + am0), kF := aqD.Kids, Name := ([] : Str), Value := ([] : Str) } : zo)]).bind fun an1 =>
     some (an1, (0 : Int))
noncomputable def jX : Option Bool :=
 (y8 ({ Kind := ([100, 111, 99] : Str), Text := ([] : Str), Marks := [], zh := [], Kids := [({ Kind := ([112] : Str), Text := ([] : Str), Marks := [], zh := [], Kids := [({ Kind := ([116, 101, 120, 116] : Str), Text := ([104, 105] : Str), Marks := [], zh := [], Kids := [] } : za)] } : za), ({ Kind := ([113] : Str), Text := ([] : Str), Marks := [], zh := [], Kids := [] } : za)] } : za) ({ Kind := ([100, 111, 99] : Str), Text := ([] : Str), Marks := [], zh := [], Kids := [({ Kind := ([112] : Str), Text := ([] : Str), Marks := [], zh := [], Kids := [({ Kind := ([116, 101, 120, 116] : Str), Text := ([104, 111] : Str), Marks := [], zh := [], Kids := [] } : za)] } : za), ({ Kind := ([113] : Str), Text := ([] : Str), Marks := [], zh := [], Kids := [] } : za)] } : za)).bind fun (r_1, r_2) =>
 if (r_2 == (0 : Int)) = true then
  if ((r_1.length : Int) == (1 : Int)) = true then
   (rd r_1 (0 : Int)).bind fun x_3 =>
   if (x_3.Kind == (114 : Int)) = true then
    if (x_3.From == (1 : Int)) = true then
     if (x_3.To == (3 : Int)) = true then
      if ((x_3.kF.length : Int) == (1 : Int)) = true then
       (rd x_3.kF (0 : Int)).bind fun x_4 =>
       some (x_4.Text == ([104, 111] : Str))
      else
       some false
     else
      some false
    else
     some false
   else
    some false
  else
   some false
 else
  some false
noncomputable def qN (c_1 : Int) (n_2 : Int) : Option Int :=
 if (decide (c_1 < (0 : Int))) = true then
  chk (n_2 ≠ 0) (
   some ((w64 (0 - (w64 (c_1 + (1 : Int))))).tmod n_2))
 else
  chk (n_2 ≠ 0) (
   some (c_1.tmod n_2))
noncomputable def qL (b_2 : (List Str)) : List Str → Int → Option (Bool ⊕ Unit)
 | [], i_5 =>
  some (.inr ())
 | y_8 :: suf, i_5 =>
  (rd b_2 i_5).bind fun x_9 =>
  if (!(y_8 == x_9)) = true then
   some (.inl false)
  else
   qL b_2 suf (i_5 + 1)
noncomputable def vM (a_1 : (List Str)) (b_2 : (List Str)) : Option Bool :=
 if ((a_1.length : Int) != (b_2.length : Int)) = true then
  some false
 else
  (chk (a_1.length ≤ 9223372036854775807) (qL b_2 a_1 (0 : Int))).bind fun e => match e with
  | .inl kG =>
   some kG
  | .inr _ =>
   some true
noncomputable def qb : List za → Int → (List za) → Option (List za)
 | [], JI, jw =>
  some jw
 | ZQ :: suf, JI, jw =>
  ((
    if (ZQ.Kind == ([116, 101, 120, 116] : Str)) = true then
     if (ZQ.Text == ([] : Str)) = true then
      some (.inl ())
     else
      some (.inr ())
    else
     some (.inr ())) : Option (Unit ⊕ Unit)).bind fun e => match e with
  | .inl _ =>
   qb suf (JI + 1) jw
  | .inr _ =>
   if (ZQ.Kind == ([116, 101, 120, 116] : Str)) = true then
    if (decide ((w64 ((jw.length : Int) - (1 : Int))) ≥ (0 : Int))) = true then
     (rd jw (w64 ((jw.length : Int) - (1 : Int)))).bind fun asC =>
     if (asC.Kind == ([116, 101, 120, 116] : Str)) = true then
      (vM asC.Marks ZQ.Marks).bind fun afn =>
      if (afn) = true then
       chk (asC.Text.length + ZQ.Text.length ≤ 9223372036854775807) (
        (sl jw (0 : Int) (w64 ((jw.length : Int) - (1 : Int)))).bind fun ayX =>
        (app 104 ([] : List za) ayX).bind fun ayl =>
        (app 104 ayl [{ ZQ with Text := asC.Text ++ ZQ.Text }]).bind fun avr =>
        qb suf (JI + 1) avr)
      else
       (app 104 jw [ZQ]).bind fun atB =>
       qb suf (JI + 1) atB
     else
      (app 104 jw [ZQ]).bind fun auk =>
      qb suf (JI + 1) auk
    else
     (app 104 jw [ZQ]).bind fun au3 =>
     qb suf (JI + 1) au3
   else
    (app 104 jw [ZQ]).bind fun ayI =>
    qb suf (JI + 1) ayI
noncomputable def xZ (l_1 : (List za)) : Option (List za) :=
 (chk (l_1.length ≤ 9223372036854775807) (qb l_1 (0 : Int) ([] : List za))).bind fun afG =>
 some afG
noncomputable def jh (x_1 : zx) (ag5 : (List za)) : Option za :=
 (qN x_1.zh (2 : Int)).bind fun aue =>
 (rd [([108, 101, 102, 116] : Str), ([114, 105, 103, 104, 116] : Str)] aue).bind fun x_4 =>
 (qN (w64 (x_1.zh.tdiv (2 : Int))) (4 : Int)).bind fun auu =>
 (rd [([] : Str), ([195, 169] : Str), ([34, 113, 92] : Str), ([110, 111, 116, 101] : Str)] auu).bind fun x_6 =>
 (xZ ag5).bind fun ajb =>
 some ({ Kind := ([112, 97, 114, 97] : Str), Text := ([] : Str), Marks := [], zh := [({ Name := ([97, 108, 105, 103, 110] : Str), Value := x_4 } : ze), ({ Name := ([110, 111, 116, 101] : Str), Value := x_6 } : ze)], Kids := ajb } : za)
noncomputable def wm (diptychref1_Depth_r : za → Option Int) : List za → Int → Int → Option Int
 | [], i_5, d_4 =>
  some d_4
 | y_8 :: suf, i_5, d_4 =>
  (diptychref1_Depth_r y_8).bind fun alF =>
  wm diptychref1_Depth_r suf (i_5 + 1) (if alF > d_4 then alF else d_4)
noncomputable def qX : Nat → za → Option Int
 | 0, _ => none
 | kr + 1, n_1 =>
  if (n_1.Kind == ([116, 101, 120, 116] : Str)) = true then
   some (0 : Int)
  else
   (chk (n_1.Kids.length ≤ 9223372036854775807) (wm (qX kr) n_1.Kids (0 : Int) (0 : Int))).bind fun atT =>
   some (w64 (atT + (1 : Int)))
noncomputable def jk (n_1 : za) : Option Int := lim fun kr => qX kr n_1
noncomputable def zF : List zx → Int → (List za) → (List za) → Option (List za)
 | [], W9, yC, Zz =>
  some Zz
 | afo :: suf, W9, yC, Zz =>
  if (decide (W9 < (40 : Int))) = true then
   (qN afo.Text (5 : Int)).bind fun aq4 =>
   (rd [([97] : Str), ([98, 99] : Str), ([195, 169] : Str), ([120, 32, 121] : Str), ([230, 151, 165, 230, 156, 172] : Str)] aq4).bind fun avT =>
   ((
     (qN afo.Marks (4 : Int)).bind fun adL =>
     if ((ajO adL (1 : Int)) == (1 : Int)) = true then
      (app 16 ([] : List Str) [([98] : Str)]).bind fun aoS =>
      some aoS
     else
      some ([] : List Str)) : Option (List Str)).bind fun aoT =>
   ((
     (qN afo.Marks (4 : Int)).bind fun aeB =>
     if ((ajO aeB (2 : Int)) == (2 : Int)) = true then
      (app 16 aoT [([105] : Str)]).bind fun avA =>
      some avA
     else
      some aoT) : Option (List Str)).bind fun asO =>
   (app 104 yC [({ Kind := ([116, 101, 120, 116] : Str), Text := avT, Marks := asO, zh := [], Kids := [] } : za)]).bind fun aay =>
   (qN afo.In (5 : Int)).bind fun X3 =>
   if (X3 == (0 : Int)) = true then
    zF suf (W9 + 1) aay Zz
   else
    (jh afo aay).bind fun xP =>
    if (decide (X3 < (3 : Int))) = true then
     (app 104 Zz [xP]).bind fun avy =>
     zF suf (W9 + 1) ([] : List za) avy
    else
     ((
       if (decide ((w64 ((Zz.length : Int) - (1 : Int))) ≥ (0 : Int))) = true then
        (rd Zz (w64 ((Zz.length : Int) - (1 : Int)))).bind fun ama =>
        if (ama.Kind == ([108, 105, 115, 116] : Str)) = true then
         if (X3 == (3 : Int)) = true then
          (app 104 ([] : List za) ama.Kids).bind fun ao2 =>
          (app 104 ao2 [({ Kind := ([105, 116, 101, 109] : Str), Text := ([] : Str), Marks := [], zh := [], Kids := [xP] } : za)]).bind fun avR =>
          (sl Zz (0 : Int) (w64 ((Zz.length : Int) - (1 : Int)))).bind fun av1 =>
          (app 104 ([] : List za) av1).bind fun awc =>
          (app 104 awc [{ ama with Kids := avR }]).bind fun avE =>
          some (.inl avE)
         else
          some (.inr ())
        else
         some (.inr ())
       else
        some (.inr ())) : Option ((List za) ⊕ Unit)).bind fun e => match e with
     | .inl aow =>
      zF suf (W9 + 1) ([] : List za) aow
     | .inr _ =>
      if (decide ((w64 ((Zz.length : Int) - (1 : Int))) ≥ (0 : Int))) = true then
       (rd Zz (w64 ((Zz.length : Int) - (1 : Int)))).bind fun alZ =>
       if (alZ.Kind == ([108, 105, 115, 116] : Str)) = true then
        (jk alZ).bind fun aaM =>
        if (decide (aaM < (30 : Int))) = true then
         (app 104 [xP] [alZ]).bind fun avD =>
         (sl Zz (0 : Int) (w64 ((Zz.length : Int) - (1 : Int)))).bind fun avI =>
         (app 104 ([] : List za) avI).bind fun awk =>
         (app 104 awk [({ Kind := ([108, 105, 115, 116] : Str), Text := ([] : Str), Marks := [], zh := [], Kids := [({ Kind := ([105, 116, 101, 109] : Str), Text := ([] : Str), Marks := [], zh := [], Kids := avD } : za)] } : za)]).bind fun avv =>
         zF suf (W9 + 1) ([] : List za) avv
        else
         (app 104 Zz [({ Kind := ([108, 105, 115, 116] : Str), Text := ([] : Str), Marks := [], zh := [], Kids := [({ Kind := ([105, 116, 101, 109] : Str), Text := ([] : Str), Marks := [], zh := [], Kids := [xP] } : za)] } : za)]).bind fun awo =>
         zF suf (W9 + 1) ([] : List za) awo
       else
        (app 104 Zz [({ Kind := ([108, 105, 115, 116] : Str), Text := ([] : Str), Marks := [], zh := [], Kids := [({ Kind := ([105, 116, 101, 109] : Str), Text := ([] : Str), Marks := [], zh := [], Kids := [xP] } : za)] } : za)]).bind fun avw =>
        zF suf (W9 + 1) ([] : List za) avw
      else
       (app 104 Zz [({ Kind := ([108, 105, 115, 116] : Str), Text := ([] : Str), Marks := [], zh := [], Kids := [({ Kind := ([105, 116, 101, 109] : Str), Text := ([] : Str), Marks := [], zh := [], Kids := [xP] } : za)] } : za)]).bind fun av3 =>
       zF suf (W9 + 1) ([] : List za) av3
  else
   some Zz
noncomputable def wV (l_1 : (List zx)) : Option za :=
 (chk (l_1.length ≤ 9223372036854775807) (zF l_1 (0 : Int) ([] : List za) ([] : List za))).bind fun asG =>
 some ({ Kind := ([100, 111, 99] : Str), Text := ([] : Str), Marks := [], zh := [], Kids := asG } : za)
noncomputable def slices_Clone_int (l : (List Int)) : Option (List Int) :=
 app 8 [] l
noncomputable def qR : List Int → Int → za → Option ((za × Int) ⊕ za)
 | [], v_6, n_5 =>
  some (.inr n_5)
 | y_9 :: suf, v_6, n_5 =>
  if (decide (y_9 < (0 : Int))) = true then
   some (.inl (({ Kind := ([] : Str), Text := ([] : Str), Marks := [], zh := [], Kids := [] } : za), (9 : Int)))
  else
   if (decide (y_9 ≥ (n_5.Kids.length : Int))) = true then
    some (.inl (({ Kind := ([] : Str), Text := ([] : Str), Marks := [], zh := [], Kids := [] } : za), (9 : Int)))
   else
    if (n_5.Kind == ([116, 101, 120, 116] : Str)) = true then
     some (.inl (({ Kind := ([] : Str), Text := ([] : Str), Marks := [], zh := [], Kids := [] } : za), (9 : Int)))
    else
     (rd n_5.Kids y_9).bind fun aeQ =>
     qR suf (v_6 + 1) aeQ
noncomputable def vE (n_1 : za) (wE : (List Int)) : Option (za × Int) :=
 (chk (wE.length ≤ 9223372036854775807) (qR wE (0 : Int) n_1)).bind fun e => match e with
 | .inl JP =>
  some JP
 | .inr YK =>
  if (YK.Kind == ([116, 101, 120, 116] : Str)) = true then
   some (({ Kind := ([] : Str), Text := ([] : Str), Marks := [], zh := [], Kids := [] } : za), (9 : Int))
  else
   some (YK, (0 : Int))
noncomputable def qh (YD : (List Int)) : List za → Int → Int → Option ((wG × Int) ⊕ ((Int × za × (List Int)) ⊕ Unit))
 | [], acw, Kg =>
  some (.inr (.inr ()))
 | asN :: suf, acw, Kg =>
  (Zg asN).bind fun ag7 =>
  if (decide (Kg ≥ ag7)) = true then
   qh YD suf (acw + 1) (w64 (Kg - ag7))
  else
   if (asN.Kind == ([116, 101, 120, 116] : Str)) = true then
    some (.inl (({ Path := YD, Index := acw, Offset := Kg } : wG), (0 : Int)))
   else
    if (Kg == (0 : Int)) = true then
     some (.inl (({ Path := YD, Index := acw, Offset := (0 : Int) } : wG), (0 : Int)))
    else
     (app 8 YD [acw]).bind fun au3 =>
     some (.inr (.inl (w64 (Kg - (1 : Int)), asN, au3)))
noncomputable def kL : Nat → Int → za → (List Int) → Option (wG × Int)
 | 0, _, _, _ => none
 | k + 1, afk, Wu, YD =>
  (chk (Wu.Kids.length ≤ 9223372036854775807) (qh YD Wu.Kids (0 : Int) afk)).bind fun e => match e with
  | .inl Y9 =>
   some Y9
  | .inr (.inl (aiS, amk, aar)) =>
   kL k aiS amk aar
  | .inr (.inr _) =>
   some (({ Path := YD, Index := (Wu.Kids.length : Int), Offset := (0 : Int) } : wG), (0 : Int))
noncomputable def kK (n_1 : za) (Ja : Int) : Option (wG × Int) :=
 if (n_1.Kind == ([116, 101, 120, 116] : Str)) = true then
  some (({ Path := [], Index := (0 : Int), Offset := (0 : Int) } : wG), (3 : Int))
 else
  if (decide (Ja < (0 : Int))) = true then
   some (({ Path := [], Index := (0 : Int), Offset := (0 : Int) } : wG), (3 : Int))
  else
   (jv n_1.Kids).bind fun Wq =>
   if (decide (Ja > Wq)) = true then
    some (({ Path := [], Index := (0 : Int), Offset := (0 : Int) } : wG), (3 : Int))
   else
    (lim fun k => kL k Ja n_1 ([] : List Int)).bind fun aau =>
    some aau
noncomputable def ym (n_1 : za) (Ja : Int) : Option ((List Int) × Bool) :=
 if (Ja == (-1 : Int)) = true then
  some ([], true)
 else
  (kK n_1 Ja).bind fun (r_3, r_4) =>
  if (r_4 != (0 : Int)) = true then
   some ([], false)
  else
   if (decide (r_3.Offset > (0 : Int))) = true then
    some ([], false)
   else
    (slices_Clone_int r_3.Path).bind fun awW =>
    (app 8 awW [r_3.Index]).bind fun l_6 =>
    (vE n_1 l_6).bind fun (r_7, r_8) =>
    some (l_6, r_8 == (0 : Int))
noncomputable def Vp (a_1 : ze) (wz : zo) : Option Bool :=
 some (a_1.Name == wz.Name)
noncomputable def zX (wz : zo) : List ze → Int → Option ((Int × zo) ⊕ Unit)
 | [], v_5 =>
  some (.inr ())
 | y_8 :: suf, v_5 =>
  (Vp y_8 wz).bind fun axr =>
  if (axr) = true then
   some (.inl (v_5, wz))
  else
   zX wz suf (v_5 + 1)
noncomputable def qJ (s_1 : (List ze)) (wz : zo) : Option (Int × zo) :=
 (chk (s_1.length ≤ 9223372036854775807) (zX wz s_1 (0 : Int))).bind fun e => match e with
 | .inl kG =>
  some kG
 | .inr _ =>
  some ((-1 : Int), wz)
noncomputable def xH : Nat → za → (List Int) → za → Option (za × Int)
 | 0, _, _, _ => none
 | kr + 1, n_1, wE, m_3 =>
  (vE n_1 wE).bind fun (r_4, r_5) =>
  if (r_5 != (0 : Int)) = true then
   some (({ Kind := ([] : Str), Text := ([] : Str), Marks := [], zh := [], Kids := [] } : za), r_5)
  else
   if ((wE.length : Int) == (0 : Int)) = true then
    some (m_3, (0 : Int))
   else
    (qy n_1.Kids).bind fun apk =>
    (rd wE (0 : Int)).bind fun x_7 =>
    (rd apk x_7).bind fun x_8 =>
    (sl wE (1 : Int) (wE.length : Int)).bind fun s_9 =>
    ((xH kr) x_8 s_9 m_3).bind fun (VZ, YH) =>
    (wr apk x_7 VZ).bind fun ahU =>
    some ({ n_1 with Kids := ahU }, (0 : Int))
noncomputable def Ke (n_1 : za) (wE : (List Int)) (m_3 : za) : Option (za × Int) := lim fun kr => xH kr n_1 wE m_3
noncomputable def jS (n_1 : za) (s_2 : zo) : Option (za × Str × Int) :=
 (ym n_1 s_2.From).bind fun (r_3, r_4) =>
 if (!r_4) = true then
  some (({ Kind := ([] : Str), Text := ([] : Str), Marks := [], zh := [], Kids := [] } : za), ([] : Str), (3 : Int))
 else
  (vE n_1 r_3).bind fun (r_5, r_6) =>
  (qJ r_5.zh s_2).bind fun (r_7, atu) =>
  if (decide (r_7 < (0 : Int))) = true then
   some (({ Kind := ([] : Str), Text := ([] : Str), Marks := [], zh := [], Kids := [] } : za), ([] : Str), (9 : Int))
  else
   (rd r_5.zh r_7).bind fun x_9 =>
   (ko r_5.zh).bind fun ald =>
   (rd ald r_7).bind fun aey =>
   (wr ald r_7 ({ aey with Value := atu.Value })).bind fun ahU =>
   (Ke n_1 r_3 ({ r_5 with zh := ahU })).bind fun (YM, ale) =>
   some (YM, x_9.Value, ale)
noncomputable def QQ (s : zo) (marks : (List Str)) : Option ((List Str) × Bool) :=
 chk (marks.length ≤ 1099511627776) (some (QM s.Kind s.Name marks))
noncomputable def jC (JK : Int) (arH : Int) (vT : Int) (zD : Int) (xc : Int) (kQ : (List za)) (vZ : Str) (kR : Str) (l_9 : (List zt)) : Option (Int × Int × Int × (List za) × Str × Str × (List zt)) :=
 if (decide ((w64 ((l_9.length : Int) - (1 : Int))) ≥ (0 : Int))) = true then
  (rd l_9 (w64 ((l_9.length : Int) - (1 : Int)))).bind fun aeQ =>
  if ((w64 (aeQ.Pos + aeQ.Old)) == JK) = true then
   (wr l_9 (w64 ((l_9.length : Int) - (1 : Int))) ({ aeQ with Old := w64 (aeQ.Old + (w64 (arH - JK))) })).bind fun ato =>
   some (vT, zD, xc, kQ, vZ, kR, ato)
  else
   (app 24 l_9 [({ Pos := JK, Old := w64 (arH - JK), New := (0 : Int) } : zt)]).bind fun ahU =>
   some (vT, zD, xc, kQ, vZ, kR, ahU)
 else
  (app 24 l_9 [({ Pos := JK, Old := w64 (arH - JK), New := (0 : Int) } : zt)]).bind fun an1 =>
  some (vT, zD, xc, kQ, vZ, kR, an1)
noncomputable def w9 (a_1 : Int) (b_2 : Int) (agZ : (List Str)) (jF : za) (v_5 : (List Int)) : Option za :=
 (sl v_5 a_1 b_2).bind fun s_6 =>
 some ({ Kind := jF.Kind, Text := zJ s_6, Marks := agZ, zh := [], Kids := [] } : za)
noncomputable def jB (n_1 : za) (zQ : Int) (vT : Int) (zD : Int) (xc : Int) (kQ : (List za)) (vZ : Str) (kR : Str) (l_9 : (List zt)) : Option ((List za) × Int × Int × Int × (List za) × Str × Str × (List zt)) :=
 (QQ ({ Kind := vT, From := zD, To := xc, kF := kQ, Name := vZ, Value := kR } : zo) n_1.Marks).bind fun (VZ, YH) =>
 if (!YH) = true then
  some ([n_1], vT, zD, xc, kQ, vZ, kR, l_9)
 else
  if ((if ((runes n_1.Text).length : Int) < (if (0 : Int) > (w64 (zD - zQ)) then (0 : Int) else w64 (zD - zQ)) then ((runes n_1.Text).length : Int) else (if (0 : Int) > (w64 (zD - zQ)) then (0 : Int) else w64 (zD - zQ))) == (if ((runes n_1.Text).length : Int) < (if (if ((runes n_1.Text).length : Int) < (if (0 : Int) > (w64 (zD - zQ)) then (0 : Int) else w64 (zD - zQ)) then ((runes n_1.Text).length : Int) else (if (0 : Int) > (w64 (zD - zQ)) then (0 : Int) else w64 (zD - zQ))) > (w64 (xc - zQ)) then (if ((runes n_1.Text).length : Int) < (if (0 : Int) > (w64 (zD - zQ)) then (0 : Int) else w64 (zD - zQ)) then ((runes n_1.Text).length : Int) else (if (0 : Int) > (w64 (zD - zQ)) then (0 : Int) else w64 (zD - zQ))) else w64 (xc - zQ)) then ((runes n_1.Text).length : Int) else (if (if ((runes n_1.Text).length : Int) < (if (0 : Int) > (w64 (zD - zQ)) then (0 : Int) else w64 (zD - zQ)) then ((runes n_1.Text).length : Int) else (if (0 : Int) > (w64 (zD - zQ)) then (0 : Int) else w64 (zD - zQ))) > (w64 (xc - zQ)) then (if ((runes n_1.Text).length : Int) < (if (0 : Int) > (w64 (zD - zQ)) then (0 : Int) else w64 (zD - zQ)) then ((runes n_1.Text).length : Int) else (if (0 : Int) > (w64 (zD - zQ)) then (0 : Int) else w64 (zD - zQ))) else w64 (xc - zQ)))) = true then
   some ([n_1], vT, zD, xc, kQ, vZ, kR, l_9)
  else
   (jC (w64 (zQ + (if ((runes n_1.Text).length : Int) < (if (0 : Int) > (w64 (zD - zQ)) then (0 : Int) else w64 (zD - zQ)) then ((runes n_1.Text).length : Int) else (if (0 : Int) > (w64 (zD - zQ)) then (0 : Int) else w64 (zD - zQ))))) (w64 (zQ + (if ((runes n_1.Text).length : Int) < (if (if ((runes n_1.Text).length : Int) < (if (0 : Int) > (w64 (zD - zQ)) then (0 : Int) else w64 (zD - zQ)) then ((runes n_1.Text).length : Int) else (if (0 : Int) > (w64 (zD - zQ)) then (0 : Int) else w64 (zD - zQ))) > (w64 (xc - zQ)) then (if ((runes n_1.Text).length : Int) < (if (0 : Int) > (w64 (zD - zQ)) then (0 : Int) else w64 (zD - zQ)) then ((runes n_1.Text).length : Int) else (if (0 : Int) > (w64 (zD - zQ)) then (0 : Int) else w64 (zD - zQ))) else w64 (xc - zQ)) then ((runes n_1.Text).length : Int) else (if (if ((runes n_1.Text).length : Int) < (if (0 : Int) > (w64 (zD - zQ)) then (0 : Int) else w64 (zD - zQ)) then ((runes n_1.Text).length : Int) else (if (0 : Int) > (w64 (zD - zQ)) then (0 : Int) else w64 (zD - zQ))) > (w64 (xc - zQ)) then (if ((runes n_1.Text).length : Int) < (if (0 : Int) > (w64 (zD - zQ)) then (0 : Int) else w64 (zD - zQ)) then ((runes n_1.Text).length : Int) else (if (0 : Int) > (w64 (zD - zQ)) then (0 : Int) else w64 (zD - zQ))) else w64 (xc - zQ))))) vT zD xc kQ vZ kR l_9).bind fun (aqE, ara, awN, am1, arb, aoA, auw) =>
   (w9 (0 : Int) (if ((runes n_1.Text).length : Int) < (if (0 : Int) > (w64 (zD - zQ)) then (0 : Int) else w64 (zD - zQ)) then ((runes n_1.Text).length : Int) else (if (0 : Int) > (w64 (zD - zQ)) then (0 : Int) else w64 (zD - zQ))) n_1.Marks n_1 (runes n_1.Text)).bind fun awV =>
   (w9 (if ((runes n_1.Text).length : Int) < (if (0 : Int) > (w64 (zD - zQ)) then (0 : Int) else w64 (zD - zQ)) then ((runes n_1.Text).length : Int) else (if (0 : Int) > (w64 (zD - zQ)) then (0 : Int) else w64 (zD - zQ))) (if ((runes n_1.Text).length : Int) < (if (if ((runes n_1.Text).length : Int) < (if (0 : Int) > (w64 (zD - zQ)) then (0 : Int) else w64 (zD - zQ)) then ((runes n_1.Text).length : Int) else (if (0 : Int) > (w64 (zD - zQ)) then (0 : Int) else w64 (zD - zQ))) > (w64 (xc - zQ)) then (if ((runes n_1.Text).length : Int) < (if (0 : Int) > (w64 (zD - zQ)) then (0 : Int) else w64 (zD - zQ)) then ((runes n_1.Text).length : Int) else (if (0 : Int) > (w64 (zD - zQ)) then (0 : Int) else w64 (zD - zQ))) else w64 (xc - zQ)) then ((runes n_1.Text).length : Int) else (if (if ((runes n_1.Text).length : Int) < (if (0 : Int) > (w64 (zD - zQ)) then (0 : Int) else w64 (zD - zQ)) then ((runes n_1.Text).length : Int) else (if (0 : Int) > (w64 (zD - zQ)) then (0 : Int) else w64 (zD - zQ))) > (w64 (xc - zQ)) then (if ((runes n_1.Text).length : Int) < (if (0 : Int) > (w64 (zD - zQ)) then (0 : Int) else w64 (zD - zQ)) then ((runes n_1.Text).length : Int) else (if (0 : Int) > (w64 (zD - zQ)) then (0 : Int) else w64 (zD - zQ))) else w64 (xc - zQ))) VZ n_1 (runes n_1.Text)).bind fun awK =>
   (w9 (if ((runes n_1.Text).length : Int) < (if (if ((runes n_1.Text).length : Int) < (if (0 : Int) > (w64 (zD - zQ)) then (0 : Int) else w64 (zD - zQ)) then ((runes n_1.Text).length : Int) else (if (0 : Int) > (w64 (zD - zQ)) then (0 : Int) else w64 (zD - zQ))) > (w64 (xc - zQ)) then (if ((runes n_1.Text).length : Int) < (if (0 : Int) > (w64 (zD - zQ)) then (0 : Int) else w64 (zD - zQ)) then ((runes n_1.Text).length : Int) else (if (0 : Int) > (w64 (zD - zQ)) then (0 : Int) else w64 (zD - zQ))) else w64 (xc - zQ)) then ((runes n_1.Text).length : Int) else (if (if ((runes n_1.Text).length : Int) < (if (0 : Int) > (w64 (zD - zQ)) then (0 : Int) else w64 (zD - zQ)) then ((runes n_1.Text).length : Int) else (if (0 : Int) > (w64 (zD - zQ)) then (0 : Int) else w64 (zD - zQ))) > (w64 (xc - zQ)) then (if ((runes n_1.Text).length : Int) < (if (0 : Int) > (w64 (zD - zQ)) then (0 : Int) else w64 (zD - zQ)) then ((runes n_1.Text).length : Int) else (if (0 : Int) > (w64 (zD - zQ)) then (0 : Int) else w64 (zD - zQ))) else w64 (xc - zQ))) ((runes n_1.Text).length : Int) n_1.Marks n_1 (runes n_1.Text)).bind fun awR =>
   some ([awV, awK, awR], aqE, ara, awN, am1, arb, aoA, auw)
noncomputable def ky : List za → Int → (List za) → Option (List za)
 | [], Zy, jr =>
  some jr
 | VI :: suf, Zy, jr =>
  (jO VI).bind fun afJ =>
  if (afJ) = true then
   if (VI.Text == ([] : Str)) = true then
    ky suf (Zy + 1) jr
   else
    if (decide ((w64 ((jr.length : Int) - (1 : Int))) ≥ (0 : Int))) = true then
     (rd jr (w64 ((jr.length : Int) - (1 : Int)))).bind fun awv =>
     (Qd awv VI).bind fun aiB =>
     if (aiB) = true then
      chk (awv.Text.length + VI.Text.length ≤ 9223372036854775807) (
       (wr jr (w64 ((jr.length : Int) - (1 : Int))) ({ VI with Text := awv.Text ++ VI.Text })).bind fun avr =>
       ky suf (Zy + 1) avr)
     else
      (app 104 jr [VI]).bind fun atB =>
      ky suf (Zy + 1) atB
    else
     (app 104 jr [VI]).bind fun auk =>
     ky suf (Zy + 1) auk
  else
   if (decide ((w64 ((jr.length : Int) - (1 : Int))) ≥ (0 : Int))) = true then
    (rd jr (w64 ((jr.length : Int) - (1 : Int)))).bind fun av5 =>
    (Qd av5 VI).bind fun aiC =>
    if (aiC) = true then
     chk (av5.Text.length + VI.Text.length ≤ 9223372036854775807) (
      (wr jr (w64 ((jr.length : Int) - (1 : Int))) ({ VI with Text := av5.Text ++ VI.Text })).bind fun ayG =>
      ky suf (Zy + 1) ayG)
    else
     (app 104 jr [VI]).bind fun ayB =>
     ky suf (Zy + 1) ayB
   else
    (app 104 jr [VI]).bind fun ayC =>
    ky suf (Zy + 1) ayC
noncomputable def WZ (l_1 : (List za)) : Option (List za) :=
 (chk (l_1.length ≤ 9223372036854775807) (ky l_1 (0 : Int) ([] : List za))).bind fun afF =>
 some afF
noncomputable def qj (step_painter_kids_x_r : (List za) → Int → Int → Int → Int → (List za) → Str → Str → (List zt) → Option ((List za) × Int × Int × Int × (List za) × Str × Str × (List zt))) : List za → Int → Int → (List za) → Int → Int → Int → (List za) → Str → Str → (List zt) → Option ((List za) × Int × Int × Int × (List za) × Str × Str × (List zt))
 | [], ahB, abO, J7, amN, amA, amc, aml, alo, amL, aar =>
  some (J7, amN, amA, amc, aml, alo, amL, aar)
 | amm :: suf, ahB, abO, J7, amN, amA, amc, aml, alo, amL, aar =>
  (Zg amm).bind fun amJ =>
  if (amm.Kind == ([116, 101, 120, 116] : Str)) = true then
   (jB amm abO amN amA amc aml alo amL aar).bind fun (ayW, aqQ, aqU, awJ, an7, aqX, an8, aoS) =>
   (app 104 J7 ayW).bind fun ayE =>
   qj step_painter_kids_x_r suf (ahB + 1) (w64 (abO + amJ)) ayE aqQ aqU awJ an7 aqX an8 aoS
  else
   (step_painter_kids_x_r amm.Kids (w64 (abO + (1 : Int))) amN amA amc aml alo amL aar).bind fun (ayA, ap7, aqM, awY, anh, aq6, anU, ayD) =>
   (app 104 J7 [{ amm with Kids := ayA }]).bind fun ao2 =>
   qj step_painter_kids_x_r suf (ahB + 1) (w64 (abO + amJ)) ao2 ap7 aqM awY anh aq6 anU ayD
noncomputable def qW : Nat → (List za) → Int → Int → Int → Int → (List za) → Str → Str → (List zt) → Option ((List za) × Int × Int × Int × (List za) × Str × Str × (List zt))
 | 0, _, _, _, _, _, _, _, _, _ => none
 | kr + 1, l_1, zQ, vT, zD, xc, kQ, vZ, kR, l_9 =>
  (chk (l_1.length ≤ 9223372036854775807) (qj (qW kr) l_1 (0 : Int) zQ ([] : List za) vT zD xc kQ vZ kR l_9)).bind fun (aeZ, auc, auf, atO, atg, aul, auv, arD) =>
  (WZ aeZ).bind fun aqc =>
  some (aqc, auc, auf, atO, atg, aul, auv, arD)
noncomputable def jy (l_1 : (List za)) (zQ : Int) (vT : Int) (zD : Int) (xc : Int) (kQ : (List za)) (vZ : Str) (kR : Str) (l_9 : (List zt)) : Option ((List za) × Int × Int × Int × (List za) × Str × Str × (List zt)) := lim fun kr => qW kr l_1 zQ vT zD xc kQ vZ kR l_9
noncomputable def Zb (n_1 : za) (s_2 : zo) : Option (za × (List zt) × Int) :=
 (jv n_1.Kids).bind fun Wq =>
 if (decide (s_2.To > Wq)) = true then
  some (({ Kind := ([] : Str), Text := ([] : Str), Marks := [], zh := [], Kids := [] } : za), [], (3 : Int))
 else
  (jy n_1.Kids (0 : Int) s_2.Kind s_2.From s_2.To s_2.kF s_2.Name s_2.Value ([] : List zt)).bind fun (r_4, aw7, axb, azg, awE, aw0, atz, ato) =>
  some ({ n_1 with Kids := r_4 }, ato, (0 : Int))
noncomputable def yx (s_1 : zo) : Option Bool :=
 ((
   if (decide (s_1.From ≥ (0 : Int))) = true then
    if (decide (s_1.From ≤ s_1.To)) = true then
     some (decide (s_1.To ≤ (1048576 : Int)))
    else
     some false
   else
    some false) : Option Bool).bind fun JU =>
 if (s_1.Kind == (114 : Int)) = true then
  (yX ({ Kind := ([120] : Str), Text := ([] : Str), Marks := [], zh := [], Kids := s_1.kF } : za)).bind fun alB =>
  if (JU) = true then
   if (alB != (2 : Int)) = true then
    chk (s_1.Name.length + s_1.Value.length ≤ 9223372036854775807) (
     some ((s_1.Name ++ s_1.Value) == ([] : Str)))
   else
    some false
  else
   some false
 else
  if (s_1.Kind == (97 : Int)) = true then
   if (decide (s_1.From ≥ (-1 : Int))) = true then
    if (decide (s_1.From ≤ (1048576 : Int))) = true then
     if (s_1.To == (0 : Int)) = true then
      (Zh s_1.Name).bind fun apq =>
      if (apq) = true then
       (Ki s_1.Value).bind fun amH =>
       if (amH) = true then
        some ((s_1.kF.length : Int) == (0 : Int))
       else
        some false
      else
       some false
     else
      some false
    else
     some false
   else
    some false
  else
   if (s_1.Kind == (109 : Int)) = true then
    if (JU) = true then
     (Zh s_1.Name).bind fun ao7 =>
     if (ao7) = true then
      if ((s_1.kF.length : Int) == (0 : Int)) = true then
       some (s_1.Value == ([] : Str))
      else
       some false
     else
      some false
    else
     some false
   else
    if (s_1.Kind == (117 : Int)) = true then
     if (JU) = true then
      (Zh s_1.Name).bind fun apm =>
      if (apm) = true then
       if ((s_1.kF.length : Int) == (0 : Int)) = true then
        some (s_1.Value == ([] : Str))
       else
        some false
      else
       some false
     else
      some false
    else
     some false
noncomputable def wP (v_1 : Int) (V4 : qU) : Option (Int × qU) :=
 if (v_1 != (0 : Int)) = true then
  some (v_1, ({ path := [], in_ := ({ Kind := ([] : Str), Text := ([] : Str), Marks := [], zh := [], Kids := [] } : za), from_ := (0 : Int), to_ := (0 : Int) } : qU))
 else
  some (v_1, V4)
noncomputable def wW (kT : (List Int)) : List Int → Int → Option (Bool ⊕ Unit)
 | [], v_5 =>
  some (.inr ())
 | y_8 :: suf, v_5 =>
  (rd kT v_5).bind fun x_9 =>
  if (y_8 != x_9) = true then
   some (.inl false)
  else
   wW kT suf (v_5 + 1)
noncomputable def slices_Equal_int (kD : (List Int)) (kT : (List Int)) : Option Bool :=
 if ((kD.length : Int) != (kT.length : Int)) = true then
  some false
 else
  (chk (kD.length ≤ 9223372036854775807) (wW kT kD (0 : Int))).bind fun e => match e with
  | .inl kG =>
   some kG
  | .inr _ =>
   some true
noncomputable def jT : List Int → Int → Int → za → Option Int
 | [], WU, agy, n_9 =>
  some agy
 | awh :: suf, WU, agy, n_9 =>
  (sl n_9.Kids (0 : Int) awh).bind fun ayR =>
  (jv ayR).bind fun aoi =>
  (rd n_9.Kids awh).bind fun ayr =>
  jT suf (WU + 1) (w64 (agy + (w64 (aoi + (1 : Int))))) ayr
noncomputable def KP (n_1 : za) (wE : (List Int)) : Option (Int × Int) :=
 (vE n_1 wE).bind fun (r_3, r_4) =>
 if (r_4 != (0 : Int)) = true then
  some ((0 : Int), r_4)
 else
  (chk (wE.length ≤ 9223372036854775807) (jT wE (0 : Int) (0 : Int) n_1)).bind fun anu =>
  some (anu, (0 : Int))
noncomputable def yl (n_1 : za) (yK : Int) (YB : Int) : Option (qU × Int) :=
 if (n_1.Kind == ([116, 101, 120, 116] : Str)) = true then
  (wP (2 : Int) ({ path := [], in_ := ({ Kind := ([] : Str), Text := ([] : Str), Marks := [], zh := [], Kids := [] } : za), from_ := (0 : Int), to_ := (0 : Int) } : qU)).bind fun (v_4, auB) =>
  some (auB, v_4)
 else
  (yZ n_1).bind fun amP =>
  if (!amP) = true then
   (wP (2 : Int) ({ path := [], in_ := ({ Kind := ([] : Str), Text := ([] : Str), Marks := [], zh := [], Kids := [] } : za), from_ := (0 : Int), to_ := (0 : Int) } : qU)).bind fun (v_7, avb) =>
   some (avb, v_7)
  else
   (kK n_1 yK).bind fun (r_9, VZ) =>
   if (VZ != (0 : Int)) = true then
    (wP VZ ({ path := [], in_ := ({ Kind := ([] : Str), Text := ([] : Str), Marks := [], zh := [], Kids := [] } : za), from_ := (0 : Int), to_ := (0 : Int) } : qU)).bind fun (WU, aq7) =>
    some (aq7, WU)
   else
    (kK n_1 YB).bind fun (YM, ale) =>
    if (ale != (0 : Int)) = true then
     (wP ale ({ path := [], in_ := ({ Kind := ([] : Str), Text := ([] : Str), Marks := [], zh := [], Kids := [] } : za), from_ := (0 : Int), to_ := (0 : Int) } : qU)).bind fun (Yc, aqk) =>
     some (aqk, Yc)
    else
     if (decide (YB < yK)) = true then
      (wP (3 : Int) ({ path := [], in_ := ({ Kind := ([] : Str), Text := ([] : Str), Marks := [], zh := [], Kids := [] } : za), from_ := (0 : Int), to_ := (0 : Int) } : qU)).bind fun (am5, aqI) =>
      some (aqI, am5)
     else
      (slices_Equal_int r_9.Path YM.Path).bind fun ap4 =>
      if (!ap4) = true then
       (wP (10 : Int) ({ path := [], in_ := ({ Kind := ([] : Str), Text := ([] : Str), Marks := [], zh := [], Kids := [] } : za), from_ := (0 : Int), to_ := (0 : Int) } : qU)).bind fun (Je, aq2) =>
       some (aq2, Je)
      else
       (KP n_1 r_9.Path).bind fun (axE, azw) =>
       (vE n_1 r_9.Path).bind fun (ayg, azc) =>
       (wP azc ({ path := r_9.Path, in_ := ayg, from_ := w64 (yK - axE), to_ := w64 (YB - axE) } : qU)).bind fun (aan, aqs) =>
       some (aqs, aan)
noncomputable def jc : List za → Int → Int → Option (Int × Int)
 | [], i_8, ain =>
  some (ain, i_8)
 | aws :: suf, i_8, ain =>
  (Zg aws).bind fun alU =>
  if (decide (ain ≥ alU)) = true then
   (Zg aws).bind fun aq8 =>
   jc suf (i_8 + 1) (w64 (ain - aq8))
  else
   some (ain, i_8)
noncomputable def jM (l_1 : (List za)) (zQ : Int) : Option ((List za) × (List za) × Int) :=
 if (decide (zQ < (0 : Int))) = true then
  some ([], [], (3 : Int))
 else
  (jv l_1).bind fun Wq =>
  if (decide (zQ > Wq)) = true then
   some ([], [], (3 : Int))
  else
   (chk (l_1.length ≤ 9223372036854775807) (jc l_1 (0 : Int) zQ)).bind fun (afU, ao8) =>
   (sl l_1 (0 : Int) ao8).bind fun ayh =>
   (qy ayh).bind fun amC =>
   (sl l_1 ao8 (l_1.length : Int)).bind fun ay6 =>
   (qy ay6).bind fun ahe =>
   if (afU == (0 : Int)) = true then
    some (amC, ahe, (0 : Int))
   else
    (rd l_1 ao8).bind fun ao9 =>
    if (!(ao9.Kind == ([116, 101, 120, 116] : Str))) = true then
     some ([], [], (10 : Int))
    else
     (sl (runes ao9.Text) (0 : Int) afU).bind fun axZ =>
     (sl (runes ao9.Text) afU ((runes ao9.Text).length : Int)).bind fun ayH =>
     (rd ahe (0 : Int)).bind fun ay0 =>
     (wr ahe (0 : Int) ({ ay0 with Text := zJ ayH })).bind fun ayi =>
     (app 104 amC [{ ao9 with Text := zJ axZ }]).bind fun auq =>
     some (auq, ayi, (0 : Int))
noncomputable def jE (n : Int) : Option (List za) :=
 chk (0 ≤ n ∧ n * 104 ≤ 140737488355328) (some ([] : List za))
noncomputable def qA : List (List za) → Int → Int → Option Int
 | [], v_4, J3 =>
  some J3
 | y_6 :: suf, v_4, J3 =>
  if (decide ((w64 (J3 + (y_6.length : Int))) < (0 : Int))) = true then
   none
  else
   qA suf (v_4 + 1) (w64 (J3 + (y_6.length : Int)))
noncomputable def qz : List (List za) → Int → (List za) → Option (List za)
 | [], JO, xw =>
  some xw
 | axg :: suf, JO, xw =>
  (app 104 xw axg).bind fun auw =>
  qz suf (JO + 1) auw
noncomputable def vv (kW : (List (List za))) : Option (List za) :=
 (chk (kW.length ≤ 9223372036854775807) (qA kW (0 : Int) (0 : Int))).bind fun ahW =>
 (jE ahW).bind fun aqt =>
 (chk (kW.length ≤ 9223372036854775807) (qz kW (0 : Int) aqt)).bind fun Qz =>
 some Qz
noncomputable def Zl (n_1 : za) (yK : Int) (YB : Int) (l_4 : (List za)) : Option (za × Int) :=
 (yl n_1 yK YB).bind fun (r_5, r_6) =>
 if (r_6 == (2 : Int)) = true then
  some (({ Kind := ([] : Str), Text := ([] : Str), Marks := [], zh := [], Kids := [] } : za), (2 : Int))
 else
  (WZ l_4).bind fun ajb =>
  (yX ({ Kind := ([120] : Str), Text := ([] : Str), Marks := [], zh := [], Kids := ajb } : za)).bind fun alQ =>
  if (alQ == (2 : Int)) = true then
   some (({ Kind := ([] : Str), Text := ([] : Str), Marks := [], zh := [], Kids := [] } : za), (2 : Int))
  else
   if (r_6 != (0 : Int)) = true then
    some (({ Kind := ([] : Str), Text := ([] : Str), Marks := [], zh := [], Kids := [] } : za), r_6)
   else
    (jM r_5.in_.Kids r_5.from_).bind fun (r_9, VZ, YH) =>
    (jM r_5.in_.Kids r_5.to_).bind fun (VU, YM, ale) =>
    (vv [r_9, l_4, YM]).bind fun aqK =>
    (WZ aqK).bind fun aqe =>
    (Ke n_1 r_5.path ({ r_5.in_ with Kids := aqe })).bind fun (axw, azp) =>
    (yX axw).bind fun adI =>
    if (adI != (0 : Int)) = true then
     some (({ Kind := ([] : Str), Text := ([] : Str), Marks := [], zh := [], Kids := [] } : za), adI)
    else
     some (axw, (0 : Int))
noncomputable def qH (n_1 : za) (s_2 : zo) : Option (za × Int) :=
 (yx s_2).bind fun XZ =>
 if (!XZ) = true then
  some (({ Kind := ([] : Str), Text := ([] : Str), Marks := [], zh := [], Kids := [] } : za), (1 : Int))
 else
  if (n_1.Kind == ([116, 101, 120, 116] : Str)) = true then
   some (({ Kind := ([] : Str), Text := ([] : Str), Marks := [], zh := [], Kids := [] } : za), (2 : Int))
  else
   (yZ n_1).bind fun XF =>
   if (!XF) = true then
    some (({ Kind := ([] : Str), Text := ([] : Str), Marks := [], zh := [], Kids := [] } : za), (2 : Int))
   else
    if (s_2.Kind == (114 : Int)) = true then
     (Zl n_1 s_2.From s_2.To s_2.kF).bind fun (r_5, r_6) =>
     some (r_5, r_6)
    else
     if (s_2.Kind == (97 : Int)) = true then
      (jS n_1 s_2).bind fun (r_7, r_8, r_9) =>
      some (r_7, r_9)
     else
      (Zb n_1 s_2).bind fun (VZ, YH, VU) =>
      some (VZ, VU)
noncomputable def y9 : List zo → Int → za → Option ((za × Int) ⊕ za)
 | [], v_7, n_6 =>
  some (.inr n_6)
 | axd :: suf, v_7, n_6 =>
  (qH n_6 axd).bind fun (VU, YM) =>
  if (YM != (0 : Int)) = true then
   some (.inl (({ Kind := ([] : Str), Text := ([] : Str), Marks := [], zh := [], Kids := [] } : za), YM))
  else
   y9 suf (v_7 + 1) VU
noncomputable def Xc (n_1 : za) (l_2 : (List zo)) : Option (za × Int) :=
 (chk (l_2.length ≤ 9223372036854775807) (y9 l_2 (0 : Int) n_1)).bind fun e => match e with
 | .inl JS =>
  some JS
 | .inr alH =>
  some (alH, (0 : Int))
noncomputable def WW (n_1 : za) (yK : Int) (YB : Int) : Option ((List za) × Int) :=
 (yl n_1 yK YB).bind fun (r_4, r_5) =>
 if (r_5 != (0 : Int)) = true then
  some ([], r_5)
 else
  (jM r_4.in_.Kids r_4.to_).bind fun (r_6, r_7, r_8) =>
  (jM r_6 r_4.from_).bind fun (r_9, VZ, YH) =>
  some (VZ, YH)
noncomputable def xD (s_2 : zo) : List zt → Int → (List zo) → Option (List zo)
 | [], agN, X5 =>
  some X5
 | ave :: suf, agN, X5 =>
  (app 80 X5 [({ Kind := IntKind.wrap .u8 ((226 : Int) - s_2.Kind), From := ave.Pos, To := w64 (ave.Pos + ave.Old), kF := [], Name := s_2.Name, Value := ([] : Str) } : zo)]).bind fun ayS =>
  xD s_2 suf (agN + 1) ayS
noncomputable def jo (n_1 : za) (s_2 : zo) : Option ((List zo) × Int) :=
 (qH n_1 s_2).bind fun (r_3, r_4) =>
 if (r_4 != (0 : Int)) = true then
  some ([], r_4)
 else
  if (s_2.Kind == (114 : Int)) = true then
   (WW n_1 s_2.From s_2.To).bind fun (r_5, r_6) =>
   (jv s_2.kF).bind fun aqP =>
   some ([({ Kind := (114 : Int), From := s_2.From, To := w64 (s_2.From + aqP), kF := r_5, Name := ([] : Str), Value := ([] : Str) } : zo)], r_6)
  else
   if (s_2.Kind == (97 : Int)) = true then
    (jS n_1 s_2).bind fun (r_8, r_9, VZ) =>
    some ([({ Kind := (97 : Int), From := s_2.From, To := (0 : Int), kF := [], Name := s_2.Name, Value := r_9 } : zo)], VZ)
   else
    (Zb n_1 s_2).bind fun (YH, VU, YM) =>
    (chk (VU.length ≤ 9223372036854775807) (xD s_2 VU (0 : Int) ([] : List zo))).bind fun afx =>
    some (afx, YM)
noncomputable def qZ : List zo → Int → za → Option (Bool ⊕ za)
 | [], ame, QP =>
  some (.inr QP)
 | av6 :: suf, ame, QP =>
  (jo QP av6).bind fun (ax5, axk) =>
  (qH QP av6).bind fun (axD, axT) =>
  (Xc axD ax5).bind fun (ayb, axu) =>
  if (axk != (0 : Int)) = true then
   some (.inl false)
  else
   if (axT != (0 : Int)) = true then
    some (.inl false)
   else
    if (axu != (0 : Int)) = true then
     some (.inl false)
    else
     (jQ ayb QP).bind fun alb =>
     if (!alb) = true then
      some (.inl false)
     else
      qZ suf (ame + 1) axD
noncomputable def jH (l_1 : (List zx)) (m_2 : (List zx)) (n_3 : (List zx)) : Option Bool :=
 (jX).bind fun amg =>
 if (!amg) = true then
  some false
 else
  (wV l_1).bind fun aqd =>
  (wV m_2).bind fun awQ =>
  (y8 aqd awQ).bind fun (r_7, r_8) =>
  (wV m_2).bind fun awU =>
  (wV n_3).bind fun auO =>
  (y8 awU auO).bind fun (YH, VU) =>
  (app 80 ([] : List zo) r_7).bind fun an1 =>
  (app 80 an1 YH).bind fun ayx =>
  (Xc aqd ayx).bind fun (ayM, axp) =>
  if (r_8 != (0 : Int)) = true then
   some false
  else
   if (VU != (0 : Int)) = true then
    some false
   else
    if (axp != (0 : Int)) = true then
     some false
    else
     (wV n_3).bind fun au1 =>
     (jQ ayM au1).bind fun alp =>
     if (!alp) = true then
      some false
     else
      (chk (r_7.length ≤ 9223372036854775807) (qZ r_7 (0 : Int) aqd)).bind fun e => match e with
      | .inl ai7 =>
       some ai7
      | .inr Yk =>
       (wV m_2).bind fun asY =>
       (jQ Yk asY).bind fun aqN =>
       some aqN
end Go.Proofs.YtclohbgnaopjfaaDoor
