/- Texts of the proof of diffMakesCard -/
import Derived.Test.YtclohbgnaopjfaaDoorAgT
import Derived.Test.YtclohbgnaopjfaaDoorAgWith
import Derived.Test.YtclohbgnaopjfaaDoorAgLib
namespace Go.Proofs.YtclohbgnaopjfaaDoor
set_option linter.unusedSimpArgs false
set_option linter.unusedVariables false
open Go
set_option maxRecDepth 100000
noncomputable def jO (n_1 : za) : Option Bool :=
 some (n_1.Kind == ([116, 101, 120, 116] : Str))
noncomputable def zO (s_1 : Str) : Nat → Int → Nat → Option Int
 | 0, _, _ => none
 | k + 1, n_2, v_3 =>
  if (decide (v_3 < s_1.length)) = true then
   zO s_1 k (w64 (n_2 + (1 : Int))) (v_3 + asn s_1 v_3)
  else
   some n_2
noncomputable def wG (s_1 : Str) : Option Int :=
 (lim fun k => zO s_1 k (0 : Int) 0).bind fun n_4 =>
 some n_4
noncomputable def jK (node_Size_r : za → Option Int) : List za → Int → Int → Option Int
 | [], v_5, YN =>
  some YN
 | y_8 :: suf, v_5, YN =>
  (node_Size_r y_8).bind fun asz =>
  jK node_Size_r suf (v_5 + 1) (w64 (YN + asz))
mutual
noncomputable def jJ : Nat → za → Option Int
 | 0, _ => none
 | kr + 1, n_1 =>
  (jO n_1).bind fun y8 =>
  if (y8) = true then
   (wG n_1.Text).bind fun am4 =>
   some am4
  else
   ((yw kr) n_1.Kids).bind fun aqw =>
   some (w64 ((2 : Int) + aqw))
noncomputable def yw : Nat → (List za) → Option Int
 | 0, _ => none
 | kr + 1, l_1 =>
  (chk (l_1.length ≤ 9223372036854775807) (jK (jJ kr) l_1 (0 : Int) (0 : Int))).bind fun adF =>
  some adF
end
noncomputable def Ze (n_1 : za) : Option Int := lim fun kr => jJ kr n_1
noncomputable def jq (l_1 : (List za)) : Option Int := lim fun kr => yw kr l_1
noncomputable def wU (s : Str) : Option Bool :=
 chk (s.length ≤ 9223372036854775807) (some (Lib.validD s))
noncomputable def qw (kQ : (List Str)) : List Str → Int → Option (Bool ⊕ Unit)
 | [], v_5 =>
  some (.inr ())
 | y_8 :: suf, v_5 =>
  (rd kQ v_5).bind fun x_9 =>
  if (!(y_8 == x_9)) = true then
   some (.inl false)
  else
   qw kQ suf (v_5 + 1)
noncomputable def slices_Equal_string (kF : (List Str)) (kQ : (List Str)) : Option Bool :=
 if ((kF.length : Int) != (kQ.length : Int)) = true then
  some false
 else
  (chk (kF.length ≤ 9223372036854775807) (qw kQ kF (0 : Int))).bind fun e => match e with
  | .inl kD =>
   some kD
  | .inr _ =>
   some true
noncomputable def Z8 (a_1 : za) (b_2 : za) : Option Bool :=
 (jO a_1).bind fun ag3 =>
 if (ag3) = true then
  (jO b_2).bind fun ail =>
  if (ail) = true then
   (slices_Equal_string a_1.Marks b_2.Marks).bind fun ano =>
   some ano
  else
   some false
 else
  some false
noncomputable def Vq (s : Str) (cutset : Str) : Option Str :=
 chk (s.length ≤ 9223372036854775807 ∧ cutset.length < 4294967281 ∧ cutset.all (fun b => decide (b.toNat < 128)) = true) (some (Lib.trimS s cutset))
noncomputable def Zb (s_1 : Str) : Option Bool :=
 (Vq s_1 ([97, 98, 99, 100, 101, 102, 103, 104, 105, 106, 107, 108, 109, 110, 111, 112, 113, 114, 115, 116, 117, 118, 119, 120, 121, 122] : Str)).bind fun aoz =>
 if (aoz == ([] : Str)) = true then
  if (!(s_1 == ([] : Str))) = true then
   if (decide ((s_1.length : Int) ≤ (8 : Int))) = true then
    some (!(s_1 == ([116, 101, 120, 116] : Str)))
   else
    some false
  else
   some false
 else
  some false
noncomputable def vM (l_1 : (List Str)) : List Str → Int → Option (Bool ⊕ Unit)
 | [], v_5 =>
  some (.inr ())
 | y_9 :: suf, v_5 =>
  (Zb y_9).bind fun ak5 =>
  if (!ak5) = true then
   some (.inl false)
  else
   if (decide (v_5 > (0 : Int))) = true then
    (rd l_1 (w64 (v_5 - (1 : Int)))).bind fun adX =>
    if ((Op.bytesLess y_9 adX || y_9 == adX)) = true then
     some (.inl false)
    else
     vM l_1 suf (v_5 + 1)
   else
    vM l_1 suf (v_5 + 1)
noncomputable def VB (l_1 : (List Str)) : Option Bool :=
 (chk (l_1.length ≤ 9223372036854775807) (vM l_1 l_1 (0 : Int))).bind fun e => match e with
 | .inl ahp =>
  some ahp
 | .inr _ =>
  some true
noncomputable def WV (s_1 : Str) : Option Bool :=
 if (decide ((s_1.length : Int) ≤ (40 : Int))) = true then
  (wU s_1).bind fun anf =>
  some anf
 else
  some false
noncomputable def vV : List ze → Int → (List Str) → Option (Bool ⊕ (List Str))
 | [], v_8, Vx =>
  some (.inr Vx)
 | avX :: suf, v_8, Vx =>
  (WV avX.Value).bind fun aiI =>
  if (!aiI) = true then
   some (.inl false)
  else
   (app 16 Vx [avX.Name]).bind fun agy =>
   vV suf (v_8 + 1) agy
noncomputable def kS (n_1 : za) (node_formed_r : za → Option Bool) : List za → Int → Option (Bool ⊕ Unit)
 | [], Y9 =>
  some (.inr ())
 | atw :: suf, Y9 =>
  (node_formed_r atw).bind fun aeB =>
  if (!aeB) = true then
   some (.inl false)
  else
   if (decide (Y9 > (0 : Int))) = true then
    (rd n_1.Kids (w64 (Y9 - (1 : Int)))).bind fun ax4 =>
    (Z8 ax4 atw).bind fun ag4 =>
    if (ag4) = true then
     some (.inl false)
    else
     kS n_1 node_formed_r suf (Y9 + 1)
   else
    kS n_1 node_formed_r suf (Y9 + 1)
noncomputable def vk : Nat → za → Option Bool
 | 0, _ => none
 | kr + 1, n_1 =>
  (jO n_1).bind fun y8 =>
  if (y8) = true then
   if (!(n_1.Text == ([] : Str))) = true then
    (wU n_1.Text).bind fun ahD =>
    if (ahD) = true then
     (VB n_1.Marks).bind fun apB =>
     if (apB) = true then
      some ((w64 ((n_1.zh.length : Int) + (n_1.Kids.length : Int))) == (0 : Int))
     else
      some false
    else
     some false
   else
    some false
  else
   (chk (n_1.zh.length ≤ 9223372036854775807) (vV n_1.zh (0 : Int) ([] : List Str))).bind fun e => match e with
   | .inl ahs =>
    some ahs
   | .inr Xx =>
    (Zb n_1.Kind).bind fun alo =>
    if (!alo) = true then
     some false
    else
     if (!(n_1.Text == ([] : Str))) = true then
      some false
     else
      if (decide ((n_1.Marks.length : Int) > (0 : Int))) = true then
       some false
      else
       (VB Xx).bind fun alu =>
       if (!alu) = true then
        some false
       else
        (chk (n_1.Kids.length ≤ 9223372036854775807) (kS n_1 (vk kr) n_1.Kids (0 : Int))).bind fun e => match e with
        | .inl ah9 =>
         some ah9
        | .inr _ =>
         some true
noncomputable def Ko (n_1 : za) : Option Bool := lim fun kr => vk kr n_1
noncomputable def vO (node_Depth_r : za → Option Int) : List za → Int → Int → Option Int
 | [], v_6, Zg =>
  some Zg
 | y_9 :: suf, v_6, Zg =>
  (node_Depth_r y_9).bind fun aih =>
  vO node_Depth_r suf (v_6 + 1) (if aih > Zg then aih else Zg)
noncomputable def vR : Nat → za → Option Int
 | 0, _ => none
 | kr + 1, n_1 =>
  (jO n_1).bind fun y8 =>
  if (y8) = true then
   some (0 : Int)
  else
   (chk (n_1.Kids.length ≤ 9223372036854775807) (vO (vR kr) n_1.Kids (0 : Int) (0 : Int))).bind fun VO =>
   some (w64 (VO + (1 : Int)))
noncomputable def VE (n_1 : za) : Option Int := lim fun kr => vR kr n_1
noncomputable def yT (n_1 : za) : Option Int :=
 (Ko n_1).bind fun ahc =>
 if (!ahc) = true then
  some (2 : Int)
 else
  (VE n_1).bind fun alK =>
  if (decide (alK > (40 : Int))) = true then
   some (4 : Int)
  else
   (Ze n_1).bind fun api =>
   if (decide (api > (4000 : Int))) = true then
    some (5 : Int)
   else
    some (0 : Int)
noncomputable def yY (n_1 : za) : Option Bool :=
 (yT n_1).bind fun aqJ =>
 some (aqJ == (0 : Int))
noncomputable def Vp (x_1 : ze) (y_2 : ze) : Option Bool :=
 some (x_1.Name == y_2.Name)
noncomputable def zM (kQ : (List ze)) : List ze → Int → Option (Bool ⊕ Unit)
 | [], v_6 =>
  some (.inr ())
 | apF :: suf, v_6 =>
  (rd kQ v_6).bind fun adX =>
  (Vp apF adX).bind fun as2 =>
  if (!as2) = true then
   some (.inl false)
  else
   zM kQ suf (v_6 + 1)
noncomputable def wo (kF : (List ze)) (kQ : (List ze)) : Option Bool :=
 if ((kF.length : Int) != (kQ.length : Int)) = true then
  some false
 else
  (chk (kF.length ≤ 9223372036854775807) (zM kQ kF (0 : Int))).bind fun e => match e with
  | .inl V5 =>
   some V5
  | .inr _ =>
   some true
noncomputable def WZ (a_1 : za) (b_2 : za) : Option Bool :=
 if (a_1.Kind == b_2.Kind) = true then
  if (!(a_1.Kind == ([116, 101, 120, 116] : Str))) = true then
   (wo a_1.zh b_2.zh).bind fun attr_3 =>
   some attr_3
  else
   some false
 else
  some false
noncomputable def qd (kQ : (List ze)) : List ze → Int → Option (Bool ⊕ Unit)
 | [], v_5 =>
  some (.inr ())
 | y_8 :: suf, v_5 =>
  (rd kQ v_5).bind fun x_9 =>
  if ((((y_8.Name == x_9.Name) && (y_8.Value == x_9.Value)) != true)) = true then
   some (.inl false)
  else
   qd kQ suf (v_5 + 1)
noncomputable def ko (kF : (List ze)) (kQ : (List ze)) : Option Bool :=
 if ((kF.length : Int) != (kQ.length : Int)) = true then
  some false
 else
  (chk (kF.length ≤ 9223372036854775807) (qd kQ kF (0 : Int))).bind fun e => match e with
  | .inl kD =>
   some kD
  | .inr _ =>
   some true
noncomputable def zK (kQ : (List za)) (node_Same_r : za → za → Option Bool) : List za → Int → Option (Bool ⊕ Unit)
 | [], v_6 =>
  some (.inr ())
 | apF :: suf, v_6 =>
  (rd kQ v_6).bind fun adX =>
  (node_Same_r apF adX).bind fun ama =>
  if (!ama) = true then
   some (.inl false)
  else
   zK kQ node_Same_r suf (v_6 + 1)
mutual
noncomputable def qa : Nat → (List za) → (List za) → Option Bool
 | 0, _, _ => none
 | kr + 1, kF, kQ =>
  if ((kF.length : Int) != (kQ.length : Int)) = true then
   some false
  else
   (chk (kF.length ≤ 9223372036854775807) (zK kQ (vD kr) kF (0 : Int))).bind fun e => match e with
   | .inl V5 =>
    some V5
   | .inr _ =>
    some true
noncomputable def vD : Nat → za → za → Option Bool
 | 0, _, _ => none
 | kr + 1, a_1, b_2 =>
  if (a_1.Kind == b_2.Kind) = true then
   if (a_1.Text == b_2.Text) = true then
    (slices_Equal_string a_1.Marks b_2.Marks).bind fun aix =>
    if (aix) = true then
     (ko a_1.zh b_2.zh).bind fun apa =>
     if (apa) = true then
      ((qa kr) a_1.Kids b_2.Kids).bind fun aso =>
      some aso
     else
      some false
    else
     some false
   else
    some false
  else
   some false
end
noncomputable def kZ (a_1 : za) (b_2 : za) : Option Bool := lim fun kr => vD kr a_1 b_2
noncomputable def qz (yn : (List ze)) (WY : Int) : List ze → Int → (List zt) → Option (List zt)
 | [], Je, ad8 =>
  some ad8
 | ao9 :: suf, Je, ad8 =>
  if (decide (Je < (yn.length : Int))) = true then
   (rd yn Je).bind fun avz =>
   if (!(avz.Value == ao9.Value)) = true then
    (app 80 ad8 [({ Kind := (97 : Int), From := w64 (WY - (1 : Int)), To := (0 : Int), wO := [], Name := ao9.Name, Value := avz.Value } : zt)]).bind fun atE =>
    qz yn WY suf (Je + 1) atE
   else
    qz yn WY suf (Je + 1) ad8
  else
   qz yn WY suf (Je + 1) ad8
noncomputable def jQ (aeD : Str) (aeJ : Str) (aaN : (List Str)) (yN : (List ze)) (aeY : (List za)) (aeA : Str) (afo : Str) (aaW : (List Str)) (yn : (List ze)) (aaK : (List za)) (WY : Int) (aaH : Int) (arQ : Int) (yz : Int) (agy : (List Int)) (asO : (List zt)) : Option (Str × Str × (List Str) × (List ze) × (List za) × Str × Str × (List Str) × (List ze) × (List za) × Int × Int × Int × Int × (List Int) × (List zt)) :=
 (chk (yN.length ≤ 9223372036854775807) (qz yn WY yN (0 : Int) asO)).bind fun arl =>
 some (aeD, aeJ, aaN, yN, aeY, aeA, afo, aaW, yn, aaK, WY, aaH, arQ, yz, agy, arl)
noncomputable def xG (qG : (List za)) (qL : (List za)) : Nat → Int → Option Int
 | 0, _ => none
 | k + 1, agw =>
  if (decide (agw < (if (qL.length : Int) < (qG.length : Int) then (qL.length : Int) else (qG.length : Int)))) = true then
   (rd qG agw).bind fun ayr =>
   (rd qL agw).bind fun axY =>
   (kZ ayr axY).bind fun akS =>
   if (akS) = true then
    xG qG qL k (w64 (agw + (1 : Int)))
   else
    some agw
  else
   some agw
noncomputable def yx (qG : (List za)) (qL : (List za)) (ZC : Int) : Nat → Int → Option Int
 | 0, _ => none
 | k + 1, Z7 =>
  if (decide (Z7 < (w64 ((if (qL.length : Int) < (qG.length : Int) then (qL.length : Int) else (qG.length : Int)) - ZC)))) = true then
   (rd qG (w64 ((w64 ((qG.length : Int) - (1 : Int))) - Z7))).bind fun axB =>
   (rd qL (w64 ((w64 ((qL.length : Int) - (1 : Int))) - Z7))).bind fun ax8 =>
   (kZ axB ax8).bind fun ak9 =>
   if (ak9) = true then
    yx qG qL ZC k (w64 (Z7 + (1 : Int)))
   else
    some Z7
  else
   some Z7
noncomputable def yZ : Nat → Str → Str → (List Str) → (List ze) → (List za) → Str → Str → (List Str) → (List ze) → (List za) → Int → Int → Int → Int → (List Int) → (List zt) → Option ((List za) × (List za) × Str × Str × (List Str) × (List ze) × Str × Str × (List Str) × (List ze) × Int × Int × Int × Int × (List Int) × (List zt))
 | 0, _, _, _, _, _, _, _, _, _, _, _, _, _, _, _, _ => none
 | k + 1, aq4, arq, aqQ, ari, ar1, arx, aqW, arI, arE, aqS, ark, ara, arV, arL, amQ, ao0 =>
  (jQ aq4 arq aqQ ari ar1 arx aqW arI arE aqS ark ara arV arL amQ ao0).bind fun (JG, Jq, KA, Kw, qG, JD, Jt, KD, Kt, qL, XM, au9, asZ, asM, adL, YL) =>
  chk (amQ.length = adL.length) (
   (lim fun k => xG qG qL k (0 : Int)).bind fun ZC =>
   (lim fun k => yx qG qL ZC k (0 : Int)).bind fun xM =>
   if ((w64 ((w64 ((qG.length : Int) - ZC)) - xM)) != (1 : Int)) = true then
    some (qG, qL, JG, Jq, KA, Kw, JD, Jt, KD, Kt, XM, ZC, w64 ((w64 ((qG.length : Int) - ZC)) - xM), w64 ((w64 ((qL.length : Int) - ZC)) - xM), adL, YL)
   else
    if ((w64 ((w64 ((qL.length : Int) - ZC)) - xM)) != (1 : Int)) = true then
     some (qG, qL, JG, Jq, KA, Kw, JD, Jt, KD, Kt, XM, ZC, w64 ((w64 ((qG.length : Int) - ZC)) - xM), w64 ((w64 ((qL.length : Int) - ZC)) - xM), adL, YL)
    else
     (rd qG ZC).bind fun aoi =>
     (rd qL ZC).bind fun apq =>
     (WZ aoi apq).bind fun ag7 =>
     if (!ag7) = true then
      some (qG, qL, JG, Jq, KA, Kw, JD, Jt, KD, Kt, XM, ZC, w64 ((w64 ((qG.length : Int) - ZC)) - xM), w64 ((w64 ((qL.length : Int) - ZC)) - xM), adL, YL)
     else
      (app 8 adL [ZC]).bind fun ayt =>
      (sl qG (0 : Int) ZC).bind fun ayw =>
      (jq ayw).bind fun ant =>
      yZ k aoi.Kind aoi.Text aoi.Marks aoi.zh aoi.Kids apq.Kind apq.Text apq.Marks apq.zh apq.Kids (w64 (XM + (w64 (ant + (1 : Int))))) ZC (w64 ((w64 ((qG.length : Int) - ZC)) - xM)) (w64 ((w64 ((qL.length : Int) - ZC)) - xM)) ayt YL)
noncomputable def aeu (a_1 : za) (b_2 : za) : Option vU :=
 (lim fun k => yZ k a_1.Kind a_1.Text a_1.Marks a_1.zh a_1.Kids b_2.Kind b_2.Text b_2.Marks b_2.zh b_2.Kids (0 : Int) (0 : Int) (0 : Int) (0 : Int) ([] : List Int) ([] : List zt)).bind fun (aor, aio, ajS, akK, ajs, aj3, akf, ajK, akv, ajw, ajp, aj6, ajM, akB, aik, ajT) =>
 some ({ a := ({ Kind := ajS, Text := akK, Marks := ajs, zh := aj3, Kids := aor } : za), b := ({ Kind := akf, Text := ajK, Marks := akv, zh := ajw, Kids := aio } : za), path := aik, at_ := ajp, head := aj6, m := ajM, n := akB, attrs := ajT } : vU)
noncomputable def slices_Clone_string (l : (List Str)) : Option (List Str) :=
 app 16 [] l
noncomputable def kv (l : (List ze)) : Option (List ze) :=
 app 32 [] l
noncomputable def qy (l : (List za)) : Option (List za) :=
 app 104 [] l
noncomputable def xz (jF : (List za)) (node_Copy_r : za → Option za) : Nat → Int → (List za) → Option (List za)
 | 0, _, _ => none
 | k + 1, v_8, v_9 =>
  if (decide (v_8 < (jF.length : Int))) = true then
   (rd v_9 v_8).bind fun aeQ =>
   (node_Copy_r aeQ).bind fun aqz =>
   (wr v_9 v_8 aqz).bind fun aiO =>
   xz jF node_Copy_r k (w64 (v_8 + (1 : Int))) aiO
  else
   some v_9
noncomputable def xn : Nat → za → Option za
 | 0, _ => none
 | kr + 1, n_1 =>
  (slices_Clone_string n_1.Marks).bind fun ac0 =>
  (kv n_1.zh).bind fun attr_3 =>
  (qy n_1.Kids).bind fun jF =>
  (lim fun k => xz jF (xn kr) k (0 : Int) jF).bind fun XP =>
  some ({ Kind := n_1.Kind, Text := n_1.Text, Marks := ac0, zh := attr_3, Kids := XP } : za)
noncomputable def Xh (n_1 : za) : Option za := lim fun kr => xn kr n_1
noncomputable def xI (a_1 : za) (b_2 : za) : Option ((List zt) × Int) :=
 (yY a_1).bind fun XW =>
 if (!XW) = true then
  some ([], (1 : Int))
 else
  (yY b_2).bind fun X0 =>
  if (!X0) = true then
   some ([], (1 : Int))
  else
   (WZ a_1 b_2).bind fun al0 =>
   if (!al0) = true then
    some ([], (1 : Int))
   else
    (aeu a_1 b_2).bind fun Ye =>
    if ((w64 (Ye.m + Ye.n)) == (0 : Int)) = true then
     some (Ye.attrs, (0 : Int))
    else
     (sl Ye.a.Kids (0 : Int) Ye.head).bind fun s_7 =>
     (jq s_7).bind fun ak1 =>
     (sl Ye.a.Kids Ye.head (w64 (Ye.head + Ye.m))).bind fun s_9 =>
     (jq s_9).bind fun am3 =>
     (sl Ye.b.Kids Ye.head (w64 (Ye.head + Ye.n))).bind fun axv =>
     (Xh ({ Kind := ([] : Str), Text := ([] : Str), Marks := [], zh := [], Kids := axv } : za)).bind fun aql =>
     (app 80 Ye.attrs [({ Kind := (114 : Int), From := w64 (Ye.at_ + ak1), To := w64 ((w64 (Ye.at_ + ak1)) + am3), wO := aql.Kids, Name := ([] : Str), Value := ([] : Str) } : zt)]).bind fun asD =>
     some (asD, (0 : Int))
noncomputable def jV : Option Bool :=
 (xI ({ Kind := ([100, 111, 99] : Str), Text := ([] : Str), Marks := [], zh := [], Kids := [({ Kind := ([112] : Str), Text := ([] : Str), Marks := [], zh := [], Kids := [({ Kind := ([116, 101, 120, 116] : Str), Text := ([104, 105] : Str), Marks := [], zh := [], Kids := [] } : za)] } : za), ({ Kind := ([113] : Str), Text := ([] : Str), Marks := [], zh := [], Kids := [] } : za)] } : za) ({ Kind := ([100, 111, 99] : Str), Text := ([] : Str), Marks := [], zh := [], Kids := [({ Kind := ([112] : Str), Text := ([] : Str), Marks := [], zh := [], Kids := [({ Kind := ([116, 101, 120, 116] : Str), Text := ([104, 111] : Str), Marks := [], zh := [], Kids := [] } : za)] } : za), ({ Kind := ([113] : Str), Text := ([] : Str), Marks := [], zh := [], Kids := [] } : za)] } : za)).bind fun (r_1, r_2) =>
 if (r_2 == (0 : Int)) = true then
  if ((r_1.length : Int) == (1 : Int)) = true then
   (rd r_1 (0 : Int)).bind fun x_3 =>
   if (x_3.Kind == (114 : Int)) = true then
    if (x_3.From == (1 : Int)) = true then
     if (x_3.To == (3 : Int)) = true then
      if ((x_3.wO.length : Int) == (1 : Int)) = true then
       (rd x_3.wO (0 : Int)).bind fun x_4 =>
       some (x_4.Text == ([104, 111] : Str))
      else
       some false
     else
      some false
    else
     some false
   else
    some false
  else
   some false
 else
  some false
noncomputable def zX (c_1 : Int) (n_2 : Int) : Option Int :=
 if (decide (c_1 < (0 : Int))) = true then
  chk (n_2 ≠ 0) (
   some ((w64 (0 - (w64 (c_1 + (1 : Int))))).tmod n_2))
 else
  chk (n_2 ≠ 0) (
   some (c_1.tmod n_2))
noncomputable def qH (b_2 : (List Str)) : List Str → Int → Option (Bool ⊕ Unit)
 | [], i_5 =>
  some (.inr ())
 | y_8 :: suf, i_5 =>
  (rd b_2 i_5).bind fun x_9 =>
  if (!(y_8 == x_9)) = true then
   some (.inl false)
  else
   qH b_2 suf (i_5 + 1)
noncomputable def vF (a_1 : (List Str)) (b_2 : (List Str)) : Option Bool :=
 if ((a_1.length : Int) != (b_2.length : Int)) = true then
  some false
 else
  (chk (a_1.length ≤ 9223372036854775807) (qH b_2 a_1 (0 : Int))).bind fun e => match e with
  | .inl kD =>
   some kD
  | .inr _ =>
   some true
noncomputable def qf : List za → Int → (List za) → Option (List za)
 | [], JU, jw =>
  some jw
 | ZF :: suf, JU, jw =>
  ((
    if (ZF.Kind == ([116, 101, 120, 116] : Str)) = true then
     if (ZF.Text == ([] : Str)) = true then
      some (.inl ())
     else
      some (.inr ())
    else
     some (.inr ())) : Option (Unit ⊕ Unit)).bind fun e => match e with
  | .inl _ =>
   qf suf (JU + 1) jw
  | .inr _ =>
   if (ZF.Kind == ([116, 101, 120, 116] : Str)) = true then
    if (decide ((w64 ((jw.length : Int) - (1 : Int))) ≥ (0 : Int))) = true then
     (rd jw (w64 ((jw.length : Int) - (1 : Int)))).bind fun ase =>
     if (ase.Kind == ([116, 101, 120, 116] : Str)) = true then
      (vF ase.Marks ZF.Marks).bind fun afm =>
      if (afm) = true then
       chk (ase.Text.length + ZF.Text.length ≤ 9223372036854775807) (
        (sl jw (0 : Int) (w64 ((jw.length : Int) - (1 : Int)))).bind fun ayb =>
        (app 104 ([] : List za) ayb).bind fun axD =>
        (app 104 axD [{ ZF with Text := ase.Text ++ ZF.Text }]).bind fun aup =>
        qf suf (JU + 1) aup)
      else
       (app 104 jw [ZF]).bind fun atA =>
       qf suf (JU + 1) atA
     else
      (app 104 jw [ZF]).bind fun auF =>
      qf suf (JU + 1) auF
    else
     (app 104 jw [ZF]).bind fun atd =>
     qf suf (JU + 1) atd
   else
    (app 104 jw [ZF]).bind fun axZ =>
    qf suf (JU + 1) axZ
noncomputable def xS (l_1 : (List za)) : Option (List za) :=
 (chk (l_1.length ≤ 9223372036854775807) (qf l_1 (0 : Int) ([] : List za))).bind fun ae6 =>
 some ae6
noncomputable def jl (x_1 : zu) (agQ : (List za)) : Option za :=
 (zX x_1.zh (2 : Int)).bind fun auV =>
 (rd [([108, 101, 102, 116] : Str), ([114, 105, 103, 104, 116] : Str)] auV).bind fun x_4 =>
 (zX (w64 (x_1.zh.tdiv (2 : Int))) (4 : Int)).bind fun atU =>
 (rd [([] : Str), ([195, 169] : Str), ([34, 113, 92] : Str), ([110, 111, 116, 101] : Str)] atU).bind fun x_6 =>
 (xS agQ).bind fun ahn =>
 some ({ Kind := ([112, 97, 114, 97] : Str), Text := ([] : Str), Marks := [], zh := [({ Name := ([97, 108, 105, 103, 110] : Str), Value := x_4 } : ze), ({ Name := ([110, 111, 116, 101] : Str), Value := x_6 } : ze)], Kids := ahn } : za)
noncomputable def wh (diptychref1_Depth_r : za → Option Int) : List za → Int → Int → Option Int
 | [], i_5, d_4 =>
  some d_4
 | y_8 :: suf, i_5, d_4 =>
  (diptychref1_Depth_r y_8).bind fun ak6 =>
  wh diptychref1_Depth_r suf (i_5 + 1) (if ak6 > d_4 then ak6 else d_4)
noncomputable def qV : Nat → za → Option Int
 | 0, _ => none
 | kr + 1, n_1 =>
  if (n_1.Kind == ([116, 101, 120, 116] : Str)) = true then
   some (0 : Int)
  else
   (chk (n_1.Kids.length ≤ 9223372036854775807) (wh (qV kr) n_1.Kids (0 : Int) (0 : Int))).bind fun aur =>
   some (w64 (aur + (1 : Int)))
noncomputable def jg (n_1 : za) : Option Int := lim fun kr => qV kr n_1
noncomputable def zF : List zu → Int → (List za) → (List za) → Option (List za)
 | [], Kc, yA, Zx =>
  some Zx
 | afk :: suf, Kc, yA, Zx =>
  if (decide (Kc < (40 : Int))) = true then
   (zX afk.Text (5 : Int)).bind fun aqE =>
   (rd [([97] : Str), ([98, 99] : Str), ([195, 169] : Str), ([120, 32, 121] : Str), ([230, 151, 165, 230, 156, 172] : Str)] aqE).bind fun avb =>
   ((
     (zX afk.Marks (4 : Int)).bind fun ac3 =>
     if ((akL ac3 (1 : Int)) == (1 : Int)) = true then
      (app 16 ([] : List Str) [([98] : Str)]).bind fun aoL =>
      some aoL
     else
      some ([] : List Str)) : Option (List Str)).bind fun apC =>
   ((
     (zX afk.Marks (4 : Int)).bind fun adE =>
     if ((akL adE (2 : Int)) == (2 : Int)) = true then
      (app 16 apC [([105] : Str)]).bind fun avk =>
      some avk
     else
      some apC) : Option (List Str)).bind fun arD =>
   (app 104 yA [({ Kind := ([116, 101, 120, 116] : Str), Text := avb, Marks := arD, zh := [], Kids := [] } : za)]).bind fun YL =>
   (zX afk.In (5 : Int)).bind fun Yb =>
   if (Yb == (0 : Int)) = true then
    zF suf (Kc + 1) YL Zx
   else
    (jl afk YL).bind fun xL =>
    if (decide (Yb < (3 : Int))) = true then
     (app 104 Zx [xL]).bind fun avi =>
     zF suf (Kc + 1) ([] : List za) avi
    else
     ((
       if (decide ((w64 ((Zx.length : Int) - (1 : Int))) ≥ (0 : Int))) = true then
        (rd Zx (w64 ((Zx.length : Int) - (1 : Int)))).bind fun alC =>
        if (alC.Kind == ([108, 105, 115, 116] : Str)) = true then
         if (Yb == (3 : Int)) = true then
          (app 104 ([] : List za) alC.Kids).bind fun aps =>
          (app 104 aps [({ Kind := ([105, 116, 101, 109] : Str), Text := ([] : Str), Marks := [], zh := [], Kids := [xL] } : za)]).bind fun ave =>
          (sl Zx (0 : Int) (w64 ((Zx.length : Int) - (1 : Int)))).bind fun avD =>
          (app 104 ([] : List za) avD).bind fun avR =>
          (app 104 avR [{ alC with Kids := ave }]).bind fun avW =>
          some (.inl avW)
         else
          some (.inr ())
        else
         some (.inr ())
       else
        some (.inr ())) : Option ((List za) ⊕ Unit)).bind fun e => match e with
     | .inl anN =>
      zF suf (Kc + 1) ([] : List za) anN
     | .inr _ =>
      if (decide ((w64 ((Zx.length : Int) - (1 : Int))) ≥ (0 : Int))) = true then
       (rd Zx (w64 ((Zx.length : Int) - (1 : Int)))).bind fun alU =>
       if (alU.Kind == ([108, 105, 115, 116] : Str)) = true then
        (jg alU).bind fun aac =>
        if (decide (aac < (30 : Int))) = true then
         (app 104 [xL] [alU]).bind fun avV =>
         (sl Zx (0 : Int) (w64 ((Zx.length : Int) - (1 : Int)))).bind fun avx =>
         (app 104 ([] : List za) avx).bind fun avy =>
         (app 104 avy [({ Kind := ([108, 105, 115, 116] : Str), Text := ([] : Str), Marks := [], zh := [], Kids := [({ Kind := ([105, 116, 101, 109] : Str), Text := ([] : Str), Marks := [], zh := [], Kids := avV } : za)] } : za)]).bind fun avn =>
         zF suf (Kc + 1) ([] : List za) avn
        else
         (app 104 Zx [({ Kind := ([108, 105, 115, 116] : Str), Text := ([] : Str), Marks := [], zh := [], Kids := [({ Kind := ([105, 116, 101, 109] : Str), Text := ([] : Str), Marks := [], zh := [], Kids := [xL] } : za)] } : za)]).bind fun avF =>
         zF suf (Kc + 1) ([] : List za) avF
       else
        (app 104 Zx [({ Kind := ([108, 105, 115, 116] : Str), Text := ([] : Str), Marks := [], zh := [], Kids := [({ Kind := ([105, 116, 101, 109] : Str), Text := ([] : Str), Marks := [], zh := [], Kids := [xL] } : za)] } : za)]).bind fun avO =>
        zF suf (Kc + 1) ([] : List za) avO
      else
       (app 104 Zx [({ Kind := ([108, 105, 115, 116] : Str), Text := ([] : Str), Marks := [], zh := [], Kids := [({ Kind := ([105, 116, 101, 109] : Str), Text := ([] : Str), Marks := [], zh := [], Kids := [xL] } : za)] } : za)]).bind fun avG =>
       zF suf (Kc + 1) ([] : List za) avG
  else
   some Zx
noncomputable def vL (l_1 : (List zu)) : Option za :=
 (chk (l_1.length ≤ 9223372036854775807) (zF l_1 (0 : Int) ([] : List za) ([] : List za))).bind fun aq3 =>
 some ({ Kind := ([100, 111, 99] : Str), Text := ([] : Str), Marks := [], zh := [], Kids := aq3 } : za)
noncomputable def slices_Clone_int (l : (List Int)) : Option (List Int) :=
 app 8 [] l
noncomputable def qQ : List Int → Int → za → Option ((za × Int) ⊕ za)
 | [], v_6, n_5 =>
  some (.inr n_5)
 | y_9 :: suf, v_6, n_5 =>
  if (decide (y_9 < (0 : Int))) = true then
   some (.inl (({ Kind := ([] : Str), Text := ([] : Str), Marks := [], zh := [], Kids := [] } : za), (9 : Int)))
  else
   if (decide (y_9 ≥ (n_5.Kids.length : Int))) = true then
    some (.inl (({ Kind := ([] : Str), Text := ([] : Str), Marks := [], zh := [], Kids := [] } : za), (9 : Int)))
   else
    if (n_5.Kind == ([116, 101, 120, 116] : Str)) = true then
     some (.inl (({ Kind := ([] : Str), Text := ([] : Str), Marks := [], zh := [], Kids := [] } : za), (9 : Int)))
    else
     (rd n_5.Kids y_9).bind fun aeQ =>
     qQ suf (v_6 + 1) aeQ
noncomputable def vC (n_1 : za) (wI : (List Int)) : Option (za × Int) :=
 (chk (wI.length ≤ 9223372036854775807) (qQ wI (0 : Int) n_1)).bind fun e => match e with
 | .inl JX =>
  some JX
 | .inr yz =>
  if (yz.Kind == ([116, 101, 120, 116] : Str)) = true then
   some (({ Kind := ([] : Str), Text := ([] : Str), Marks := [], zh := [], Kids := [] } : za), (9 : Int))
  else
   some (yz, (0 : Int))
noncomputable def qj (Yw : (List Int)) : List za → Int → Int → Option ((wE × Int) ⊕ ((Int × za × (List Int)) ⊕ Unit))
 | [], acj, WQ =>
  some (.inr (.inr ()))
 | arC :: suf, acj, WQ =>
  (Ze arC).bind fun agJ =>
  if (decide (WQ ≥ agJ)) = true then
   qj Yw suf (acj + 1) (w64 (WQ - agJ))
  else
   if (arC.Kind == ([116, 101, 120, 116] : Str)) = true then
    some (.inl (({ Path := Yw, Index := acj, Offset := WQ } : wE), (0 : Int)))
   else
    if (WQ == (0 : Int)) = true then
     some (.inl (({ Path := Yw, Index := acj, Offset := (0 : Int) } : wE), (0 : Int)))
    else
     (app 8 Yw [acj]).bind fun atd =>
     some (.inr (.inl (w64 (WQ - (1 : Int)), arC, atd)))
noncomputable def kI : Nat → Int → za → (List Int) → Option (wE × Int)
 | 0, _, _, _ => none
 | k + 1, afi, Wu, Yw =>
  (chk (Wu.Kids.length ≤ 9223372036854775807) (qj Yw Wu.Kids (0 : Int) afi)).bind fun e => match e with
  | .inl YZ =>
   some YZ
  | .inr (.inl (ah1, als, YC)) =>
   kI k ah1 als YC
  | .inr (.inr _) =>
   some (({ Path := Yw, Index := (Wu.Kids.length : Int), Offset := (0 : Int) } : wE), (0 : Int))
noncomputable def kH (n_1 : za) (Jd : Int) : Option (wE × Int) :=
 if (n_1.Kind == ([116, 101, 120, 116] : Str)) = true then
  some (({ Path := [], Index := (0 : Int), Offset := (0 : Int) } : wE), (3 : Int))
 else
  if (decide (Jd < (0 : Int))) = true then
   some (({ Path := [], Index := (0 : Int), Offset := (0 : Int) } : wE), (3 : Int))
  else
   (jq n_1.Kids).bind fun QJ =>
   if (decide (Jd > QJ)) = true then
    some (({ Path := [], Index := (0 : Int), Offset := (0 : Int) } : wE), (3 : Int))
   else
    (lim fun k => kI k Jd n_1 ([] : List Int)).bind fun aab =>
    some aab
noncomputable def yc (n_1 : za) (Jd : Int) : Option ((List Int) × Bool) :=
 if (Jd == (-1 : Int)) = true then
  some ([], true)
 else
  (kH n_1 Jd).bind fun (r_3, r_4) =>
  if (r_4 != (0 : Int)) = true then
   some ([], false)
  else
   if (decide (r_3.Offset > (0 : Int))) = true then
    some ([], false)
   else
    (slices_Clone_int r_3.Path).bind fun av6 =>
    (app 8 av6 [r_3.Index]).bind fun l_6 =>
    (vC n_1 l_6).bind fun (r_7, r_8) =>
    some (l_6, r_8 == (0 : Int))
noncomputable def Vm (a_1 : ze) (wu : zt) : Option Bool :=
 some (a_1.Name == wu.Name)
noncomputable def zY (wu : zt) : List ze → Int → Option ((Int × zt) ⊕ Unit)
 | [], v_5 =>
  some (.inr ())
 | y_8 :: suf, v_5 =>
  (Vm y_8 wu).bind fun awW =>
  if (awW) = true then
   some (.inl (v_5, wu))
  else
   zY wu suf (v_5 + 1)
noncomputable def qF (s_1 : (List ze)) (wu : zt) : Option (Int × zt) :=
 (chk (s_1.length ≤ 9223372036854775807) (zY wu s_1 (0 : Int))).bind fun e => match e with
 | .inl kD =>
  some kD
 | .inr _ =>
  some ((-1 : Int), wu)
noncomputable def xB : Nat → za → (List Int) → za → Option (za × Int)
 | 0, _, _, _ => none
 | kr + 1, n_1, wI, m_3 =>
  (vC n_1 wI).bind fun (r_4, r_5) =>
  if (r_5 != (0 : Int)) = true then
   some (({ Kind := ([] : Str), Text := ([] : Str), Marks := [], zh := [], Kids := [] } : za), r_5)
  else
   if ((wI.length : Int) == (0 : Int)) = true then
    some (m_3, (0 : Int))
   else
    (qy n_1.Kids).bind fun aoI =>
    (rd wI (0 : Int)).bind fun x_7 =>
    (rd aoI x_7).bind fun x_8 =>
    (sl wI (1 : Int) (wI.length : Int)).bind fun s_9 =>
    ((xB kr) x_8 s_9 m_3).bind fun (J2, ac6) =>
    (wr aoI x_7 J2).bind fun aiO =>
    some ({ n_1 with Kids := aiO }, (0 : Int))
noncomputable def Ke (n_1 : za) (wI : (List Int)) (m_3 : za) : Option (za × Int) := lim fun kr => xB kr n_1 wI m_3
noncomputable def xR (n_1 : za) (s_2 : zt) : Option (za × Str × Int) :=
 (yc n_1 s_2.From).bind fun (r_3, r_4) =>
 if (!r_4) = true then
  some (({ Kind := ([] : Str), Text := ([] : Str), Marks := [], zh := [], Kids := [] } : za), ([] : Str), (3 : Int))
 else
  (vC n_1 r_3).bind fun (r_5, r_6) =>
  (qF r_5.zh s_2).bind fun (r_7, asG) =>
  if (decide (r_7 < (0 : Int))) = true then
   some (({ Kind := ([] : Str), Text := ([] : Str), Marks := [], zh := [], Kids := [] } : za), ([] : Str), (9 : Int))
  else
   (rd r_5.zh r_7).bind fun x_9 =>
   (kv r_5.zh).bind fun ala =>
   (rd ala r_7).bind fun adX =>
   (wr ala r_7 ({ adX with Value := asG.Value })).bind fun aiO =>
   (Ke n_1 r_3 ({ r_5 with zh := aiO })).bind fun (aaz, agD) =>
   some (aaz, x_9.Value, agD)
noncomputable def Ws (s : zt) (marks : (List Str)) : Option ((List Str) × Bool) :=
 chk (marks.length ≤ 1099511627776) (some (QN s.Kind s.Name marks))
noncomputable def jB (JY : Int) (arZ : Int) (vX : Int) (zD : Int) (jX : Int) (kN : (List za)) (jd : Str) (kP : Str) (l_9 : (List zx)) : Option (Int × Int × Int × (List za) × Str × Str × (List zx)) :=
 if (decide ((w64 ((l_9.length : Int) - (1 : Int))) ≥ (0 : Int))) = true then
  (rd l_9 (w64 ((l_9.length : Int) - (1 : Int)))).bind fun aeQ =>
  if ((w64 (aeQ.Pos + aeQ.Old)) == JY) = true then
   (wr l_9 (w64 ((l_9.length : Int) - (1 : Int))) ({ aeQ with Old := w64 (aeQ.Old + (w64 (arZ - JY))) })).bind fun ata =>
   some (vX, zD, jX, kN, jd, kP, ata)
  else
   (app 24 l_9 [({ Pos := JY, Old := w64 (arZ - JY), New := (0 : Int) } : zx)]).bind fun aiO =>
   some (vX, zD, jX, kN, jd, kP, aiO)
 else
  (app 24 l_9 [({ Pos := JY, Old := w64 (arZ - JY), New := (0 : Int) } : zx)]).bind fun asD =>
  some (vX, zD, jX, kN, jd, kP, asD)
noncomputable def ku (a_1 : Int) (b_2 : Int) (agF : (List Str)) (jF : za) (v_5 : (List Int)) : Option za :=
 (sl v_5 a_1 b_2).bind fun s_6 =>
 some ({ Kind := jF.Kind, Text := zJ s_6, Marks := agF, zh := [], Kids := [] } : za)
noncomputable def jC (n_1 : za) (zQ : Int) (vX : Int) (zD : Int) (jX : Int) (kN : (List za)) (jd : Str) (kP : Str) (l_9 : (List zx)) : Option ((List za) × Int × Int × Int × (List za) × Str × Str × (List zx)) :=
 (Ws ({ Kind := vX, From := zD, To := jX, wO := kN, Name := jd, Value := kP } : zt) n_1.Marks).bind fun (J2, ac6) =>
 if (!ac6) = true then
  some ([n_1], vX, zD, jX, kN, jd, kP, l_9)
 else
  if ((if ((runes n_1.Text).length : Int) < (if (0 : Int) > (w64 (zD - zQ)) then (0 : Int) else w64 (zD - zQ)) then ((runes n_1.Text).length : Int) else (if (0 : Int) > (w64 (zD - zQ)) then (0 : Int) else w64 (zD - zQ))) == (if ((runes n_1.Text).length : Int) < (if (if ((runes n_1.Text).length : Int) < (if (0 : Int) > (w64 (zD - zQ)) then (0 : Int) else w64 (zD - zQ)) then ((runes n_1.Text).length : Int) else (if (0 : Int) > (w64 (zD - zQ)) then (0 : Int) else w64 (zD - zQ))) > (w64 (jX - zQ)) then (if ((runes n_1.Text).length : Int) < (if (0 : Int) > (w64 (zD - zQ)) then (0 : Int) else w64 (zD - zQ)) then ((runes n_1.Text).length : Int) else (if (0 : Int) > (w64 (zD - zQ)) then (0 : Int) else w64 (zD - zQ))) else w64 (jX - zQ)) then ((runes n_1.Text).length : Int) else (if (if ((runes n_1.Text).length : Int) < (if (0 : Int) > (w64 (zD - zQ)) then (0 : Int) else w64 (zD - zQ)) then ((runes n_1.Text).length : Int) else (if (0 : Int) > (w64 (zD - zQ)) then (0 : Int) else w64 (zD - zQ))) > (w64 (jX - zQ)) then (if ((runes n_1.Text).length : Int) < (if (0 : Int) > (w64 (zD - zQ)) then (0 : Int) else w64 (zD - zQ)) then ((runes n_1.Text).length : Int) else (if (0 : Int) > (w64 (zD - zQ)) then (0 : Int) else w64 (zD - zQ))) else w64 (jX - zQ)))) = true then
   some ([n_1], vX, zD, jX, kN, jd, kP, l_9)
  else
   (jB (w64 (zQ + (if ((runes n_1.Text).length : Int) < (if (0 : Int) > (w64 (zD - zQ)) then (0 : Int) else w64 (zD - zQ)) then ((runes n_1.Text).length : Int) else (if (0 : Int) > (w64 (zD - zQ)) then (0 : Int) else w64 (zD - zQ))))) (w64 (zQ + (if ((runes n_1.Text).length : Int) < (if (if ((runes n_1.Text).length : Int) < (if (0 : Int) > (w64 (zD - zQ)) then (0 : Int) else w64 (zD - zQ)) then ((runes n_1.Text).length : Int) else (if (0 : Int) > (w64 (zD - zQ)) then (0 : Int) else w64 (zD - zQ))) > (w64 (jX - zQ)) then (if ((runes n_1.Text).length : Int) < (if (0 : Int) > (w64 (zD - zQ)) then (0 : Int) else w64 (zD - zQ)) then ((runes n_1.Text).length : Int) else (if (0 : Int) > (w64 (zD - zQ)) then (0 : Int) else w64 (zD - zQ))) else w64 (jX - zQ)) then ((runes n_1.Text).length : Int) else (if (if ((runes n_1.Text).length : Int) < (if (0 : Int) > (w64 (zD - zQ)) then (0 : Int) else w64 (zD - zQ)) then ((runes n_1.Text).length : Int) else (if (0 : Int) > (w64 (zD - zQ)) then (0 : Int) else w64 (zD - zQ))) > (w64 (jX - zQ)) then (if ((runes n_1.Text).length : Int) < (if (0 : Int) > (w64 (zD - zQ)) then (0 : Int) else w64 (zD - zQ)) then ((runes n_1.Text).length : Int) else (if (0 : Int) > (w64 (zD - zQ)) then (0 : Int) else w64 (zD - zQ))) else w64 (jX - zQ))))) vX zD jX kN jd kP l_9).bind fun (aqu, apS, av8, amo, aqi, amu, auD) =>
   (ku (0 : Int) (if ((runes n_1.Text).length : Int) < (if (0 : Int) > (w64 (zD - zQ)) then (0 : Int) else w64 (zD - zQ)) then ((runes n_1.Text).length : Int) else (if (0 : Int) > (w64 (zD - zQ)) then (0 : Int) else w64 (zD - zQ))) n_1.Marks n_1 (runes n_1.Text)).bind fun av7 =>
   (ku (if ((runes n_1.Text).length : Int) < (if (0 : Int) > (w64 (zD - zQ)) then (0 : Int) else w64 (zD - zQ)) then ((runes n_1.Text).length : Int) else (if (0 : Int) > (w64 (zD - zQ)) then (0 : Int) else w64 (zD - zQ))) (if ((runes n_1.Text).length : Int) < (if (if ((runes n_1.Text).length : Int) < (if (0 : Int) > (w64 (zD - zQ)) then (0 : Int) else w64 (zD - zQ)) then ((runes n_1.Text).length : Int) else (if (0 : Int) > (w64 (zD - zQ)) then (0 : Int) else w64 (zD - zQ))) > (w64 (jX - zQ)) then (if ((runes n_1.Text).length : Int) < (if (0 : Int) > (w64 (zD - zQ)) then (0 : Int) else w64 (zD - zQ)) then ((runes n_1.Text).length : Int) else (if (0 : Int) > (w64 (zD - zQ)) then (0 : Int) else w64 (zD - zQ))) else w64 (jX - zQ)) then ((runes n_1.Text).length : Int) else (if (if ((runes n_1.Text).length : Int) < (if (0 : Int) > (w64 (zD - zQ)) then (0 : Int) else w64 (zD - zQ)) then ((runes n_1.Text).length : Int) else (if (0 : Int) > (w64 (zD - zQ)) then (0 : Int) else w64 (zD - zQ))) > (w64 (jX - zQ)) then (if ((runes n_1.Text).length : Int) < (if (0 : Int) > (w64 (zD - zQ)) then (0 : Int) else w64 (zD - zQ)) then ((runes n_1.Text).length : Int) else (if (0 : Int) > (w64 (zD - zQ)) then (0 : Int) else w64 (zD - zQ))) else w64 (jX - zQ))) J2 n_1 (runes n_1.Text)).bind fun av9 =>
   (ku (if ((runes n_1.Text).length : Int) < (if (if ((runes n_1.Text).length : Int) < (if (0 : Int) > (w64 (zD - zQ)) then (0 : Int) else w64 (zD - zQ)) then ((runes n_1.Text).length : Int) else (if (0 : Int) > (w64 (zD - zQ)) then (0 : Int) else w64 (zD - zQ))) > (w64 (jX - zQ)) then (if ((runes n_1.Text).length : Int) < (if (0 : Int) > (w64 (zD - zQ)) then (0 : Int) else w64 (zD - zQ)) then ((runes n_1.Text).length : Int) else (if (0 : Int) > (w64 (zD - zQ)) then (0 : Int) else w64 (zD - zQ))) else w64 (jX - zQ)) then ((runes n_1.Text).length : Int) else (if (if ((runes n_1.Text).length : Int) < (if (0 : Int) > (w64 (zD - zQ)) then (0 : Int) else w64 (zD - zQ)) then ((runes n_1.Text).length : Int) else (if (0 : Int) > (w64 (zD - zQ)) then (0 : Int) else w64 (zD - zQ))) > (w64 (jX - zQ)) then (if ((runes n_1.Text).length : Int) < (if (0 : Int) > (w64 (zD - zQ)) then (0 : Int) else w64 (zD - zQ)) then ((runes n_1.Text).length : Int) else (if (0 : Int) > (w64 (zD - zQ)) then (0 : Int) else w64 (zD - zQ))) else w64 (jX - zQ))) ((runes n_1.Text).length : Int) n_1.Marks n_1 (runes n_1.Text)).bind fun awd =>
   some ([av7, av9, awd], aqu, apS, av8, amo, aqi, amu, auD)
noncomputable def ky : List za → Int → (List za) → Option (List za)
 | [], Zv, jv =>
  some jv
 | VX :: suf, Zv, jv =>
  (jO VX).bind fun aeN =>
  if (aeN) = true then
   if (VX.Text == ([] : Str)) = true then
    ky suf (Zv + 1) jv
   else
    if (decide ((w64 ((jv.length : Int) - (1 : Int))) ≥ (0 : Int))) = true then
     (rd jv (w64 ((jv.length : Int) - (1 : Int)))).bind fun au4 =>
     (Z8 au4 VX).bind fun ahA =>
     if (ahA) = true then
      chk (au4.Text.length + VX.Text.length ≤ 9223372036854775807) (
       (wr jv (w64 ((jv.length : Int) - (1 : Int))) ({ VX with Text := au4.Text ++ VX.Text })).bind fun aup =>
       ky suf (Zv + 1) aup)
     else
      (app 104 jv [VX]).bind fun atA =>
      ky suf (Zv + 1) atA
    else
     (app 104 jv [VX]).bind fun auF =>
     ky suf (Zv + 1) auF
  else
   if (decide ((w64 ((jv.length : Int) - (1 : Int))) ≥ (0 : Int))) = true then
    (rd jv (w64 ((jv.length : Int) - (1 : Int)))).bind fun ava =>
    (Z8 ava VX).bind fun agX =>
    if (agX) = true then
     chk (ava.Text.length + VX.Text.length ≤ 9223372036854775807) (
      (wr jv (w64 ((jv.length : Int) - (1 : Int))) ({ VX with Text := ava.Text ++ VX.Text })).bind fun ayi =>
      ky suf (Zv + 1) ayi)
    else
     (app 104 jv [VX]).bind fun ax3 =>
     ky suf (Zv + 1) ax3
   else
    (app 104 jv [VX]).bind fun axH =>
    ky suf (Zv + 1) axH
noncomputable def Kb (l_1 : (List za)) : Option (List za) :=
 (chk (l_1.length ≤ 9223372036854775807) (ky l_1 (0 : Int) ([] : List za))).bind fun aeV =>
 some aeV
noncomputable def qp (step_painter_kids_x_r : (List za) → Int → Int → Int → Int → (List za) → Str → Str → (List zx) → Option ((List za) × Int × Int × Int × (List za) × Str × Str × (List zx))) : List za → Int → Int → (List za) → Int → Int → Int → (List za) → Str → Str → (List zx) → Option ((List za) × Int × Int × Int × (List za) × Str × Str × (List zx))
 | [], ag6, abE, JR, alB, alV, alI, alN, akW, al8, YC =>
  some (JR, alB, alV, alI, alN, akW, al8, YC)
 | ak0 :: suf, ag6, abE, JR, alB, alV, alI, alN, akW, al8, YC =>
  (Ze ak0).bind fun alL =>
  if (ak0.Kind == ([116, 101, 120, 116] : Str)) = true then
   (jC ak0 abE alB alV alI alN akW al8 YC).bind fun (axM, aqd, apR, awm, aod, ap6, anB, aoL) =>
   (app 104 JR axM).bind fun ax1 =>
   qp step_painter_kids_x_r suf (ag6 + 1) (w64 (abE + alL)) ax1 aqd apR awm aod ap6 anB aoL
  else
   (step_painter_kids_x_r ak0.Kids (w64 (abE + (1 : Int))) alB alV alI alN akW al8 YC).bind fun (axT, apO, aqB, awg, am9, aqp, anl, axV) =>
   (app 104 JR [{ ak0 with Kids := axT }]).bind fun aps =>
   qp step_painter_kids_x_r suf (ag6 + 1) (w64 (abE + alL)) aps apO aqB awg am9 aqp anl axV
noncomputable def qU : Nat → (List za) → Int → Int → Int → Int → (List za) → Str → Str → (List zx) → Option ((List za) × Int × Int × Int × (List za) × Str × Str × (List zx))
 | 0, _, _, _, _, _, _, _, _, _ => none
 | kr + 1, l_1, zQ, vX, zD, jX, kN, jd, kP, l_9 =>
  (chk (l_1.length ≤ 9223372036854775807) (qp (qU kr) l_1 (0 : Int) zQ ([] : List za) vX zD jX kN jd kP l_9)).bind fun (aez, asq, atx, atI, asI, atS, auk, ar6) =>
  (Kb aez).bind fun apN =>
  some (apN, asq, atx, atI, asI, atS, auk, ar6)
noncomputable def jD (l_1 : (List za)) (zQ : Int) (vX : Int) (zD : Int) (jX : Int) (kN : (List za)) (jd : Str) (kP : Str) (l_9 : (List zx)) : Option ((List za) × Int × Int × Int × (List za) × Str × Str × (List zx)) := lim fun kr => qU kr l_1 zQ vX zD jX kN jd kP l_9
noncomputable def Qb (n_1 : za) (s_2 : zt) : Option (za × (List zx) × Int) :=
 (jq n_1.Kids).bind fun QJ =>
 if (decide (s_2.To > QJ)) = true then
  some (({ Kind := ([] : Str), Text := ([] : Str), Marks := [], zh := [], Kids := [] } : za), [], (3 : Int))
 else
  (jD n_1.Kids (0 : Int) s_2.Kind s_2.From s_2.To s_2.wO s_2.Name s_2.Value ([] : List zx)).bind fun (r_4, aww, aw1, ayK, av3, aw0, ato, ata) =>
  some ({ n_1 with Kids := r_4 }, ata, (0 : Int))
noncomputable def yu (s_1 : zt) : Option Bool :=
 ((
   if (decide (s_1.From ≥ (0 : Int))) = true then
    if (decide (s_1.From ≤ s_1.To)) = true then
     some (decide (s_1.To ≤ (1048576 : Int)))
    else
     some false
   else
    some false) : Option Bool).bind fun J5 =>
 if (s_1.Kind == (114 : Int)) = true then
  (yT ({ Kind := ([120] : Str), Text := ([] : Str), Marks := [], zh := [], Kids := s_1.wO } : za)).bind fun akQ =>
  if (J5) = true then
   if (akQ != (2 : Int)) = true then
    chk (s_1.Name.length + s_1.Value.length ≤ 9223372036854775807) (
     some ((s_1.Name ++ s_1.Value) == ([] : Str)))
   else
    some false
  else
   some false
 else
  if (s_1.Kind == (97 : Int)) = true then
   if (decide (s_1.From ≥ (-1 : Int))) = true then
    if (decide (s_1.From ≤ (1048576 : Int))) = true then
     if (s_1.To == (0 : Int)) = true then
      (Zb s_1.Name).bind fun apA =>
      if (apA) = true then
       (WV s_1.Value).bind fun al9 =>
       if (al9) = true then
        some ((s_1.wO.length : Int) == (0 : Int))
       else
        some false
      else
       some false
     else
      some false
    else
     some false
   else
    some false
  else
   if (s_1.Kind == (109 : Int)) = true then
    if (J5) = true then
     (Zb s_1.Name).bind fun aop =>
     if (aop) = true then
      if ((s_1.wO.length : Int) == (0 : Int)) = true then
       some (s_1.Value == ([] : Str))
      else
       some false
     else
      some false
    else
     some false
   else
    if (s_1.Kind == (117 : Int)) = true then
     if (J5) = true then
      (Zb s_1.Name).bind fun apm =>
      if (apm) = true then
       if ((s_1.wO.length : Int) == (0 : Int)) = true then
        some (s_1.Value == ([] : Str))
       else
        some false
      else
       some false
     else
      some false
    else
     some false
noncomputable def wS (v_1 : Int) (VU : qP) : Option (Int × qP) :=
 if (v_1 != (0 : Int)) = true then
  some (v_1, ({ path := [], in_ := ({ Kind := ([] : Str), Text := ([] : Str), Marks := [], zh := [], Kids := [] } : za), from_ := (0 : Int), to_ := (0 : Int) } : qP))
 else
  some (v_1, VU)
noncomputable def wY (kQ : (List Int)) : List Int → Int → Option (Bool ⊕ Unit)
 | [], v_5 =>
  some (.inr ())
 | y_8 :: suf, v_5 =>
  (rd kQ v_5).bind fun x_9 =>
  if (y_8 != x_9) = true then
   some (.inl false)
  else
   wY kQ suf (v_5 + 1)
noncomputable def slices_Equal_int (kF : (List Int)) (kQ : (List Int)) : Option Bool :=
 if ((kF.length : Int) != (kQ.length : Int)) = true then
  some false
 else
  (chk (kF.length ≤ 9223372036854775807) (wY kQ kF (0 : Int))).bind fun e => match e with
  | .inl kD =>
   some kD
  | .inr _ =>
   some true
noncomputable def jR : List Int → Int → Int → za → Option Int
 | [], WO, agf, n_9 =>
  some agf
 | avw :: suf, WO, agf, n_9 =>
  (sl n_9.Kids (0 : Int) avw).bind fun axK =>
  (jq axK).bind fun amq =>
  (rd n_9.Kids avw).bind fun atF =>
  jR suf (WO + 1) (w64 (agf + (w64 (amq + (1 : Int))))) atF
noncomputable def KN (n_1 : za) (wI : (List Int)) : Option (Int × Int) :=
 (vC n_1 wI).bind fun (r_3, r_4) =>
 if (r_4 != (0 : Int)) = true then
  some ((0 : Int), r_4)
 else
  (chk (wI.length ≤ 9223372036854775807) (jR wI (0 : Int) (0 : Int) n_1)).bind fun an3 =>
  some (an3, (0 : Int))
noncomputable def yV (n_1 : za) (Kh : Int) (aeC : Int) : Option (qP × Int) :=
 if (n_1.Kind == ([116, 101, 120, 116] : Str)) = true then
  (wS (2 : Int) ({ path := [], in_ := ({ Kind := ([] : Str), Text := ([] : Str), Marks := [], zh := [], Kids := [] } : za), from_ := (0 : Int), to_ := (0 : Int) } : qP)).bind fun (v_4, atj) =>
  some (atj, v_4)
 else
  (yY n_1).bind fun akX =>
  if (!akX) = true then
   (wS (2 : Int) ({ path := [], in_ := ({ Kind := ([] : Str), Text := ([] : Str), Marks := [], zh := [], Kids := [] } : za), from_ := (0 : Int), to_ := (0 : Int) } : qP)).bind fun (v_7, auP) =>
   some (auP, v_7)
  else
   (kH n_1 Kh).bind fun (r_9, J2) =>
   if (J2 != (0 : Int)) = true then
    (wS J2 ({ path := [], in_ := ({ Kind := ([] : Str), Text := ([] : Str), Marks := [], zh := [], Kids := [] } : za), from_ := (0 : Int), to_ := (0 : Int) } : qP)).bind fun (WO, apP) =>
    some (apP, WO)
   else
    (kH n_1 aeC).bind fun (aaz, agD) =>
    if (agD != (0 : Int)) = true then
     (wS agD ({ path := [], in_ := ({ Kind := ([] : Str), Text := ([] : Str), Marks := [], zh := [], Kids := [] } : za), from_ := (0 : Int), to_ := (0 : Int) } : qP)).bind fun (XP, ap7) =>
     some (ap7, XP)
    else
     if (decide (aeC < Kh)) = true then
      (wS (3 : Int) ({ path := [], in_ := ({ Kind := ([] : Str), Text := ([] : Str), Marks := [], zh := [], Kids := [] } : za), from_ := (0 : Int), to_ := (0 : Int) } : qP)).bind fun (amw, aqL) =>
      some (aqL, amw)
     else
      (slices_Equal_int r_9.Path aaz.Path).bind fun apk =>
      if (!apk) = true then
       (wS (10 : Int) ({ path := [], in_ := ({ Kind := ([] : Str), Text := ([] : Str), Marks := [], zh := [], Kids := [] } : za), from_ := (0 : Int), to_ := (0 : Int) } : qP)).bind fun (Je, aqF) =>
       some (aqF, Je)
      else
       (KN n_1 r_9.Path).bind fun (awN, ayG) =>
       (vC n_1 r_9.Path).bind fun (axs, aoR) =>
       (wS aoR ({ path := r_9.Path, in_ := axs, from_ := w64 (Kh - awN), to_ := w64 (aeC - awN) } : qP)).bind fun (Y9, aqe) =>
       some (aqe, Y9)
noncomputable def vZ : List za → Int → Int → Option (Int × Int)
 | [], i_8, ahi =>
  some (ahi, i_8)
 | avP :: suf, i_8, ahi =>
  (Ze avP).bind fun akV =>
  if (decide (ahi ≥ akV)) = true then
   (Ze avP).bind fun ap0 =>
   vZ suf (i_8 + 1) (w64 (ahi - ap0))
  else
   some (ahi, i_8)
noncomputable def yh (l_1 : (List za)) (zQ : Int) : Option ((List za) × (List za) × Int) :=
 if (decide (zQ < (0 : Int))) = true then
  some ([], [], (3 : Int))
 else
  (jq l_1).bind fun QJ =>
  if (decide (zQ > QJ)) = true then
   some ([], [], (3 : Int))
  else
   (chk (l_1.length ≤ 9223372036854775807) (vZ l_1 (0 : Int) zQ)).bind fun (afw, ao1) =>
   (sl l_1 (0 : Int) ao1).bind fun ax0 =>
   (qy ax0).bind fun alf =>
   (sl l_1 ao1 (l_1.length : Int)).bind fun ayg =>
   (qy ayg).bind fun agP =>
   if (afw == (0 : Int)) = true then
    some (alf, agP, (0 : Int))
   else
    (rd l_1 ao1).bind fun aoO =>
    if (!(aoO.Kind == ([116, 101, 120, 116] : Str))) = true then
     some ([], [], (10 : Int))
    else
     (sl (runes aoO.Text) (0 : Int) afw).bind fun axr =>
     (sl (runes aoO.Text) afw ((runes aoO.Text).length : Int)).bind fun afv =>
     (rd agP (0 : Int)).bind fun axX =>
     (wr agP (0 : Int) ({ axX with Text := zJ afv })).bind fun axy =>
     (app 104 alf [{ aoO with Text := zJ axr }]).bind fun atE =>
     some (atE, axy, (0 : Int))
noncomputable def jH (n : Int) : Option (List za) :=
 chk (0 ≤ n ∧ n * 104 ≤ 140737488355328) (some ([] : List za))
noncomputable def qB : List (List za) → Int → Int → Option Int
 | [], v_4, JH =>
  some JH
 | y_6 :: suf, v_4, JH =>
  if (decide ((w64 (JH + (y_6.length : Int))) < (0 : Int))) = true then
   none
  else
   qB suf (v_4 + 1) (w64 (JH + (y_6.length : Int)))
noncomputable def qA : List (List za) → Int → (List za) → Option (List za)
 | [], JI, xw =>
  some xw
 | axi :: suf, JI, xw =>
  (app 104 xw axi).bind fun auD =>
  qA suf (JI + 1) auD
noncomputable def vv (kU : (List (List za))) : Option (List za) :=
 (chk (kU.length ≤ 9223372036854775807) (qB kU (0 : Int) (0 : Int))).bind fun ahx =>
 (jH ahx).bind fun aqG =>
 (chk (kU.length ≤ 9223372036854775807) (qA kU (0 : Int) aqG)).bind fun Qg =>
 some Qg
noncomputable def y9 (n_1 : za) (Kh : Int) (aeC : Int) (l_4 : (List za)) : Option (za × Int) :=
 (yV n_1 Kh aeC).bind fun (r_5, r_6) =>
 if (r_6 == (2 : Int)) = true then
  some (({ Kind := ([] : Str), Text := ([] : Str), Marks := [], zh := [], Kids := [] } : za), (2 : Int))
 else
  (Kb l_4).bind fun ahn =>
  (yT ({ Kind := ([120] : Str), Text := ([] : Str), Marks := [], zh := [], Kids := ahn } : za)).bind fun akT =>
  if (akT == (2 : Int)) = true then
   some (({ Kind := ([] : Str), Text := ([] : Str), Marks := [], zh := [], Kids := [] } : za), (2 : Int))
  else
   if (r_6 != (0 : Int)) = true then
    some (({ Kind := ([] : Str), Text := ([] : Str), Marks := [], zh := [], Kids := [] } : za), r_6)
   else
    (yh r_5.in_.Kids r_5.from_).bind fun (r_9, J2, ac6) =>
    (yh r_5.in_.Kids r_5.to_).bind fun (aeF, aaz, agD) =>
    (vv [r_9, l_4, aaz]).bind fun apU =>
    (Kb apU).bind fun aqy =>
    (Ke n_1 r_5.path ({ r_5.in_ with Kids := aqy })).bind fun (aoo, ayH) =>
    (yT aoo).bind fun aem =>
    if (aem != (0 : Int)) = true then
     some (({ Kind := ([] : Str), Text := ([] : Str), Marks := [], zh := [], Kids := [] } : za), aem)
    else
     some (aoo, (0 : Int))
noncomputable def wZ (n_1 : za) (s_2 : zt) : Option (za × Int) :=
 (yu s_2).bind fun XW =>
 if (!XW) = true then
  some (({ Kind := ([] : Str), Text := ([] : Str), Marks := [], zh := [], Kids := [] } : za), (1 : Int))
 else
  if (n_1.Kind == ([116, 101, 120, 116] : Str)) = true then
   some (({ Kind := ([] : Str), Text := ([] : Str), Marks := [], zh := [], Kids := [] } : za), (2 : Int))
  else
   (yY n_1).bind fun X0 =>
   if (!X0) = true then
    some (({ Kind := ([] : Str), Text := ([] : Str), Marks := [], zh := [], Kids := [] } : za), (2 : Int))
   else
    if (s_2.Kind == (114 : Int)) = true then
     (y9 n_1 s_2.From s_2.To s_2.wO).bind fun (r_5, r_6) =>
     some (r_5, r_6)
    else
     if (s_2.Kind == (97 : Int)) = true then
      (xR n_1 s_2).bind fun (r_7, r_8, r_9) =>
      some (r_7, r_9)
     else
      (Qb n_1 s_2).bind fun (J2, ac6, aeF) =>
      some (J2, aeF)
noncomputable def yS : List zt → Int → za → Option ((za × Int) ⊕ za)
 | [], v_7, n_6 =>
  some (.inr n_6)
 | awS :: suf, v_7, n_6 =>
  (wZ n_6 awS).bind fun (aeF, aaz) =>
  if (aaz != (0 : Int)) = true then
   some (.inl (({ Kind := ([] : Str), Text := ([] : Str), Marks := [], zh := [], Kids := [] } : za), aaz))
  else
   yS suf (v_7 + 1) aeF
noncomputable def VY (n_1 : za) (l_2 : (List zt)) : Option (za × Int) :=
 (chk (l_2.length ≤ 9223372036854775807) (yS l_2 (0 : Int) n_1)).bind fun e => match e with
 | .inl J4 =>
  some J4
 | .inr amg =>
  some (amg, (0 : Int))
noncomputable def zR (k_2 : (List Int)) : Nat → Int → za → Option za
 | 0, _, _ => none
 | k + 1, acE, yz =>
  if (decide ((w64 (acE + (2 : Int))) < (k_2.length : Int))) = true then
   if (decide (acE < (9 : Int))) = true then
    (jq yz.Kids).bind fun KF =>
    (rd k_2 acE).bind fun ayl =>
    (zX ayl (w64 (KF + (1 : Int)))).bind fun QX =>
    (rd k_2 (w64 (acE + (1 : Int)))).bind fun atF =>
    (zX atF (4 : Int)).bind fun XC =>
    (rd k_2 (w64 (acE + (2 : Int)))).bind fun awU =>
    (vL [({ Text := (0 : Int), Marks := (0 : Int), zh := awU, In := (1 : Int) } : zu)]).bind fun atp =>
    ((
      (zX awU (4 : Int)).bind fun QY =>
      if (QY == (0 : Int)) = true then
       some ({ Kind := (97 : Int), From := QX, To := (0 : Int), wO := [], Name := ([97, 108, 105, 103, 110] : Str), Value := ([114, 105, 103, 104, 116] : Str) } : zt)
      else
       if (QY == (1 : Int)) = true then
        some ({ Kind := (109 : Int), From := QX, To := (if (w64 (QX + XC)) < KF then w64 (QX + XC) else KF), wO := [], Name := ([98] : Str), Value := ([] : Str) } : zt)
       else
        if (QY == (2 : Int)) = true then
         some ({ Kind := (114 : Int), From := QX, To := (if (w64 (QX + XC)) < KF then w64 (QX + XC) else KF), wO := [({ Kind := ([116, 101, 120, 116] : Str), Text := ([110, 101, 119] : Str), Marks := [], zh := [], Kids := [] } : za)], Name := ([] : Str), Value := ([] : Str) } : zt)
        else
         some ({ Kind := (114 : Int), From := QX, To := (if (w64 (QX + XC)) < KF then w64 (QX + XC) else KF), wO := atp.Kids, Name := ([] : Str), Value := ([] : Str) } : zt)) : Option zt).bind fun afv =>
    (wZ yz afv).bind fun (aoR, asy) =>
    if (asy == (0 : Int)) = true then
     zR k_2 k (w64 (acE + (3 : Int))) aoR
    else
     zR k_2 k (w64 (acE + (3 : Int))) yz
   else
    some yz
  else
   some yz
noncomputable def vT (n_1 : za) (k_2 : (List Int)) : Option za :=
 (lim fun k => zR k_2 k (0 : Int) n_1).bind fun alE =>
 some alE
noncomputable def jE (l_1 : (List zu)) (m_2 : (List zu)) (k_3 : (List Int)) : Option Bool :=
 (jV).bind fun al5 =>
 if (!al5) = true then
  some false
 else
  (vL l_1).bind fun abM =>
  (vL m_2).bind fun apK =>
  (vT abM k_3).bind fun adO =>
  (xI abM apK).bind fun (r_8, r_9) =>
  (xI abM adO).bind fun (J2, ac6) =>
  (xI abM abM).bind fun (aeF, aaz) =>
  if (r_9 != (0 : Int)) = true then
   some false
  else
   if (ac6 != (0 : Int)) = true then
    some false
   else
    if (aaz != (0 : Int)) = true then
     some false
    else
     if ((aeF.length : Int) != (0 : Int)) = true then
      some false
     else
      (VY abM r_8).bind fun (agD, awX) =>
      (VY abM J2).bind fun (axR, aoo) =>
      if (awX == (0 : Int)) = true then
       if (aoo == (0 : Int)) = true then
        (kZ agD apK).bind fun amb =>
        if (amb) = true then
         (kZ axR adO).bind fun amd =>
         if (amd) = true then
          (kZ abM apK).bind fun aly =>
          if (((((r_8.length : Int) == (0 : Int)) == aly) != false)) = true then
           (kZ abM adO).bind fun aqK =>
           some ((((J2.length : Int) == (0 : Int)) == aqK) != false)
          else
           some false
         else
          some false
        else
         some false
       else
        some false
      else
       some false
end Go.Proofs.YtclohbgnaopjfaaDoor
