/- Texts of the proof of diffLeastCard -/
import Derived.Test.YtclohbgnaopjfaaDoorAgT
import Derived.Test.YtclohbgnaopjfaaDoorAgWith
import Derived.Test.YtclohbgnaopjfaaDoorAgLib
namespace Go.Proofs.YtclohbgnaopjfaaDoor
set_option linter.unusedSimpArgs false
set_option linter.unusedVariables false
open Go
set_option maxRecDepth 100000
noncomputable def jw (n_1 : za) : Option Bool :=
 some (n_1.Kind == ([116, 101, 120, 116] : Str))
noncomputable def zL (s_1 : Str) : Nat → Int → Nat → Option Int
 | 0, _, _ => none
 | k + 1, n_2, v_3 =>
  if (decide (v_3 < s_1.length)) = true then
   zL s_1 k (w64 (n_2 + (1 : Int))) (v_3 + asR s_1 v_3)
  else
   some n_2
noncomputable def wB (s_1 : Str) : Option Int :=
 (lim fun k => zL s_1 k (0 : Int) 0).bind fun n_4 =>
 some n_4
noncomputable def jy (node_Size_r : za → Option Int) : List za → Int → Int → Option Int
 | [], v_5, Yy =>
  some Yy
 | y_8 :: suf, v_5, Yy =>
  (node_Size_r y_8).bind fun arN =>
  jy node_Size_r suf (v_5 + 1) (w64 (Yy + arN))
mutual
noncomputable def jq : Nat → za → Option Int
 | 0, _ => none
 | kr + 1, n_1 =>
  (jw n_1).bind fun yI =>
  if (yI) = true then
   (wB n_1.Text).bind fun alL =>
   some alL
  else
   ((xX kr) n_1.Kids).bind fun ao6 =>
   some (w64 ((2 : Int) + ao6))
noncomputable def xX : Nat → (List za) → Option Int
 | 0, _ => none
 | kr + 1, l_1 =>
  (chk (l_1.length ≤ 9223372036854775807) (jy (jq kr) l_1 (0 : Int) (0 : Int))).bind fun acE =>
  some acE
end
noncomputable def yL (n_1 : za) : Option Int := lim fun kr => jq kr n_1
noncomputable def je (l_1 : (List za)) : Option Int := lim fun kr => xX kr l_1
noncomputable def wJ (s : Str) : Option Bool :=
 chk (s.length ≤ 9223372036854775807) (some (Lib.validD s))
noncomputable def qU (kC : (List Str)) : List Str → Int → Option (Bool ⊕ Unit)
 | [], v_5 =>
  some (.inr ())
 | y_8 :: suf, v_5 =>
  (rd kC v_5).bind fun x_9 =>
  if (!(y_8 == x_9)) = true then
   some (.inl false)
  else
   qU kC suf (v_5 + 1)
noncomputable def slices_Equal_string (wT : (List Str)) (kC : (List Str)) : Option Bool :=
 if ((wT.length : Int) != (kC.length : Int)) = true then
  some false
 else
  (chk (wT.length ≤ 9223372036854775807) (qU kC wT (0 : Int))).bind fun e => match e with
  | .inl wS =>
   some wS
  | .inr _ =>
   some true
noncomputable def ZN (a_1 : za) (b_2 : za) : Option Bool :=
 (jw a_1).bind fun ahQ =>
 if (ahQ) = true then
  (jw b_2).bind fun agO =>
  if (agO) = true then
   (slices_Equal_string a_1.Marks b_2.Marks).bind fun amm =>
   some amm
  else
   some false
 else
  some false
noncomputable def KV (s : Str) (cutset : Str) : Option Str :=
 chk (s.length ≤ 9223372036854775807 ∧ cutset.length < 4294967281 ∧ cutset.all (fun b => decide (b.toNat < 128)) = true) (some (Lib.trimS s cutset))
noncomputable def yN (s_1 : Str) : Option Bool :=
 (KV s_1 ([97, 98, 99, 100, 101, 102, 103, 104, 105, 106, 107, 108, 109, 110, 111, 112, 113, 114, 115, 116, 117, 118, 119, 120, 121, 122] : Str)).bind fun ang =>
 if (ang == ([] : Str)) = true then
  if (!(s_1 == ([] : Str))) = true then
   if (decide ((s_1.length : Int) ≤ (8 : Int))) = true then
    some (!(s_1 == ([116, 101, 120, 116] : Str)))
   else
    some false
  else
   some false
 else
  some false
noncomputable def vH (l_1 : (List Str)) : List Str → Int → Option (Bool ⊕ Unit)
 | [], v_5 =>
  some (.inr ())
 | y_9 :: suf, v_5 =>
  (yN y_9).bind fun akM =>
  if (!akM) = true then
   some (.inl false)
  else
   if (decide (v_5 > (0 : Int))) = true then
    (rd l_1 (w64 (v_5 - (1 : Int)))).bind fun acx =>
    if ((Op.bytesLess y_9 acx || y_9 == acx)) = true then
     some (.inl false)
    else
     vH l_1 suf (v_5 + 1)
   else
    vH l_1 suf (v_5 + 1)
noncomputable def K7 (l_1 : (List Str)) : Option Bool :=
 (chk (l_1.length ≤ 9223372036854775807) (vH l_1 l_1 (0 : Int))).bind fun e => match e with
 | .inl agM =>
  some agM
 | .inr _ =>
  some true
noncomputable def Wz (s_1 : Str) : Option Bool :=
 if (decide ((s_1.length : Int) ≤ (40 : Int))) = true then
  (wJ s_1).bind fun alT =>
  some alT
 else
  some false
noncomputable def vN : List ze → Int → (List Str) → Option (Bool ⊕ (List Str))
 | [], v_8, KL =>
  some (.inr KL)
 | aul :: suf, v_8, KL =>
  (Wz aul.Value).bind fun agF =>
  if (!agF) = true then
   some (.inl false)
  else
   (app 16 KL [aul.Name]).bind fun afw =>
   vN suf (v_8 + 1) afw
noncomputable def kF (n_1 : za) (node_formed_r : za → Option Bool) : List za → Int → Option (Bool ⊕ Unit)
 | [], Y5 =>
  some (.inr ())
 | asU :: suf, Y5 =>
  (node_formed_r asU).bind fun aeo =>
  if (!aeo) = true then
   some (.inl false)
  else
   if (decide (Y5 > (0 : Int))) = true then
    (rd n_1.Kids (w64 (Y5 - (1 : Int)))).bind fun awd =>
    (ZN awd asU).bind fun agP =>
    if (agP) = true then
     some (.inl false)
    else
     kF n_1 node_formed_r suf (Y5 + 1)
   else
    kF n_1 node_formed_r suf (Y5 + 1)
noncomputable def kS : Nat → za → Option Bool
 | 0, _ => none
 | kr + 1, n_1 =>
  (jw n_1).bind fun yI =>
  if (yI) = true then
   if (!(n_1.Text == ([] : Str))) = true then
    (wJ n_1.Text).bind fun agT =>
    if (agT) = true then
     (K7 n_1.Marks).bind fun anW =>
     if (anW) = true then
      some ((w64 ((n_1.zh.length : Int) + (n_1.Kids.length : Int))) == (0 : Int))
     else
      some false
    else
     some false
   else
    some false
  else
   (chk (n_1.zh.length ≤ 9223372036854775807) (vN n_1.zh (0 : Int) ([] : List Str))).bind fun e => match e with
   | .inl agn =>
    some agn
   | .inr JI =>
    (yN n_1.Kind).bind fun akJ =>
    if (!akJ) = true then
     some false
    else
     if (!(n_1.Text == ([] : Str))) = true then
      some false
     else
      if (decide ((n_1.Marks.length : Int) > (0 : Int))) = true then
       some false
      else
       (K7 JI).bind fun ajQ =>
       if (!ajQ) = true then
        some false
       else
        (chk (n_1.Kids.length ≤ 9223372036854775807) (kF n_1 (kS kr) n_1.Kids (0 : Int))).bind fun e => match e with
        | .inl ahG =>
         some ahG
        | .inr _ =>
         some true
noncomputable def WS (n_1 : za) : Option Bool := lim fun kr => kS kr n_1
noncomputable def vL (node_Depth_r : za → Option Int) : List za → Int → Int → Option Int
 | [], v_6, yQ =>
  some yQ
 | y_9 :: suf, v_6, yQ =>
  (node_Depth_r y_9).bind fun ahB =>
  vL node_Depth_r suf (v_6 + 1) (if ahB > yQ then ahB else yQ)
noncomputable def vG : Nat → za → Option Int
 | 0, _ => none
 | kr + 1, n_1 =>
  (jw n_1).bind fun yI =>
  if (yI) = true then
   some (0 : Int)
  else
   (chk (n_1.Kids.length ≤ 9223372036854775807) (vL (vG kr) n_1.Kids (0 : Int) (0 : Int))).bind fun Vd =>
   some (w64 (Vd + (1 : Int)))
noncomputable def Vq (n_1 : za) : Option Int := lim fun kr => vG kr n_1
noncomputable def yz (n_1 : za) : Option Int :=
 (WS n_1).bind fun agR =>
 if (!agR) = true then
  some (2 : Int)
 else
  (Vq n_1).bind fun aks =>
  if (decide (aks > (40 : Int))) = true then
   some (4 : Int)
  else
   (yL n_1).bind fun anD =>
   if (decide (anD > (4000 : Int))) = true then
    some (5 : Int)
   else
    some (0 : Int)
noncomputable def yG (n_1 : za) : Option Bool :=
 (yz n_1).bind fun aoW =>
 some (aoW == (0 : Int))
noncomputable def KO (x_1 : ze) (y_2 : ze) : Option Bool :=
 some (x_1.Name == y_2.Name)
noncomputable def zJ (kC : (List ze)) : List ze → Int → Option (Bool ⊕ Unit)
 | [], v_6 =>
  some (.inr ())
 | anH :: suf, v_6 =>
  (rd kC v_6).bind fun acx =>
  (KO anH acx).bind fun ar0 =>
  if (!ar0) = true then
   some (.inl false)
  else
   zJ kC suf (v_6 + 1)
noncomputable def qV (wT : (List ze)) (kC : (List ze)) : Option Bool :=
 if ((wT.length : Int) != (kC.length : Int)) = true then
  some false
 else
  (chk (wT.length ≤ 9223372036854775807) (zJ kC wT (0 : Int))).bind fun e => match e with
  | .inl VA =>
   some VA
  | .inr _ =>
   some true
noncomputable def Wh (a_1 : za) (b_2 : za) : Option Bool :=
 if (a_1.Kind == b_2.Kind) = true then
  if (!(a_1.Kind == ([116, 101, 120, 116] : Str))) = true then
   (qV a_1.zh b_2.zh).bind fun attr_3 =>
   some attr_3
  else
   some false
 else
  some false
noncomputable def qA (kC : (List ze)) : List ze → Int → Option (Bool ⊕ Unit)
 | [], v_5 =>
  some (.inr ())
 | y_8 :: suf, v_5 =>
  (rd kC v_5).bind fun x_9 =>
  if ((((y_8.Name == x_9.Name) && (y_8.Value == x_9.Value)) != true)) = true then
   some (.inl false)
  else
   qA kC suf (v_5 + 1)
noncomputable def vw (wT : (List ze)) (kC : (List ze)) : Option Bool :=
 if ((wT.length : Int) != (kC.length : Int)) = true then
  some false
 else
  (chk (wT.length ≤ 9223372036854775807) (qA kC wT (0 : Int))).bind fun e => match e with
  | .inl wS =>
   some wS
  | .inr _ =>
   some true
noncomputable def zP (kC : (List za)) (node_Same_r : za → za → Option Bool) : List za → Int → Option (Bool ⊕ Unit)
 | [], v_6 =>
  some (.inr ())
 | anH :: suf, v_6 =>
  (rd kC v_6).bind fun acx =>
  (node_Same_r anH acx).bind fun aki =>
  if (!aki) = true then
   some (.inl false)
  else
   zP kC node_Same_r suf (v_6 + 1)
mutual
noncomputable def qg : Nat → (List za) → (List za) → Option Bool
 | 0, _, _ => none
 | kr + 1, wT, kC =>
  if ((wT.length : Int) != (kC.length : Int)) = true then
   some false
  else
   (chk (wT.length ≤ 9223372036854775807) (zP kC (jY kr) wT (0 : Int))).bind fun e => match e with
   | .inl VA =>
    some VA
   | .inr _ =>
    some true
noncomputable def jY : Nat → za → za → Option Bool
 | 0, _, _ => none
 | kr + 1, a_1, b_2 =>
  if (a_1.Kind == b_2.Kind) = true then
   if (a_1.Text == b_2.Text) = true then
    (slices_Equal_string a_1.Marks b_2.Marks).bind fun ag0 =>
    if (ag0) = true then
     (vw a_1.zh b_2.zh).bind fun anY =>
     if (anY) = true then
      ((qg kr) a_1.Kids b_2.Kids).bind fun asG =>
      some asG
     else
      some false
    else
     some false
   else
    some false
  else
   some false
end
noncomputable def Qe (a_1 : za) (b_2 : za) : Option Bool := lim fun kr => jY kr a_1 b_2
noncomputable def qi (xU : (List ze)) (Ws : Int) : List ze → Int → (List zx) → Option (List zx)
 | [], VH, ab9 =>
  some ab9
 | anz :: suf, VH, ab9 =>
  if (decide (VH < (xU.length : Int))) = true then
   (rd xU VH).bind fun ata =>
   if (!(ata.Value == anz.Value)) = true then
    (app 80 ab9 [({ Kind := (97 : Int), From := w64 (Ws - (1 : Int)), To := (0 : Int), kG := [], Name := anz.Name, Value := ata.Value } : zx)]).bind fun asQ =>
    qi xU Ws suf (VH + 1) asQ
   else
    qi xU Ws suf (VH + 1) ab9
  else
   qi xU Ws suf (VH + 1) ab9
noncomputable def jE (ad5 : Str) (adY : Str) (Y7 : (List Str)) (yl : (List ze)) (adW : (List za)) (aeC : Str) (aeh : Str) (aam : (List Str)) (xU : (List ze)) (Y8 : (List za)) (Ws : Int) (aab : Int) (apB : Int) (XT : Int) (afw : (List Int)) (arc : (List zx)) : Option (Str × Str × (List Str) × (List ze) × (List za) × Str × Str × (List Str) × (List ze) × (List za) × Int × Int × Int × Int × (List Int) × (List zx)) :=
 (chk (yl.length ≤ 9223372036854775807) (qi xU Ws yl (0 : Int) arc)).bind fun ap8 =>
 some (ad5, adY, Y7, yl, adW, aeC, aeh, aam, xU, Y8, Ws, aab, apB, XT, afw, ap8)
noncomputable def xm (qx : (List za)) (qB : (List za)) : Nat → Int → Option Int
 | 0, _ => none
 | k + 1, afA =>
  if (decide (afA < (if (qB.length : Int) < (qx.length : Int) then (qB.length : Int) else (qx.length : Int)))) = true then
   (rd qx afA).bind fun awM =>
   (rd qB afA).bind fun awg =>
   (Qe awM awg).bind fun akW =>
   if (akW) = true then
    xm qx qB k (w64 (afA + (1 : Int)))
   else
    some afA
  else
   some afA
noncomputable def xW (qx : (List za)) (qB : (List za)) (ZH : Int) : Nat → Int → Option Int
 | 0, _ => none
 | k + 1, ZL =>
  if (decide (ZL < (w64 ((if (qB.length : Int) < (qx.length : Int) then (qB.length : Int) else (qx.length : Int)) - ZH)))) = true then
   (rd qx (w64 ((w64 ((qx.length : Int) - (1 : Int))) - ZL))).bind fun avT =>
   (rd qB (w64 ((w64 ((qB.length : Int) - (1 : Int))) - ZL))).bind fun av5 =>
   (Qe avT av5).bind fun akd =>
   if (akd) = true then
    xW qx qB ZH k (w64 (ZL + (1 : Int)))
   else
    some ZL
  else
   some ZL
noncomputable def yH : Nat → Str → Str → (List Str) → (List ze) → (List za) → Str → Str → (List Str) → (List ze) → (List za) → Int → Int → Int → Int → (List Int) → (List zx) → Option ((List za) × (List za) × Str × Str × (List Str) × (List ze) × Str × Str × (List Str) × (List ze) × Int × Int × Int × Int × (List Int) × (List zx))
 | 0, _, _, _, _, _, _, _, _, _, _, _, _, _, _, _, _ => none
 | k + 1, aqy, apm, apl, apJ, apZ, aps, apF, apV, ap7, ap1, apz, apC, ap4, aqw, alU, am4 =>
  (jE aqy apm apl apJ apZ aps apF apV ap7 ap1 apz apC ap4 aqw alU am4).bind fun (VX, V4, WL, WV, qx, VZ, VS, Kb, WX, qB, Xn, as4, asS, arB, ac1, Yf) =>
  chk (alU.length = ac1.length) (
   (lim fun k => xm qx qB k (0 : Int)).bind fun ZH =>
   (lim fun k => xW qx qB ZH k (0 : Int)).bind fun xy =>
   if ((w64 ((w64 ((qx.length : Int) - ZH)) - xy)) != (1 : Int)) = true then
    some (qx, qB, VX, V4, WL, WV, VZ, VS, Kb, WX, Xn, ZH, w64 ((w64 ((qx.length : Int) - ZH)) - xy), w64 ((w64 ((qB.length : Int) - ZH)) - xy), ac1, Yf)
   else
    if ((w64 ((w64 ((qB.length : Int) - ZH)) - xy)) != (1 : Int)) = true then
     some (qx, qB, VX, V4, WL, WV, VZ, VS, Kb, WX, Xn, ZH, w64 ((w64 ((qx.length : Int) - ZH)) - xy), w64 ((w64 ((qB.length : Int) - ZH)) - xy), ac1, Yf)
    else
     (rd qx ZH).bind fun anF =>
     (rd qB ZH).bind fun anP =>
     (Wh anF anP).bind fun af0 =>
     if (!af0) = true then
      some (qx, qB, VX, V4, WL, WV, VZ, VS, Kb, WX, Xn, ZH, w64 ((w64 ((qx.length : Int) - ZH)) - xy), w64 ((w64 ((qB.length : Int) - ZH)) - xy), ac1, Yf)
     else
      (app 8 ac1 [ZH]).bind fun av0 =>
      (sl qx (0 : Int) ZH).bind fun awu =>
      (je awu).bind fun al0 =>
      yH k anF.Kind anF.Text anF.Marks anF.zh anF.Kids anP.Kind anP.Text anP.Marks anP.zh anP.Kids (w64 (Xn + (w64 (al0 + (1 : Int))))) ZH (w64 ((w64 ((qx.length : Int) - ZH)) - xy)) (w64 ((w64 ((qB.length : Int) - ZH)) - xy)) av0 Yf)
noncomputable def acX (a_1 : za) (b_2 : za) : Option vT :=
 (lim fun k => yH k a_1.Kind a_1.Text a_1.Marks a_1.zh a_1.Kids b_2.Kind b_2.Text b_2.Marks b_2.zh b_2.Kids (0 : Int) (0 : Int) (0 : Int) (0 : Int) ([] : List Int) ([] : List zx)).bind fun (an8, agi, ait, aiG, ajt, ajh, aje, aiL, ai1, aiV, ajv, ai6, ai5, ajn, agy, aiJ) =>
 some ({ a := ({ Kind := ait, Text := aiG, Marks := ajt, zh := ajh, Kids := an8 } : za), b := ({ Kind := aje, Text := aiL, Marks := ai1, zh := aiV, Kids := agi } : za), path := agy, at_ := ajv, head := ai6, m := ai5, n := ajn, attrs := aiJ } : vT)
noncomputable def slices_Clone_string (l : (List Str)) : Option (List Str) :=
 app 16 [] l
noncomputable def wO (l : (List ze)) : Option (List ze) :=
 app 32 [] l
noncomputable def qh (l : (List za)) : Option (List za) :=
 app 104 [] l
noncomputable def jZ (jl : (List za)) (node_Copy_r : za → Option za) : Nat → Int → (List za) → Option (List za)
 | 0, _, _ => none
 | k + 1, v_8, v_9 =>
  if (decide (v_8 < (jl.length : Int))) = true then
   (rd v_9 v_8).bind fun adZ =>
   (node_Copy_r adZ).bind fun aoJ =>
   (wr v_9 v_8 aoJ).bind fun agt =>
   jZ jl node_Copy_r k (w64 (v_8 + (1 : Int))) agt
  else
   some v_9
noncomputable def xc : Nat → za → Option za
 | 0, _ => none
 | kr + 1, n_1 =>
  (slices_Clone_string n_1.Marks).bind fun acD =>
  (wO n_1.zh).bind fun attr_3 =>
  (qh n_1.Kids).bind fun jl =>
  (lim fun k => jZ jl (xc kr) k (0 : Int) jl).bind fun aao =>
  some ({ Kind := n_1.Kind, Text := n_1.Text, Marks := acD, zh := attr_3, Kids := aao } : za)
noncomputable def JO (n_1 : za) : Option za := lim fun kr => xc kr n_1
noncomputable def xQ (a_1 : za) (b_2 : za) : Option ((List zx) × Int) :=
 (yG a_1).bind fun Xf =>
 if (!Xf) = true then
  some ([], (1 : Int))
 else
  (yG b_2).bind fun XF =>
  if (!XF) = true then
   some ([], (1 : Int))
  else
   (Wh a_1 b_2).bind fun akP =>
   if (!akP) = true then
    some ([], (1 : Int))
   else
    (acX a_1 b_2).bind fun Xj =>
    if ((w64 (Xj.m + Xj.n)) == (0 : Int)) = true then
     some (Xj.attrs, (0 : Int))
    else
     (sl Xj.a.Kids (0 : Int) Xj.head).bind fun s_7 =>
     (je s_7).bind fun akE =>
     (sl Xj.a.Kids Xj.head (w64 (Xj.head + Xj.m))).bind fun s_9 =>
     (je s_9).bind fun amJ =>
     (sl Xj.b.Kids Xj.head (w64 (Xj.head + Xj.n))).bind fun aws =>
     (JO ({ Kind := ([] : Str), Text := ([] : Str), Marks := [], zh := [], Kids := aws } : za)).bind fun aoY =>
     (app 80 Xj.attrs [({ Kind := (114 : Int), From := w64 (Xj.at_ + akE), To := w64 ((w64 (Xj.at_ + akE)) + amJ), kG := aoY.Kids, Name := ([] : Str), Value := ([] : Str) } : zx)]).bind fun aqN =>
     some (aqN, (0 : Int))
noncomputable def jF : Option Bool :=
 (xQ ({ Kind := ([100, 111, 99] : Str), Text := ([] : Str), Marks := [], zh := [], Kids := [({ Kind := ([112] : Str), Text := ([] : Str), Marks := [], zh := [], Kids := [({ Kind := ([116, 101, 120, 116] : Str), Text := ([104, 105] : Str), Marks := [], zh := [], Kids := [] } : za)] } : za), ({ Kind := ([113] : Str), Text := ([] : Str), Marks := [], zh := [], Kids := [] } : za)] } : za) ({ Kind := ([100, 111, 99] : Str), Text := ([] : Str), Marks := [], zh := [], Kids := [({ Kind := ([112] : Str), Text := ([] : Str), Marks := [], zh := [], Kids := [({ Kind := ([116, 101, 120, 116] : Str), Text := ([104, 111] : Str), Marks := [], zh := [], Kids := [] } : za)] } : za), ({ Kind := ([113] : Str), Text := ([] : Str), Marks := [], zh := [], Kids := [] } : za)] } : za)).bind fun (r_1, r_2) =>
 if (r_2 == (0 : Int)) = true then
  if ((r_1.length : Int) == (1 : Int)) = true then
   (rd r_1 (0 : Int)).bind fun x_3 =>
   if (x_3.Kind == (114 : Int)) = true then
    if (x_3.From == (1 : Int)) = true then
     if (x_3.To == (3 : Int)) = true then
      if ((x_3.kG.length : Int) == (1 : Int)) = true then
       (rd x_3.kG (0 : Int)).bind fun x_4 =>
       some (x_4.Text == ([104, 111] : Str))
      else
       some false
     else
      some false
    else
     some false
   else
    some false
  else
   some false
 else
  some false
noncomputable def zZ (c_1 : Int) (n_2 : Int) : Option Int :=
 if (decide (c_1 < (0 : Int))) = true then
  chk (n_2 ≠ 0) (
   some ((w64 (0 - (w64 (c_1 + (1 : Int))))).tmod n_2))
 else
  chk (n_2 ≠ 0) (
   some (c_1.tmod n_2))
noncomputable def qz (b_2 : (List Str)) : List Str → Int → Option (Bool ⊕ Unit)
 | [], i_5 =>
  some (.inr ())
 | y_8 :: suf, i_5 =>
  (rd b_2 i_5).bind fun x_9 =>
  if (!(y_8 == x_9)) = true then
   some (.inl false)
  else
   qz b_2 suf (i_5 + 1)
noncomputable def vz (a_1 : (List Str)) (b_2 : (List Str)) : Option Bool :=
 if ((a_1.length : Int) != (b_2.length : Int)) = true then
  some false
 else
  (chk (a_1.length ≤ 9223372036854775807) (qz b_2 a_1 (0 : Int))).bind fun e => match e with
  | .inl wS =>
   some wS
  | .inr _ =>
   some true
noncomputable def zY : List za → Int → (List za) → Option (List za)
 | [], Jv, jd =>
  some jd
 | Zr :: suf, Jv, jd =>
  ((
    if (Zr.Kind == ([116, 101, 120, 116] : Str)) = true then
     if (Zr.Text == ([] : Str)) = true then
      some (.inl ())
     else
      some (.inr ())
    else
     some (.inr ())) : Option (Unit ⊕ Unit)).bind fun e => match e with
  | .inl _ =>
   zY suf (Jv + 1) jd
  | .inr _ =>
   if (Zr.Kind == ([116, 101, 120, 116] : Str)) = true then
    if (decide ((w64 ((jd.length : Int) - (1 : Int))) ≥ (0 : Int))) = true then
     (rd jd (w64 ((jd.length : Int) - (1 : Int)))).bind fun apw =>
     if (apw.Kind == ([116, 101, 120, 116] : Str)) = true then
      (vz apw.Marks Zr.Marks).bind fun aeB =>
      if (aeB) = true then
       chk (apw.Text.length + Zr.Text.length ≤ 9223372036854775807) (
        (sl jd (0 : Int) (w64 ((jd.length : Int) - (1 : Int)))).bind fun avJ =>
        (app 104 ([] : List za) avJ).bind fun av9 =>
        (app 104 av9 [{ Zr with Text := apw.Text ++ Zr.Text }]).bind fun arM =>
        zY suf (Jv + 1) arM)
      else
       (app 104 jd [Zr]).bind fun asY =>
       zY suf (Jv + 1) asY
     else
      (app 104 jd [Zr]).bind fun asa =>
      zY suf (Jv + 1) asa
    else
     (app 104 jd [Zr]).bind fun arH =>
     zY suf (Jv + 1) arH
   else
    (app 104 jd [Zr]).bind fun avC =>
    zY suf (Jv + 1) avC
noncomputable def xA (l_1 : (List za)) : Option (List za) :=
 (chk (l_1.length ≤ 9223372036854775807) (zY l_1 (0 : Int) ([] : List za))).bind fun aez =>
 some aez
noncomputable def jb (x_1 : zu) (afR : (List za)) : Option za :=
 (zZ x_1.zh (2 : Int)).bind fun arf =>
 (rd [([108, 101, 102, 116] : Str), ([114, 105, 103, 104, 116] : Str)] arf).bind fun x_4 =>
 (zZ (w64 (x_1.zh.tdiv (2 : Int))) (4 : Int)).bind fun ar5 =>
 (rd [([] : Str), ([195, 169] : Str), ([34, 113, 92] : Str), ([110, 111, 116, 101] : Str)] ar5).bind fun x_6 =>
 (xA afR).bind fun ag3 =>
 some ({ Kind := ([112, 97, 114, 97] : Str), Text := ([] : Str), Marks := [], zh := [({ Name := ([97, 108, 105, 103, 110] : Str), Value := x_4 } : ze), ({ Name := ([110, 111, 116, 101] : Str), Value := x_6 } : ze)], Kids := ag3 } : za)
noncomputable def qR (diptychref1_Depth_r : za → Option Int) : List za → Int → Int → Option Int
 | [], i_5, d_4 =>
  some d_4
 | y_8 :: suf, i_5, d_4 =>
  (diptychref1_Depth_r y_8).bind fun ajD =>
  qR diptychref1_Depth_r suf (i_5 + 1) (if ajD > d_4 then ajD else d_4)
noncomputable def qJ : Nat → za → Option Int
 | 0, _ => none
 | kr + 1, n_1 =>
  if (n_1.Kind == ([116, 101, 120, 116] : Str)) = true then
   some (0 : Int)
  else
   (chk (n_1.Kids.length ≤ 9223372036854775807) (qR (qJ kr) n_1.Kids (0 : Int) (0 : Int))).bind fun aqZ =>
   some (w64 (aqZ + (1 : Int)))
noncomputable def ja (n_1 : za) : Option Int := lim fun kr => qJ kr n_1
noncomputable def zF : List zu → Int → (List za) → (List za) → Option (List za)
 | [], Wi, yf, Zg =>
  some Zg
 | adS :: suf, Wi, yf, Zg =>
  if (decide (Wi < (40 : Int))) = true then
   (zZ adS.Text (5 : Int)).bind fun aom =>
   (rd [([97] : Str), ([98, 99] : Str), ([195, 169] : Str), ([120, 32, 121] : Str), ([230, 151, 165, 230, 156, 172] : Str)] aom).bind fun atf =>
   ((
     (zZ adS.Marks (4 : Int)).bind fun abZ =>
     if ((aiw abZ (1 : Int)) == (1 : Int)) = true then
      (app 16 ([] : List Str) [([98] : Str)]).bind fun am1 =>
      some am1
     else
      some ([] : List Str)) : Option (List Str)).bind fun am0 =>
   ((
     (zZ adS.Marks (4 : Int)).bind fun acC =>
     if ((aiw acC (2 : Int)) == (2 : Int)) = true then
      (app 16 am0 [([105] : Str)]).bind fun atU =>
      some atU
     else
      some am0) : Option (List Str)).bind fun aqf =>
   (app 104 yf [({ Kind := ([116, 101, 120, 116] : Str), Text := atf, Marks := aqf, zh := [], Kids := [] } : za)]).bind fun Yf =>
   (zZ adS.In (5 : Int)).bind fun Xp =>
   if (Xp == (0 : Int)) = true then
    zF suf (Wi + 1) Yf Zg
   else
    (jb adS Yf).bind fun xx =>
    if (decide (Xp < (3 : Int))) = true then
     (app 104 Zg [xx]).bind fun atd =>
     zF suf (Wi + 1) ([] : List za) atd
    else
     ((
       if (decide ((w64 ((Zg.length : Int) - (1 : Int))) ≥ (0 : Int))) = true then
        (rd Zg (w64 ((Zg.length : Int) - (1 : Int)))).bind fun ajX =>
        if (ajX.Kind == ([108, 105, 115, 116] : Str)) = true then
         if (Xp == (3 : Int)) = true then
          (app 104 ([] : List za) ajX.Kids).bind fun am5 =>
          (app 104 am5 [({ Kind := ([105, 116, 101, 109] : Str), Text := ([] : Str), Marks := [], zh := [], Kids := [xx] } : za)]).bind fun ati =>
          (sl Zg (0 : Int) (w64 ((Zg.length : Int) - (1 : Int)))).bind fun aue =>
          (app 104 ([] : List za) aue).bind fun atq =>
          (app 104 atq [{ ajX with Kids := ati }]).bind fun atn =>
          some (.inl atn)
         else
          some (.inr ())
        else
         some (.inr ())
       else
        some (.inr ())) : Option ((List za) ⊕ Unit)).bind fun e => match e with
     | .inl alf =>
      zF suf (Wi + 1) ([] : List za) alf
     | .inr _ =>
      if (decide ((w64 ((Zg.length : Int) - (1 : Int))) ≥ (0 : Int))) = true then
       (rd Zg (w64 ((Zg.length : Int) - (1 : Int)))).bind fun akR =>
       if (akR.Kind == ([108, 105, 115, 116] : Str)) = true then
        (ja akR).bind fun YF =>
        if (decide (YF < (30 : Int))) = true then
         (app 104 [xx] [akR]).bind fun atG =>
         (sl Zg (0 : Int) (w64 ((Zg.length : Int) - (1 : Int)))).bind fun at1 =>
         (app 104 ([] : List za) at1).bind fun aum =>
         (app 104 aum [({ Kind := ([108, 105, 115, 116] : Str), Text := ([] : Str), Marks := [], zh := [], Kids := [({ Kind := ([105, 116, 101, 109] : Str), Text := ([] : Str), Marks := [], zh := [], Kids := atG } : za)] } : za)]).bind fun atv =>
         zF suf (Wi + 1) ([] : List za) atv
        else
         (app 104 Zg [({ Kind := ([108, 105, 115, 116] : Str), Text := ([] : Str), Marks := [], zh := [], Kids := [({ Kind := ([105, 116, 101, 109] : Str), Text := ([] : Str), Marks := [], zh := [], Kids := [xx] } : za)] } : za)]).bind fun aui =>
         zF suf (Wi + 1) ([] : List za) aui
       else
        (app 104 Zg [({ Kind := ([108, 105, 115, 116] : Str), Text := ([] : Str), Marks := [], zh := [], Kids := [({ Kind := ([105, 116, 101, 109] : Str), Text := ([] : Str), Marks := [], zh := [], Kids := [xx] } : za)] } : za)]).bind fun atI =>
        zF suf (Wi + 1) ([] : List za) atI
      else
       (app 104 Zg [({ Kind := ([108, 105, 115, 116] : Str), Text := ([] : Str), Marks := [], zh := [], Kids := [({ Kind := ([105, 116, 101, 109] : Str), Text := ([] : Str), Marks := [], zh := [], Kids := [xx] } : za)] } : za)]).bind fun aua =>
       zF suf (Wi + 1) ([] : List za) aua
  else
   some Zg
noncomputable def xH (l_1 : (List zu)) : Option za :=
 (chk (l_1.length ≤ 9223372036854775807) (zF l_1 (0 : Int) ([] : List za) ([] : List za))).bind fun aqn =>
 some ({ Kind := ([100, 111, 99] : Str), Text := ([] : Str), Marks := [], zh := [], Kids := aqn } : za)
noncomputable def slices_Clone_int (l : (List Int)) : Option (List Int) :=
 app 8 [] l
noncomputable def qF : List Int → Int → za → Option ((za × Int) ⊕ za)
 | [], v_6, n_5 =>
  some (.inr n_5)
 | y_9 :: suf, v_6, n_5 =>
  if (decide (y_9 < (0 : Int))) = true then
   some (.inl (({ Kind := ([] : Str), Text := ([] : Str), Marks := [], zh := [], Kids := [] } : za), (9 : Int)))
  else
   if (decide (y_9 ≥ (n_5.Kids.length : Int))) = true then
    some (.inl (({ Kind := ([] : Str), Text := ([] : Str), Marks := [], zh := [], Kids := [] } : za), (9 : Int)))
   else
    if (n_5.Kind == ([116, 101, 120, 116] : Str)) = true then
     some (.inl (({ Kind := ([] : Str), Text := ([] : Str), Marks := [], zh := [], Kids := [] } : za), (9 : Int)))
    else
     (rd n_5.Kids y_9).bind fun adZ =>
     qF suf (v_6 + 1) adZ
noncomputable def kY (n_1 : za) (wu : (List Int)) : Option (za × Int) :=
 (chk (wu.length ≤ 9223372036854775807) (qF wu (0 : Int) n_1)).bind fun e => match e with
 | .inl Jl =>
  some Jl
 | .inr XT =>
  if (XT.Kind == ([116, 101, 120, 116] : Str)) = true then
   some (({ Kind := ([] : Str), Text := ([] : Str), Marks := [], zh := [], Kids := [] } : za), (9 : Int))
  else
   some (XT, (0 : Int))
noncomputable def qa (XW : (List Int)) : List za → Int → Int → Option ((wo × Int) ⊕ ((Int × za × (List Int)) ⊕ Unit))
 | [], abG, Wv =>
  some (.inr (.inr ()))
 | api :: suf, abG, Wv =>
  (yL api).bind fun afW =>
  if (decide (Wv ≥ afW)) = true then
   qa XW suf (abG + 1) (w64 (Wv - afW))
  else
   if (api.Kind == ([116, 101, 120, 116] : Str)) = true then
    some (.inl (({ Path := XW, Index := abG, Offset := Wv } : wo), (0 : Int)))
   else
    if (Wv == (0 : Int)) = true then
     some (.inl (({ Path := XW, Index := abG, Offset := (0 : Int) } : wo), (0 : Int)))
    else
     (app 8 XW [abG]).bind fun arH =>
     some (.inr (.inl (w64 (Wv - (1 : Int)), api, arH)))
noncomputable def wY : Nat → Int → za → (List Int) → Option (wo × Int)
 | 0, _, _, _ => none
 | k + 1, aeK, QR, XW =>
  (chk (QR.Kids.length ≤ 9223372036854775807) (qa XW QR.Kids (0 : Int) aeK)).bind fun e => match e with
  | .inl YB =>
   some YB
  | .inr (.inl (ahw, akf, Yz)) =>
   wY k ahw akf Yz
  | .inr (.inr _) =>
   some (({ Path := XW, Index := (QR.Kids.length : Int), Offset := (0 : Int) } : wo), (0 : Int))
noncomputable def kT (n_1 : za) (Vw : Int) : Option (wo × Int) :=
 if (n_1.Kind == ([116, 101, 120, 116] : Str)) = true then
  some (({ Path := [], Index := (0 : Int), Offset := (0 : Int) } : wo), (3 : Int))
 else
  if (decide (Vw < (0 : Int))) = true then
   some (({ Path := [], Index := (0 : Int), Offset := (0 : Int) } : wo), (3 : Int))
  else
   (je n_1.Kids).bind fun QA =>
   if (decide (Vw > QA)) = true then
    some (({ Path := [], Index := (0 : Int), Offset := (0 : Int) } : wo), (3 : Int))
   else
    (lim fun k => wY k Vw n_1 ([] : List Int)).bind fun Yu =>
    some Yu
noncomputable def yJ (n_1 : za) (Vw : Int) : Option ((List Int) × Bool) :=
 if (Vw == (-1 : Int)) = true then
  some ([], true)
 else
  (kT n_1 Vw).bind fun (r_3, r_4) =>
  if (r_4 != (0 : Int)) = true then
   some ([], false)
  else
   if (decide (r_3.Offset > (0 : Int))) = true then
    some ([], false)
   else
    (slices_Clone_int r_3.Path).bind fun auB =>
    (app 8 auB [r_3.Index]).bind fun l_6 =>
    (kY n_1 l_6).bind fun (r_7, r_8) =>
    some (l_6, r_8 == (0 : Int))
noncomputable def KY (a_1 : ze) (qW : zx) : Option Bool :=
 some (a_1.Name == qW.Name)
noncomputable def zV (qW : zx) : List ze → Int → Option ((Int × zx) ⊕ Unit)
 | [], v_5 =>
  some (.inr ())
 | y_8 :: suf, v_5 =>
  (KY y_8 qW).bind fun ave =>
  if (ave) = true then
   some (.inl (v_5, qW))
  else
   zV qW suf (v_5 + 1)
noncomputable def qY (s_1 : (List ze)) (qW : zx) : Option (Int × zx) :=
 (chk (s_1.length ≤ 9223372036854775807) (zV qW s_1 (0 : Int))).bind fun e => match e with
 | .inl wS =>
  some wS
 | .inr _ =>
  some ((-1 : Int), qW)
noncomputable def jS : Nat → za → (List Int) → za → Option (za × Int)
 | 0, _, _, _ => none
 | kr + 1, n_1, wu, m_3 =>
  (kY n_1 wu).bind fun (r_4, r_5) =>
  if (r_5 != (0 : Int)) = true then
   some (({ Kind := ([] : Str), Text := ([] : Str), Marks := [], zh := [], Kids := [] } : za), r_5)
  else
   if ((wu.length : Int) == (0 : Int)) = true then
    some (m_3, (0 : Int))
   else
    (qh n_1.Kids).bind fun aog =>
    (rd wu (0 : Int)).bind fun x_7 =>
    (rd aog x_7).bind fun x_8 =>
    (sl wu (1 : Int) (wu.length : Int)).bind fun s_9 =>
    ((jS kr) x_8 s_9 m_3).bind fun (KP, adz) =>
    (wr aog x_7 KP).bind fun agt =>
    some ({ n_1 with Kids := agt }, (0 : Int))
noncomputable def Wp (n_1 : za) (wu : (List Int)) (m_3 : za) : Option (za × Int) := lim fun kr => jS kr n_1 wu m_3
noncomputable def yF (n_1 : za) (s_2 : zx) : Option (za × Str × Int) :=
 (yJ n_1 s_2.From).bind fun (r_3, r_4) =>
 if (!r_4) = true then
  some (({ Kind := ([] : Str), Text := ([] : Str), Marks := [], zh := [], Kids := [] } : za), ([] : Str), (3 : Int))
 else
  (kY n_1 r_3).bind fun (r_5, r_6) =>
  (qY r_5.zh s_2).bind fun (r_7, ar2) =>
  if (decide (r_7 < (0 : Int))) = true then
   some (({ Kind := ([] : Str), Text := ([] : Str), Marks := [], zh := [], Kids := [] } : za), ([] : Str), (9 : Int))
  else
   (rd r_5.zh r_7).bind fun x_9 =>
   (wO r_5.zh).bind fun ajF =>
   (rd ajF r_7).bind fun acx =>
   (wr ajF r_7 ({ acx with Value := ar2.Value })).bind fun agt =>
   (Wp n_1 r_3 ({ r_5 with zh := agt })).bind fun (afE, ab8) =>
   some (afE, x_9.Value, ab8)
noncomputable def VF (s : zx) (marks : (List Str)) : Option ((List Str) × Bool) :=
 chk (marks.length ≤ 1099511627776) (some (abj s.Kind s.Name marks))
noncomputable def Zd (Jf : Int) (aqh : Int) (vU : Int) (zz : Int) (jJ : Int) (kv : (List za)) (vO : Str) (ky : Str) (l_9 : (List zD)) : Option (Int × Int × Int × (List za) × Str × Str × (List zD)) :=
 if (decide ((w64 ((l_9.length : Int) - (1 : Int))) ≥ (0 : Int))) = true then
  (rd l_9 (w64 ((l_9.length : Int) - (1 : Int)))).bind fun adZ =>
  if ((w64 (adZ.Pos + adZ.Old)) == Jf) = true then
   (wr l_9 (w64 ((l_9.length : Int) - (1 : Int))) ({ adZ with Old := w64 (adZ.Old + (w64 (aqh - Jf))) })).bind fun art =>
   some (vU, zz, jJ, kv, vO, ky, art)
  else
   (app 24 l_9 [({ Pos := Jf, Old := w64 (aqh - Jf), New := (0 : Int) } : zD)]).bind fun agt =>
   some (vU, zz, jJ, kv, vO, ky, agt)
 else
  (app 24 l_9 [({ Pos := Jf, Old := w64 (aqh - Jf), New := (0 : Int) } : zD)]).bind fun aqN =>
  some (vU, zz, jJ, kv, vO, ky, aqN)
noncomputable def vv (a_1 : Int) (b_2 : Int) (afN : (List Str)) (jl : za) (v_5 : (List Int)) : Option za :=
 (sl v_5 a_1 b_2).bind fun s_6 =>
 some ({ Kind := jl.Kind, Text := zN s_6, Marks := afN, zh := [], Kids := [] } : za)
noncomputable def Ze (n_1 : za) (zO : Int) (vU : Int) (zz : Int) (jJ : Int) (kv : (List za)) (vO : Str) (ky : Str) (l_9 : (List zD)) : Option ((List za) × Int × Int × Int × (List za) × Str × Str × (List zD)) :=
 (VF ({ Kind := vU, From := zz, To := jJ, kG := kv, Name := vO, Value := ky } : zx) n_1.Marks).bind fun (KP, adz) =>
 if (!adz) = true then
  some ([n_1], vU, zz, jJ, kv, vO, ky, l_9)
 else
  if ((if ((runes n_1.Text).length : Int) < (if (0 : Int) > (w64 (zz - zO)) then (0 : Int) else w64 (zz - zO)) then ((runes n_1.Text).length : Int) else (if (0 : Int) > (w64 (zz - zO)) then (0 : Int) else w64 (zz - zO))) == (if ((runes n_1.Text).length : Int) < (if (if ((runes n_1.Text).length : Int) < (if (0 : Int) > (w64 (zz - zO)) then (0 : Int) else w64 (zz - zO)) then ((runes n_1.Text).length : Int) else (if (0 : Int) > (w64 (zz - zO)) then (0 : Int) else w64 (zz - zO))) > (w64 (jJ - zO)) then (if ((runes n_1.Text).length : Int) < (if (0 : Int) > (w64 (zz - zO)) then (0 : Int) else w64 (zz - zO)) then ((runes n_1.Text).length : Int) else (if (0 : Int) > (w64 (zz - zO)) then (0 : Int) else w64 (zz - zO))) else w64 (jJ - zO)) then ((runes n_1.Text).length : Int) else (if (if ((runes n_1.Text).length : Int) < (if (0 : Int) > (w64 (zz - zO)) then (0 : Int) else w64 (zz - zO)) then ((runes n_1.Text).length : Int) else (if (0 : Int) > (w64 (zz - zO)) then (0 : Int) else w64 (zz - zO))) > (w64 (jJ - zO)) then (if ((runes n_1.Text).length : Int) < (if (0 : Int) > (w64 (zz - zO)) then (0 : Int) else w64 (zz - zO)) then ((runes n_1.Text).length : Int) else (if (0 : Int) > (w64 (zz - zO)) then (0 : Int) else w64 (zz - zO))) else w64 (jJ - zO)))) = true then
   some ([n_1], vU, zz, jJ, kv, vO, ky, l_9)
  else
   (Zd (w64 (zO + (if ((runes n_1.Text).length : Int) < (if (0 : Int) > (w64 (zz - zO)) then (0 : Int) else w64 (zz - zO)) then ((runes n_1.Text).length : Int) else (if (0 : Int) > (w64 (zz - zO)) then (0 : Int) else w64 (zz - zO))))) (w64 (zO + (if ((runes n_1.Text).length : Int) < (if (if ((runes n_1.Text).length : Int) < (if (0 : Int) > (w64 (zz - zO)) then (0 : Int) else w64 (zz - zO)) then ((runes n_1.Text).length : Int) else (if (0 : Int) > (w64 (zz - zO)) then (0 : Int) else w64 (zz - zO))) > (w64 (jJ - zO)) then (if ((runes n_1.Text).length : Int) < (if (0 : Int) > (w64 (zz - zO)) then (0 : Int) else w64 (zz - zO)) then ((runes n_1.Text).length : Int) else (if (0 : Int) > (w64 (zz - zO)) then (0 : Int) else w64 (zz - zO))) else w64 (jJ - zO)) then ((runes n_1.Text).length : Int) else (if (if ((runes n_1.Text).length : Int) < (if (0 : Int) > (w64 (zz - zO)) then (0 : Int) else w64 (zz - zO)) then ((runes n_1.Text).length : Int) else (if (0 : Int) > (w64 (zz - zO)) then (0 : Int) else w64 (zz - zO))) > (w64 (jJ - zO)) then (if ((runes n_1.Text).length : Int) < (if (0 : Int) > (w64 (zz - zO)) then (0 : Int) else w64 (zz - zO)) then ((runes n_1.Text).length : Int) else (if (0 : Int) > (w64 (zz - zO)) then (0 : Int) else w64 (zz - zO))) else w64 (jJ - zO))))) vU zz jJ kv vO ky l_9).bind fun (aoA, apb, auF, amb, aoD, amk, asy) =>
   (vv (0 : Int) (if ((runes n_1.Text).length : Int) < (if (0 : Int) > (w64 (zz - zO)) then (0 : Int) else w64 (zz - zO)) then ((runes n_1.Text).length : Int) else (if (0 : Int) > (w64 (zz - zO)) then (0 : Int) else w64 (zz - zO))) n_1.Marks n_1 (runes n_1.Text)).bind fun auD =>
   (vv (if ((runes n_1.Text).length : Int) < (if (0 : Int) > (w64 (zz - zO)) then (0 : Int) else w64 (zz - zO)) then ((runes n_1.Text).length : Int) else (if (0 : Int) > (w64 (zz - zO)) then (0 : Int) else w64 (zz - zO))) (if ((runes n_1.Text).length : Int) < (if (if ((runes n_1.Text).length : Int) < (if (0 : Int) > (w64 (zz - zO)) then (0 : Int) else w64 (zz - zO)) then ((runes n_1.Text).length : Int) else (if (0 : Int) > (w64 (zz - zO)) then (0 : Int) else w64 (zz - zO))) > (w64 (jJ - zO)) then (if ((runes n_1.Text).length : Int) < (if (0 : Int) > (w64 (zz - zO)) then (0 : Int) else w64 (zz - zO)) then ((runes n_1.Text).length : Int) else (if (0 : Int) > (w64 (zz - zO)) then (0 : Int) else w64 (zz - zO))) else w64 (jJ - zO)) then ((runes n_1.Text).length : Int) else (if (if ((runes n_1.Text).length : Int) < (if (0 : Int) > (w64 (zz - zO)) then (0 : Int) else w64 (zz - zO)) then ((runes n_1.Text).length : Int) else (if (0 : Int) > (w64 (zz - zO)) then (0 : Int) else w64 (zz - zO))) > (w64 (jJ - zO)) then (if ((runes n_1.Text).length : Int) < (if (0 : Int) > (w64 (zz - zO)) then (0 : Int) else w64 (zz - zO)) then ((runes n_1.Text).length : Int) else (if (0 : Int) > (w64 (zz - zO)) then (0 : Int) else w64 (zz - zO))) else w64 (jJ - zO))) KP n_1 (runes n_1.Text)).bind fun auA =>
   (vv (if ((runes n_1.Text).length : Int) < (if (if ((runes n_1.Text).length : Int) < (if (0 : Int) > (w64 (zz - zO)) then (0 : Int) else w64 (zz - zO)) then ((runes n_1.Text).length : Int) else (if (0 : Int) > (w64 (zz - zO)) then (0 : Int) else w64 (zz - zO))) > (w64 (jJ - zO)) then (if ((runes n_1.Text).length : Int) < (if (0 : Int) > (w64 (zz - zO)) then (0 : Int) else w64 (zz - zO)) then ((runes n_1.Text).length : Int) else (if (0 : Int) > (w64 (zz - zO)) then (0 : Int) else w64 (zz - zO))) else w64 (jJ - zO)) then ((runes n_1.Text).length : Int) else (if (if ((runes n_1.Text).length : Int) < (if (0 : Int) > (w64 (zz - zO)) then (0 : Int) else w64 (zz - zO)) then ((runes n_1.Text).length : Int) else (if (0 : Int) > (w64 (zz - zO)) then (0 : Int) else w64 (zz - zO))) > (w64 (jJ - zO)) then (if ((runes n_1.Text).length : Int) < (if (0 : Int) > (w64 (zz - zO)) then (0 : Int) else w64 (zz - zO)) then ((runes n_1.Text).length : Int) else (if (0 : Int) > (w64 (zz - zO)) then (0 : Int) else w64 (zz - zO))) else w64 (jJ - zO))) ((runes n_1.Text).length : Int) n_1.Marks n_1 (runes n_1.Text)).bind fun aup =>
   some ([auD, auA, aup], aoA, apb, auF, amb, aoD, amk, asy)
noncomputable def wP : List za → Int → (List za) → Option (List za)
 | [], Zh, jc =>
  some jc
 | Vy :: suf, Zh, jc =>
  (jw Vy).bind fun aeI =>
  if (aeI) = true then
   if (Vy.Text == ([] : Str)) = true then
    wP suf (Zh + 1) jc
   else
    if (decide ((w64 ((jc.length : Int) - (1 : Int))) ≥ (0 : Int))) = true then
     (rd jc (w64 ((jc.length : Int) - (1 : Int)))).bind fun aug =>
     (ZN aug Vy).bind fun af6 =>
     if (af6) = true then
      chk (aug.Text.length + Vy.Text.length ≤ 9223372036854775807) (
       (wr jc (w64 ((jc.length : Int) - (1 : Int))) ({ Vy with Text := aug.Text ++ Vy.Text })).bind fun arM =>
       wP suf (Zh + 1) arM)
     else
      (app 104 jc [Vy]).bind fun asY =>
      wP suf (Zh + 1) asY
    else
     (app 104 jc [Vy]).bind fun asa =>
     wP suf (Zh + 1) asa
  else
   if (decide ((w64 ((jc.length : Int) - (1 : Int))) ≥ (0 : Int))) = true then
    (rd jc (w64 ((jc.length : Int) - (1 : Int)))).bind fun atK =>
    (ZN atK Vy).bind fun ahn =>
    if (ahn) = true then
     chk (atK.Text.length + Vy.Text.length ≤ 9223372036854775807) (
      (wr jc (w64 ((jc.length : Int) - (1 : Int))) ({ Vy with Text := atK.Text ++ Vy.Text })).bind fun awN =>
      wP suf (Zh + 1) awN)
    else
     (app 104 jc [Vy]).bind fun avP =>
     wP suf (Zh + 1) avP
   else
    (app 104 jc [Vy]).bind fun awx =>
    wP suf (Zh + 1) awx
noncomputable def Wq (l_1 : (List za)) : Option (List za) :=
 (chk (l_1.length ≤ 9223372036854775807) (wP l_1 (0 : Int) ([] : List za))).bind fun aer =>
 some aer
noncomputable def wZ (step_painter_kids_x_r : (List za) → Int → Int → Int → Int → (List za) → Str → Str → (List zD) → Option ((List za) × Int × Int × Int × (List za) × Str × Str × (List zD))) : List za → Int → Int → (List za) → Int → Int → Int → (List za) → Str → Str → (List zD) → Option ((List za) × Int × Int × Int × (List za) × Str × Str × (List zD))
 | [], ahP, aaP, Jg, aj3, aj7, ajG, ajC, akF, akK, Yz =>
  some (Jg, aj3, aj7, ajG, ajC, akF, akK, Yz)
 | akU :: suf, ahP, aaP, Jg, aj3, aj7, ajG, ajC, akF, akK, Yz =>
  (yL akU).bind fun akn =>
  if (akU.Kind == ([116, 101, 120, 116] : Str)) = true then
   (Ze akU aaP aj3 aj7 ajG ajC akF akK Yz).bind fun (avI, apd, ape, auE, ala, aoB, alq, am1) =>
   (app 104 Jg avI).bind fun awK =>
   wZ step_painter_kids_x_r suf (ahP + 1) (w64 (aaP + akn)) awK apd ape auE ala aoB alq am1
  else
   (step_painter_kids_x_r akU.Kids (w64 (aaP + (1 : Int))) aj3 aj7 ajG ajC akF akK Yz).bind fun (av7, ao8, aoR, aus, al1, aoZ, amw, avN) =>
   (app 104 Jg [{ akU with Kids := av7 }]).bind fun am5 =>
   wZ step_painter_kids_x_r suf (ahP + 1) (w64 (aaP + akn)) am5 ao8 aoR aus al1 aoZ amw avN
noncomputable def kE : Nat → (List za) → Int → Int → Int → Int → (List za) → Str → Str → (List zD) → Option ((List za) × Int × Int × Int × (List za) × Str × Str × (List zD))
 | 0, _, _, _, _, _, _, _, _, _ => none
 | kr + 1, l_1, zO, vU, zz, jJ, kv, vO, ky, l_9 =>
  (chk (l_1.length ≤ 9223372036854775807) (wZ (kE kr) l_1 (0 : Int) zO ([] : List za) vU zz jJ kv vO ky l_9)).bind fun (aei, arz, ar8, ark, asL, asZ, as2, aqA) =>
  (Wq aei).bind fun aok =>
  some (aok, arz, ar8, ark, asL, asZ, as2, aqA)
noncomputable def Zf (l_1 : (List za)) (zO : Int) (vU : Int) (zz : Int) (jJ : Int) (kv : (List za)) (vO : Str) (ky : Str) (l_9 : (List zD)) : Option ((List za) × Int × Int × Int × (List za) × Str × Str × (List zD)) := lim fun kr => kE kr l_1 zO vU zz jJ kv vO ky l_9
noncomputable def J9 (n_1 : za) (s_2 : zx) : Option (za × (List zD) × Int) :=
 (je n_1.Kids).bind fun QA =>
 if (decide (s_2.To > QA)) = true then
  some (({ Kind := ([] : Str), Text := ([] : Str), Marks := [], zh := [], Kids := [] } : za), [], (3 : Int))
 else
  (Zf n_1.Kids (0 : Int) s_2.Kind s_2.From s_2.To s_2.kG s_2.Name s_2.Value ([] : List zD)).bind fun (r_4, avj, au7, axc, atV, avz, arL, art) =>
  some ({ n_1 with Kids := r_4 }, art, (0 : Int))
noncomputable def xh (s_1 : zx) : Option Bool :=
 ((
   if (decide (s_1.From ≥ (0 : Int))) = true then
    if (decide (s_1.From ≤ s_1.To)) = true then
     some (decide (s_1.To ≤ (1048576 : Int)))
    else
     some false
   else
    some false) : Option Bool).bind fun Jj =>
 if (s_1.Kind == (114 : Int)) = true then
  (yz ({ Kind := ([120] : Str), Text := ([] : Str), Marks := [], zh := [], Kids := s_1.kG } : za)).bind fun ajZ =>
  if (Jj) = true then
   if (ajZ != (2 : Int)) = true then
    chk (s_1.Name.length + s_1.Value.length ≤ 9223372036854775807) (
     some ((s_1.Name ++ s_1.Value) == ([] : Str)))
   else
    some false
  else
   some false
 else
  if (s_1.Kind == (97 : Int)) = true then
   if (decide (s_1.From ≥ (-1 : Int))) = true then
    if (decide (s_1.From ≤ (1048576 : Int))) = true then
     if (s_1.To == (0 : Int)) = true then
      (yN s_1.Name).bind fun ani =>
      if (ani) = true then
       (Wz s_1.Value).bind fun aj6 =>
       if (aj6) = true then
        some ((s_1.kG.length : Int) == (0 : Int))
       else
        some false
      else
       some false
     else
      some false
    else
     some false
   else
    some false
  else
   if (s_1.Kind == (109 : Int)) = true then
    if (Jj) = true then
     (yN s_1.Name).bind fun aoa =>
     if (aoa) = true then
      if ((s_1.kG.length : Int) == (0 : Int)) = true then
       some (s_1.Value == ([] : Str))
      else
       some false
     else
      some false
    else
     some false
   else
    if (s_1.Kind == (117 : Int)) = true then
     if (Jj) = true then
      (yN s_1.Name).bind fun an3 =>
      if (an3) = true then
       if ((s_1.kG.length : Int) == (0 : Int)) = true then
        some (s_1.Value == ([] : Str))
       else
        some false
      else
       some false
     else
      some false
    else
     some false
noncomputable def wW (v_1 : Int) (Vs : qO) : Option (Int × qO) :=
 if (v_1 != (0 : Int)) = true then
  some (v_1, ({ path := [], in_ := ({ Kind := ([] : Str), Text := ([] : Str), Marks := [], zh := [], Kids := [] } : za), from_ := (0 : Int), to_ := (0 : Int) } : qO))
 else
  some (v_1, Vs)
noncomputable def wM (kC : (List Int)) : List Int → Int → Option (Bool ⊕ Unit)
 | [], v_5 =>
  some (.inr ())
 | y_8 :: suf, v_5 =>
  (rd kC v_5).bind fun x_9 =>
  if (y_8 != x_9) = true then
   some (.inl false)
  else
   wM kC suf (v_5 + 1)
noncomputable def slices_Equal_int (wT : (List Int)) (kC : (List Int)) : Option Bool :=
 if ((wT.length : Int) != (kC.length : Int)) = true then
  some false
 else
  (chk (wT.length ≤ 9223372036854775807) (wM kC wT (0 : Int))).bind fun e => match e with
  | .inl wS =>
   some wS
  | .inr _ =>
   some true
noncomputable def jD : List Int → Int → Int → za → Option Int
 | [], WA, aeP, n_9 =>
  some aeP
 | at0 :: suf, WA, aeP, n_9 =>
  (sl n_9.Kids (0 : Int) at0).bind fun av1 =>
  (je av1).bind fun alE =>
  (rd n_9.Kids at0).bind fun avG =>
  jD suf (WA + 1) (w64 (aeP + (w64 (alE + (1 : Int))))) avG
noncomputable def Kc (n_1 : za) (wu : (List Int)) : Option (Int × Int) :=
 (kY n_1 wu).bind fun (r_3, r_4) =>
 if (r_4 != (0 : Int)) = true then
  some ((0 : Int), r_4)
 else
  (chk (wu.length ≤ 9223372036854775807) (jD wu (0 : Int) (0 : Int) n_1)).bind fun alc =>
  some (alc, (0 : Int))
noncomputable def WN (n_1 : za) (Wu : Int) (adQ : Int) : Option (qO × Int) :=
 if (n_1.Kind == ([116, 101, 120, 116] : Str)) = true then
  (wW (2 : Int) ({ path := [], in_ := ({ Kind := ([] : Str), Text := ([] : Str), Marks := [], zh := [], Kids := [] } : za), from_ := (0 : Int), to_ := (0 : Int) } : qO)).bind fun (v_4, aqV) =>
  some (aqV, v_4)
 else
  (yG n_1).bind fun ajY =>
  if (!ajY) = true then
   (wW (2 : Int) ({ path := [], in_ := ({ Kind := ([] : Str), Text := ([] : Str), Marks := [], zh := [], Kids := [] } : za), from_ := (0 : Int), to_ := (0 : Int) } : qO)).bind fun (v_7, arY) =>
   some (arY, v_7)
  else
   (kT n_1 Wu).bind fun (r_9, KP) =>
   if (KP != (0 : Int)) = true then
    (wW KP ({ path := [], in_ := ({ Kind := ([] : Str), Text := ([] : Str), Marks := [], zh := [], Kids := [] } : za), from_ := (0 : Int), to_ := (0 : Int) } : qO)).bind fun (WA, aoN) =>
    some (aoN, WA)
   else
    (kT n_1 adQ).bind fun (afE, ab8) =>
    if (ab8 != (0 : Int)) = true then
     (wW ab8 ({ path := [], in_ := ({ Kind := ([] : Str), Text := ([] : Str), Marks := [], zh := [], Kids := [] } : za), from_ := (0 : Int), to_ := (0 : Int) } : qO)).bind fun (aao, apa) =>
     some (apa, aao)
    else
     if (decide (adQ < Wu)) = true then
      (wW (3 : Int) ({ path := [], in_ := ({ Kind := ([] : Str), Text := ([] : Str), Marks := [], zh := [], Kids := [] } : za), from_ := (0 : Int), to_ := (0 : Int) } : qO)).bind fun (al4, ao4) =>
      some (ao4, al4)
     else
      (slices_Equal_int r_9.Path afE.Path).bind fun anX =>
      if (!anX) = true then
       (wW (10 : Int) ({ path := [], in_ := ({ Kind := ([] : Str), Text := ([] : Str), Marks := [], zh := [], Kids := [] } : za), from_ := (0 : Int), to_ := (0 : Int) } : qO)).bind fun (VH, ao7) =>
       some (ao7, VH)
      else
       (Kc n_1 r_9.Path).bind fun (avd, awV) =>
       (kY n_1 r_9.Path).bind fun (awI, awc) =>
       (wW awc ({ path := r_9.Path, in_ := awI, from_ := w64 (Wu - avd), to_ := w64 (adQ - avd) } : qO)).bind fun (Y5, aox) =>
       some (aox, Y5)
noncomputable def vS : List za → Int → Int → Option (Int × Int)
 | [], i_8, ahJ =>
  some (ahJ, i_8)
 | aty :: suf, i_8, ahJ =>
  (yL aty).bind fun akw =>
  if (decide (ahJ ≥ akw)) = true then
   (yL aty).bind fun aoj =>
   vS suf (i_8 + 1) (w64 (ahJ - aoj))
  else
   some (ahJ, i_8)
noncomputable def xL (l_1 : (List za)) (zO : Int) : Option ((List za) × (List za) × Int) :=
 if (decide (zO < (0 : Int))) = true then
  some ([], [], (3 : Int))
 else
  (je l_1).bind fun QA =>
  if (decide (zO > QA)) = true then
   some ([], [], (3 : Int))
  else
   (chk (l_1.length ≤ 9223372036854775807) (vS l_1 (0 : Int) zO)).bind fun (ae8, ank) =>
   (sl l_1 (0 : Int) ank).bind fun avQ =>
   (qh avQ).bind fun akB =>
   (sl l_1 ank (l_1.length : Int)).bind fun awm =>
   (qh awm).bind fun afP =>
   if (ae8 == (0 : Int)) = true then
    some (akB, afP, (0 : Int))
   else
    (rd l_1 ank).bind fun ane =>
    if (!(ane.Kind == ([116, 101, 120, 116] : Str))) = true then
     some ([], [], (10 : Int))
    else
     (sl (runes ane.Text) (0 : Int) ae8).bind fun awD =>
     (sl (runes ane.Text) ae8 ((runes ane.Text).length : Int)).bind fun aww =>
     (rd afP (0 : Int)).bind fun avV =>
     (wr afP (0 : Int) ({ avV with Text := zN aww })).bind fun avU =>
     (app 104 akB [{ ane with Text := zN awD }]).bind fun asQ =>
     some (asQ, avU, (0 : Int))
noncomputable def ji (n : Int) : Option (List za) :=
 chk (0 ≤ n ∧ n * 104 ≤ 140737488355328) (some ([] : List za))
noncomputable def qj : List (List za) → Int → Int → Option Int
 | [], v_4, Jo =>
  some Jo
 | y_6 :: suf, v_4, Jo =>
  if (decide ((w64 (Jo + (y_6.length : Int))) < (0 : Int))) = true then
   none
  else
   qj suf (v_4 + 1) (w64 (Jo + (y_6.length : Int)))
noncomputable def qo : List (List za) → Int → (List za) → Option (List za)
 | [], Ji, jR =>
  some jR
 | avc :: suf, Ji, jR =>
  (app 104 jR avc).bind fun asy =>
  qo suf (Ji + 1) asy
noncomputable def kU (kI : (List (List za))) : Option (List za) :=
 (chk (kI.length ≤ 9223372036854775807) (qj kI (0 : Int) (0 : Int))).bind fun ahz =>
 (ji ahz).bind fun aoH =>
 (chk (kI.length ≤ 9223372036854775807) (qo kI (0 : Int) aoH)).bind fun ZT =>
 some ZT
noncomputable def KZ (n_1 : za) (Wu : Int) (adQ : Int) (l_4 : (List za)) : Option (za × Int) :=
 (WN n_1 Wu adQ).bind fun (r_5, r_6) =>
 if (r_6 == (2 : Int)) = true then
  some (({ Kind := ([] : Str), Text := ([] : Str), Marks := [], zh := [], Kids := [] } : za), (2 : Int))
 else
  (Wq l_4).bind fun ag3 =>
  (yz ({ Kind := ([120] : Str), Text := ([] : Str), Marks := [], zh := [], Kids := ag3 } : za)).bind fun ajP =>
  if (ajP == (2 : Int)) = true then
   some (({ Kind := ([] : Str), Text := ([] : Str), Marks := [], zh := [], Kids := [] } : za), (2 : Int))
  else
   if (r_6 != (0 : Int)) = true then
    some (({ Kind := ([] : Str), Text := ([] : Str), Marks := [], zh := [], Kids := [] } : za), r_6)
   else
    (xL r_5.in_.Kids r_5.from_).bind fun (r_9, KP, adz) =>
    (xL r_5.in_.Kids r_5.to_).bind fun (akm, afE, ab8) =>
    (kU [r_9, l_4, afE]).bind fun aoq =>
    (Wq aoq).bind fun ao9 =>
    (Wp n_1 r_5.path ({ r_5.in_ with Kids := ao9 })).bind fun (au2, aw8) =>
    (yz au2).bind fun acR =>
    if (acR != (0 : Int)) = true then
     some (({ Kind := ([] : Str), Text := ([] : Str), Marks := [], zh := [], Kids := [] } : za), acR)
    else
     some (au2, (0 : Int))
noncomputable def kV (n_1 : za) (s_2 : zx) : Option (za × Int) :=
 (xh s_2).bind fun Xf =>
 if (!Xf) = true then
  some (({ Kind := ([] : Str), Text := ([] : Str), Marks := [], zh := [], Kids := [] } : za), (1 : Int))
 else
  if (n_1.Kind == ([116, 101, 120, 116] : Str)) = true then
   some (({ Kind := ([] : Str), Text := ([] : Str), Marks := [], zh := [], Kids := [] } : za), (2 : Int))
  else
   (yG n_1).bind fun XF =>
   if (!XF) = true then
    some (({ Kind := ([] : Str), Text := ([] : Str), Marks := [], zh := [], Kids := [] } : za), (2 : Int))
   else
    if (s_2.Kind == (114 : Int)) = true then
     (KZ n_1 s_2.From s_2.To s_2.kG).bind fun (r_5, r_6) =>
     some (r_5, r_6)
    else
     if (s_2.Kind == (97 : Int)) = true then
      (yF n_1 s_2).bind fun (r_7, r_8, r_9) =>
      some (r_7, r_9)
     else
      (J9 n_1 s_2).bind fun (KP, adz, akm) =>
      some (KP, akm)
noncomputable def jm (l_1 : (List zu)) (afS : Int) (s_3 : Str) : Option Bool :=
 (jF).bind fun ach =>
 if (!ach) = true then
  some ach
 else
  if (decide ((s_3.length : Int) > (100 : Int))) = true then
   some ach
  else
   (xH l_1).bind fun aiB =>
   (je aiB.Kids).bind fun aoI =>
   (zZ afS (w64 (aoI + (1 : Int)))).bind fun Jn =>
   (kV aiB ({ Kind := (97 : Int), From := Jn, To := (0 : Int), kG := [], Name := ([110, 111, 116, 101] : Str), Value := s_3 } : zx)).bind fun (r_8, r_9) =>
   if (r_9 != (0 : Int)) = true then
    some true
   else
    (xQ aiB r_8).bind fun (KP, adz) =>
    if (adz != (0 : Int)) = true then
     some false
    else
     if (decide ((KP.length : Int) > (1 : Int))) = true then
      some false
     else
      (kV aiB ({ Kind := (114 : Int), From := w64 (Jn + (1 : Int)), To := w64 (Jn + (1 : Int)), kG := [({ Kind := ([116, 101, 120, 116] : Str), Text := ([33] : Str), Marks := [([122] : Str)], zh := [], Kids := [] } : za)], Name := ([] : Str), Value := ([] : Str) } : zx)).bind fun (akm, afE) =>
      (xQ aiB akm).bind fun (ab8, auU) =>
      if (afE != (0 : Int)) = true then
       some false
      else
       if (auU != (0 : Int)) = true then
        some false
       else
        if ((ab8.length : Int) != (1 : Int)) = true then
         some false
        else
         (rd ab8 (0 : Int)).bind fun aky =>
         if (aky.Kind != (114 : Int)) = true then
          some false
         else
          if (aky.From != (w64 (Jn + (1 : Int)))) = true then
           some false
          else
           if (aky.To != (w64 (Jn + (1 : Int)))) = true then
            some false
           else
            if ((aky.kG.length : Int) != (1 : Int)) = true then
             some false
            else
             if ((KP.length : Int) == (0 : Int)) = true then
              some true
             else
              (rd KP (0 : Int)).bind fun akZ =>
              if (akZ.Kind == (97 : Int)) = true then
               if (akZ.From == Jn) = true then
                if (akZ.Name == ([110, 111, 116, 101] : Str)) = true then
                 some (akZ.Value == s_3)
                else
                 some false
               else
                some false
              else
               some false
end Go.Proofs.YtclohbgnaopjfaaDoor
