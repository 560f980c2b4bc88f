/- Texts of the proof of stepTokensCard -/
import Derived.Test.YtclohbgnaopjfaaGreatDoorAgT
import Derived.Test.YtclohbgnaopjfaaGreatDoorAgWith
import Derived.Test.YtclohbgnaopjfaaGreatDoorAgLib
namespace Go.Proofs.YtclohbgnaopjfaaGreatDoor
set_option linter.unusedSimpArgs false
set_option linter.unusedVariables false
open Go
set_option maxRecDepth 100000
noncomputable def strings_Join (l : (List Str)) (sep : Str) : Option Str :=
 chk (l.length ≤ 140737488355328 ∧ (Lib.join l sep).length ≤ 140737488355328) (some (Lib.join l sep))
noncomputable def strings_ReplaceAll (s : Str) (old : Str) (new : Str) : Option Str :=
 chk (s.length < 4294967281 ∧ 1 ≤ old.length ∧ s.length + Lib.countB (ba s) (ba old) * new.length ≤ 140737488355328) (some (Lib.replaceAll s old new))
noncomputable def Ww (s_1 : Str) : Option Str :=
 (strings_ReplaceAll s_1 ([92] : Str) ([92, 92] : Str)).bind fun al6 =>
 (strings_ReplaceAll al6 ([34] : Str) ([92, 34] : Str)).bind fun ach =>
 chk (([34] : Str).length + ach.length ≤ 9223372036854775807) (
  chk ((([34] : Str) ++ ach).length + ([34] : Str).length ≤ 9223372036854775807) (
   some ((([34] : Str) ++ ach) ++ ([34] : Str))))
noncomputable def jf : List zf → Int → (List Str) → Option (List Str)
 | [], v_6, l_7 =>
  some l_7
 | aqv :: suf, v_6, l_7 =>
  chk (aqv.Name.length + ([61] : Str).length ≤ 9223372036854775807) (
   (Ww aqv.Value).bind fun ahr =>
   chk ((aqv.Name ++ ([61] : Str)).length + ahr.length ≤ 9223372036854775807) (
    (app 16 l_7 [(aqv.Name ++ ([61] : Str)) ++ ahr]).bind fun ari =>
    jf suf (v_6 + 1) ari))
noncomputable def QS (n_1 : za) : Option Str :=
 if (n_1.Kind == ([116, 101, 120, 116] : Str)) = true then
  if ((n_1.Marks.length : Int) == (0 : Int)) = true then
   some ([] : Str)
  else
   (strings_Join n_1.Marks ([44] : Str)).bind fun ako =>
   chk (([60] : Str).length + ako.length ≤ 9223372036854775807) (
    chk ((([60] : Str) ++ ako).length + ([62] : Str).length ≤ 9223372036854775807) (
     some ((([60] : Str) ++ ako) ++ ([62] : Str))))
 else
  if ((n_1.zq.length : Int) == (0 : Int)) = true then
   some n_1.Kind
  else
   (chk (n_1.zq.length ≤ 9223372036854775807) (jf n_1.zq (0 : Int) ([] : List Str))).bind fun aql =>
   chk (n_1.Kind.length + ([40] : Str).length ≤ 9223372036854775807) (
    (strings_Join aql ([32] : Str)).bind fun afP =>
    chk ((n_1.Kind ++ ([40] : Str)).length + afP.length ≤ 9223372036854775807) (
     chk (((n_1.Kind ++ ([40] : Str)) ++ afP).length + ([41] : Str).length ≤ 9223372036854775807) (
      some (((n_1.Kind ++ ([40] : Str)) ++ afP) ++ ([41] : Str)))))
noncomputable def jK (jY : za) : Nat → (List zx) → Nat → Option (List zx)
 | 0, _, _ => none
 | k + 1, WN, XO =>
  ((
    if (decide (XO < jY.Text.length)) = true then
     some (.inr ())
    else
     some (.inl ())) : Option (Unit ⊕ Unit)).bind fun e => match e with
  | .inl _ =>
   some WN
  | .inr _ =>
   (QS jY).bind fun aok =>
   (app 40 WN [({ Kind := (116 : Int), Text := zo (amX jY.Text XO), Head := aok } : zx)]).bind fun ash =>
   jK jY k ash (XO + aeL jY.Text XO)
noncomputable def jQ (token_Of_r : (List za) → Option (List zx)) : List za → Int → (List zx) → Option (List zx)
 | [], abU, Jj =>
  some Jj
 | jY :: suf, abU, Jj =>
  if (jY.Kind == ([116, 101, 120, 116] : Str)) = true then
   (lim fun k => jK jY k Jj 0).bind fun QU =>
   jQ token_Of_r suf (abU + 1) QU
  else
   (QS jY).bind fun aoL =>
   (app 40 Jj [({ Kind := (111 : Int), Text := ([] : Str), Head := aoL } : zx)]).bind fun awF =>
   (token_Of_r jY.Kids).bind fun aur =>
   (app 40 awF aur).bind fun avN =>
   (app 40 avN [({ Kind := (99 : Int), Text := ([] : Str), Head := ([] : Str) } : zx)]).bind fun avR =>
   jQ token_Of_r suf (abU + 1) avR
noncomputable def xA : Nat → (List za) → Option (List zx)
 | 0, _ => none
 | kr + 1, l_1 =>
  (chk (l_1.length ≤ 9223372036854775807) (jQ (xA kr) l_1 (0 : Int) ([] : List zx))).bind fun aeF =>
  some aeF
noncomputable def Z5 (l_1 : (List za)) : Option (List zx) := lim fun kr => xA kr l_1
noncomputable def jg (n_1 : za) : Option Bool :=
 some (n_1.Kind == ([116, 101, 120, 116] : Str))
noncomputable def zN (s_1 : Str) : Nat → Int → Nat → Option Int
 | 0, _, _ => none
 | k + 1, n_2, v_3 =>
  if (decide (v_3 < s_1.length)) = true then
   zN s_1 k (w64 (n_2 + (1 : Int))) (v_3 + aeL s_1 v_3)
  else
   some n_2
noncomputable def wu (s_1 : Str) : Option Int :=
 (lim fun k => zN s_1 k (0 : Int) 0).bind fun n_4 =>
 some n_4
noncomputable def jb (node_Size_r : za → Option Int) : List za → Int → Int → Option Int
 | [], v_5, XV =>
  some XV
 | y_8 :: suf, v_5, XV =>
  (node_Size_r y_8).bind fun asq =>
  jb node_Size_r suf (v_5 + 1) (w64 (XV + asq))
mutual
noncomputable def jc : Nat → za → Option Int
 | 0, _ => none
 | kr + 1, n_1 =>
  (jg n_1).bind fun yf =>
  if (yf) = true then
   (wu n_1.Text).bind fun amS =>
   some amS
  else
   ((xy kr) n_1.Kids).bind fun aoy =>
   some (w64 ((2 : Int) + aoy))
noncomputable def xy : Nat → (List za) → Option Int
 | 0, _ => none
 | kr + 1, l_1 =>
  (chk (l_1.length ≤ 9223372036854775807) (jb (jc kr) l_1 (0 : Int) (0 : Int))).bind fun acV =>
  some acV
end
noncomputable def yE (n_1 : za) : Option Int := lim fun kr => jc kr n_1
noncomputable def jT (l_1 : (List za)) : Option Int := lim fun kr => xy kr l_1
noncomputable def Zk (s_1 : zG) : Option (List zi) :=
 (jT s_1.wJ).bind fun acW =>
 if (s_1.Kind != (114 : Int)) = true then
  some []
 else
  if (s_1.From == s_1.To) = true then
   if (acW == (0 : Int)) = true then
    some []
   else
    some [({ Pos := s_1.From, Old := w64 (s_1.To - s_1.From), New := acW } : zi)]
  else
   some [({ Pos := s_1.From, Old := w64 (s_1.To - s_1.From), New := acW } : zi)]
noncomputable def xc (r_1 : zi) : Option Int :=
 some (w64 (r_1.Pos + r_1.Old))
noncomputable def xE (r_1 : zi) (kY : Int) (vz : Bool) : Option Bool :=
 if (r_1.Old == (0 : Int)) = true then
  some vz
 else
  if (kY == r_1.Pos) = true then
   some false
  else
   if (vz) = true then
    some true
   else
    (xc r_1).bind fun auv =>
    some (kY == auv)
noncomputable def xX (kY : Int) (vz : Bool) : List zi → Int → Int → Option (Int ⊕ Int)
 | [], v_8, Qj =>
  some (.inr Qj)
 | aaj :: suf, v_8, Qj =>
  (xc aaj).bind fun anH =>
  if (decide (anH < kY)) = true then
   xX kY vz suf (v_8 + 1) (w64 (Qj + (w64 (aaj.New - aaj.Old))))
  else
   if (decide (aaj.Pos > kY)) = true then
    some (.inr Qj)
   else
    (xE aaj kY vz).bind fun akH =>
    if (akH) = true then
     some (.inl (w64 ((w64 (aaj.Pos + Qj)) + aaj.New)))
    else
     some (.inl (w64 (aaj.Pos + Qj)))
noncomputable def KC (m_1 : (List zi)) (kY : Int) (vz : Bool) : Option Int :=
 (chk (m_1.length ≤ 9223372036854775807) (xX kY vz m_1 (0 : Int) (0 : Int))).bind fun e => match e with
 | .inl afY =>
  some afY
 | .inr XU =>
  some (w64 (kY + XU))
noncomputable def wh (s_1 : Str) (Vr : Str) : Nat → Int → Option (Bool ⊕ Unit)
 | 0, _ => none
 | k + 1, i_4 =>
  if (decide (i_4 < (s_1.length : Int))) = true then
   (sl s_1 i_4 (w64 (i_4 + (1 : Int)))).bind fun s_5 =>
   if (s_5 == Vr) = true then
    some (.inl true)
   else
    wh s_1 Vr k (w64 (i_4 + (1 : Int)))
  else
   some (.inr ())
noncomputable def jm (s_1 : Str) (Vr : Str) : Option Bool :=
 (lim fun k => wh s_1 Vr k (0 : Int)).bind fun e => match e with
 | .inl alc =>
  some alc
 | .inr _ =>
  some false
noncomputable def qR (WS : (List Str)) : List Str → Int → Option (Bool ⊕ Unit)
 | [], v_5 =>
  some (.inr ())
 | y_8 :: suf, v_5 =>
  (rd WS v_5).bind fun x_9 =>
  if (!(y_8 == x_9)) = true then
   some (.inl false)
  else
   qR WS suf (v_5 + 1)
noncomputable def slices_Equal_string (QV : (List Str)) (WS : (List Str)) : Option Bool :=
 if ((QV.length : Int) != (WS.length : Int)) = true then
  some false
 else
  (chk (QV.length ≤ 9223372036854775807) (qR WS QV (0 : Int))).bind fun e => match e with
  | .inl kT =>
   some kT
  | .inr _ =>
   some true
noncomputable def Zl (a_1 : za) (b_2 : za) : Option Bool :=
 (jg a_1).bind fun agG =>
 if (agG) = true then
  (jg b_2).bind fun agO =>
  if (agO) = true then
   (slices_Equal_string a_1.Marks b_2.Marks).bind fun alj =>
   some alj
  else
   some false
 else
  some false
noncomputable def KD (s : Str) (cutset : Str) : Option Str :=
 chk (s.length ≤ 9223372036854775807 ∧ cutset.length < 4294967281 ∧ cutset.all (fun b => decide (b.toNat < 128)) = true) (some (Lib.trimS s cutset))
noncomputable def yz (s_1 : Str) : Option Bool :=
 (KD s_1 ([97, 98, 99, 100, 101, 102, 103, 104, 105, 106, 107, 108, 109, 110, 111, 112, 113, 114, 115, 116, 117, 118, 119, 120, 121, 122] : Str)).bind fun anG =>
 if (anG == ([] : Str)) = true then
  if (!(s_1 == ([] : Str))) = true then
   if (decide ((s_1.length : Int) ≤ (8 : Int))) = true then
    some (!(s_1 == ([116, 101, 120, 116] : Str)))
   else
    some false
  else
   some false
 else
  some false
noncomputable def vD (l_1 : (List Str)) : List Str → Int → Option (Bool ⊕ Unit)
 | [], v_5 =>
  some (.inr ())
 | y_9 :: suf, v_5 =>
  (yz y_9).bind fun akP =>
  if (!akP) = true then
   some (.inl false)
  else
   if (decide (v_5 > (0 : Int))) = true then
    (rd l_1 (w64 (v_5 - (1 : Int)))).bind fun al8 =>
    if ((Op.bytesLess y_9 al8 || y_9 == al8)) = true then
     some (.inl false)
    else
     vD l_1 suf (v_5 + 1)
   else
    vD l_1 suf (v_5 + 1)
noncomputable def KO (l_1 : (List Str)) : Option Bool :=
 (chk (l_1.length ≤ 9223372036854775807) (vD l_1 l_1 (0 : Int))).bind fun e => match e with
 | .inl agm =>
  some agm
 | .inr _ =>
  some true
noncomputable def wM (s : Str) : Option Bool :=
 chk (s.length ≤ 9223372036854775807) (some (Lib.validD s))
noncomputable def QL (s_1 : Str) : Option Bool :=
 if (decide ((s_1.length : Int) ≤ (40 : Int))) = true then
  (wM s_1).bind fun amj =>
  some amj
 else
  some false
noncomputable def vF : List zf → Int → (List Str) → Option (Bool ⊕ (List Str))
 | [], v_8, Kw =>
  some (.inr Kw)
 | atP :: suf, v_8, Kw =>
  (QL atP.Value).bind fun agy =>
  if (!agy) = true then
   some (.inl false)
  else
   (app 16 Kw [atP.Name]).bind fun avJ =>
   vF suf (v_8 + 1) avJ
noncomputable def kH (n_1 : za) (node_formed_r : za → Option Bool) : List za → Int → Option (Bool ⊕ Unit)
 | [], Yl =>
  some (.inr ())
 | aq0 :: suf, Yl =>
  (node_formed_r aq0).bind fun aev =>
  if (!aev) = true then
   some (.inl false)
  else
   if (decide (Yl > (0 : Int))) = true then
    (rd n_1.Kids (w64 (Yl - (1 : Int)))).bind fun awS =>
    (Zl awS aq0).bind fun ags =>
    if (ags) = true then
     some (.inl false)
    else
     kH n_1 node_formed_r suf (Yl + 1)
   else
    kH n_1 node_formed_r suf (Yl + 1)
noncomputable def kS : Nat → za → Option Bool
 | 0, _ => none
 | kr + 1, n_1 =>
  (jg n_1).bind fun yf =>
  if (yf) = true then
   if (!(n_1.Text == ([] : Str))) = true then
    (wM n_1.Text).bind fun ahI =>
    if (ahI) = true then
     (KO n_1.Marks).bind fun anu =>
     if (anu) = true then
      some ((w64 ((n_1.zq.length : Int) + (n_1.Kids.length : Int))) == (0 : Int))
     else
      some false
    else
     some false
   else
    some false
  else
   (chk (n_1.zq.length ≤ 9223372036854775807) (vF n_1.zq (0 : Int) ([] : List Str))).bind fun e => match e with
   | .inl af3 =>
    some af3
   | .inr JQ =>
    (yz n_1.Kind).bind fun aj0 =>
    if (!aj0) = true then
     some false
    else
     if (!(n_1.Text == ([] : Str))) = true then
      some false
     else
      if (decide ((n_1.Marks.length : Int) > (0 : Int))) = true then
       some false
      else
       (KO JQ).bind fun akI =>
       if (!akI) = true then
        some false
       else
        (chk (n_1.Kids.length ≤ 9223372036854775807) (kH n_1 (kS kr) n_1.Kids (0 : Int))).bind fun e => match e with
        | .inl ahc =>
         some ahc
        | .inr _ =>
         some true
noncomputable def WJ (n_1 : za) : Option Bool := lim fun kr => kS kr n_1
noncomputable def vC (node_Depth_r : za → Option Int) : List za → Int → Int → Option Int
 | [], v_6, yw =>
  some yw
 | y_9 :: suf, v_6, yw =>
  (node_Depth_r y_9).bind fun agv =>
  vC node_Depth_r suf (v_6 + 1) (if agv > yw then agv else yw)
noncomputable def vv : Nat → za → Option Int
 | 0, _ => none
 | kr + 1, n_1 =>
  (jg n_1).bind fun yf =>
  if (yf) = true then
   some (0 : Int)
  else
   (chk (n_1.Kids.length ≤ 9223372036854775807) (vC (vv kr) n_1.Kids (0 : Int) (0 : Int))).bind fun KZ =>
   some (w64 (KZ + (1 : Int)))
noncomputable def Ve (n_1 : za) : Option Int := lim fun kr => vv kr n_1
noncomputable def yh (n_1 : za) : Option Int :=
 (WJ n_1).bind fun agi =>
 if (!agi) = true then
  some (2 : Int)
 else
  (Ve n_1).bind fun akV =>
  if (decide (akV > (40 : Int))) = true then
   some (4 : Int)
  else
   (yE n_1).bind fun anJ =>
   if (decide (anJ > (4000 : Int))) = true then
    some (5 : Int)
   else
    some (0 : Int)
noncomputable def xD (s_1 : zG) : Option Bool :=
 ((
   if (decide (s_1.From ≥ (0 : Int))) = true then
    if (decide (s_1.From ≤ s_1.To)) = true then
     some (decide (s_1.To ≤ (1048576 : Int)))
    else
     some false
   else
    some false) : Option Bool).bind fun V4 =>
 if (s_1.Kind == (114 : Int)) = true then
  (yh ({ Kind := ([120] : Str), Text := ([] : Str), Marks := [], zq := [], Kids := s_1.wJ } : za)).bind fun akz =>
  if (V4) = true then
   if (akz != (2 : Int)) = true then
    chk (s_1.Name.length + s_1.Value.length ≤ 9223372036854775807) (
     some ((s_1.Name ++ s_1.Value) == ([] : Str)))
   else
    some false
  else
   some false
 else
  if (s_1.Kind == (97 : Int)) = true then
   if (decide (s_1.From ≥ (-1 : Int))) = true then
    if (decide (s_1.From ≤ (1048576 : Int))) = true then
     if (s_1.To == (0 : Int)) = true then
      (yz s_1.Name).bind fun ano =>
      if (ano) = true then
       (QL s_1.Value).bind fun ajV =>
       if (ajV) = true then
        some ((s_1.wJ.length : Int) == (0 : Int))
       else
        some false
      else
       some false
     else
      some false
    else
     some false
   else
    some false
  else
   if (s_1.Kind == (109 : Int)) = true then
    if (V4) = true then
     (yz s_1.Name).bind fun am6 =>
     if (am6) = true then
      if ((s_1.wJ.length : Int) == (0 : Int)) = true then
       some (s_1.Value == ([] : Str))
      else
       some false
     else
      some false
    else
     some false
   else
    if (s_1.Kind == (117 : Int)) = true then
     if (V4) = true then
      (yz s_1.Name).bind fun anS =>
      if (anS) = true then
       if ((s_1.wJ.length : Int) == (0 : Int)) = true then
        some (s_1.Value == ([] : Str))
       else
        some false
      else
       some false
     else
      some false
    else
     some false
noncomputable def QJ (n_1 : za) : Option Bool :=
 (yh n_1).bind fun aoY =>
 some (aoY == (0 : Int))
noncomputable def wK (v_1 : Int) (Vo : qH) : Option (Int × qH) :=
 if (v_1 != (0 : Int)) = true then
  some (v_1, ({ path := [], in_ := ({ Kind := ([] : Str), Text := ([] : Str), Marks := [], zq := [], Kids := [] } : za), from_ := (0 : Int), to_ := (0 : Int) } : qH))
 else
  some (v_1, Vo)
noncomputable def qd (Jn : (List Int)) : List za → Int → Int → Option ((wz × Int) ⊕ ((Int × za × (List Int)) ⊕ Unit))
 | [], abW, QT =>
  some (.inr (.inr ()))
 | aqe :: suf, abW, QT =>
  (yE aqe).bind fun afK =>
  if (decide (QT ≥ afK)) = true then
   qd Jn suf (abW + 1) (w64 (QT - afK))
  else
   if (aqe.Kind == ([116, 101, 120, 116] : Str)) = true then
    some (.inl (({ Path := Jn, Index := abW, Offset := QT } : wz), (0 : Int)))
   else
    if (QT == (0 : Int)) = true then
     some (.inl (({ Path := Jn, Index := abW, Offset := (0 : Int) } : wz), (0 : Int)))
    else
     (app 8 Jn [abW]).bind fun asc =>
     some (.inr (.inl (w64 (QT - (1 : Int)), aqe, asc)))
noncomputable def ku : Nat → Int → za → (List Int) → Option (wz × Int)
 | 0, _, _, _ => none
 | k + 1, adT, Qq, Jn =>
  (chk (Qq.Kids.length ≤ 9223372036854775807) (qd Jn Qq.Kids (0 : Int) adT)).bind fun e => match e with
  | .inl Yb =>
   some Yb
  | .inr (.inl (ahB, ajR, XY)) =>
   ku k ahB ajR XY
  | .inr (.inr _) =>
   some (({ Path := Jn, Index := (Qq.Kids.length : Int), Offset := (0 : Int) } : wz), (0 : Int))
noncomputable def kg (n_1 : za) (kY : Int) : Option (wz × Int) :=
 if (n_1.Kind == ([116, 101, 120, 116] : Str)) = true then
  some (({ Path := [], Index := (0 : Int), Offset := (0 : Int) } : wz), (3 : Int))
 else
  if (decide (kY < (0 : Int))) = true then
   some (({ Path := [], Index := (0 : Int), Offset := (0 : Int) } : wz), (3 : Int))
  else
   (jT n_1.Kids).bind fun Qn =>
   if (decide (kY > Qn)) = true then
    some (({ Path := [], Index := (0 : Int), Offset := (0 : Int) } : wz), (3 : Int))
   else
    (lim fun k => ku k kY n_1 ([] : List Int)).bind fun Yi =>
    some Yi
noncomputable def wO (WS : (List Int)) : List Int → Int → Option (Bool ⊕ Unit)
 | [], v_5 =>
  some (.inr ())
 | y_8 :: suf, v_5 =>
  (rd WS v_5).bind fun x_9 =>
  if (y_8 != x_9) = true then
   some (.inl false)
  else
   wO WS suf (v_5 + 1)
noncomputable def slices_Equal_int (QV : (List Int)) (WS : (List Int)) : Option Bool :=
 if ((QV.length : Int) != (WS.length : Int)) = true then
  some false
 else
  (chk (QV.length ≤ 9223372036854775807) (wO WS QV (0 : Int))).bind fun e => match e with
  | .inl kT =>
   some kT
  | .inr _ =>
   some true
noncomputable def qK : List Int → Int → za → Option ((za × Int) ⊕ za)
 | [], v_6, n_5 =>
  some (.inr n_5)
 | y_9 :: suf, v_6, n_5 =>
  if (decide (y_9 < (0 : Int))) = true then
   some (.inl (({ Kind := ([] : Str), Text := ([] : Str), Marks := [], zq := [], Kids := [] } : za), (9 : Int)))
  else
   if (decide (y_9 ≥ (n_5.Kids.length : Int))) = true then
    some (.inl (({ Kind := ([] : Str), Text := ([] : Str), Marks := [], zq := [], Kids := [] } : za), (9 : Int)))
   else
    if (n_5.Kind == ([116, 101, 120, 116] : Str)) = true then
     some (.inl (({ Kind := ([] : Str), Text := ([] : Str), Marks := [], zq := [], Kids := [] } : za), (9 : Int)))
    else
     (rd n_5.Kids y_9).bind fun aif =>
     qK suf (v_6 + 1) aif
noncomputable def kZ (n_1 : za) (wB : (List Int)) : Option (za × Int) :=
 (chk (wB.length ≤ 9223372036854775807) (qK wB (0 : Int) n_1)).bind fun e => match e with
 | .inl V7 =>
  some V7
 | .inr ahV =>
  if (ahV.Kind == ([116, 101, 120, 116] : Str)) = true then
   some (({ Kind := ([] : Str), Text := ([] : Str), Marks := [], zq := [], Kids := [] } : za), (9 : Int))
  else
   some (ahV, (0 : Int))
noncomputable def jv : List Int → Int → Int → za → Option Int
 | [], KA, afa, n_9 =>
  some afa
 | atN :: suf, KA, afa, n_9 =>
  (sl n_9.Kids (0 : Int) atN).bind fun awO =>
  (jT awO).bind fun al9 =>
  (rd n_9.Kids atN).bind fun awe =>
  jv suf (KA + 1) (w64 (afa + (w64 (al9 + (1 : Int))))) awe
noncomputable def WK (n_1 : za) (wB : (List Int)) : Option (Int × Int) :=
 (kZ n_1 wB).bind fun (r_3, r_4) =>
 if (r_4 != (0 : Int)) = true then
  some ((0 : Int), r_4)
 else
  (chk (wB.length ≤ 9223372036854775807) (jv wB (0 : Int) (0 : Int) n_1)).bind fun akX =>
  some (akX, (0 : Int))
noncomputable def yc (n_1 : za) (QO : Int) (adL : Int) : Option (qH × Int) :=
 if (n_1.Kind == ([116, 101, 120, 116] : Str)) = true then
  (wK (2 : Int) ({ path := [], in_ := ({ Kind := ([] : Str), Text := ([] : Str), Marks := [], zq := [], Kids := [] } : za), from_ := (0 : Int), to_ := (0 : Int) } : qH)).bind fun (v_4, asO) =>
  some (asO, v_4)
 else
  (QJ n_1).bind fun ajI =>
  if (!ajI) = true then
   (wK (2 : Int) ({ path := [], in_ := ({ Kind := ([] : Str), Text := ([] : Str), Marks := [], zq := [], Kids := [] } : za), from_ := (0 : Int), to_ := (0 : Int) } : qH)).bind fun (v_7, aq3) =>
   some (aq3, v_7)
  else
   (kg n_1 QO).bind fun (r_9, Jm) =>
   if (Jm != (0 : Int)) = true then
    (wK Jm ({ path := [], in_ := ({ Kind := ([] : Str), Text := ([] : Str), Marks := [], zq := [], Kids := [] } : za), from_ := (0 : Int), to_ := (0 : Int) } : qH)).bind fun (KA, apk) =>
    some (apk, KA)
   else
    (kg n_1 adL).bind fun (amC, ajY) =>
    if (ajY != (0 : Int)) = true then
     (wK ajY ({ path := [], in_ := ({ Kind := ([] : Str), Text := ([] : Str), Marks := [], zq := [], Kids := [] } : za), from_ := (0 : Int), to_ := (0 : Int) } : qH)).bind fun (asI, aoQ) =>
     some (aoQ, asI)
    else
     if (decide (adL < QO)) = true then
      (wK (3 : Int) ({ path := [], in_ := ({ Kind := ([] : Str), Text := ([] : Str), Marks := [], zq := [], Kids := [] } : za), from_ := (0 : Int), to_ := (0 : Int) } : qH)).bind fun (amm, aow) =>
      some (aow, amm)
     else
      (slices_Equal_int r_9.Path amC.Path).bind fun am9 =>
      if (!am9) = true then
       (wK (10 : Int) ({ path := [], in_ := ({ Kind := ([] : Str), Text := ([] : Str), Marks := [], zq := [], Kids := [] } : za), from_ := (0 : Int), to_ := (0 : Int) } : qH)).bind fun (aqI, aog) =>
       some (aog, aqI)
      else
       (WK n_1 r_9.Path).bind fun (avp, awX) =>
       (kZ n_1 r_9.Path).bind fun (avL, avX) =>
       (wK avX ({ path := r_9.Path, in_ := avL, from_ := w64 (QO - avp), to_ := w64 (adL - avp) } : qH)).bind fun (Yl, ao8) =>
       some (ao8, Yl)
noncomputable def wV : List za → Int → (List za) → Option (List za)
 | [], QD, vR =>
  some vR
 | K5 :: suf, QD, vR =>
  (jg K5).bind fun adX =>
  if (adX) = true then
   if (K5.Text == ([] : Str)) = true then
    wV suf (QD + 1) vR
   else
    if (decide ((w64 ((vR.length : Int) - (1 : Int))) ≥ (0 : Int))) = true then
     (rd vR (w64 ((vR.length : Int) - (1 : Int)))).bind fun atz =>
     (Zl atz K5).bind fun ah2 =>
     if (ah2) = true then
      chk (atz.Text.length + K5.Text.length ≤ 9223372036854775807) (
       (wr vR (w64 ((vR.length : Int) - (1 : Int))) ({ K5 with Text := atz.Text ++ K5.Text })).bind fun asz =>
       wV suf (QD + 1) asz)
     else
      (app 104 vR [K5]).bind fun arO =>
      wV suf (QD + 1) arO
    else
     (app 104 vR [K5]).bind fun asR =>
     wV suf (QD + 1) asR
  else
   if (decide ((w64 ((vR.length : Int) - (1 : Int))) ≥ (0 : Int))) = true then
    (rd vR (w64 ((vR.length : Int) - (1 : Int)))).bind fun aan =>
    (Zl aan K5).bind fun agT =>
    if (agT) = true then
     chk (aan.Text.length + K5.Text.length ≤ 9223372036854775807) (
      (wr vR (w64 ((vR.length : Int) - (1 : Int))) ({ K5 with Text := aan.Text ++ K5.Text })).bind fun awJ =>
      wV suf (QD + 1) awJ)
    else
     (app 104 vR [K5]).bind fun ash =>
     wV suf (QD + 1) ash
   else
    (app 104 vR [K5]).bind fun aww =>
    wV suf (QD + 1) aww
noncomputable def Q0 (l_1 : (List za)) : Option (List za) :=
 (chk (l_1.length ≤ 9223372036854775807) (wV l_1 (0 : Int) ([] : List za))).bind fun aeu =>
 some aeu
noncomputable def qZ (l : (List za)) : Option (List za) :=
 app 104 [] l
noncomputable def vJ : List za → Int → Int → Option (Int × Int)
 | [], i_8, agc =>
  some (agc, i_8)
 | aaj :: suf, i_8, agc =>
  (yE aaj).bind fun aj7 =>
  if (decide (agc ≥ aj7)) = true then
   (yE aaj).bind fun apf =>
   vJ suf (i_8 + 1) (w64 (agc - apf))
  else
   some (agc, i_8)
noncomputable def xm (l_1 : (List za)) (zP : Int) : Option ((List za) × (List za) × Int) :=
 if (decide (zP < (0 : Int))) = true then
  some ([], [], (3 : Int))
 else
  (jT l_1).bind fun Qn =>
  if (decide (zP > Qn)) = true then
   some ([], [], (3 : Int))
  else
   (chk (l_1.length ≤ 9223372036854775807) (vJ l_1 (0 : Int) zP)).bind fun (ae4, am3) =>
   (sl l_1 (0 : Int) am3).bind fun awi =>
   (qZ awi).bind fun akK =>
   (sl l_1 am3 (l_1.length : Int)).bind fun ama =>
   (qZ ama).bind fun afN =>
   if (ae4 == (0 : Int)) = true then
    some (akK, afN, (0 : Int))
   else
    (rd l_1 am3).bind fun aim =>
    if (!(aim.Kind == ([116, 101, 120, 116] : Str))) = true then
     some ([], [], (10 : Int))
    else
     (sl (runes aim.Text) (0 : Int) ae4).bind fun awM =>
     (sl (runes aim.Text) ae4 ((runes aim.Text).length : Int)).bind fun awI =>
     (rd afN (0 : Int)).bind fun awH =>
     (wr afN (0 : Int) ({ awH with Text := zK awI })).bind fun avS =>
     (app 104 akK [{ aim with Text := zK awM }]).bind fun awv =>
     some (awv, avS, (0 : Int))
noncomputable def vZ (n : Int) : Option (List za) :=
 chk (0 ≤ n ∧ n * 104 ≤ 140737488355328) (some ([] : List za))
noncomputable def qp : List (List za) → Int → Int → Option Int
 | [], v_4, V9 =>
  some V9
 | y_6 :: suf, v_4, V9 =>
  if (decide ((w64 (V9 + (y_6.length : Int))) < (0 : Int))) = true then
   none
  else
   qp suf (v_4 + 1) (w64 (V9 + (y_6.length : Int)))
noncomputable def qo : List (List za) → Int → (List za) → Option (List za)
 | [], XM, jP =>
  some jP
 | au7 :: suf, XM, jP =>
  (app 104 jP au7).bind fun ar3 =>
  qo suf (XM + 1) ar3
noncomputable def kX (kL : (List (List za))) : Option (List za) :=
 (chk (kL.length ≤ 9223372036854775807) (qp kL (0 : Int) (0 : Int))).bind fun aha =>
 (vZ aha).bind fun aop =>
 (chk (kL.length ≤ 9223372036854775807) (qo kL (0 : Int) aop)).bind fun Zq =>
 some Zq
noncomputable def jI : Nat → za → (List Int) → za → Option (za × Int)
 | 0, _, _, _ => none
 | kr + 1, n_1, wB, m_3 =>
  (kZ n_1 wB).bind fun (r_4, r_5) =>
  if (r_5 != (0 : Int)) = true then
   some (({ Kind := ([] : Str), Text := ([] : Str), Marks := [], zq := [], Kids := [] } : za), r_5)
  else
   if ((wB.length : Int) == (0 : Int)) = true then
    some (m_3, (0 : Int))
   else
    (qZ n_1.Kids).bind fun anY =>
    (rd wB (0 : Int)).bind fun x_7 =>
    (rd anY x_7).bind fun x_8 =>
    (sl wB (1 : Int) (wB.length : Int)).bind fun s_9 =>
    ((jI kr) x_8 s_9 m_3).bind fun (Jm, afn) =>
    (wr anY x_7 Jm).bind fun ak3 =>
    some ({ n_1 with Kids := ak3 }, (0 : Int))
noncomputable def QI (n_1 : za) (wB : (List Int)) (m_3 : za) : Option (za × Int) := lim fun kr => jI kr n_1 wB m_3
noncomputable def yn (n_1 : za) (QO : Int) (adL : Int) (l_4 : (List za)) : Option (za × Int) :=
 (yc n_1 QO adL).bind fun (r_5, r_6) =>
 if (r_6 == (2 : Int)) = true then
  some (({ Kind := ([] : Str), Text := ([] : Str), Marks := [], zq := [], Kids := [] } : za), (2 : Int))
 else
  (Q0 l_4).bind fun ah3 =>
  (yh ({ Kind := ([120] : Str), Text := ([] : Str), Marks := [], zq := [], Kids := ah3 } : za)).bind fun akM =>
  if (akM == (2 : Int)) = true then
   some (({ Kind := ([] : Str), Text := ([] : Str), Marks := [], zq := [], Kids := [] } : za), (2 : Int))
  else
   if (r_6 != (0 : Int)) = true then
    some (({ Kind := ([] : Str), Text := ([] : Str), Marks := [], zq := [], Kids := [] } : za), r_6)
   else
    (xm r_5.in_.Kids r_5.from_).bind fun (r_9, Jm, afn) =>
    (xm r_5.in_.Kids r_5.to_).bind fun (akE, amC, ajY) =>
    (kX [r_9, l_4, amC]).bind fun ao9 =>
    (Q0 ao9).bind fun ape =>
    (QI n_1 r_5.path ({ r_5.in_ with Kids := ape })).bind fun (asx, atT) =>
    (yh asx).bind fun ab6 =>
    if (ab6 != (0 : Int)) = true then
     some (({ Kind := ([] : Str), Text := ([] : Str), Marks := [], zq := [], Kids := [] } : za), ab6)
    else
     some (asx, (0 : Int))
noncomputable def slices_Clone_int (l : (List Int)) : Option (List Int) :=
 app 8 [] l
noncomputable def xu (n_1 : za) (kY : Int) : Option ((List Int) × Bool) :=
 if (kY == (-1 : Int)) = true then
  some ([], true)
 else
  (kg n_1 kY).bind fun (r_3, r_4) =>
  if (r_4 != (0 : Int)) = true then
   some ([], false)
  else
   if (decide (r_3.Offset > (0 : Int))) = true then
    some ([], false)
   else
    (slices_Clone_int r_3.Path).bind fun auy =>
    (app 8 auy [r_3.Index]).bind fun l_6 =>
    (kZ n_1 l_6).bind fun (r_7, r_8) =>
    some (l_6, r_8 == (0 : Int))
noncomputable def KJ (a_1 : zf) (qU : zG) : Option Bool :=
 some (a_1.Name == qU.Name)
noncomputable def zY (qU : zG) : List zf → Int → Option ((Int × zG) ⊕ Unit)
 | [], v_5 =>
  some (.inr ())
 | y_8 :: suf, v_5 =>
  (KJ y_8 qU).bind fun auS =>
  if (auS) = true then
   some (.inl (v_5, qU))
  else
   zY qU suf (v_5 + 1)
noncomputable def qA (s_1 : (List zf)) (qU : zG) : Option (Int × zG) :=
 (chk (s_1.length ≤ 9223372036854775807) (zY qU s_1 (0 : Int))).bind fun e => match e with
 | .inl kT =>
  some kT
 | .inr _ =>
  some ((-1 : Int), qU)
noncomputable def vg (l : (List zf)) : Option (List zf) :=
 app 32 [] l
noncomputable def xe (n_1 : za) (s_2 : zG) : Option (za × Str × Int) :=
 (xu n_1 s_2.From).bind fun (r_3, r_4) =>
 if (!r_4) = true then
  some (({ Kind := ([] : Str), Text := ([] : Str), Marks := [], zq := [], Kids := [] } : za), ([] : Str), (3 : Int))
 else
  (kZ n_1 r_3).bind fun (r_5, r_6) =>
  (qA r_5.zq s_2).bind fun (r_7, asg) =>
  if (decide (r_7 < (0 : Int))) = true then
   some (({ Kind := ([] : Str), Text := ([] : Str), Marks := [], zq := [], Kids := [] } : za), ([] : Str), (9 : Int))
  else
   (rd r_5.zq r_7).bind fun x_9 =>
   (vg r_5.zq).bind fun akj =>
   (rd akj r_7).bind fun al8 =>
   (wr akj r_7 ({ al8 with Value := asg.Value })).bind fun ak3 =>
   (QI n_1 r_3 ({ r_5 with zq := ak3 })).bind fun (amC, ajY) =>
   some (amC, x_9.Value, ajY)
noncomputable def Qc (s : zG) (marks : (List Str)) : Option ((List Str) × Bool) :=
 chk (marks.length ≤ 1099511627776) (some (ZV s.Kind s.Name marks))
noncomputable def vX (V6 : Int) (aqk : Int) (vH : Int) (zA : Int) (jw : Int) (kF : (List za)) (vG : Str) (kC : Str) (l_9 : (List zi)) : Option (Int × Int × Int × (List za) × Str × Str × (List zi)) :=
 if (decide ((w64 ((l_9.length : Int) - (1 : Int))) ≥ (0 : Int))) = true then
  (rd l_9 (w64 ((l_9.length : Int) - (1 : Int)))).bind fun aif =>
  if ((w64 (aif.Pos + aif.Old)) == V6) = true then
   (wr l_9 (w64 ((l_9.length : Int) - (1 : Int))) ({ aif with Old := w64 (aif.Old + (w64 (aqk - V6))) })).bind fun aq5 =>
   some (vH, zA, jw, kF, vG, kC, aq5)
  else
   (app 24 l_9 [({ Pos := V6, Old := w64 (aqk - V6), New := (0 : Int) } : zi)]).bind fun ak3 =>
   some (vH, zA, jw, kF, vG, kC, ak3)
 else
  (app 24 l_9 [({ Pos := V6, Old := w64 (aqk - V6), New := (0 : Int) } : zi)]).bind fun ari =>
  some (vH, zA, jw, kF, vG, kC, ari)
noncomputable def wQ (a_1 : Int) (b_2 : Int) (afT : (List Str)) (Q3 : za) (v_5 : (List Int)) : Option za :=
 (sl v_5 a_1 b_2).bind fun s_6 =>
 some ({ Kind := Q3.Kind, Text := zK s_6, Marks := afT, zq := [], Kids := [] } : za)
noncomputable def vU (n_1 : za) (zP : Int) (vH : Int) (zA : Int) (jw : Int) (kF : (List za)) (vG : Str) (kC : Str) (l_9 : (List zi)) : Option ((List za) × Int × Int × Int × (List za) × Str × Str × (List zi)) :=
 (Qc ({ Kind := vH, From := zA, To := jw, wJ := kF, Name := vG, Value := kC } : zG) n_1.Marks).bind fun (Jm, afn) =>
 if (!afn) = true then
  some ([n_1], vH, zA, jw, kF, vG, kC, l_9)
 else
  if ((if ((runes n_1.Text).length : Int) < (if (0 : Int) > (w64 (zA - zP)) then (0 : Int) else w64 (zA - zP)) then ((runes n_1.Text).length : Int) else (if (0 : Int) > (w64 (zA - zP)) then (0 : Int) else w64 (zA - zP))) == (if ((runes n_1.Text).length : Int) < (if (if ((runes n_1.Text).length : Int) < (if (0 : Int) > (w64 (zA - zP)) then (0 : Int) else w64 (zA - zP)) then ((runes n_1.Text).length : Int) else (if (0 : Int) > (w64 (zA - zP)) then (0 : Int) else w64 (zA - zP))) > (w64 (jw - zP)) then (if ((runes n_1.Text).length : Int) < (if (0 : Int) > (w64 (zA - zP)) then (0 : Int) else w64 (zA - zP)) then ((runes n_1.Text).length : Int) else (if (0 : Int) > (w64 (zA - zP)) then (0 : Int) else w64 (zA - zP))) else w64 (jw - zP)) then ((runes n_1.Text).length : Int) else (if (if ((runes n_1.Text).length : Int) < (if (0 : Int) > (w64 (zA - zP)) then (0 : Int) else w64 (zA - zP)) then ((runes n_1.Text).length : Int) else (if (0 : Int) > (w64 (zA - zP)) then (0 : Int) else w64 (zA - zP))) > (w64 (jw - zP)) then (if ((runes n_1.Text).length : Int) < (if (0 : Int) > (w64 (zA - zP)) then (0 : Int) else w64 (zA - zP)) then ((runes n_1.Text).length : Int) else (if (0 : Int) > (w64 (zA - zP)) then (0 : Int) else w64 (zA - zP))) else w64 (jw - zP)))) = true then
   some ([n_1], vH, zA, jw, kF, vG, kC, l_9)
  else
   (vX (w64 (zP + (if ((runes n_1.Text).length : Int) < (if (0 : Int) > (w64 (zA - zP)) then (0 : Int) else w64 (zA - zP)) then ((runes n_1.Text).length : Int) else (if (0 : Int) > (w64 (zA - zP)) then (0 : Int) else w64 (zA - zP))))) (w64 (zP + (if ((runes n_1.Text).length : Int) < (if (if ((runes n_1.Text).length : Int) < (if (0 : Int) > (w64 (zA - zP)) then (0 : Int) else w64 (zA - zP)) then ((runes n_1.Text).length : Int) else (if (0 : Int) > (w64 (zA - zP)) then (0 : Int) else w64 (zA - zP))) > (w64 (jw - zP)) then (if ((runes n_1.Text).length : Int) < (if (0 : Int) > (w64 (zA - zP)) then (0 : Int) else w64 (zA - zP)) then ((runes n_1.Text).length : Int) else (if (0 : Int) > (w64 (zA - zP)) then (0 : Int) else w64 (zA - zP))) else w64 (jw - zP)) then ((runes n_1.Text).length : Int) else (if (if ((runes n_1.Text).length : Int) < (if (0 : Int) > (w64 (zA - zP)) then (0 : Int) else w64 (zA - zP)) then ((runes n_1.Text).length : Int) else (if (0 : Int) > (w64 (zA - zP)) then (0 : Int) else w64 (zA - zP))) > (w64 (jw - zP)) then (if ((runes n_1.Text).length : Int) < (if (0 : Int) > (w64 (zA - zP)) then (0 : Int) else w64 (zA - zP)) then ((runes n_1.Text).length : Int) else (if (0 : Int) > (w64 (zA - zP)) then (0 : Int) else w64 (zA - zP))) else w64 (jw - zP))))) vH zA jw kF vG kC l_9).bind fun (apc, ao2, auD, alN, aoR, alm, ar3) =>
   (wQ (0 : Int) (if ((runes n_1.Text).length : Int) < (if (0 : Int) > (w64 (zA - zP)) then (0 : Int) else w64 (zA - zP)) then ((runes n_1.Text).length : Int) else (if (0 : Int) > (w64 (zA - zP)) then (0 : Int) else w64 (zA - zP))) n_1.Marks n_1 (runes n_1.Text)).bind fun aut =>
   (wQ (if ((runes n_1.Text).length : Int) < (if (0 : Int) > (w64 (zA - zP)) then (0 : Int) else w64 (zA - zP)) then ((runes n_1.Text).length : Int) else (if (0 : Int) > (w64 (zA - zP)) then (0 : Int) else w64 (zA - zP))) (if ((runes n_1.Text).length : Int) < (if (if ((runes n_1.Text).length : Int) < (if (0 : Int) > (w64 (zA - zP)) then (0 : Int) else w64 (zA - zP)) then ((runes n_1.Text).length : Int) else (if (0 : Int) > (w64 (zA - zP)) then (0 : Int) else w64 (zA - zP))) > (w64 (jw - zP)) then (if ((runes n_1.Text).length : Int) < (if (0 : Int) > (w64 (zA - zP)) then (0 : Int) else w64 (zA - zP)) then ((runes n_1.Text).length : Int) else (if (0 : Int) > (w64 (zA - zP)) then (0 : Int) else w64 (zA - zP))) else w64 (jw - zP)) then ((runes n_1.Text).length : Int) else (if (if ((runes n_1.Text).length : Int) < (if (0 : Int) > (w64 (zA - zP)) then (0 : Int) else w64 (zA - zP)) then ((runes n_1.Text).length : Int) else (if (0 : Int) > (w64 (zA - zP)) then (0 : Int) else w64 (zA - zP))) > (w64 (jw - zP)) then (if ((runes n_1.Text).length : Int) < (if (0 : Int) > (w64 (zA - zP)) then (0 : Int) else w64 (zA - zP)) then ((runes n_1.Text).length : Int) else (if (0 : Int) > (w64 (zA - zP)) then (0 : Int) else w64 (zA - zP))) else w64 (jw - zP))) Jm n_1 (runes n_1.Text)).bind fun auB =>
   (wQ (if ((runes n_1.Text).length : Int) < (if (if ((runes n_1.Text).length : Int) < (if (0 : Int) > (w64 (zA - zP)) then (0 : Int) else w64 (zA - zP)) then ((runes n_1.Text).length : Int) else (if (0 : Int) > (w64 (zA - zP)) then (0 : Int) else w64 (zA - zP))) > (w64 (jw - zP)) then (if ((runes n_1.Text).length : Int) < (if (0 : Int) > (w64 (zA - zP)) then (0 : Int) else w64 (zA - zP)) then ((runes n_1.Text).length : Int) else (if (0 : Int) > (w64 (zA - zP)) then (0 : Int) else w64 (zA - zP))) else w64 (jw - zP)) then ((runes n_1.Text).length : Int) else (if (if ((runes n_1.Text).length : Int) < (if (0 : Int) > (w64 (zA - zP)) then (0 : Int) else w64 (zA - zP)) then ((runes n_1.Text).length : Int) else (if (0 : Int) > (w64 (zA - zP)) then (0 : Int) else w64 (zA - zP))) > (w64 (jw - zP)) then (if ((runes n_1.Text).length : Int) < (if (0 : Int) > (w64 (zA - zP)) then (0 : Int) else w64 (zA - zP)) then ((runes n_1.Text).length : Int) else (if (0 : Int) > (w64 (zA - zP)) then (0 : Int) else w64 (zA - zP))) else w64 (jw - zP))) ((runes n_1.Text).length : Int) n_1.Marks n_1 (runes n_1.Text)).bind fun auw =>
   some ([aut, auB, auw], apc, ao2, auD, alN, aoR, alm, ar3)
noncomputable def qg (step_painter_kids_x_r : (List za) → Int → Int → Int → Int → (List za) → Str → Str → (List zi) → Option ((List za) × Int × Int × Int × (List za) × Str × Str × (List zi))) : List za → Int → Int → (List za) → Int → Int → Int → (List za) → Str → Str → (List zi) → Option ((List za) × Int × Int × Int × (List za) × Str × Str × (List zi))
 | [], agZ, aa5, Jg, ajG, akm, akf, akL, ajT, aka, XY =>
  some (Jg, ajG, akm, akf, akL, ajT, aka, XY)
 | ajU :: suf, agZ, aa5, Jg, ajG, akm, akf, akL, ajT, aka, XY =>
  (yE ajU).bind fun akG =>
  if (ajU.Kind == ([116, 101, 120, 116] : Str)) = true then
   (vU ajU aa5 ajG akm akf akL ajT aka XY).bind fun (avW, ao0, aoE, auq, alX, aom, amb, aoe) =>
   (app 104 Jg avW).bind fun av8 =>
   qg step_painter_kids_x_r suf (agZ + 1) (w64 (aa5 + akG)) av8 ao0 aoE auq alX aom amb aoe
  else
   (step_painter_kids_x_r ajU.Kids (w64 (aa5 + (1 : Int))) ajG akm akf akL ajT aka XY).bind fun (awy, aof, aph, auz, ak8, aoW, amO, avQ) =>
   (app 104 Jg [{ ajU with Kids := awy }]).bind fun anm =>
   qg step_painter_kids_x_r suf (agZ + 1) (w64 (aa5 + akG)) anm aof aph auz ak8 aoW amO avQ
noncomputable def qL : Nat → (List za) → Int → Int → Int → Int → (List za) → Str → Str → (List zi) → Option ((List za) × Int × Int × Int × (List za) × Str × Str × (List zi))
 | 0, _, _, _, _, _, _, _, _, _ => none
 | kr + 1, l_1, zP, vH, zA, jw, kF, vG, kC, l_9 =>
  (chk (l_1.length ≤ 9223372036854775807) (qg (qL kr) l_1 (0 : Int) zP ([] : List za) vH zA jw kF vG kC l_9)).bind fun (ad1, asa, aq8, asj, aqL, ast, ark, ap8) =>
  (Q0 ad1).bind fun aoF =>
  some (aoF, asa, aq8, asj, aqL, ast, ark, ap8)
noncomputable def vT (l_1 : (List za)) (zP : Int) (vH : Int) (zA : Int) (jw : Int) (kF : (List za)) (vG : Str) (kC : Str) (l_9 : (List zi)) : Option ((List za) × Int × Int × Int × (List za) × Str × Str × (List zi)) := lim fun kr => qL kr l_1 zP vH zA jw kF vG kC l_9
noncomputable def Zn (n_1 : za) (s_2 : zG) : Option (za × (List zi) × Int) :=
 (jT n_1.Kids).bind fun Qn =>
 if (decide (s_2.To > Qn)) = true then
  some (({ Kind := ([] : Str), Text := ([] : Str), Marks := [], zq := [], Kids := [] } : za), [], (3 : Int))
 else
  (vT n_1.Kids (0 : Int) s_2.Kind s_2.From s_2.To s_2.wJ s_2.Name s_2.Value ([] : List zi)).bind fun (r_4, avv, auW, aw3, atA, auL, ar4, aq5) =>
  some ({ n_1 with Kids := r_4 }, aq5, (0 : Int))
noncomputable def wP (n_1 : za) (s_2 : zG) : Option (za × Int) :=
 (xD s_2).bind fun vz =>
 if (!vz) = true then
  some (({ Kind := ([] : Str), Text := ([] : Str), Marks := [], zq := [], Kids := [] } : za), (1 : Int))
 else
  if (n_1.Kind == ([116, 101, 120, 116] : Str)) = true then
   some (({ Kind := ([] : Str), Text := ([] : Str), Marks := [], zq := [], Kids := [] } : za), (2 : Int))
  else
   (QJ n_1).bind fun ajP =>
   if (!ajP) = true then
    some (({ Kind := ([] : Str), Text := ([] : Str), Marks := [], zq := [], Kids := [] } : za), (2 : Int))
   else
    if (s_2.Kind == (114 : Int)) = true then
     (yn n_1 s_2.From s_2.To s_2.wJ).bind fun (r_5, r_6) =>
     some (r_5, r_6)
    else
     if (s_2.Kind == (97 : Int)) = true then
      (xe n_1 s_2).bind fun (r_7, r_8, r_9) =>
      some (r_7, r_9)
     else
      (Zn n_1 s_2).bind fun (Jm, afn, akE) =>
      some (Jm, akE)
noncomputable def jo : Option Bool :=
 (wP ({ Kind := ([100, 111, 99] : Str), Text := ([] : Str), Marks := [], zq := [], Kids := [({ Kind := ([112] : Str), Text := ([] : Str), Marks := [], zq := [], Kids := [({ Kind := ([116, 101, 120, 116] : Str), Text := ([104, 105] : Str), Marks := [], zq := [], Kids := [] } : za)] } : za)] } : za) ({ Kind := (109 : Int), From := (2 : Int), To := (3 : Int), wJ := [], Name := ([98] : Str), Value := ([] : Str) } : zG)).bind fun (r_1, r_2) =>
 if (r_2 == (0 : Int)) = true then
  if ((r_1.Kids.length : Int) == (1 : Int)) = true then
   (rd r_1.Kids (0 : Int)).bind fun x_3 =>
   if ((x_3.Kids.length : Int) == (2 : Int)) = true then
    (rd x_3.Kids (1 : Int)).bind fun x_4 =>
    if (x_4.Text == ([105] : Str)) = true then
     some ((x_4.Marks.length : Int) == (1 : Int))
    else
     some false
   else
    some false
  else
   some false
 else
  some false
noncomputable def zQ (c_1 : Int) (n_2 : Int) : Option Int :=
 if (decide (c_1 < (0 : Int))) = true then
  chk (n_2 ≠ 0) (
   some ((w64 (0 - (w64 (c_1 + (1 : Int))))).tmod n_2))
 else
  chk (n_2 ≠ 0) (
   some (c_1.tmod n_2))
noncomputable def qB (b_2 : (List Str)) : List Str → Int → Option (Bool ⊕ Unit)
 | [], i_5 =>
  some (.inr ())
 | y_8 :: suf, i_5 =>
  (rd b_2 i_5).bind fun x_9 =>
  if (!(y_8 == x_9)) = true then
   some (.inl false)
  else
   qB b_2 suf (i_5 + 1)
noncomputable def vk (a_1 : (List Str)) (b_2 : (List Str)) : Option Bool :=
 if ((a_1.length : Int) != (b_2.length : Int)) = true then
  some false
 else
  (chk (a_1.length ≤ 9223372036854775807) (qB b_2 a_1 (0 : Int))).bind fun e => match e with
  | .inl kT =>
   some kT
  | .inr _ =>
   some true
noncomputable def qb : List za → Int → (List za) → Option (List za)
 | [], Jo, vQ =>
  some vQ
 | Zh :: suf, Jo, vQ =>
  ((
    if (Zh.Kind == ([116, 101, 120, 116] : Str)) = true then
     if (Zh.Text == ([] : Str)) = true then
      some (.inl ())
     else
      some (.inr ())
    else
     some (.inr ())) : Option (Unit ⊕ Unit)).bind fun e => match e with
  | .inl _ =>
   qb suf (Jo + 1) vQ
  | .inr _ =>
   if (Zh.Kind == ([116, 101, 120, 116] : Str)) = true then
    if (decide ((w64 ((vQ.length : Int) - (1 : Int))) ≥ (0 : Int))) = true then
     (rd vQ (w64 ((vQ.length : Int) - (1 : Int)))).bind fun aqx =>
     if (aqx.Kind == ([116, 101, 120, 116] : Str)) = true then
      (vk aqx.Marks Zh.Marks).bind fun aej =>
      if (aej) = true then
       chk (aqx.Text.length + Zh.Text.length ≤ 9223372036854775807) (
        (sl vQ (0 : Int) (w64 ((vQ.length : Int) - (1 : Int)))).bind fun awR =>
        (app 104 ([] : List za) awR).bind fun avM =>
        (app 104 avM [{ Zh with Text := aqx.Text ++ Zh.Text }]).bind fun asz =>
        qb suf (Jo + 1) asz)
      else
       (app 104 vQ [Zh]).bind fun arO =>
       qb suf (Jo + 1) arO
     else
      (app 104 vQ [Zh]).bind fun asR =>
      qb suf (Jo + 1) asR
    else
     (app 104 vQ [Zh]).bind fun asc =>
     qb suf (Jo + 1) asc
   else
    (app 104 vQ [Zh]).bind fun avU =>
    qb suf (Jo + 1) avU
noncomputable def xg (l_1 : (List za)) : Option (List za) :=
 (chk (l_1.length ≤ 9223372036854775807) (qb l_1 (0 : Int) ([] : List za))).bind fun QU =>
 some QU
noncomputable def vM (x_1 : zu) (afM : (List za)) : Option za :=
 (zQ x_1.zq (2 : Int)).bind fun aqT =>
 (rd [([108, 101, 102, 116] : Str), ([114, 105, 103, 104, 116] : Str)] aqT).bind fun x_4 =>
 (zQ (w64 (x_1.zq.tdiv (2 : Int))) (4 : Int)).bind fun asJ =>
 (rd [([] : Str), ([195, 169] : Str), ([34, 113, 92] : Str), ([110, 111, 116, 101] : Str)] asJ).bind fun x_6 =>
 (xg afM).bind fun ah3 =>
 some ({ Kind := ([112, 97, 114, 97] : Str), Text := ([] : Str), Marks := [], zq := [({ Name := ([97, 108, 105, 103, 110] : Str), Value := x_4 } : zf), ({ Name := ([110, 111, 116, 101] : Str), Value := x_6 } : zf)], Kids := ah3 } : za)
noncomputable def qP (diptychref1_Depth_r : za → Option Int) : List za → Int → Int → Option Int
 | [], i_5, d_4 =>
  some d_4
 | y_8 :: suf, i_5, d_4 =>
  (diptychref1_Depth_r y_8).bind fun ajH =>
  qP diptychref1_Depth_r suf (i_5 + 1) (if ajH > d_4 then ajH else d_4)
noncomputable def qM : Nat → za → Option Int
 | 0, _ => none
 | kr + 1, n_1 =>
  if (n_1.Kind == ([116, 101, 120, 116] : Str)) = true then
   some (0 : Int)
  else
   (chk (n_1.Kids.length ≤ 9223372036854775807) (qP (qM kr) n_1.Kids (0 : Int) (0 : Int))).bind fun arG =>
   some (w64 (arG + (1 : Int)))
noncomputable def vK (n_1 : za) : Option Int := lim fun kr => qM kr n_1
noncomputable def zF : List zu → Int → (List za) → (List za) → Option (List za)
 | [], QX, xJ, yP =>
  some yP
 | aeA :: suf, QX, xJ, yP =>
  if (decide (QX < (40 : Int))) = true then
   (zQ aeA.Text (5 : Int)).bind fun apl =>
   (rd [([97] : Str), ([98, 99] : Str), ([195, 169] : Str), ([120, 32, 121] : Str), ([230, 151, 165, 230, 156, 172] : Str)] apl).bind fun aud =>
   ((
     (zQ aeA.Marks (4 : Int)).bind fun acy =>
     if ((ajD acy (1 : Int)) == (1 : Int)) = true then
      (app 16 ([] : List Str) [([98] : Str)]).bind fun aoe =>
      some aoe
     else
      some ([] : List Str)) : Option (List Str)).bind fun anf =>
   ((
     (zQ aeA.Marks (4 : Int)).bind fun adg =>
     if ((ajD adg (2 : Int)) == (2 : Int)) = true then
      (app 16 anf [([105] : Str)]).bind fun atw =>
      some atw
     else
      some anf) : Option (List Str)).bind fun apT =>
   (app 104 xJ [({ Kind := ([116, 101, 120, 116] : Str), Text := aud, Marks := apT, zq := [], Kids := [] } : za)]).bind fun auN =>
   (zQ aeA.In (5 : Int)).bind fun Xh =>
   if (Xh == (0 : Int)) = true then
    zF suf (QX + 1) auN yP
   else
    (vM aeA auN).bind fun jZ =>
    if (decide (Xh < (3 : Int))) = true then
     (app 104 yP [jZ]).bind fun atn =>
     zF suf (QX + 1) ([] : List za) atn
    else
     ((
       if (decide ((w64 ((yP.length : Int) - (1 : Int))) ≥ (0 : Int))) = true then
        (rd yP (w64 ((yP.length : Int) - (1 : Int)))).bind fun akT =>
        if (akT.Kind == ([108, 105, 115, 116] : Str)) = true then
         if (Xh == (3 : Int)) = true then
          (app 104 ([] : List za) akT.Kids).bind fun anm =>
          (app 104 anm [({ Kind := ([105, 116, 101, 109] : Str), Text := ([] : Str), Marks := [], zq := [], Kids := [jZ] } : za)]).bind fun at1 =>
          (sl yP (0 : Int) (w64 ((yP.length : Int) - (1 : Int)))).bind fun as4 =>
          (app 104 ([] : List za) as4).bind fun ato =>
          (app 104 ato [{ akT with Kids := at1 }]).bind fun atU =>
          some (.inl atU)
         else
          some (.inr ())
        else
         some (.inr ())
       else
        some (.inr ())) : Option ((List za) ⊕ Unit)).bind fun e => match e with
     | .inl amz =>
      zF suf (QX + 1) ([] : List za) amz
     | .inr _ =>
      if (decide ((w64 ((yP.length : Int) - (1 : Int))) ≥ (0 : Int))) = true then
       (rd yP (w64 ((yP.length : Int) - (1 : Int)))).bind fun ake =>
       if (ake.Kind == ([108, 105, 115, 116] : Str)) = true then
        (vK ake).bind fun Yw =>
        if (decide (Yw < (30 : Int))) = true then
         (app 104 [jZ] [ake]).bind fun aub =>
         (sl yP (0 : Int) (w64 ((yP.length : Int) - (1 : Int)))).bind fun atJ =>
         (app 104 ([] : List za) atJ).bind fun as3 =>
         (app 104 as3 [({ Kind := ([108, 105, 115, 116] : Str), Text := ([] : Str), Marks := [], zq := [], Kids := [({ Kind := ([105, 116, 101, 109] : Str), Text := ([] : Str), Marks := [], zq := [], Kids := aub } : za)] } : za)]).bind fun att =>
         zF suf (QX + 1) ([] : List za) att
        else
         (app 104 yP [({ Kind := ([108, 105, 115, 116] : Str), Text := ([] : Str), Marks := [], zq := [], Kids := [({ Kind := ([105, 116, 101, 109] : Str), Text := ([] : Str), Marks := [], zq := [], Kids := [jZ] } : za)] } : za)]).bind fun aua =>
         zF suf (QX + 1) ([] : List za) aua
       else
        (app 104 yP [({ Kind := ([108, 105, 115, 116] : Str), Text := ([] : Str), Marks := [], zq := [], Kids := [({ Kind := ([105, 116, 101, 109] : Str), Text := ([] : Str), Marks := [], zq := [], Kids := [jZ] } : za)] } : za)]).bind fun atB =>
        zF suf (QX + 1) ([] : List za) atB
      else
       (app 104 yP [({ Kind := ([108, 105, 115, 116] : Str), Text := ([] : Str), Marks := [], zq := [], Kids := [({ Kind := ([105, 116, 101, 109] : Str), Text := ([] : Str), Marks := [], zq := [], Kids := [jZ] } : za)] } : za)]).bind fun as5 =>
       zF suf (QX + 1) ([] : List za) as5
  else
   some yP
noncomputable def jk (l_1 : (List zu)) : Option za :=
 (chk (l_1.length ≤ 9223372036854775807) (zF l_1 (0 : Int) ([] : List za) ([] : List za))).bind fun apY =>
 some ({ Kind := ([100, 111, 99] : Str), Text := ([] : Str), Marks := [], zq := [], Kids := apY } : za)
noncomputable def qO (n_1 : za) (kI : Int) (kN : Int) (Ja : za) : Nat → Int → Int → Option Int
 | 0, _, _ => none
 | k + 1, an6, ahw =>
  if (decide (ahw > (if kN < kI then kN else kI))) = true then
   if (an6 != (0 : Int)) = true then
    (wP n_1 ({ Kind := (114 : Int), From := (if kN < kI then kN else kI), To := w64 (ahw - (1 : Int)), wJ := Ja.Kids, Name := ([] : Str), Value := ([] : Str) } : zG)).bind fun (asx, atT) =>
    qO n_1 kI kN Ja k atT (w64 (ahw - (1 : Int)))
   else
    some ahw
  else
   some ahw
noncomputable def jN (n_1 : za) (K8 : Int) (Xn : Int) (ajX : Int) (l_5 : (List zu)) : Option zG :=
 (jT n_1.Kids).bind fun aky =>
 (zQ Xn (w64 (aky + (1 : Int)))).bind fun kI =>
 (zQ ajX (w64 (aky + (1 : Int)))).bind fun kN =>
 (zQ K8 (4 : Int)).bind fun abQ =>
 if (abQ == (0 : Int)) = true then
  (jk l_5).bind fun Ja =>
  (wP n_1 ({ Kind := (114 : Int), From := (if kN < kI then kN else kI), To := (if kN > kI then kN else kI), wJ := Ja.Kids, Name := ([] : Str), Value := ([] : Str) } : zG)).bind fun (afn, akE) =>
  (lim fun k => qO n_1 kI kN Ja k akE (if kN > kI then kN else kI)).bind fun ama =>
  some ({ Kind := (114 : Int), From := (if kN < kI then kN else kI), To := ama, wJ := Ja.Kids, Name := ([] : Str), Value := ([] : Str) } : zG)
 else
  if (abQ == (1 : Int)) = true then
   some ({ Kind := (97 : Int), From := w64 (kI - (1 : Int)), To := (0 : Int), wJ := [], Name := ([97, 108, 105, 103, 110] : Str), Value := ([114, 105, 103, 104, 116] : Str) } : zG)
  else
   if (abQ == (2 : Int)) = true then
    (zQ (w64 (K8.tdiv (4 : Int))) (3 : Int)).bind fun aos =>
    (rd [([98] : Str), ([105] : Str), ([122] : Str)] aos).bind fun aim =>
    some ({ Kind := (109 : Int), From := (if kN < kI then kN else kI), To := (if kN > kI then kN else kI), wJ := [], Name := aim, Value := ([] : Str) } : zG)
   else
    (zQ (w64 (K8.tdiv (4 : Int))) (3 : Int)).bind fun ao7 =>
    (rd [([98] : Str), ([105] : Str), ([122] : Str)] ao7).bind fun awE =>
    some ({ Kind := (117 : Int), From := (if kN < kI then kN else kI), To := (if kN > kI then kN else kI), wJ := [], Name := awE, Value := ([] : Str) } : zG)
noncomputable def qa (zW : zG) (yK : (List zx)) (yj : (List zi)) : List zx → Int → Option (Bool ⊕ Unit)
 | [], Jq =>
  some (.inr ())
 | akJ :: suf, Jq =>
  ((
    if (decide (Jq ≥ zW.From)) = true then
     if (decide (Jq < zW.To)) = true then
      some (.inl ())
     else
      some (.inr ())
    else
     some (.inr ())) : Option (Unit ⊕ Unit)).bind fun e => match e with
  | .inl _ =>
   qa zW yK yj suf (Jq + 1)
  | .inr _ =>
   (KC yj Jq (decide (Jq ≥ zW.To))).bind fun aiM =>
   if (decide (aiM < (0 : Int))) = true then
    some (.inl false)
   else
    if (decide (aiM ≥ (yK.length : Int))) = true then
     some (.inl false)
    else
     (rd yK aiM).bind fun anq =>
     if ((((akJ.Kind == anq.Kind) && ((akJ.Text == anq.Text) && (akJ.Head == anq.Head))) != true)) = true then
      some (.inl false)
     else
      qa zW yK yj suf (Jq + 1)
noncomputable def zU (zW : zG) (WL : (List zx)) (yK : (List zx)) : Nat → Int → Option (Bool ⊕ Unit)
 | 0, _ => none
 | k + 1, afz =>
  if (decide (afz < zW.To)) = true then
   if (zW.Kind != (114 : Int)) = true then
    (rd WL afz).bind fun aan =>
    if (aan.Kind != (116 : Int)) = true then
     (rd yK afz).bind fun an4 =>
     if ((((aan.Kind == an4.Kind) && ((aan.Text == an4.Text) && (aan.Head == an4.Head))) != true)) = true then
      some (.inl false)
     else
      zU zW WL yK k (w64 (afz + (1 : Int)))
    else
     (rd yK afz).bind fun atO =>
     if (!(atO.Text == aan.Text)) = true then
      some (.inl false)
     else
      (jm atO.Head zW.Name).bind fun an7 =>
      if (((an7 == (zW.Kind == (109 : Int))) != true)) = true then
       some (.inl false)
      else
       zU zW WL yK k (w64 (afz + (1 : Int)))
   else
    some (.inr ())
  else
   some (.inr ())
noncomputable def vL (l_1 : (List zu)) (K8 : Int) (Xn : Int) (ajX : Int) (k_5 : (List zu)) : Option Bool :=
 (jo).bind fun acr =>
 if (!acr) = true then
  some acr
 else
  if (decide ((k_5.length : Int) > (20 : Int))) = true then
   some acr
  else
   (jk l_1).bind fun aot =>
   (jN aot K8 Xn ajX k_5).bind fun zW =>
   (wP aot zW).bind fun (r_9, Jm) =>
   if (Jm != (0 : Int)) = true then
    some true
   else
    if (zW.Kind == (97 : Int)) = true then
     some true
    else
     (Z5 aot.Kids).bind fun WL =>
     (Z5 r_9.Kids).bind fun yK =>
     (Zk zW).bind fun yj =>
     (chk (WL.length ≤ 9223372036854775807) (qa zW yK yj WL (0 : Int))).bind fun e => match e with
     | .inl ahN =>
      some ahN
     | .inr _ =>
      (lim fun k => zU zW WL yK k zW.From).bind fun e => match e with
      | .inl ahK =>
       some ahK
      | .inr _ =>
       some true
end Go.Proofs.YtclohbgnaopjfaaGreatDoor
