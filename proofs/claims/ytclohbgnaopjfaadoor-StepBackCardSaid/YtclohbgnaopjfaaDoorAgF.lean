/- Texts of the proof of stepBackCard -/
import Derived.Test.YtclohbgnaopjfaaDoorAgT
import Derived.Test.YtclohbgnaopjfaaDoorAgBld
import Derived.Test.YtclohbgnaopjfaaDoorAgWith
import Derived.Test.YtclohbgnaopjfaaDoorAgLib
namespace Go.Proofs.YtclohbgnaopjfaaDoor
set_option linter.unusedSimpArgs false
set_option linter.unusedVariables false
open Go
set_option maxRecDepth 100000
noncomputable def vQ (n_1 : za) : Option Bool :=
 some (n_1.Kind == ([116, 101, 120, 116] : Str))
noncomputable def zM (s_1 : Str) : Nat → Int → Nat → Option Int
 | 0, _, _ => none
 | k + 1, n_2, v_3 =>
  if (decide (v_3 < s_1.length)) = true then
   zM s_1 k (w64 (n_2 + (1 : Int))) (v_3 + arv s_1 v_3)
  else
   some n_2
noncomputable def wo (s_1 : Str) : Option Int :=
 (lim fun k => zM s_1 k (0 : Int) 0).bind fun n_4 =>
 some n_4
noncomputable def jC (node_Size_r : za → Option Int) : List za → Int → Int → Option Int
 | [], v_5, YP =>
  some YP
 | y_8 :: suf, v_5, YP =>
  (node_Size_r y_8).bind fun ar0 =>
  jC node_Size_r suf (v_5 + 1) (w64 (YP + ar0))
mutual
noncomputable def xR : Nat → (List za) → Option Int
 | 0, _ => none
 | kr + 1, l_1 =>
  (chk (l_1.length ≤ 9223372036854775807) (jC (jD kr) l_1 (0 : Int) (0 : Int))).bind fun acn =>
  some acn
noncomputable def jD : Nat → za → Option Int
 | 0, _ => none
 | kr + 1, n_1 =>
  (vQ n_1).bind fun yK =>
  if (yK) = true then
   (wo n_1.Text).bind fun amN =>
   some amN
  else
   ((xR kr) n_1.Kids).bind fun aoR =>
   some (w64 ((2 : Int) + aoR))
end
noncomputable def jI (l_1 : (List za)) : Option Int := lim fun kr => xR kr l_1
noncomputable def xE (n_1 : za) : Option Int := lim fun kr => jD kr n_1
noncomputable def wP (s : Str) : Option Bool :=
 chk (s.length ≤ 9223372036854775807) (some (Lib.validD s))
noncomputable def qf (vU : (List Str)) : List Str → Int → Option (Bool ⊕ Unit)
 | [], v_5 =>
  some (.inr ())
 | y_8 :: suf, v_5 =>
  (rd vU v_5).bind fun x_9 =>
  if (!(y_8 == x_9)) = true then
   some (.inl false)
  else
   qf vU suf (v_5 + 1)
noncomputable def slices_Equal_string (vB : (List Str)) (vU : (List Str)) : Option Bool :=
 if ((vB.length : Int) != (vU.length : Int)) = true then
  some false
 else
  (chk (vB.length ≤ 9223372036854775807) (qf vU vB (0 : Int))).bind fun e => match e with
  | .inl wZ =>
   some wZ
  | .inr _ =>
   some true
noncomputable def ZJ (a_1 : za) (b_2 : za) : Option Bool :=
 (vQ a_1).bind fun Vw =>
 if (Vw) = true then
  (vQ b_2).bind fun ahq =>
  if (ahq) = true then
   (slices_Equal_string a_1.Marks b_2.Marks).bind fun al2 =>
   some al2
  else
   some false
 else
  some false
noncomputable def KX (s : Str) (cutset : Str) : Option Str :=
 chk (s.length ≤ 9223372036854775807 ∧ cutset.length < 4294967281 ∧ cutset.all (fun b => decide (b.toNat < 128)) = true) (some (Lib.trimS s cutset))
noncomputable def yY (s_1 : Str) : Option Bool :=
 (KX s_1 ([97, 98, 99, 100, 101, 102, 103, 104, 105, 106, 107, 108, 109, 110, 111, 112, 113, 114, 115, 116, 117, 118, 119, 120, 121, 122] : Str)).bind fun aoK =>
 if (aoK == ([] : Str)) = true then
  if (!(s_1 == ([] : Str))) = true then
   if (decide ((s_1.length : Int) ≤ (8 : Int))) = true then
    some (!(s_1 == ([116, 101, 120, 116] : Str)))
   else
    some false
  else
   some false
 else
  some false
noncomputable def vI (l_1 : (List Str)) : List Str → Int → Option (Bool ⊕ Unit)
 | [], v_5 =>
  some (.inr ())
 | y_9 :: suf, v_5 =>
  (yY y_9).bind fun alj =>
  if (!alj) = true then
   some (.inl false)
  else
   if (decide (v_5 > (0 : Int))) = true then
    (rd l_1 (w64 (v_5 - (1 : Int)))).bind fun agX =>
    if ((Op.bytesLess y_9 agX || y_9 == agX)) = true then
     some (.inl false)
    else
     vI l_1 suf (v_5 + 1)
   else
    vI l_1 suf (v_5 + 1)
noncomputable def Vj (l_1 : (List Str)) : Option Bool :=
 (chk (l_1.length ≤ 9223372036854775807) (vI l_1 l_1 (0 : Int))).bind fun e => match e with
 | .inl ah7 =>
  some ah7
 | .inr _ =>
  some true
noncomputable def Wx (s_1 : Str) : Option Bool :=
 if (decide ((s_1.length : Int) ≤ (40 : Int))) = true then
  (wP s_1).bind fun am0 =>
  some am0
 else
  some false
noncomputable def vX : List zg → Int → (List Str) → Option (Bool ⊕ (List Str))
 | [], v_8, KZ =>
  some (.inr KZ)
 | atM :: suf, v_8, KZ =>
  (Wx atM.Value).bind fun aiF =>
  if (!aiF) = true then
   some (.inl false)
  else
   (app 16 KZ [atM.Name]).bind fun awo =>
   vX suf (v_8 + 1) awo
noncomputable def kP (n_1 : za) (node_formed_r : za → Option Bool) : List za → Int → Option (Bool ⊕ Unit)
 | [], Y7 =>
  some (.inr ())
 | ath :: suf, Y7 =>
  (node_formed_r ath).bind fun aec =>
  if (!aec) = true then
   some (.inl false)
  else
   if (decide (Y7 > (0 : Int))) = true then
    (rd n_1.Kids (w64 (Y7 - (1 : Int)))).bind fun awF =>
    (ZJ awF ath).bind fun ag7 =>
    if (ag7) = true then
     some (.inl false)
    else
     kP n_1 node_formed_r suf (Y7 + 1)
   else
    kP n_1 node_formed_r suf (Y7 + 1)
noncomputable def kY : Nat → za → Option Bool
 | 0, _ => none
 | kr + 1, n_1 =>
  (vQ n_1).bind fun yK =>
  if (yK) = true then
   if (!(n_1.Text == ([] : Str))) = true then
    (wP n_1.Text).bind fun ahV =>
    if (ahV) = true then
     (Vj n_1.Marks).bind fun anE =>
     if (anE) = true then
      some ((w64 ((n_1.zo.length : Int) + (n_1.Kids.length : Int))) == (0 : Int))
     else
      some false
    else
     some false
   else
    some false
  else
   (chk (n_1.zo.length ≤ 9223372036854775807) (vX n_1.zo (0 : Int) ([] : List Str))).bind fun e => match e with
   | .inl ahJ =>
    some ahJ
   | .inr Xk =>
    (yY n_1.Kind).bind fun akF =>
    if (!akF) = true then
     some false
    else
     if (!(n_1.Text == ([] : Str))) = true then
      some false
     else
      if (decide ((n_1.Marks.length : Int) > (0 : Int))) = true then
       some false
      else
       (Vj Xk).bind fun alv =>
       if (!alv) = true then
        some false
       else
        (chk (n_1.Kids.length ≤ 9223372036854775807) (kP n_1 (kY kr) n_1.Kids (0 : Int))).bind fun e => match e with
        | .inl ahm =>
         some ahm
        | .inr _ =>
         some true
noncomputable def Kr (n_1 : za) : Option Bool := lim fun kr => kY kr n_1
noncomputable def vL (node_Depth_r : za → Option Int) : List za → Int → Int → Option Int
 | [], v_6, yV =>
  some yV
 | y_9 :: suf, v_6, yV =>
  (node_Depth_r y_9).bind fun ain =>
  vL node_Depth_r suf (v_6 + 1) (if ain > yV then ain else yV)
noncomputable def vN : Nat → za → Option Int
 | 0, _ => none
 | kr + 1, n_1 =>
  (vQ n_1).bind fun yK =>
  if (yK) = true then
   some (0 : Int)
  else
   (chk (n_1.Kids.length ≤ 9223372036854775807) (vL (vN kr) n_1.Kids (0 : Int) (0 : Int))).bind fun VP =>
   some (w64 (VP + (1 : Int)))
noncomputable def VA (n_1 : za) : Option Int := lim fun kr => vN kr n_1
noncomputable def yE (n_1 : za) : Option Int :=
 (Kr n_1).bind fun ah1 =>
 if (!ah1) = true then
  some (2 : Int)
 else
  (VA n_1).bind fun akj =>
  if (decide (akj > (40 : Int))) = true then
   some (4 : Int)
  else
   (xE n_1).bind fun aoI =>
   if (decide (aoI > (4000 : Int))) = true then
    some (5 : Int)
   else
    some (0 : Int)
noncomputable def yJ (n_1 : za) : Option Bool :=
 (yE n_1).bind fun aoY =>
 some (aoY == (0 : Int))
noncomputable def vD (l : (List zg)) : Option (List zg) :=
 app 32 [] l
noncomputable def slices_Clone_int (l : (List Int)) : Option (List Int) :=
 app 8 [] l
noncomputable def qB : List Int → Int → za → Option ((za × Int) ⊕ za)
 | [], v_6, n_5 =>
  some (.inr n_5)
 | y_9 :: suf, v_6, n_5 =>
  if (decide (y_9 < (0 : Int))) = true then
   some (.inl (({ Kind := ([] : Str), Text := ([] : Str), Marks := [], zo := [], Kids := [] } : za), (9 : Int)))
  else
   if (decide (y_9 ≥ (n_5.Kids.length : Int))) = true then
    some (.inl (({ Kind := ([] : Str), Text := ([] : Str), Marks := [], zo := [], Kids := [] } : za), (9 : Int)))
   else
    if (n_5.Kind == ([116, 101, 120, 116] : Str)) = true then
     some (.inl (({ Kind := ([] : Str), Text := ([] : Str), Marks := [], zo := [], Kids := [] } : za), (9 : Int)))
    else
     (rd n_5.Kids y_9).bind fun aiR =>
     qB suf (v_6 + 1) aiR
noncomputable def vv (n_1 : za) (wz : (List Int)) : Option (za × Int) :=
 (chk (wz.length ≤ 9223372036854775807) (qB wz (0 : Int) n_1)).bind fun e => match e with
 | .inl Jo =>
  some Jo
 | .inr aiA =>
  if (aiA.Kind == ([116, 101, 120, 116] : Str)) = true then
   some (({ Kind := ([] : Str), Text := ([] : Str), Marks := [], zo := [], Kids := [] } : za), (9 : Int))
  else
   some (aiA, (0 : Int))
noncomputable def qb (X8 : (List Int)) : List za → Int → Int → Option ((wB × Int) ⊕ ((Int × za × (List Int)) ⊕ Unit))
 | [], af2, WG =>
  some (.inr (.inr ()))
 | aqb :: suf, af2, WG =>
  (xE aqb).bind fun agq =>
  if (decide (WG ≥ agq)) = true then
   qb X8 suf (af2 + 1) (w64 (WG - agq))
  else
   if (aqb.Kind == ([116, 101, 120, 116] : Str)) = true then
    some (.inl (({ Path := X8, Index := af2, Offset := WG } : wB), (0 : Int)))
   else
    if (WG == (0 : Int)) = true then
     some (.inl (({ Path := X8, Index := af2, Offset := (0 : Int) } : wB), (0 : Int)))
    else
     (app 8 X8 [af2]).bind fun arK =>
     some (.inr (.inl (w64 (WG - (1 : Int)), aqb, arK)))
noncomputable def kC : Nat → Int → za → (List Int) → Option (wB × Int)
 | 0, _, _, _ => none
 | k + 1, aeq, QW, X8 =>
  (chk (QW.Kids.length ≤ 9223372036854775807) (qb X8 QW.Kids (0 : Int) aeq)).bind fun e => match e with
  | .inl Yw =>
   some Yw
  | .inr (.inl (agJ, alf, Yj)) =>
   kC k agJ alf Yj
  | .inr (.inr _) =>
   some (({ Path := X8, Index := (QW.Kids.length : Int), Offset := (0 : Int) } : wB), (0 : Int))
noncomputable def ku (n_1 : za) (VN : Int) : Option (wB × Int) :=
 if (n_1.Kind == ([116, 101, 120, 116] : Str)) = true then
  some (({ Path := [], Index := (0 : Int), Offset := (0 : Int) } : wB), (3 : Int))
 else
  if (decide (VN < (0 : Int))) = true then
   some (({ Path := [], Index := (0 : Int), Offset := (0 : Int) } : wB), (3 : Int))
  else
   (jI n_1.Kids).bind fun Qx =>
   if (decide (VN > Qx)) = true then
    some (({ Path := [], Index := (0 : Int), Offset := (0 : Int) } : wB), (3 : Int))
   else
    (lim fun k => kC k VN n_1 ([] : List Int)).bind fun YQ =>
    some YQ
noncomputable def xL (n_1 : za) (VN : Int) : Option ((List Int) × Bool) :=
 if (VN == (-1 : Int)) = true then
  some ([], true)
 else
  (ku n_1 VN).bind fun (r_3, r_4) =>
  if (r_4 != (0 : Int)) = true then
   some ([], false)
  else
   if (decide (r_3.Offset > (0 : Int))) = true then
    some ([], false)
   else
    (slices_Clone_int r_3.Path).bind fun au9 =>
    (app 8 au9 [r_3.Index]).bind fun l_6 =>
    (vv n_1 l_6).bind fun (r_7, r_8) =>
    some (l_6, r_8 == (0 : Int))
noncomputable def KY (a_1 : zg) (qW : zz) : Option Bool :=
 some (a_1.Name == qW.Name)
noncomputable def zU (qW : zz) : List zg → Int → Option ((Int × zz) ⊕ Unit)
 | [], v_5 =>
  some (.inr ())
 | y_8 :: suf, v_5 =>
  (KY y_8 qW).bind fun avI =>
  if (avI) = true then
   some (.inl (v_5, qW))
  else
   zU qW suf (v_5 + 1)
noncomputable def qx (s_1 : (List zg)) (qW : zz) : Option (Int × zz) :=
 (chk (s_1.length ≤ 9223372036854775807) (zU qW s_1 (0 : Int))).bind fun e => match e with
 | .inl wZ =>
  some wZ
 | .inr _ =>
  some ((-1 : Int), qW)
noncomputable def qY (l : (List za)) : Option (List za) :=
 app 104 [] l
noncomputable def xc : Nat → za → (List Int) → za → Option (za × Int)
 | 0, _, _, _ => none
 | kr + 1, n_1, wz, m_3 =>
  (vv n_1 wz).bind fun (r_4, r_5) =>
  if (r_5 != (0 : Int)) = true then
   some (({ Kind := ([] : Str), Text := ([] : Str), Marks := [], zo := [], Kids := [] } : za), r_5)
  else
   if ((wz.length : Int) == (0 : Int)) = true then
    some (m_3, (0 : Int))
   else
    (qY n_1.Kids).bind fun anD =>
    (rd wz (0 : Int)).bind fun x_7 =>
    (rd anD x_7).bind fun x_8 =>
    (sl wz (1 : Int) (wz.length : Int)).bind fun s_9 =>
    ((xc kr) x_8 s_9 m_3).bind fun (QU, Js) =>
    (wr anD x_7 QU).bind fun ang =>
    some ({ n_1 with Kids := ang }, (0 : Int))
noncomputable def Ww (n_1 : za) (wz : (List Int)) (m_3 : za) : Option (za × Int) := lim fun kr => xc kr n_1 wz m_3
noncomputable def jG (n_1 : za) (s_2 : zz) : Option (za × Str × Int) :=
 (xL n_1 s_2.From).bind fun (r_3, r_4) =>
 if (!r_4) = true then
  some (({ Kind := ([] : Str), Text := ([] : Str), Marks := [], zo := [], Kids := [] } : za), ([] : Str), (3 : Int))
 else
  (vv n_1 r_3).bind fun (r_5, r_6) =>
  (qx r_5.zo s_2).bind fun (r_7, atv) =>
  if (decide (r_7 < (0 : Int))) = true then
   some (({ Kind := ([] : Str), Text := ([] : Str), Marks := [], zo := [], Kids := [] } : za), ([] : Str), (9 : Int))
  else
   (rd r_5.zo r_7).bind fun x_9 =>
   (vD r_5.zo).bind fun akx =>
   (rd akx r_7).bind fun agX =>
   (wr akx r_7 ({ agX with Value := atv.Value })).bind fun ang =>
   (Ww n_1 r_3 ({ r_5 with zo := ang })).bind fun (JL, aeI) =>
   some (JL, x_9.Value, aeI)
noncomputable def QP (s : zz) (marks : (List Str)) : Option ((List Str) × Bool) :=
 chk (marks.length ≤ 1099511627776) (some (QK s.Kind s.Name marks))
noncomputable def jm (Jn : Int) (aqU : Int) (vY : Int) (zA : Int) (jQ : Int) (kM : (List za)) (ja : Str) (kL : Str) (l_9 : (List zk)) : Option (Int × Int × Int × (List za) × Str × Str × (List zk)) :=
 if (decide ((w64 ((l_9.length : Int) - (1 : Int))) ≥ (0 : Int))) = true then
  (rd l_9 (w64 ((l_9.length : Int) - (1 : Int)))).bind fun aiR =>
  if ((w64 (aiR.Pos + aiR.Old)) == Jn) = true then
   (wr l_9 (w64 ((l_9.length : Int) - (1 : Int))) ({ aiR with Old := w64 (aiR.Old + (w64 (aqU - Jn))) })).bind fun asf =>
   some (vY, zA, jQ, kM, ja, kL, asf)
  else
   (app 24 l_9 [({ Pos := Jn, Old := w64 (aqU - Jn), New := (0 : Int) } : zk)]).bind fun ang =>
   some (vY, zA, jQ, kM, ja, kL, ang)
 else
  (app 24 l_9 [({ Pos := Jn, Old := w64 (aqU - Jn), New := (0 : Int) } : zk)]).bind fun asN =>
  some (vY, zA, jQ, kM, ja, kL, asN)
noncomputable def wS (a_1 : Int) (b_2 : Int) (agD : (List Str)) (WE : za) (v_5 : (List Int)) : Option za :=
 (sl v_5 a_1 b_2).bind fun s_6 =>
 some ({ Kind := WE.Kind, Text := zI s_6, Marks := agD, zo := [], Kids := [] } : za)
noncomputable def jo (n_1 : za) (zO : Int) (vY : Int) (zA : Int) (jQ : Int) (kM : (List za)) (ja : Str) (kL : Str) (l_9 : (List zk)) : Option ((List za) × Int × Int × Int × (List za) × Str × Str × (List zk)) :=
 (QP ({ Kind := vY, From := zA, To := jQ, wC := kM, Name := ja, Value := kL } : zz) n_1.Marks).bind fun (QU, Js) =>
 if (!Js) = true then
  some ([n_1], vY, zA, jQ, kM, ja, kL, l_9)
 else
  if ((if ((runes n_1.Text).length : Int) < (if (0 : Int) > (w64 (zA - zO)) then (0 : Int) else w64 (zA - zO)) then ((runes n_1.Text).length : Int) else (if (0 : Int) > (w64 (zA - zO)) then (0 : Int) else w64 (zA - zO))) == (if ((runes n_1.Text).length : Int) < (if (if ((runes n_1.Text).length : Int) < (if (0 : Int) > (w64 (zA - zO)) then (0 : Int) else w64 (zA - zO)) then ((runes n_1.Text).length : Int) else (if (0 : Int) > (w64 (zA - zO)) then (0 : Int) else w64 (zA - zO))) > (w64 (jQ - zO)) then (if ((runes n_1.Text).length : Int) < (if (0 : Int) > (w64 (zA - zO)) then (0 : Int) else w64 (zA - zO)) then ((runes n_1.Text).length : Int) else (if (0 : Int) > (w64 (zA - zO)) then (0 : Int) else w64 (zA - zO))) else w64 (jQ - zO)) then ((runes n_1.Text).length : Int) else (if (if ((runes n_1.Text).length : Int) < (if (0 : Int) > (w64 (zA - zO)) then (0 : Int) else w64 (zA - zO)) then ((runes n_1.Text).length : Int) else (if (0 : Int) > (w64 (zA - zO)) then (0 : Int) else w64 (zA - zO))) > (w64 (jQ - zO)) then (if ((runes n_1.Text).length : Int) < (if (0 : Int) > (w64 (zA - zO)) then (0 : Int) else w64 (zA - zO)) then ((runes n_1.Text).length : Int) else (if (0 : Int) > (w64 (zA - zO)) then (0 : Int) else w64 (zA - zO))) else w64 (jQ - zO)))) = true then
   some ([n_1], vY, zA, jQ, kM, ja, kL, l_9)
  else
   (jm (w64 (zO + (if ((runes n_1.Text).length : Int) < (if (0 : Int) > (w64 (zA - zO)) then (0 : Int) else w64 (zA - zO)) then ((runes n_1.Text).length : Int) else (if (0 : Int) > (w64 (zA - zO)) then (0 : Int) else w64 (zA - zO))))) (w64 (zO + (if ((runes n_1.Text).length : Int) < (if (if ((runes n_1.Text).length : Int) < (if (0 : Int) > (w64 (zA - zO)) then (0 : Int) else w64 (zA - zO)) then ((runes n_1.Text).length : Int) else (if (0 : Int) > (w64 (zA - zO)) then (0 : Int) else w64 (zA - zO))) > (w64 (jQ - zO)) then (if ((runes n_1.Text).length : Int) < (if (0 : Int) > (w64 (zA - zO)) then (0 : Int) else w64 (zA - zO)) then ((runes n_1.Text).length : Int) else (if (0 : Int) > (w64 (zA - zO)) then (0 : Int) else w64 (zA - zO))) else w64 (jQ - zO)) then ((runes n_1.Text).length : Int) else (if (if ((runes n_1.Text).length : Int) < (if (0 : Int) > (w64 (zA - zO)) then (0 : Int) else w64 (zA - zO)) then ((runes n_1.Text).length : Int) else (if (0 : Int) > (w64 (zA - zO)) then (0 : Int) else w64 (zA - zO))) > (w64 (jQ - zO)) then (if ((runes n_1.Text).length : Int) < (if (0 : Int) > (w64 (zA - zO)) then (0 : Int) else w64 (zA - zO)) then ((runes n_1.Text).length : Int) else (if (0 : Int) > (w64 (zA - zO)) then (0 : Int) else w64 (zA - zO))) else w64 (jQ - zO))))) vY zA jQ kM ja kL l_9).bind fun (apR, ape, au5, alP, apS, anp, asT) =>
   (wS (0 : Int) (if ((runes n_1.Text).length : Int) < (if (0 : Int) > (w64 (zA - zO)) then (0 : Int) else w64 (zA - zO)) then ((runes n_1.Text).length : Int) else (if (0 : Int) > (w64 (zA - zO)) then (0 : Int) else w64 (zA - zO))) n_1.Marks n_1 (runes n_1.Text)).bind fun avc =>
   (wS (if ((runes n_1.Text).length : Int) < (if (0 : Int) > (w64 (zA - zO)) then (0 : Int) else w64 (zA - zO)) then ((runes n_1.Text).length : Int) else (if (0 : Int) > (w64 (zA - zO)) then (0 : Int) else w64 (zA - zO))) (if ((runes n_1.Text).length : Int) < (if (if ((runes n_1.Text).length : Int) < (if (0 : Int) > (w64 (zA - zO)) then (0 : Int) else w64 (zA - zO)) then ((runes n_1.Text).length : Int) else (if (0 : Int) > (w64 (zA - zO)) then (0 : Int) else w64 (zA - zO))) > (w64 (jQ - zO)) then (if ((runes n_1.Text).length : Int) < (if (0 : Int) > (w64 (zA - zO)) then (0 : Int) else w64 (zA - zO)) then ((runes n_1.Text).length : Int) else (if (0 : Int) > (w64 (zA - zO)) then (0 : Int) else w64 (zA - zO))) else w64 (jQ - zO)) then ((runes n_1.Text).length : Int) else (if (if ((runes n_1.Text).length : Int) < (if (0 : Int) > (w64 (zA - zO)) then (0 : Int) else w64 (zA - zO)) then ((runes n_1.Text).length : Int) else (if (0 : Int) > (w64 (zA - zO)) then (0 : Int) else w64 (zA - zO))) > (w64 (jQ - zO)) then (if ((runes n_1.Text).length : Int) < (if (0 : Int) > (w64 (zA - zO)) then (0 : Int) else w64 (zA - zO)) then ((runes n_1.Text).length : Int) else (if (0 : Int) > (w64 (zA - zO)) then (0 : Int) else w64 (zA - zO))) else w64 (jQ - zO))) QU n_1 (runes n_1.Text)).bind fun au3 =>
   (wS (if ((runes n_1.Text).length : Int) < (if (if ((runes n_1.Text).length : Int) < (if (0 : Int) > (w64 (zA - zO)) then (0 : Int) else w64 (zA - zO)) then ((runes n_1.Text).length : Int) else (if (0 : Int) > (w64 (zA - zO)) then (0 : Int) else w64 (zA - zO))) > (w64 (jQ - zO)) then (if ((runes n_1.Text).length : Int) < (if (0 : Int) > (w64 (zA - zO)) then (0 : Int) else w64 (zA - zO)) then ((runes n_1.Text).length : Int) else (if (0 : Int) > (w64 (zA - zO)) then (0 : Int) else w64 (zA - zO))) else w64 (jQ - zO)) then ((runes n_1.Text).length : Int) else (if (if ((runes n_1.Text).length : Int) < (if (0 : Int) > (w64 (zA - zO)) then (0 : Int) else w64 (zA - zO)) then ((runes n_1.Text).length : Int) else (if (0 : Int) > (w64 (zA - zO)) then (0 : Int) else w64 (zA - zO))) > (w64 (jQ - zO)) then (if ((runes n_1.Text).length : Int) < (if (0 : Int) > (w64 (zA - zO)) then (0 : Int) else w64 (zA - zO)) then ((runes n_1.Text).length : Int) else (if (0 : Int) > (w64 (zA - zO)) then (0 : Int) else w64 (zA - zO))) else w64 (jQ - zO))) ((runes n_1.Text).length : Int) n_1.Marks n_1 (runes n_1.Text)).bind fun auZ =>
   some ([avc, au3, auZ], apR, ape, au5, alP, apS, anp, asT)
noncomputable def wU : List za → Int → (List za) → Option (List za)
 | [], Qk, jk =>
  some jk
 | Vr :: suf, Qk, jk =>
  (vQ Vr).bind fun ae7 =>
  if (ae7) = true then
   if (Vr.Text == ([] : Str)) = true then
    wU suf (Qk + 1) jk
   else
    if (decide ((w64 ((jk.length : Int) - (1 : Int))) ≥ (0 : Int))) = true then
     (rd jk (w64 ((jk.length : Int) - (1 : Int)))).bind fun atV =>
     (ZJ atV Vr).bind fun aiC =>
     if (aiC) = true then
      chk (atV.Text.length + Vr.Text.length ≤ 9223372036854775807) (
       (wr jk (w64 ((jk.length : Int) - (1 : Int))) ({ Vr with Text := atV.Text ++ Vr.Text })).bind fun ati =>
       wU suf (Qk + 1) ati)
     else
      (app 104 jk [Vr]).bind fun asv =>
      wU suf (Qk + 1) asv
    else
     (app 104 jk [Vr]).bind fun ata =>
     wU suf (Qk + 1) ata
  else
   if (decide ((w64 ((jk.length : Int) - (1 : Int))) ≥ (0 : Int))) = true then
    (rd jk (w64 ((jk.length : Int) - (1 : Int)))).bind fun auF =>
    (ZJ auF Vr).bind fun aiw =>
    if (aiw) = true then
     chk (auF.Text.length + Vr.Text.length ≤ 9223372036854775807) (
      (wr jk (w64 ((jk.length : Int) - (1 : Int))) ({ Vr with Text := auF.Text ++ Vr.Text })).bind fun axb =>
      wU suf (Qk + 1) axb)
    else
     (app 104 jk [Vr]).bind fun awI =>
     wU suf (Qk + 1) awI
   else
    (app 104 jk [Vr]).bind fun awW =>
    wU suf (Qk + 1) awW
noncomputable def Wp (l_1 : (List za)) : Option (List za) :=
 (chk (l_1.length ≤ 9223372036854775807) (wU l_1 (0 : Int) ([] : List za))).bind fun aeo =>
 some aeo
noncomputable def qd (step_painter_kids_x_r : (List za) → Int → Int → Int → Int → (List za) → Str → Str → (List zk) → Option ((List za) × Int × Int × Int × (List za) × Str × Str × (List zk))) : List za → Int → Int → (List za) → Int → Int → Int → (List za) → Str → Str → (List zk) → Option ((List za) × Int × Int × Int × (List za) × Str × Str × (List zk))
 | [], aic, abH, Jp, akP, akp, alF, aku, akM, alG, Yj =>
  some (Jp, akP, akp, alF, aku, akM, alG, Yj)
 | akl :: suf, aic, abH, Jp, akP, akp, alF, aku, akM, alG, Yj =>
  (xE akl).bind fun ald =>
  if (akl.Kind == ([116, 101, 120, 116] : Str)) = true then
   (jo akl abH akP akp alF aku akM alG Yj).bind fun (axd, apK, apM, auY, amI, aoS, ana, anL) =>
   (app 104 Jp axd).bind fun awr =>
   qd step_painter_kids_x_r suf (aic + 1) (w64 (abH + ald)) awr apK apM auY amI aoS ana anL
  else
   (step_painter_kids_x_r akl.Kids (w64 (abH + (1 : Int))) akP akp alF aku akM alG Yj).bind fun (awU, apD, apI, au8, anq, apr, amz, awJ) =>
   (app 104 Jp [{ akl with Kids := awU }]).bind fun aoA =>
   qd step_painter_kids_x_r suf (aic + 1) (w64 (abH + ald)) aoA apD apI au8 anq apr amz awJ
noncomputable def qF : Nat → (List za) → Int → Int → Int → Int → (List za) → Str → Str → (List zk) → Option ((List za) × Int × Int × Int × (List za) × Str × Str × (List zk))
 | 0, _, _, _, _, _, _, _, _, _ => none
 | kr + 1, l_1, zO, vY, zA, jQ, kM, ja, kL, l_9 =>
  (chk (l_1.length ≤ 9223372036854775807) (qd (qF kr) l_1 (0 : Int) zO ([] : List za) vY zA jQ kM ja kL l_9)).bind fun (aeh, as6, arl, asE, ar5, as9, asC, aqo) =>
  (Wp aeh).bind fun aoP =>
  some (aoP, as6, arl, asE, ar5, as9, asC, aqo)
noncomputable def jr (l_1 : (List za)) (zO : Int) (vY : Int) (zA : Int) (jQ : Int) (kM : (List za)) (ja : Str) (kL : Str) (l_9 : (List zk)) : Option ((List za) × Int × Int × Int × (List za) × Str × Str × (List zk)) := lim fun kr => qF kr l_1 zO vY zA jQ kM ja kL l_9
noncomputable def yI (n_1 : za) (s_2 : zz) : Option (za × (List zk) × Int) :=
 (jI n_1.Kids).bind fun Qx =>
 if (decide (s_2.To > Qx)) = true then
  some (({ Kind := ([] : Str), Text := ([] : Str), Marks := [], zo := [], Kids := [] } : za), [], (3 : Int))
 else
  (jr n_1.Kids (0 : Int) s_2.Kind s_2.From s_2.To s_2.wC s_2.Name s_2.Value ([] : List zk)).bind fun (r_4, av2, avr, axu, auy, avj, atd, asf) =>
  some ({ n_1 with Kids := r_4 }, asf, (0 : Int))
noncomputable def xU (s_1 : zz) : Option Bool :=
 ((
   if (decide (s_1.From ≥ (0 : Int))) = true then
    if (decide (s_1.From ≤ s_1.To)) = true then
     some (decide (s_1.To ≤ (1048576 : Int)))
    else
     some false
   else
    some false) : Option Bool).bind fun Jq =>
 if (s_1.Kind == (114 : Int)) = true then
  (yE ({ Kind := ([120] : Str), Text := ([] : Str), Marks := [], zo := [], Kids := s_1.wC } : za)).bind fun ale =>
  if (Jq) = true then
   if (ale != (2 : Int)) = true then
    chk (s_1.Name.length + s_1.Value.length ≤ 9223372036854775807) (
     some ((s_1.Name ++ s_1.Value) == ([] : Str)))
   else
    some false
  else
   some false
 else
  if (s_1.Kind == (97 : Int)) = true then
   if (decide (s_1.From ≥ (-1 : Int))) = true then
    if (decide (s_1.From ≤ (1048576 : Int))) = true then
     if (s_1.To == (0 : Int)) = true then
      (yY s_1.Name).bind fun anN =>
      if (anN) = true then
       (Wx s_1.Value).bind fun akZ =>
       if (akZ) = true then
        some ((s_1.wC.length : Int) == (0 : Int))
       else
        some false
      else
       some false
     else
      some false
    else
     some false
   else
    some false
  else
   if (s_1.Kind == (109 : Int)) = true then
    if (Jq) = true then
     (yY s_1.Name).bind fun anQ =>
     if (anQ) = true then
      if ((s_1.wC.length : Int) == (0 : Int)) = true then
       some (s_1.Value == ([] : Str))
      else
       some false
     else
      some false
    else
     some false
   else
    if (s_1.Kind == (117 : Int)) = true then
     if (Jq) = true then
      (yY s_1.Name).bind fun aoG =>
      if (aoG) = true then
       if ((s_1.wC.length : Int) == (0 : Int)) = true then
        some (s_1.Value == ([] : Str))
       else
        some false
      else
       some false
     else
      some false
    else
     some false
noncomputable def wM (v_1 : Int) (VO : qE) : Option (Int × qE) :=
 if (v_1 != (0 : Int)) = true then
  some (v_1, ({ path := [], in_ := ({ Kind := ([] : Str), Text := ([] : Str), Marks := [], zo := [], Kids := [] } : za), from_ := (0 : Int), to_ := (0 : Int) } : qE))
 else
  some (v_1, VO)
noncomputable def wR (vU : (List Int)) : List Int → Int → Option (Bool ⊕ Unit)
 | [], v_5 =>
  some (.inr ())
 | y_8 :: suf, v_5 =>
  (rd vU v_5).bind fun x_9 =>
  if (y_8 != x_9) = true then
   some (.inl false)
  else
   wR vU suf (v_5 + 1)
noncomputable def slices_Equal_int (vB : (List Int)) (vU : (List Int)) : Option Bool :=
 if ((vB.length : Int) != (vU.length : Int)) = true then
  some false
 else
  (chk (vB.length ≤ 9223372036854775807) (wR vU vB (0 : Int))).bind fun e => match e with
  | .inl wZ =>
   some wZ
  | .inr _ =>
   some true
noncomputable def jJ : List Int → Int → Int → za → Option Int
 | [], WC, afD, n_9 =>
  some afD
 | atQ :: suf, WC, afD, n_9 =>
  (sl n_9.Kids (0 : Int) atQ).bind fun awT =>
  (jI awT).bind fun amx =>
  (rd n_9.Kids atQ).bind fun awV =>
  jJ suf (WC + 1) (w64 (afD + (w64 (amx + (1 : Int))))) awV
noncomputable def WW (n_1 : za) (wz : (List Int)) : Option (Int × Int) :=
 (vv n_1 wz).bind fun (r_3, r_4) =>
 if (r_4 != (0 : Int)) = true then
  some ((0 : Int), r_4)
 else
  (chk (wz.length ≤ 9223372036854775807) (jJ wz (0 : Int) (0 : Int) n_1)).bind fun am4 =>
  some (am4, (0 : Int))
noncomputable def xO (n_1 : za) (ym : Int) (Yi : Int) : Option (qE × Int) :=
 if (n_1.Kind == ([116, 101, 120, 116] : Str)) = true then
  (wM (2 : Int) ({ path := [], in_ := ({ Kind := ([] : Str), Text := ([] : Str), Marks := [], zo := [], Kids := [] } : za), from_ := (0 : Int), to_ := (0 : Int) } : qE)).bind fun (v_4, asY) =>
  some (asY, v_4)
 else
  (yJ n_1).bind fun alE =>
  if (!alE) = true then
   (wM (2 : Int) ({ path := [], in_ := ({ Kind := ([] : Str), Text := ([] : Str), Marks := [], zo := [], Kids := [] } : za), from_ := (0 : Int), to_ := (0 : Int) } : qE)).bind fun (v_7, arB) =>
   some (arB, v_7)
  else
   (ku n_1 ym).bind fun (r_9, QU) =>
   if (QU != (0 : Int)) = true then
    (wM QU ({ path := [], in_ := ({ Kind := ([] : Str), Text := ([] : Str), Marks := [], zo := [], Kids := [] } : za), from_ := (0 : Int), to_ := (0 : Int) } : qE)).bind fun (WC, apG) =>
    some (apG, WC)
   else
    (ku n_1 Yi).bind fun (JL, aeI) =>
    if (aeI != (0 : Int)) = true then
     (wM aeI ({ path := [], in_ := ({ Kind := ([] : Str), Text := ([] : Str), Marks := [], zo := [], Kids := [] } : za), from_ := (0 : Int), to_ := (0 : Int) } : qE)).bind fun (aiB, apx) =>
     some (apx, aiB)
    else
     if (decide (Yi < ym)) = true then
      (wM (3 : Int) ({ path := [], in_ := ({ Kind := ([] : Str), Text := ([] : Str), Marks := [], zo := [], Kids := [] } : za), from_ := (0 : Int), to_ := (0 : Int) } : qE)).bind fun (amt, apT) =>
      some (apT, amt)
     else
      (slices_Equal_int r_9.Path JL.Path).bind fun an2 =>
      if (!an2) = true then
       (wM (10 : Int) ({ path := [], in_ := ({ Kind := ([] : Str), Text := ([] : Str), Marks := [], zo := [], Kids := [] } : za), from_ := (0 : Int), to_ := (0 : Int) } : qE)).bind fun (asX, ao2) =>
       some (ao2, asX)
      else
       (WW n_1 r_9.Path).bind fun (avG, axD) =>
       (vv n_1 r_9.Path).bind fun (awe, awh) =>
       (wM awh ({ path := r_9.Path, in_ := awe, from_ := w64 (ym - avG), to_ := w64 (Yi - avG) } : qE)).bind fun (Y7, apB) =>
       some (apB, Y7)
noncomputable def vP : List za → Int → Int → Option (Int × Int)
 | [], i_8, ahG =>
  some (ahG, i_8)
 | alU :: suf, i_8, ahG =>
  (xE alU).bind fun alI =>
  if (decide (ahG ≥ alI)) = true then
   (xE alU).bind fun apl =>
   vP suf (i_8 + 1) (w64 (ahG - apl))
  else
   some (ahG, i_8)
noncomputable def jB (l_1 : (List za)) (zO : Int) : Option ((List za) × (List za) × Int) :=
 if (decide (zO < (0 : Int))) = true then
  some ([], [], (3 : Int))
 else
  (jI l_1).bind fun Qx =>
  if (decide (zO > Qx)) = true then
   some ([], [], (3 : Int))
  else
   (chk (l_1.length ≤ 9223372036854775807) (vP l_1 (0 : Int) zO)).bind fun (afQ, anH) =>
   (sl l_1 (0 : Int) anH).bind fun axe =>
   (qY axe).bind fun akC =>
   (sl l_1 anH (l_1.length : Int)).bind fun anu =>
   (qY anu).bind fun agB =>
   if (afQ == (0 : Int)) = true then
    some (akC, agB, (0 : Int))
   else
    (rd l_1 anH).bind fun aiO =>
    if (!(aiO.Kind == ([116, 101, 120, 116] : Str))) = true then
     some ([], [], (10 : Int))
    else
     (sl (runes aiO.Text) (0 : Int) afQ).bind fun awM =>
     (sl (runes aiO.Text) afQ ((runes aiO.Text).length : Int)).bind fun awD =>
     (rd agB (0 : Int)).bind fun aw5 =>
     (wr agB (0 : Int) ({ aw5 with Text := zI awD })).bind fun axf =>
     (app 104 akC [{ aiO with Text := zI awM }]).bind fun aw7 =>
     some (aw7, axf, (0 : Int))
noncomputable def jv (n : Int) : Option (List za) :=
 chk (0 ≤ n ∧ n * 104 ≤ 140737488355328) (some ([] : List za))
noncomputable def qo : List (List za) → Int → Int → Option Int
 | [], v_4, Jy =>
  some Jy
 | y_6 :: suf, v_4, Jy =>
  if (decide ((w64 (Jy + (y_6.length : Int))) < (0 : Int))) = true then
   none
  else
   qo suf (v_4 + 1) (w64 (Jy + (y_6.length : Int)))
noncomputable def qj : List (List za) → Int → (List za) → Option (List za)
 | [], Yh, xe =>
  some xe
 | avJ :: suf, Yh, xe =>
  (app 104 xe avJ).bind fun asT =>
  qj suf (Yh + 1) asT
noncomputable def kZ (kS : (List (List za))) : Option (List za) :=
 (chk (kS.length ≤ 9223372036854775807) (qo kS (0 : Int) (0 : Int))).bind fun ait =>
 (jv ait).bind fun apk =>
 (chk (kS.length ≤ 9223372036854775807) (qj kS (0 : Int) apk)).bind fun Qb =>
 some Qb
noncomputable def yQ (n_1 : za) (ym : Int) (Yi : Int) (l_4 : (List za)) : Option (za × Int) :=
 (xO n_1 ym Yi).bind fun (r_5, r_6) =>
 if (r_6 == (2 : Int)) = true then
  some (({ Kind := ([] : Str), Text := ([] : Str), Marks := [], zo := [], Kids := [] } : za), (2 : Int))
 else
  (Wp l_4).bind fun agP =>
  (yE ({ Kind := ([120] : Str), Text := ([] : Str), Marks := [], zo := [], Kids := agP } : za)).bind fun alc =>
  if (alc == (2 : Int)) = true then
   some (({ Kind := ([] : Str), Text := ([] : Str), Marks := [], zo := [], Kids := [] } : za), (2 : Int))
  else
   if (r_6 != (0 : Int)) = true then
    some (({ Kind := ([] : Str), Text := ([] : Str), Marks := [], zo := [], Kids := [] } : za), r_6)
   else
    (jB r_5.in_.Kids r_5.from_).bind fun (r_9, QU, Js) =>
    (jB r_5.in_.Kids r_5.to_).bind fun (QX, JL, aeI) =>
    (kZ [r_9, l_4, JL]).bind fun ao8 =>
    (Wp ao8).bind fun apo =>
    (Ww n_1 r_5.path ({ r_5.in_ with Kids := apo })).bind fun (asM, auL) =>
    (yE asM).bind fun adB =>
    if (adB != (0 : Int)) = true then
     some (({ Kind := ([] : Str), Text := ([] : Str), Marks := [], zo := [], Kids := [] } : za), adB)
    else
     some (asM, (0 : Int))
noncomputable def qa (n_1 : za) (s_2 : zz) : Option (za × Int) :=
 (xU s_2).bind fun alm =>
 if (!alm) = true then
  some (({ Kind := ([] : Str), Text := ([] : Str), Marks := [], zo := [], Kids := [] } : za), (1 : Int))
 else
  if (n_1.Kind == ([116, 101, 120, 116] : Str)) = true then
   some (({ Kind := ([] : Str), Text := ([] : Str), Marks := [], zo := [], Kids := [] } : za), (2 : Int))
  else
   (yJ n_1).bind fun akO =>
   if (!akO) = true then
    some (({ Kind := ([] : Str), Text := ([] : Str), Marks := [], zo := [], Kids := [] } : za), (2 : Int))
   else
    if (s_2.Kind == (114 : Int)) = true then
     (yQ n_1 s_2.From s_2.To s_2.wC).bind fun (r_5, r_6) =>
     some (r_5, r_6)
    else
     if (s_2.Kind == (97 : Int)) = true then
      (jG n_1 s_2).bind fun (r_7, r_8, r_9) =>
      some (r_7, r_9)
     else
      (yI n_1 s_2).bind fun (QU, Js, QX) =>
      some (QU, QX)
noncomputable def yC : List zz → Int → za → Option ((za × Int) ⊕ za)
 | [], v_7, n_6 =>
  some (.inr n_6)
 | avY :: suf, v_7, n_6 =>
  (qa n_6 avY).bind fun (QX, JL) =>
  if (JL != (0 : Int)) = true then
   some (.inl (({ Kind := ([] : Str), Text := ([] : Str), Marks := [], zo := [], Kids := [] } : za), JL))
  else
   yC suf (v_7 + 1) QX
noncomputable def YY (n_1 : za) (l_2 : (List zz)) : Option (za × Int) :=
 (chk (l_2.length ≤ 9223372036854775807) (yC l_2 (0 : Int) n_1)).bind fun e => match e with
 | .inl JA =>
  some JA
 | .inr akI =>
  some (akI, (0 : Int))
noncomputable def qV (vU : (List zg)) : List zg → Int → Option (Bool ⊕ Unit)
 | [], v_5 =>
  some (.inr ())
 | y_8 :: suf, v_5 =>
  (rd vU v_5).bind fun x_9 =>
  if ((((y_8.Name == x_9.Name) && (y_8.Value == x_9.Value)) != true)) = true then
   some (.inl false)
  else
   qV vU suf (v_5 + 1)
noncomputable def vC (vB : (List zg)) (vU : (List zg)) : Option Bool :=
 if ((vB.length : Int) != (vU.length : Int)) = true then
  some false
 else
  (chk (vB.length ≤ 9223372036854775807) (qV vU vB (0 : Int))).bind fun e => match e with
  | .inl wZ =>
   some wZ
  | .inr _ =>
   some true
noncomputable def zP (vU : (List za)) (node_Same_r : za → za → Option Bool) : List za → Int → Option (Bool ⊕ Unit)
 | [], v_6 =>
  some (.inr ())
 | avi :: suf, v_6 =>
  (rd vU v_6).bind fun agX =>
  (node_Same_r avi agX).bind fun akR =>
  if (!akR) = true then
   some (.inl false)
  else
   zP vU node_Same_r suf (v_6 + 1)
mutual
noncomputable def qi : Nat → (List za) → (List za) → Option Bool
 | 0, _, _ => none
 | kr + 1, vB, vU =>
  if ((vB.length : Int) != (vU.length : Int)) = true then
   some false
  else
   (chk (vB.length ≤ 9223372036854775807) (zP vU (xq kr) vB (0 : Int))).bind fun e => match e with
   | .inl air =>
    some air
   | .inr _ =>
    some true
noncomputable def xq : Nat → za → za → Option Bool
 | 0, _, _ => none
 | kr + 1, a_1, b_2 =>
  if (a_1.Kind == b_2.Kind) = true then
   if (a_1.Text == b_2.Text) = true then
    (slices_Equal_string a_1.Marks b_2.Marks).bind fun aiD =>
    if (aiD) = true then
     (vC a_1.zo b_2.zo).bind fun aoo =>
     if (aoo) = true then
      ((qi kr) a_1.Kids b_2.Kids).bind fun ar7 =>
      some ar7
     else
      some false
    else
     some false
   else
    some false
  else
   some false
end
noncomputable def Vf (a_1 : za) (b_2 : za) : Option Bool := lim fun kr => xq kr a_1 b_2
noncomputable def Wl (n_1 : za) (ym : Int) (Yi : Int) : Option ((List za) × Int) :=
 (xO n_1 ym Yi).bind fun (r_4, r_5) =>
 if (r_5 != (0 : Int)) = true then
  some ([], r_5)
 else
  (jB r_4.in_.Kids r_4.to_).bind fun (r_6, r_7, r_8) =>
  (jB r_6 r_4.from_).bind fun (r_9, QU, Js) =>
  some (QU, Js)
noncomputable def jZ (s_2 : zz) : List zk → Int → (List zz) → Option (List zz)
 | [], Xx, XQ =>
  some XQ
 | as0 :: suf, Xx, XQ =>
  (app 80 XQ [({ Kind := IntKind.wrap .u8 ((226 : Int) - s_2.Kind), From := as0.Pos, To := w64 (as0.Pos + as0.Old), wC := [], Name := s_2.Name, Value := ([] : Str) } : zz)]).bind fun awl =>
  jZ s_2 suf (Xx + 1) awl
noncomputable def jb (n_1 : za) (s_2 : zz) : Option ((List zz) × Int) :=
 (qa n_1 s_2).bind fun (r_3, r_4) =>
 if (r_4 != (0 : Int)) = true then
  some ([], r_4)
 else
  if (s_2.Kind == (114 : Int)) = true then
   (Wl n_1 s_2.From s_2.To).bind fun (r_5, r_6) =>
   (jI s_2.wC).bind fun apP =>
   some ([({ Kind := (114 : Int), From := s_2.From, To := w64 (s_2.From + apP), wC := r_5, Name := ([] : Str), Value := ([] : Str) } : zz)], r_6)
  else
   if (s_2.Kind == (97 : Int)) = true then
    (jG n_1 s_2).bind fun (r_8, r_9, QU) =>
    some ([({ Kind := (97 : Int), From := s_2.From, To := (0 : Int), wC := [], Name := s_2.Name, Value := r_9 } : zz)], QU)
   else
    (yI n_1 s_2).bind fun (Js, QX, JL) =>
    (chk (QX.length ≤ 9223372036854775807) (jZ s_2 QX (0 : Int) ([] : List zz))).bind fun aeF =>
    some (aeF, JL)
noncomputable def jN : Option Bool :=
 (qa ({ Kind := ([100, 111, 99] : Str), Text := ([] : Str), Marks := [], zo := [], Kids := [({ Kind := ([112] : Str), Text := ([] : Str), Marks := [], zo := [], Kids := [({ Kind := ([116, 101, 120, 116] : Str), Text := ([104, 105] : Str), Marks := [], zo := [], Kids := [] } : za)] } : za)] } : za) ({ Kind := (109 : Int), From := (2 : Int), To := (3 : Int), wC := [], Name := ([98] : Str), Value := ([] : Str) } : zz)).bind fun (r_1, r_2) =>
 if (r_2 == (0 : Int)) = true then
  if ((r_1.Kids.length : Int) == (1 : Int)) = true then
   (rd r_1.Kids (0 : Int)).bind fun x_3 =>
   if ((x_3.Kids.length : Int) == (2 : Int)) = true then
    (rd x_3.Kids (1 : Int)).bind fun x_4 =>
    if (x_4.Text == ([105] : Str)) = true then
     some ((x_4.Marks.length : Int) == (1 : Int))
    else
     some false
   else
    some false
  else
   some false
 else
  some false
noncomputable def zQ (c_1 : Int) (n_2 : Int) : Option Int :=
 if (decide (c_1 < (0 : Int))) = true then
  chk (n_2 ≠ 0) (
   some ((w64 (0 - (w64 (c_1 + (1 : Int))))).tmod n_2))
 else
  chk (n_2 ≠ 0) (
   some (c_1.tmod n_2))
noncomputable def qO (diptychref1_Depth_r : za → Option Int) : List za → Int → Int → Option Int
 | [], i_5, d_4 =>
  some d_4
 | y_8 :: suf, i_5, d_4 =>
  (diptychref1_Depth_r y_8).bind fun alB =>
  qO diptychref1_Depth_r suf (i_5 + 1) (if alB > d_4 then alB else d_4)
noncomputable def qJ : Nat → za → Option Int
 | 0, _ => none
 | kr + 1, n_1 =>
  if (n_1.Kind == ([116, 101, 120, 116] : Str)) = true then
   some (0 : Int)
  else
   (chk (n_1.Kids.length ≤ 9223372036854775807) (qO (qJ kr) n_1.Kids (0 : Int) (0 : Int))).bind fun as5 =>
   some (w64 (as5 + (1 : Int)))
noncomputable def jg (n_1 : za) : Option Int := lim fun kr => qJ kr n_1
noncomputable def qy (b_2 : (List Str)) : List Str → Int → Option (Bool ⊕ Unit)
 | [], i_5 =>
  some (.inr ())
 | y_8 :: suf, i_5 =>
  (rd b_2 i_5).bind fun x_9 =>
  if (!(y_8 == x_9)) = true then
   some (.inl false)
  else
   qy b_2 suf (i_5 + 1)
noncomputable def vE (a_1 : (List Str)) (b_2 : (List Str)) : Option Bool :=
 if ((a_1.length : Int) != (b_2.length : Int)) = true then
  some false
 else
  (chk (a_1.length ≤ 9223372036854775807) (qy b_2 a_1 (0 : Int))).bind fun e => match e with
  | .inl wZ =>
   some wZ
  | .inr _ =>
   some true
noncomputable def zW : List za → Int → (List za) → Option (List za)
 | [], JK, jl =>
  some jl
 | Zt :: suf, JK, jl =>
  ((
    if (Zt.Kind == ([116, 101, 120, 116] : Str)) = true then
     if (Zt.Text == ([] : Str)) = true then
      some (.inl ())
     else
      some (.inr ())
    else
     some (.inr ())) : Option (Unit ⊕ Unit)).bind fun e => match e with
  | .inl _ =>
   zW suf (JK + 1) jl
  | .inr _ =>
   if (Zt.Kind == ([116, 101, 120, 116] : Str)) = true then
    if (decide ((w64 ((jl.length : Int) - (1 : Int))) ≥ (0 : Int))) = true then
     (rd jl (w64 ((jl.length : Int) - (1 : Int)))).bind fun aqd =>
     if (aqd.Kind == ([116, 101, 120, 116] : Str)) = true then
      (vE aqd.Marks Zt.Marks).bind fun aeS =>
      if (aeS) = true then
       chk (aqd.Text.length + Zt.Text.length ≤ 9223372036854775807) (
        (sl jl (0 : Int) (w64 ((jl.length : Int) - (1 : Int)))).bind fun av6 =>
        (app 104 ([] : List za) av6).bind fun aw4 =>
        (app 104 aw4 [{ Zt with Text := aqd.Text ++ Zt.Text }]).bind fun ati =>
        zW suf (JK + 1) ati)
      else
       (app 104 jl [Zt]).bind fun asv =>
       zW suf (JK + 1) asv
     else
      (app 104 jl [Zt]).bind fun ata =>
      zW suf (JK + 1) ata
    else
     (app 104 jl [Zt]).bind fun arK =>
     zW suf (JK + 1) arK
   else
    (app 104 jl [Zt]).bind fun awg =>
    zW suf (JK + 1) awg
noncomputable def xH (l_1 : (List za)) : Option (List za) :=
 (chk (l_1.length ≤ 9223372036854775807) (zW l_1 (0 : Int) ([] : List za))).bind fun aev =>
 some aev
noncomputable def jd (x_1 : zt) (agy : (List za)) : Option za :=
 (zQ x_1.zo (2 : Int)).bind fun as1 =>
 (rd [([108, 101, 102, 116] : Str), ([114, 105, 103, 104, 116] : Str)] as1).bind fun x_4 =>
 (zQ (w64 (x_1.zo.tdiv (2 : Int))) (4 : Int)).bind fun ar9 =>
 (rd [([] : Str), ([195, 169] : Str), ([34, 113, 92] : Str), ([110, 111, 116, 101] : Str)] ar9).bind fun x_6 =>
 (xH agy).bind fun agP =>
 some ({ Kind := ([112, 97, 114, 97] : Str), Text := ([] : Str), Marks := [], zo := [({ Name := ([97, 108, 105, 103, 110] : Str), Value := x_4 } : zg), ({ Name := ([110, 111, 116, 101] : Str), Value := x_6 } : zg)], Kids := agP } : za)
noncomputable def zD : List zt → Int → (List za) → (List za) → Option (List za)
 | [], WB, yf, Zc =>
  some Zc
 | aeU :: suf, WB, yf, Zc =>
  if (decide (WB < (40 : Int))) = true then
   (zQ aeU.Text (5 : Int)).bind fun apE =>
   (rd [([97] : Str), ([98, 99] : Str), ([195, 169] : Str), ([120, 32, 121] : Str), ([230, 151, 165, 230, 156, 172] : Str)] apE).bind fun atI =>
   ((
     (zQ aeU.Marks (4 : Int)).bind fun acP =>
     if ((ajV acP (1 : Int)) == (1 : Int)) = true then
      (app 16 ([] : List Str) [([98] : Str)]).bind fun anL =>
      some anL
     else
      some ([] : List Str)) : Option (List Str)).bind fun aov =>
   ((
     (zQ aeU.Marks (4 : Int)).bind fun ac3 =>
     if ((ajV ac3 (2 : Int)) == (2 : Int)) = true then
      (app 16 aov [([105] : Str)]).bind fun auV =>
      some auV
     else
      some aov) : Option (List Str)).bind fun arh =>
   (app 104 yf [({ Kind := ([116, 101, 120, 116] : Str), Text := atI, Marks := arh, zo := [], Kids := [] } : za)]).bind fun avE =>
   (zQ aeU.In (5 : Int)).bind fun XC =>
   if (XC == (0 : Int)) = true then
    zD suf (WB + 1) avE Zc
   else
    (jd aeU avE).bind fun xC =>
    if (decide (XC < (3 : Int))) = true then
     (app 104 Zc [xC]).bind fun auN =>
     zD suf (WB + 1) ([] : List za) auN
    else
     ((
       if (decide ((w64 ((Zc.length : Int) - (1 : Int))) ≥ (0 : Int))) = true then
        (rd Zc (w64 ((Zc.length : Int) - (1 : Int)))).bind fun akJ =>
        if (akJ.Kind == ([108, 105, 115, 116] : Str)) = true then
         if (XC == (3 : Int)) = true then
          (app 104 ([] : List za) akJ.Kids).bind fun aoA =>
          (app 104 aoA [({ Kind := ([105, 116, 101, 109] : Str), Text := ([] : Str), Marks := [], zo := [], Kids := [xC] } : za)]).bind fun atT =>
          (sl Zc (0 : Int) (w64 ((Zc.length : Int) - (1 : Int)))).bind fun atS =>
          (app 104 ([] : List za) atS).bind fun aub =>
          (app 104 aub [{ akJ with Kids := atT }]).bind fun aun =>
          some (.inl aun)
         else
          some (.inr ())
        else
         some (.inr ())
       else
        some (.inr ())) : Option ((List za) ⊕ Unit)).bind fun e => match e with
     | .inl amw =>
      zD suf (WB + 1) ([] : List za) amw
     | .inr _ =>
      if (decide ((w64 ((Zc.length : Int) - (1 : Int))) ≥ (0 : Int))) = true then
       (rd Zc (w64 ((Zc.length : Int) - (1 : Int)))).bind fun alh =>
       if (alh.Kind == ([108, 105, 115, 116] : Str)) = true then
        (jg alh).bind fun Y8 =>
        if (decide (Y8 < (30 : Int))) = true then
         (app 104 [xC] [alh]).bind fun auq =>
         (sl Zc (0 : Int) (w64 ((Zc.length : Int) - (1 : Int)))).bind fun atH =>
         (app 104 ([] : List za) atH).bind fun at6 =>
         (app 104 at6 [({ Kind := ([108, 105, 115, 116] : Str), Text := ([] : Str), Marks := [], zo := [], Kids := [({ Kind := ([105, 116, 101, 109] : Str), Text := ([] : Str), Marks := [], zo := [], Kids := auq } : za)] } : za)]).bind fun auO =>
         zD suf (WB + 1) ([] : List za) auO
        else
         (app 104 Zc [({ Kind := ([108, 105, 115, 116] : Str), Text := ([] : Str), Marks := [], zo := [], Kids := [({ Kind := ([105, 116, 101, 109] : Str), Text := ([] : Str), Marks := [], zo := [], Kids := [xC] } : za)] } : za)]).bind fun aug =>
         zD suf (WB + 1) ([] : List za) aug
       else
        (app 104 Zc [({ Kind := ([108, 105, 115, 116] : Str), Text := ([] : Str), Marks := [], zo := [], Kids := [({ Kind := ([105, 116, 101, 109] : Str), Text := ([] : Str), Marks := [], zo := [], Kids := [xC] } : za)] } : za)]).bind fun auC =>
        zD suf (WB + 1) ([] : List za) auC
      else
       (app 104 Zc [({ Kind := ([108, 105, 115, 116] : Str), Text := ([] : Str), Marks := [], zo := [], Kids := [({ Kind := ([105, 116, 101, 109] : Str), Text := ([] : Str), Marks := [], zo := [], Kids := [xC] } : za)] } : za)]).bind fun auI =>
       zD suf (WB + 1) ([] : List za) auI
  else
   some Zc
noncomputable def jE (l_1 : (List zt)) : Option za :=
 (chk (l_1.length ≤ 9223372036854775807) (zD l_1 (0 : Int) ([] : List za) ([] : List za))).bind fun ap8 =>
 some ({ Kind := ([100, 111, 99] : Str), Text := ([] : Str), Marks := [], zo := [], Kids := ap8 } : za)
noncomputable def vJ (l : Str) : Option (Str × (List UInt8)) :=
 chk (l.length ≤ 9223372036854775807) (some (l, l))
noncomputable def kV (l : Str) : Option (List UInt8) :=
 some l
noncomputable def wI (s_1 : Str) (l_2 : (List UInt8)) : Option (Int × (List UInt8)) :=
 (kV l_2).bind fun l_3 =>
 (app 1 l_3 s_1).bind fun l_4 =>
 some ((s_1.length : Int), l_4)
noncomputable def kI (node_Words_1_x_r : za → (List UInt8) → Option (List UInt8)) : List za → Int → (List UInt8) → Option (List UInt8)
 | [], v_8, v_9 =>
  some v_9
 | alU :: suf, v_8, v_9 =>
  (node_Words_1_x_r alU v_9).bind fun asN =>
  kI node_Words_1_x_r suf (v_8 + 1) asN
noncomputable def kD : Nat → za → (List UInt8) → Option (List UInt8)
 | 0, _, _ => none
 | kr + 1, n_1, l_2 =>
  (vQ n_1).bind fun Vw =>
  if (Vw) = true then
   (wI n_1.Text l_2).bind fun (r_4, l_5) =>
   some l_5
  else
   (chk (n_1.Kids.length ≤ 9223372036854775807) (kI (kD kr) n_1.Kids (0 : Int) l_2)).bind fun Xx =>
   some Xx
noncomputable def yD (n_1 : za) (l_2 : (List UInt8)) : Option (List UInt8) := lim fun kr => kD kr n_1 l_2
noncomputable def ZL (n_1 : za) : Option Str :=
 (yD n_1 ([] : Str)).bind fun l_2 =>
 (vJ l_2).bind fun (r_3, l_4) =>
 some r_3
noncomputable def yF (s_1 : zz) : Option (List zk) :=
 (jI s_1.wC).bind fun adP =>
 if (s_1.Kind != (114 : Int)) = true then
  some []
 else
  if (s_1.From == s_1.To) = true then
   if (adP == (0 : Int)) = true then
    some []
   else
    some [({ Pos := s_1.From, Old := w64 (s_1.To - s_1.From), New := adP } : zk)]
  else
   some [({ Pos := s_1.From, Old := w64 (s_1.To - s_1.From), New := adP } : zk)]
noncomputable def qR (n_1 : za) (kQ : Int) (kU : Int) (JJ : za) : Nat → Int → Int → Option Int
 | 0, _, _ => none
 | k + 1, aou, ahy =>
  if (decide (ahy > (if kU < kQ then kU else kQ))) = true then
   if (aou != (0 : Int)) = true then
    (qa n_1 ({ Kind := (114 : Int), From := (if kU < kQ then kU else kQ), To := w64 (ahy - (1 : Int)), wC := JJ.Kids, Name := ([] : Str), Value := ([] : Str) } : zz)).bind fun (asM, auL) =>
    qR n_1 kQ kU JJ k auL (w64 (ahy - (1 : Int)))
   else
    some ahy
  else
   some ahy
noncomputable def xn (n_1 : za) (Vz : Int) (Xo : Int) (ak2 : Int) (l_5 : (List zt)) : Option zz :=
 (jI n_1.Kids).bind fun ak0 =>
 (zQ Xo (w64 (ak0 + (1 : Int)))).bind fun kQ =>
 (zQ ak2 (w64 (ak0 + (1 : Int)))).bind fun kU =>
 (zQ Vz (4 : Int)).bind fun abZ =>
 if (abZ == (0 : Int)) = true then
  (jE l_5).bind fun JJ =>
  (qa n_1 ({ Kind := (114 : Int), From := (if kU < kQ then kU else kQ), To := (if kU > kQ then kU else kQ), wC := JJ.Kids, Name := ([] : Str), Value := ([] : Str) } : zz)).bind fun (Js, QX) =>
  (lim fun k => qR n_1 kQ kU JJ k QX (if kU > kQ then kU else kQ)).bind fun anu =>
  some ({ Kind := (114 : Int), From := (if kU < kQ then kU else kQ), To := anu, wC := JJ.Kids, Name := ([] : Str), Value := ([] : Str) } : zz)
 else
  if (abZ == (1 : Int)) = true then
   some ({ Kind := (97 : Int), From := w64 (kQ - (1 : Int)), To := (0 : Int), wC := [], Name := ([97, 108, 105, 103, 110] : Str), Value := ([114, 105, 103, 104, 116] : Str) } : zz)
  else
   if (abZ == (2 : Int)) = true then
    (zQ (w64 (Vz.tdiv (4 : Int))) (3 : Int)).bind fun ao7 =>
    (rd [([98] : Str), ([105] : Str), ([122] : Str)] ao7).bind fun aiO =>
    some ({ Kind := (109 : Int), From := (if kU < kQ then kU else kQ), To := (if kU > kQ then kU else kQ), wC := [], Name := aiO, Value := ([] : Str) } : zz)
   else
    (zQ (w64 (Vz.tdiv (4 : Int))) (3 : Int)).bind fun aoQ =>
    (rd [([98] : Str), ([105] : Str), ([122] : Str)] aoQ).bind fun aw0 =>
    some ({ Kind := (117 : Int), From := (if kU < kQ then kU else kQ), To := (if kU > kQ then kU else kQ), wC := [], Name := aw0, Value := ([] : Str) } : zz)
noncomputable def xy : List zk → Int → Int → Option Int
 | [], v_4, n_3 =>
  some n_3
 | y_6 :: suf, v_4, n_3 =>
  xy suf (v_4 + 1) (w64 (n_3 + (w64 (y_6.New - y_6.Old))))
noncomputable def xX (m_1 : (List zk)) : Option Int :=
 (chk (m_1.length ≤ 9223372036854775807) (xy m_1 (0 : Int) (0 : Int))).bind fun n_7 =>
 some n_7
noncomputable def jP (l_1 : (List zt)) (Vz : Int) (Xo : Int) (ak2 : Int) (k_5 : (List zt)) : Option Bool :=
 (jN).bind fun adq =>
 if (!adq) = true then
  some adq
 else
  if (decide ((k_5.length : Int) > (20 : Int))) = true then
   some adq
  else
   (jE l_1).bind fun agS =>
   (xn agS Vz Xo ak2 k_5).bind fun aeA =>
   (qa agS aeA).bind fun (r_9, QU) =>
   (jb agS aeA).bind fun (Js, QX) =>
   if (QU != (0 : Int)) = true then
    if (QU == QX) = true then
     if (r_9.Kind == ([] : Str)) = true then
      some ((Js.length : Int) == (0 : Int))
     else
      some false
    else
     some false
   else
    (YY r_9 Js).bind fun (JL, aeI) =>
    if (QX == (0 : Int)) = true then
     if (aeI == (0 : Int)) = true then
      (Vf JL agS).bind fun alg =>
      if (alg) = true then
       (xE r_9).bind fun ali =>
       (xE agS).bind fun aly =>
       (yF aeA).bind fun aml =>
       (xX aml).bind fun aih =>
       if (ali == (w64 (aly + aih))) = true then
        if (aeA.Kind == (114 : Int)) = true then
         (yJ r_9).bind fun anc =>
         some anc
        else
         (ZL r_9).bind fun agF =>
         (ZL agS).bind fun ahh =>
         if (agF == ahh) = true then
          (yJ r_9).bind fun amo =>
          some amo
         else
          some false
       else
        some false
      else
       some false
     else
      some false
    else
     some false
end Go.Proofs.YtclohbgnaopjfaaDoor
