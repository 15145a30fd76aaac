/- Models of the Go functions that this statement reaches, printed by a program of mine: nothing is proved but lengths of tables. -/
import Derived.Test.YtlaobafbdllajaaDoorOwnilmni
set_option linter.unusedVariables false
set_option linter.unusedSimpArgs false
namespace Go.Mo
open Go Go.Sl
structure qc where
  Tag_ : List UInt8
  Data_ : List UInt8
  deriving Inhabited
structure q7 where
  Lo_ : Int
  Hi_ : Int
  deriving Inhabited
structure qa where
  span_ : q7
  x_ : List UInt8
  deriving Inhabited
structure qp where
  text_ : List UInt8
  base_ : Int
  deriving Inhabited
structure qz where
  items_ : (List qa)
  deriving Inhabited
structure xg where
  Window_ : qp
  claims_ : qz
  deriving Inhabited
structure uV where
  L_ : (List q7)
  X_ : (List Int)
  deriving Inhabited
structure v8 where
  Kind_ : Int
  L_ : (List qc)
  At_ : Int
  By_ : Int
  deriving Inhabited
def xo.m (K : Nat) (YC : Int) : qJ Bool :=
  lt (((YC == (65536 : Int)) || (YC == (1330926671 : Int)))) fun (YD : Bool) =>
  .ok YD
def zo.l1 (K : Nat) (YF : List UInt8) (YC : (List Int)) : Nat → Int → qJ Bool
  | 0, _ => .fail
  | k + 1, YE =>
    cond (decide (YE < (YC.length : Int)))
      (
      xh (inb YE YC.length) <|
      lt ((rd YC YE)) fun (YD : Int) =>
      cond ((decide (YD < (32 : Int))) || (decide (YD > (126 : Int))))
        (
        .ok false)
        (
        zo.l1 K YF YC k (qC (YE + (1 : Int)))))
      (
      lt (((YF.length : Int) == (4 : Int))) fun (YG : Bool) =>
      .ok YG)
def zo.m (K : Nat) (YC : List UInt8) : qJ Bool :=
  xh (xJ YC.length) <|
  lt (YC.map xW) fun (YD : (List Int)) =>
  zo.l1 K YC YD K (0 : Int)
def z2.m (K : Nat) (YC : Int) : qJ Int :=
  lt ((um .i64 (qC (YC + (3 : Int))) (3 : Int))) fun (YD : Int) =>
  .ok YD
def qM.j2 (K : Nat) (g1 : Int → Int → qJ Bool) (YE : List qc) (YC : Int) (YF : Int) (YG : Bool) : qJ Bool :=
  cond YG
    (
    .ok false)
    (
    (z2.m K (((rd YE YF).Data_).length : Int)).bind fun YH =>
    lt ((qC (YC + YH))) fun (YD : Int) =>
    g1 YD (qC (YF + (1 : Int))))
def qM.j3 (K : Nat) (YD : List qc) (YC : Int) : qJ Bool :=
  lt ((((decide ((YD.length : Int) > (0 : Int))) && (decide ((YD.length : Int) ≤ (1000 : Int)))) && (decide (YC < (1073741824 : Int))))) fun (YE : Bool) =>
  .ok YE
def qM.l1 (K : Nat) (YC : List qc) : Nat → Int → Int → qJ Bool
  | 0, _, _ => .fail
  | k + 1, YD, YE =>
    cond (decide (YE < (YC.length : Int)))
      (
      xh (inb YE YC.length) <|
      (zo.m K ((rd YC YE).Tag_)).bind fun YF =>
      cond YF
        (
        cond (decide (YE > (0 : Int)))
          (
          xh (inb (qC (YE - (1 : Int))) YC.length) <|
          cond (!Op.bytesLess (rd YC (qC (YE - (1 : Int)))).Tag_ (rd YC YE).Tag_)
            (
            qM.j2 K (qM.l1 K YC k) YC YD YE true)
            (
            qM.j2 K (qM.l1 K YC k) YC YD YE (decide ((((rd YC YE).Data_).length : Int) > (16777216 : Int)))))
          (
          qM.j2 K (qM.l1 K YC k) YC YD YE (decide ((((rd YC YE).Data_).length : Int) > (16777216 : Int)))))
        (
        qM.j2 K (qM.l1 K YC k) YC YD YE true))
      (
      qM.j3 K YC YD)
def qM.m (K : Nat) (YC : List qc) : qJ Bool :=
  qM.l1 K YC K (0 : Int) (0 : Int)
def zw.l1 (K : Nat) (YE : List UInt8) : Nat → Int → Int → qJ Int
  | 0, _, _ => .fail
  | k + 1, YD, YC =>
    cond (decide (YC < (YE.length : Int)))
      (
      xh (inb YC YE.length) <|
      xh (decide (0 ≤ (qC ((24 : Int) - (qC ((8 : Int) * (jf .i64 YC (3 : Int)))))))) <|
      lt ((wr .u32 (YD + (jW .u32 (wr .u32 ((rd YE YC).toNat : Int)) (qC ((24 : Int) - (qC ((8 : Int) * (jf .i64 YC (3 : Int)))))))))) fun (YF : Int) =>
      zw.l1 K YE k YF (qC (YC + (1 : Int))))
      (
      .ok YD)
def zw.m (K : Nat) (YC : List UInt8) : qJ Int :=
  zw.l1 K YC K (0 : Int) (0 : Int)
def xM.m (K : Nat) (YC : Int) : qJ Bool :=
  lt ((((decide (YC > (0 : Int))) && (decide (YC ≤ (8 : Int)))) && ((jf .i64 YC (qC (YC - (1 : Int)))) == (0 : Int)))) fun (YD : Bool) =>
  .ok YD
def qq.j3 (K : Nat)  (YE : Int) (YC : Int) : qJ Int :=
  xh (inb (wr .u8 YE) ([0, 1, 2, 2, 3, 3, 3, 3, 4, 4, 4, 4, 4, 4, 4, 4, 5, 5, 5, 5, 5, 5, 5, 5, 5, 5, 5, 5, 5, 5, 5, 5, 6, 6, 6, 6, 6, 6, 6, 6, 6, 6, 6, 6, 6, 6, 6, 6, 6, 6, 6, 6, 6, 6, 6, 6, 6, 6, 6, 6, 6, 6, 6, 6, 7, 7, 7, 7, 7, 7, 7, 7, 7, 7, 7, 7, 7, 7, 7, 7, 7, 7, 7, 7, 7, 7, 7, 7, 7, 7, 7, 7, 7, 7, 7, 7, 7, 7, 7, 7, 7, 7, 7, 7, 7, 7, 7, 7, 7, 7, 7, 7, 7, 7, 7, 7, 7, 7, 7, 7, 7, 7, 7, 7, 7, 7, 7, 7, 8, 8, 8, 8, 8, 8, 8, 8, 8, 8, 8, 8, 8, 8, 8, 8, 8, 8, 8, 8, 8, 8, 8, 8, 8, 8, 8, 8, 8, 8, 8, 8, 8, 8, 8, 8, 8, 8, 8, 8, 8, 8, 8, 8, 8, 8, 8, 8, 8, 8, 8, 8, 8, 8, 8, 8, 8, 8, 8, 8, 8, 8, 8, 8, 8, 8, 8, 8, 8, 8, 8, 8, 8, 8, 8, 8, 8, 8, 8, 8, 8, 8, 8, 8, 8, 8, 8, 8, 8, 8, 8, 8, 8, 8, 8, 8, 8, 8, 8, 8, 8, 8, 8, 8, 8, 8, 8, 8, 8, 8, 8, 8, 8, 8, 8, 8, 8, 8, 8, 8, 8, 8, 8, 8, 8, 8, 8, 8] : List UInt8).length) <|
  lt ((qC (YC + (wr .i64 ((rd ([0, 1, 2, 2, 3, 3, 3, 3, 4, 4, 4, 4, 4, 4, 4, 4, 5, 5, 5, 5, 5, 5, 5, 5, 5, 5, 5, 5, 5, 5, 5, 5, 6, 6, 6, 6, 6, 6, 6, 6, 6, 6, 6, 6, 6, 6, 6, 6, 6, 6, 6, 6, 6, 6, 6, 6, 6, 6, 6, 6, 6, 6, 6, 6, 7, 7, 7, 7, 7, 7, 7, 7, 7, 7, 7, 7, 7, 7, 7, 7, 7, 7, 7, 7, 7, 7, 7, 7, 7, 7, 7, 7, 7, 7, 7, 7, 7, 7, 7, 7, 7, 7, 7, 7, 7, 7, 7, 7, 7, 7, 7, 7, 7, 7, 7, 7, 7, 7, 7, 7, 7, 7, 7, 7, 7, 7, 7, 7, 8, 8, 8, 8, 8, 8, 8, 8, 8, 8, 8, 8, 8, 8, 8, 8, 8, 8, 8, 8, 8, 8, 8, 8, 8, 8, 8, 8, 8, 8, 8, 8, 8, 8, 8, 8, 8, 8, 8, 8, 8, 8, 8, 8, 8, 8, 8, 8, 8, 8, 8, 8, 8, 8, 8, 8, 8, 8, 8, 8, 8, 8, 8, 8, 8, 8, 8, 8, 8, 8, 8, 8, 8, 8, 8, 8, 8, 8, 8, 8, 8, 8, 8, 8, 8, 8, 8, 8, 8, 8, 8, 8, 8, 8, 8, 8, 8, 8, 8, 8, 8, 8, 8, 8, 8, 8, 8, 8, 8, 8, 8, 8, 8, 8, 8, 8, 8, 8, 8, 8, 8, 8, 8, 8, 8, 8, 8, 8] : List UInt8) (wr .u8 YE)).toNat : Int))))) fun (YD : Int) =>
  .ok YD
def qq.j2 (K : Nat)  (YD : Int) (YC : Int) : qJ Int :=
  cond (decide (YD ≥ (256 : Int)))
    (
    lt ((zR .u64 YD (8 : Int))) fun (YF : Int) =>
    lt ((qC (YC + (8 : Int)))) fun (YE : Int) =>
    qq.j3 K YF YE)
    (
    qq.j3 K YD YC)
def qq.j1 (K : Nat)  (YD : Int) (YC : Int) : qJ Int :=
  cond (decide (YD ≥ (65536 : Int)))
    (
    lt ((zR .u64 YD (16 : Int))) fun (YF : Int) =>
    lt ((qC (YC + (16 : Int)))) fun (YE : Int) =>
    qq.j2 K YF YE)
    (
    qq.j2 K YD YC)
def qq.m (K : Nat) (YC : Int) : qJ Int :=
  cond (decide (YC ≥ (4294967296 : Int)))
    (
    lt ((zR .u64 YC (32 : Int))) fun (YD : Int) =>
    qq.j1 K YD (32 : Int))
    (
    qq.j1 K YC (0 : Int))
def zM.m (K : Nat) (YC : Int) : qJ Unit :=
  .ok ()
def zy.m (K : Nat) (YC : Int) (YD : Int) : qJ Int :=
  lt ((qC ((qC (YD - (1 : Int))) - YC))) fun (YE : Int) =>
  .ok YE
def qY.l1 (K : Nat) (YF : Int) (YC : Int) (YG : (List Int)) : Nat → (List Int) → Int → qJ ((List UInt8) × Int)
  | 0, _, _ => .fail
  | k + 1, YD, YE =>
    cond (decide (YE < (YG.length : Int)))
      (
      xh (decide (0 ≤ (qC ((8 : Int) * YE)))) <|
      (zy.m K YE YC).bind fun YH =>
      xh (inb YH YD.length) <|
      lt (YD.set (Int.toNat YH) (wr .u8 (zR .u64 YF (qC ((8 : Int) * YE))))) fun (YI : (List Int)) =>
      qY.l1 K YF YC YG k YI (qC (YE + (1 : Int))))
      (
      lt ((YD.map yC)) fun (YJ : List UInt8) =>
      .ok (YJ, (0 : Int)))
def qY.m (K : Nat) (YD : Int) (YC : Int) : qJ ((List UInt8) × Int) :=
  (xM.m K YC).bind fun YF =>
  cond (!YF)
    (
    .ok (([] : List UInt8), (1 : Int)))
    (
    (qq.m K YD).bind fun YG =>
    cond (decide (YG > (qC ((8 : Int) * YC))))
      (
      .ok (([] : List UInt8), (10 : Int)))
      (
      (zM.m K YC).bind fun _ =>
      xh (decide (0 ≤ YC) && room (Int.toNat YC) 1) <|
      lt (List.replicate (Int.toNat YC) (0 : Int)) fun (YE : (List Int)) =>
      qY.l1 K YD YC YE K YE (0 : Int)))
def yQ.m (K : Nat) (YC : Int) : qJ (List UInt8) :=
  (qY.m K (wr .u64 YC) (4 : Int)).bind fun (YD, YE) =>
  .ok YD
def zJ.m (K : Nat) (YC : (List Int)) : qJ Int :=
  lt ((YC.length : Int)) fun (YD : Int) =>
  .ok YD
def za.m (K : Nat) (YC : (List Int)) (YD : List UInt8) : qJ (Int × (List Int)) :=
  xh (room (YC.length + YD.length) 1) <|
  lt (YC ++ YD.map xW) fun (YE : (List Int)) =>
  lt ((YD.length : Int)) fun (YF : Int) =>
  .ok (YF, YE)
def strings_Repeat.m (K : Nat) (YD : List UInt8) (YC : Int) : qJ (List UInt8) :=
  (Zn YD YC).bind fun YE =>
  .ok YE
def yP.m (K : Nat) (YC : Int) : qJ (List UInt8) :=
  (qY.m K (wr .u64 YC) (2 : Int)).bind fun (YD, YE) =>
  .ok YD
def zD.l1 (K : Nat) (YF : Int) (YG : Int) : Nat → Int → Int → qJ (List UInt8)
  | 0, _, _ => .fail
  | k + 1, YC, YD =>
    cond (decide ((qC ((2 : Int) * YC)) ≤ YG))
      (
      lt ((qC (YC * (2 : Int)))) fun (YH : Int) =>
      lt ((qC (YD + (1 : Int)))) fun (YE : Int) =>
      zD.l1 K YF YG k YH YE)
      (
      (yQ.m K (wr .i64 YF)).bind fun YI =>
      (yP.m K YG).bind fun YJ =>
      xh (xJ (YI.length + YJ.length)) <|
      (yP.m K (qC ((16 : Int) * YC))).bind fun YK =>
      xh (xJ ((YI ++ YJ).length + YK.length)) <|
      (yP.m K YD).bind fun YL =>
      xh (xJ (((YI ++ YJ) ++ YK).length + YL.length)) <|
      (yP.m K (qC ((16 : Int) * (qC (YG - YC))))).bind fun YM =>
      xh (xJ ((((YI ++ YJ) ++ YK) ++ YL).length + YM.length)) <|
      lt (((((YI ++ YJ) ++ YK) ++ YL) ++ YM)) fun (YN : List UInt8) =>
      .ok YN)
def zD.m (K : Nat) (YC : Int) (YD : Int) : qJ (List UInt8) :=
  zD.l1 K YC YD K (1 : Int) (0 : Int)
def zi.m (K : Nat) (YC : (List Int)) : qJ (List UInt8) :=
  lt ((YC.map yC)) fun (YD : List UInt8) =>
  .ok YD
def qS.j3 (K : Nat) (kind7 : Int) (l_8 : List qc) (YC : (List Int)) (YF : (List Int)) : qJ ((List UInt8) × Int) :=
  (zD.m K kind7 (l_8.length : Int)).bind fun YD =>
  (zi.m K YC).bind fun YE =>
  xh (xJ (YD.length + YE.length)) <|
  (zi.m K YF).bind fun YG =>
  xh (xJ ((YD ++ YE).length + YG.length)) <|
  lt (((YD ++ YE) ++ YG)) fun (YH : List UInt8) =>
  .ok (YH, (0 : Int))
def qS.l2 (K : Nat) (kind7 : Int) (l_8 : List qc) (YD : Int) : Nat → (List Int) → (List Int) → Int → qJ ((List UInt8) × Int)
  | 0, _, _, _ => .fail
  | k + 1, YE, YF, YC =>
    cond (decide (YC < (l_8.length : Int)))
      (
      xh (inb YC l_8.length) <|
      (zw.m K ((rd l_8 YC).Data_)).bind fun YM =>
      (yQ.m K (wr .i64 YM)).bind fun YG =>
      xh (xJ (((rd l_8 YC).Tag_).length + YG.length)) <|
      (zJ.m K YF).bind fun YN =>
      (yQ.m K (qC (YD + YN))).bind fun YH =>
      xh (xJ (((rd l_8 YC).Tag_ ++ YG).length + YH.length)) <|
      (yQ.m K (((rd l_8 YC).Data_).length : Int)).bind fun YK =>
      xh (xJ ((((rd l_8 YC).Tag_ ++ YG) ++ YH).length + YK.length)) <|
      (za.m K YE ((((rd l_8 YC).Tag_ ++ YG) ++ YH) ++ YK)).bind fun (YP, YI) =>
      (z2.m K (((rd l_8 YC).Data_).length : Int)).bind fun YO =>
      (strings_Repeat.m K ([0] : List UInt8) (qC (YO - (((rd l_8 YC).Data_).length : Int)))).bind fun YL =>
      xh (xJ (((rd l_8 YC).Data_).length + YL.length)) <|
      (za.m K YF ((rd l_8 YC).Data_ ++ YL)).bind fun (YQ, YJ) =>
      qS.l2 K kind7 l_8 YD k YI YJ (qC (YC + (1 : Int))))
      (
      qS.j3 K kind7 l_8 YE YF)
def qS.j1 (K : Nat) (kind7 : Int) (l_8 : List qc) (YD : Bool) : qJ ((List UInt8) × Int) :=
  cond YD
    (
    .ok (([] : List UInt8), (1 : Int)))
    (
    lt ((qC ((12 : Int) + (qC ((16 : Int) * (l_8.length : Int)))))) fun (YC : Int) =>
    qS.l2 K kind7 l_8 YC K ([] : List Int) ([] : List Int) (0 : Int))
def qS.m (K : Nat) (kind7 : Int) (l_8 : List qc) : qJ ((List UInt8) × Int) :=
  (xo.m K kind7).bind fun YC =>
  cond ((!YC) || (decide ((l_8.length : Int) > (1000 : Int))))
    (
    qS.j1 K kind7 l_8 true)
    (
    (qM.m K l_8).bind fun YD =>
    qS.j1 K kind7 l_8 (!YD))
def v5.m (K : Nat) (YC : List UInt8) : qJ Unit :=
  .ok ()
def zI.m (K : Nat) : qJ Unit :=
  .ok ()
def zj.m (K : Nat) (YD : qp) (YC : Int) (YE : Int) : qJ ((List UInt8) × Int × Int) :=
  cond ((decide (YC < (0 : Int))) || (decide (YE < (0 : Int))))
    (
    .ok (([] : List UInt8), (0 : Int), (1 : Int)))
    (
    cond ((decide (YC > (YD.text_.length : Int))) || (decide (YE > (qC ((YD.text_.length : Int) - YC)))))
      (
      .ok (([] : List UInt8), (0 : Int), (2 : Int)))
      (
      xh (subok YC (qC (YC + YE)) YD.text_.length) <|
      .ok ((sub YD.text_ YC (qC (YC + YE))), (qC (YD.base_ + YC)), (0 : Int))))
def qx.l1 (K : Nat) (YC : Int) (YD : List UInt8) : Nat → Int → Int → qJ (Int × Int)
  | 0, _, _ => .fail
  | k + 1, YF, YE =>
    cond (decide (YE < YC))
      (
      (zy.m K YE YC).bind fun YH =>
      xh (inb YH YD.length) <|
      xh (decide (0 ≤ (qC ((8 : Int) * YE)))) <|
      lt ((Xw .u64 YF (jW .u64 (wr .u64 ((rd YD YH).toNat : Int)) (qC ((8 : Int) * YE))))) fun (YG : Int) =>
      qx.l1 K YC YD k YG (qC (YE + (1 : Int))))
      (
      .ok (YF, (0 : Int)))
def qx.m (K : Nat) (YF : qp) (YE : Int) (YC : Int) : qJ (Int × Int) :=
  (xM.m K YC).bind fun YI =>
  cond (!YI)
    (
    .ok ((0 : Int), (1 : Int)))
    (
    (zj.m K YF YE YC).bind fun (YD, YH, YG) =>
    cond (YG != (0 : Int))
      (
      .ok ((0 : Int), YG))
      (
      (zM.m K YC).bind fun _ =>
      qx.l1 K YC YD K (0 : Int) (0 : Int)))
def q9.m (K : Nat) (YC : qp) : qJ Unit :=
  .ok ()
def zL.m (K : Nat) (YD : Int) (YC : Int) : qJ Bool :=
  lt ((((decide (YD ≥ (0 : Int))) && (decide (YD < YC))) && (decide (YC ≤ (4611686018427387904 : Int))))) fun (YE : Bool) =>
  .ok YE
def qW.m (K : Nat) (YC : qz) : qJ Unit :=
  .ok ()
def q3.m (K : Nat) (YE : Int) (YC : (List qa)) (YD : Int) : qJ Bool :=
  xh (inb YE YC.length) <|
  lt ((decide ((rd YC YE).span_.Hi_ > YD))) fun (YF : Bool) =>
  .ok YF
def qv.l1 (K : Nat) (YG : qz) (YC : Int) : Nat → Int → Int → qJ Int
  | 0, _, _ => .fail
  | k + 1, YE, YF =>
    cond (decide (YE < YF))
      (
      lt ((jg .i64 (qC (YE + YF)) (2 : Int))) fun (YD : Int) =>
      (q3.m K YD YG.items_ YC).bind fun YI =>
      cond YI
        (
        qv.l1 K YG YC k YE YD)
        (
        lt ((qC (YD + (1 : Int)))) fun (YH : Int) =>
        qv.l1 K YG YC k YH YF))
      (
      .ok YE)
def qv.m (K : Nat) (YD : qz) (YC : Int) : qJ Int :=
  (qW.m K YD).bind fun _ =>
  lt ((YD.items_.length : Int)) fun (YE : Int) =>
  qv.l1 K YD YC K (0 : Int) YE
def ql.j2 (K : Nat)  (YC : Bool) : qJ Bool :=
  .ok YC
def ql.j1 (K : Nat) (YC : qz) (YD : Int) (YE : Int) (YF : Bool) : qJ Bool :=
  cond YF
    (
    (qW.m K YC).bind fun _ =>
    xh (inb YE YC.items_.length) <|
    ql.j2 K (decide ((rd YC.items_ YE).span_.Lo_ < YD)))
    (
    ql.j2 K false)
def ql.m (K : Nat) (YD : qz) (YE : Int) (YC : Int) : qJ Bool :=
  (qv.m K YD YE).bind fun YF =>
  (zL.m K YE YC).bind fun YG =>
  cond YG
    (
    (qW.m K YD).bind fun _ =>
    ql.j1 K YD YC YF (decide (YF < (YD.items_.length : Int))))
    (
    ql.j1 K YD YC YF false)
def qw.m (K : Nat) (YE : List qa) (YD : Int) (YF : List qa) : qJ (List qa) :=
  (Q2 32 YE YD YF).bind fun YC =>
  .ok YC
def q5.m (K : Nat) (YE : qz) (YC : Int) (YD : Int) (YG : List UInt8) : qJ (Int × (List qa)) :=
  (zL.m K YC YD).bind fun YH =>
  lt ((!YH)) fun (YF : Bool) =>
  cond YF
    (
    .ok ((1 : Int), YE.items_))
    (
    (ql.m K YE YC YD).bind fun YI =>
    cond YI
      (
      .ok ((5 : Int), YE.items_))
      (
      (qv.m K YE YC).bind fun YJ =>
      (qw.m K YE.items_ YJ ([(qa.mk (q7.mk YC YD) YG)] : List qa)).bind fun YK =>
      .ok ((0 : Int), YK)))
def qO.l1 (K : Nat) (YD : Int) : Nat → (List UInt8) → qJ (List UInt8)
  | 0, _ => .fail
  | k + 1, YC =>
    xh (imp true (decide ((YC.length : Int) > (0 : Int))) (inb (qC ((YC.length : Int) - (1 : Int))) YC.length)) <|
    cond ((decide ((YC.length : Int) > (0 : Int))) && (((rd YC (qC ((YC.length : Int) - (1 : Int)))).toNat : Int) == YD))
      (
      xh (subok (0 : Int) (qC ((YC.length : Int) - (1 : Int))) YC.length) <|
      lt ((sub YC (0 : Int) (qC ((YC.length : Int) - (1 : Int))))) fun (YE : List UInt8) =>
      qO.l1 K YD k YE)
      (
      .ok YC)
def qO.m (K : Nat) (YD : List UInt8) (YC : Int) : qJ (List UInt8) :=
  qO.l1 K YC K YD
def qP.l1 (K : Nat) (YD : Int) : Nat → (List UInt8) → qJ (List UInt8)
  | 0, _ => .fail
  | k + 1, YC =>
    xh (imp true (decide ((YC.length : Int) > (0 : Int))) (inb (0 : Int) YC.length)) <|
    cond ((decide ((YC.length : Int) > (0 : Int))) && (((rd YC (0 : Int)).toNat : Int) == YD))
      (
      xh (subok (1 : Int) (YC.length : Int) YC.length) <|
      lt ((sub YC (1 : Int) (YC.length : Int))) fun (YE : List UInt8) =>
      qP.l1 K YD k YE)
      (
      .ok YC)
def qP.m (K : Nat) (YD : List UInt8) (YC : Int) : qJ (List UInt8) :=
  qP.l1 K YC K YD
def zF.m (K : Nat) (YC : List UInt8) : qJ (List UInt8) :=
  cond ((YC == ([] : List UInt8)) || false)
    (
    .ok YC)
    (
    xh (inb (0 : Int) ([0] : List UInt8).length) <|
    (qO.m K YC (0 : Int)).bind fun YD =>
    (qP.m K YD (0 : Int)).bind fun YE =>
    .ok YE)
def xB.m (K : Nat) (YC : qp) : qJ Int :=
  lt ((YC.text_.length : Int)) fun (YD : Int) =>
  .ok YD
def qA.j2 (K : Nat) (YE : List UInt8) (YF : Int) (YD : List UInt8) (YC : (List qa)) : qJ ((List UInt8) × (List UInt8) × Int × (List qa)) :=
  (zw.m K YD).bind fun YG =>
  cond (YG != (wr .u32 YF))
    (
    .ok (([] : List UInt8), ([] : List UInt8), (4 : Int), YC))
    (
    .ok (YE, YD, (0 : Int), YC))
def qA.j1 (K : Nat) (YI : xg) (YF : List UInt8) (YK : Int) (YL : Int) (YH : Int) (YC : List UInt8) (YD : Int) (YJ : Int) : qJ ((List UInt8) × (List UInt8) × Int × (List qa)) :=
  cond (YJ != (0 : Int))
    (
    .ok (([] : List UInt8), ([] : List UInt8), YJ, YI.claims_.items_))
    (
    (q9.m K (qp.mk YC YD)).bind fun _ =>
    xh (subok (0 : Int) YH YC.length) <|
    lt ((sub YC (0 : Int) YH)) fun (YG : List UInt8) =>
    (q9.m K (qp.mk YC YD)).bind fun _ =>
    xh (subok YH (YC.length : Int) YC.length) <|
    (zF.m K (sub YC YH (YC.length : Int))).bind fun YN =>
    cond (!(YN == ([] : List UInt8)))
      (
      .ok (([] : List UInt8), ([] : List UInt8), (3 : Int), YI.claims_.items_))
      (
      cond (decide (YH > (0 : Int)))
        (
        (xB.m K (qp.mk YC YD)).bind fun YO =>
        (q5.m K YI.claims_ (wr .i64 YL) (qC ((wr .i64 YL) + YO)) YF).bind fun (YM, YE) =>
        cond (YM != (0 : Int))
          (
          .ok (([] : List UInt8), ([] : List UInt8), YM, YE))
          (
          qA.j2 K YF YK YG YE))
        (
        qA.j2 K YF YK YG YI.claims_.items_)))
def qA.m (K : Nat) (YF : xg) (YC : qp) : qJ ((List UInt8) × (List UInt8) × Int × (List qa)) :=
  (q9.m K YC).bind fun _ =>
  xh (subok (0 : Int) (4 : Int) YC.text_.length) <|
  lt ((sub YC.text_ (0 : Int) (4 : Int))) fun (YG : List UInt8) =>
  (qx.m K YC (4 : Int) (4 : Int)).bind fun (YJ, YM) =>
  (qx.m K YC (8 : Int) (4 : Int)).bind fun (YH, YN) =>
  (qx.m K YC (12 : Int) (4 : Int)).bind fun (YI, YO) =>
  cond (((jf .u64 YH (3 : Int)) != (0 : Int)) || (decide (YI > (16777216 : Int))))
    (
    .ok (([] : List UInt8), ([] : List UInt8), (3 : Int), YF.claims_.items_))
    (
    (z2.m K (wr .i64 YI)).bind fun YK =>
    (zj.m K YF.Window_ (wr .i64 YH) YK).bind fun (YE, YD, YL) =>
    qA.j1 K YF YG YJ YH YI YE YD YL)
def qV.j3 (K : Nat) (YF : Int) (YD : (List qc)) (YC : Int) : qJ (Int × (List qc) × Int) :=
  cond (decide (YC ≥ (1073741824 : Int)))
    (
    .ok ((0 : Int), ([] : List qc), (3 : Int)))
    (
    lt ((wr .u32 YF)) fun (YE : Int) =>
    .ok (YE, YD, (0 : Int)))
def qV.l2 (K : Nat) (YR : List UInt8) (YS : Int) (YO : Int) (YJ : List UInt8) (YG : Int) : Nat → (List qa) → (List qc) → Int → (List UInt8) → Int → qJ (Int × (List qc) × Int)
  | 0, _, _, _, _, _ => .fail
  | k + 1, YL, YN, YK, YI, YQ =>
    cond (decide (YQ < YO))
      (
      (zj.m K (qp.mk YJ YG) (qC ((16 : Int) * YQ)) (16 : Int)).bind fun (YC, YH, YX) =>
      (q9.m K (qp.mk YC YH)).bind fun _ =>
      xh (subok (0 : Int) (4 : Int) YC.length) <|
      lt ((sub YC (0 : Int) (4 : Int))) fun (YE : List UInt8) =>
      (zo.m K YE).bind fun YV =>
      cond ((!YV) || (Op.bytesLess YE YI || YE == YI))
        (
        .ok ((0 : Int), ([] : List qc), (3 : Int)))
        (
        (qA.m K (xg.mk (qp.mk YR (0 : Int)) (qz.mk YL)) (qp.mk YC YH)).bind fun (YF, YD, YT, YM) =>
        cond (YT != (0 : Int))
          (
          .ok ((0 : Int), ([] : List qc), YT))
          (
          (z2.m K (YD.length : Int)).bind fun YW =>
          lt ((qC (YK + YW))) fun (YP : Int) =>
          xh (room (YN.length + ([(qc.mk YF YD)] : List qc).length) 32) <|
          lt (YN ++ ([(qc.mk YF YD)] : List qc)) fun (YU : (List qc)) =>
          qV.l2 K YR YS YO YJ YG k YM YU YP YF (qC (YQ + (1 : Int))))))
      (
      qV.j3 K YS YN YK)
def qV.j1 (K : Nat) (YG : List UInt8) (YJ : Int) (YD : Int) (YI : Bool) : qJ (Int × (List qc) × Int) :=
  cond YI
    (
    .ok ((0 : Int), ([] : List qc), (3 : Int)))
    (
    (zj.m K (qp.mk YG (0 : Int)) (12 : Int) (qC ((16 : Int) * YD))).bind fun (YF, YE, YH) =>
    cond (YH != (0 : Int))
      (
      .ok ((0 : Int), ([] : List qc), YH))
      (
      (q5.m K (qz.mk ([] : List qa)) (0 : Int) (qC ((12 : Int) + (qC ((16 : Int) * YD)))) ([] : List UInt8)).bind fun (YK, YC) =>
      qV.l2 K YG YJ YD YF YE K YC ([] : List qc) (0 : Int) ([] : List UInt8) (0 : Int)))
def qV.m (K : Nat) (YF : List UInt8) : qJ (Int × (List qc) × Int) :=
  (v5.m K YF).bind fun _ =>
  (zI.m K).bind fun _ =>
  (zj.m K (qp.mk YF (0 : Int)) (0 : Int) (12 : Int)).bind fun (YC, YD, YH) =>
  cond (YH != (0 : Int))
    (
    .ok ((0 : Int), ([] : List qc), YH))
    (
    (qx.m K (qp.mk YC YD) (0 : Int) (4 : Int)).bind fun (YG, YL) =>
    (qx.m K (qp.mk YC YD) (4 : Int) (2 : Int)).bind fun (YI, YM) =>
    lt ((wr .i64 YI)) fun (YE : Int) =>
    (xo.m K (wr .u32 YG)).bind fun YJ =>
    cond (((!YJ) || (decide (YE < (1 : Int)))) || (decide (YE > (1000 : Int))))
      (
      qV.j1 K YF YG YE true)
      (
      (q9.m K (qp.mk YC YD)).bind fun _ =>
      (zD.m K (wr .u32 YG) YE).bind fun YK =>
      qV.j1 K YF YG YE (!(YC == YK))))
def qQ.l1 (K : Nat) (YC : List qc) (YE : List qc) : Nat → Int → qJ Bool
  | 0, _ => .fail
  | k + 1, YD =>
    cond (decide (YD < (YC.length : Int)))
      (
      xh (inb YD YC.length) <|
      xh (inb YD YE.length) <|
      cond (!(((rd YC YD).Tag_ == (rd YE YD).Tag_) && (((rd YC YD).Data_ == (rd YE YD).Data_) && true)))
        (
        .ok false)
        (
        lt ((qC (YD + (1 : Int)))) fun (YF : Int) =>
        qQ.l1 K YC YE k YF))
      (
      .ok true)
def qQ.m (K : Nat) (YC : List qc) (YD : List qc) : qJ Bool :=
  cond ((YC.length : Int) != (YD.length : Int))
    (
    .ok false)
    (
    qQ.l1 K YC YD K (0 : Int))
def qX.j1 (K : Nat) (YE : Int) (YF : Int) (YC : Bool) : qJ Bool :=
  lt (((YC && (YE == (2 : Int))) && (YF == (1 : Int)))) fun (YD : Bool) =>
  .ok YD
def qX.m (K : Nat) : qJ Bool :=
  (qS.m K (65536 : Int) ([(qc.mk ([104, 101, 97, 100] : List UInt8) ([97, 98, 99, 100, 101] : List UInt8))] : List qc)).bind fun (YD, YG) =>
  (qV.m K YD).bind fun (YH, YI, YJ) =>
  (qV.m K ([] : List UInt8)).bind fun (YK, YL, YE) =>
  (qS.m K (7 : Int) ([(qc.mk ([104, 101, 97, 100] : List UInt8) ([97, 98, 99, 100, 101] : List UInt8))] : List qc)).bind fun (YM, YF) =>
  cond (((((YD.length : Int) == (36 : Int)) && (YG == (0 : Int))) && (YH == (65536 : Int))) && (YJ == (0 : Int)))
    (
    (qQ.m K ([(qc.mk ([104, 101, 97, 100] : List UInt8) ([97, 98, 99, 100, 101] : List UInt8))] : List qc) YI).bind fun YC =>
    qX.j1 K YE YF YC)
    (
    qX.j1 K YE YF false)
def zP.m (K : Nat) (YC : Int) : qJ Bool :=
  lt (((((YC == (1 : Int)) || (YC == (2 : Int))) || (YC == (4 : Int))) || (YC == (8 : Int)))) fun (YD : Bool) =>
  .ok YD
def zT.m (K : Nat) (YC : Int) : qJ Bool :=
  lt (((YC == (65536 : Int)) || (YC == (1330926671 : Int)))) fun (YD : Bool) =>
  .ok YD
def qh.j2 (K : Nat) (g1 : Int → (List Int) → Int → qJ ((List UInt8) × Int)) (YE : Int) (YD : (List Int)) (YH : Int) (YC : Int) : qJ ((List UInt8) × Int) :=
  xh (inb YC YD.length) <|
  lt (YD.set (Int.toNat YC) (wr .u8 (jE YE (256 : Int)))) fun (YG : (List Int)) =>
  lt ((jg .u64 YE (256 : Int))) fun (YF : Int) =>
  lt ((qC (YH + (1 : Int)))) fun (YI : Int) =>
  g1 YF YG YI
def qh.j3 (K : Nat)  (YD : Int) (YC : (List Int)) : qJ ((List UInt8) × Int) :=
  cond (decide (YD > (0 : Int)))
    (
    .ok (([] : List UInt8), (10 : Int)))
    (
    lt ((YC.map yC)) fun (YE : List UInt8) =>
    .ok (YE, (0 : Int)))
def qh.l1 (K : Nat) (YC : Int) (YD : Bool) : Nat → Int → (List Int) → Int → qJ ((List UInt8) × Int)
  | 0, _, _, _ => .fail
  | k + 1, YG, YF, YE =>
    cond (decide (YE < YC))
      (
      cond YD
        (
        lt ((qC ((qC (YC - (1 : Int))) - YE))) fun (YH : Int) =>
        qh.j2 K (qh.l1 K YC YD k) YG YF YE YH)
        (
        qh.j2 K (qh.l1 K YC YD k) YG YF YE YE))
      (
      qh.j3 K YG YF)
def qh.m (K : Nat) (YE : Int) (YC : Int) (YD : Bool) : qJ ((List UInt8) × Int) :=
  (zP.m K YC).bind fun YG =>
  cond (!YG)
    (
    .ok (([] : List UInt8), (1 : Int)))
    (
    xh (decide (0 ≤ YC) && room (Int.toNat YC) 1) <|
    lt (List.replicate (Int.toNat YC) (0 : Int)) fun (YF : (List Int)) =>
    qh.l1 K YC YD K YE YF (0 : Int))
def zY.m (K : Nat) (YC : Int) : qJ (List UInt8) :=
  (qh.m K (wr .u64 YC) (4 : Int) true).bind fun (YD, YE) =>
  .ok YD
def zr.m (K : Nat) (YC : Int) : qJ (List UInt8) :=
  (qh.m K (wr .u64 YC) (2 : Int) true).bind fun (YD, YE) =>
  .ok YD
def qE.j2 (K : Nat) (YF : Int) (YG : Int) (YI : Int) (YK : Int) : qJ (List UInt8) :=
  (zY.m K (wr .i64 YF)).bind fun YC =>
  (zr.m K YG).bind fun YD =>
  xh (xJ (YC.length + YD.length)) <|
  (zr.m K (qC ((16 : Int) * YI))).bind fun YE =>
  xh (xJ ((YC ++ YD).length + YE.length)) <|
  (zr.m K YK).bind fun YH =>
  xh (xJ (((YC ++ YD) ++ YE).length + YH.length)) <|
  (zr.m K (qC ((16 : Int) * (qC (YG - YI))))).bind fun YJ =>
  xh (xJ ((((YC ++ YD) ++ YE) ++ YH).length + YJ.length)) <|
  lt (((((YC ++ YD) ++ YE) ++ YH) ++ YJ)) fun (YL : List UInt8) =>
  .ok YL
def qE.l1 (K : Nat) (YC : Int) (YD : Int) : Nat → Int → Int → qJ (List UInt8)
  | 0, _, _ => .fail
  | k + 1, YF, YE =>
    cond (decide ((qC ((2 : Int) * YF)) ≤ YD))
      (
      lt ((qC ((2 : Int) * YF))) fun (YH : Int) =>
      lt ((qC (YE + (1 : Int)))) fun (YG : Int) =>
      qE.l1 K YC YD k YH YG)
      (
      qE.j2 K YC YD YF YE)
def qE.m (K : Nat) (YC : Int) (YD : Int) : qJ (List UInt8) :=
  qE.l1 K YC YD K (1 : Int) (0 : Int)
def q4.l1 (K : Nat) (YC : List UInt8) : Nat → Int → qJ Bool
  | 0, _ => .fail
  | k + 1, YD =>
    cond (decide (YD < (YC.length : Int)))
      (
      xh (inb YD YC.length) <|
      cond ((decide (((rd YC YD).toNat : Int) < (32 : Int))) || (decide (((rd YC YD).toNat : Int) > (126 : Int))))
        (
        .ok false)
        (
        lt ((qC (YD + (1 : Int)))) fun (YE : Int) =>
        q4.l1 K YC k YE))
      (
      lt (((YC.length : Int) == (4 : Int))) fun (YF : Bool) =>
      .ok YF)
def q4.m (K : Nat) (YC : List UInt8) : qJ Bool :=
  q4.l1 K YC K (0 : Int)
def zz.m (K : Nat) (YC : Int) : qJ Int :=
  lt ((qC ((jg .i64 (qC (YC + (3 : Int))) (4 : Int)) * (4 : Int)))) fun (YD : Int) =>
  .ok YD
def qu.l2 (K : Nat) (g1 : Int → Int → qJ Int) (YE : Int) (YF : Int) : Nat → Int → Int → qJ Int
  | 0, _, _ => .fail
  | k + 1, YC, YD =>
    cond (decide (YD < (3 : Int)))
      (
      lt ((wr .u32 (YC * (256 : Int)))) fun (YG : Int) =>
      lt ((qC (YD + (1 : Int)))) fun (YH : Int) =>
      qu.l2 K g1 YE YF k YG YH)
      (
      lt ((wr .u32 (YE + YC))) fun (YI : Int) =>
      lt ((qC (YF + (1 : Int)))) fun (YJ : Int) =>
      g1 YI YJ)
def qu.l1 (K : Nat) (YD : List UInt8) : Nat → Int → Int → qJ Int
  | 0, _, _ => .fail
  | k + 1, YE, YC =>
    cond (decide (YC < (YD.length : Int)))
      (
      xh (inb YC YD.length) <|
      lt ((wr .u32 ((rd YD YC).toNat : Int))) fun (YF : Int) =>
      lt ((jE YC (4 : Int))) fun (YG : Int) =>
      qu.l2 K (qu.l1 K YD k) YE YC K YF YG)
      (
      .ok YE)
def qu.m (K : Nat) (YC : List UInt8) : qJ Int :=
  qu.l1 K YC K (0 : Int) (0 : Int)
def qR.l1 (K : Nat) (YC : List qc) : Nat → Int → Int → qJ Bool
  | 0, _, _ => .fail
  | k + 1, YE, YD =>
    cond (decide (YD < (YC.length : Int)))
      (
      xh (inb YD YC.length) <|
      cond ((decide ((((rd YC YD).Data_).length : Int) > (5000 : Int))) || (decide (YE > (100000 : Int))))
        (
        .ok false)
        (
        lt ((qC (YE + (((rd YC YD).Data_).length : Int)))) fun (YF : Int) =>
        lt ((qC (YD + (1 : Int)))) fun (YG : Int) =>
        qR.l1 K YC k YF YG))
      (
      .ok true)
def qR.m (K : Nat) (YC : List qc) : qJ Bool :=
  cond (decide ((YC.length : Int) > (1001 : Int)))
    (
    .ok false)
    (
    qR.l1 K YC K (0 : Int) (0 : Int))
def qj.j2 (K : Nat) (g1 : Int → Int → qJ Bool) (YD : List qc) (YF : Int) (YC : Int) (YH : Bool) : qJ Bool :=
  cond YH
    (
    .ok false)
    (
    xh (inb YC YD.length) <|
    (zz.m K (((rd YD YC).Data_).length : Int)).bind fun YI =>
    lt ((qC (YF + YI))) fun (YE : Int) =>
    cond (decide (YE ≥ (1073741824 : Int)))
      (
      .ok false)
      (
      lt ((qC (YC + (1 : Int)))) fun (YG : Int) =>
      g1 YE YG))
def qj.l1 (K : Nat) (YC : List qc) : Nat → Int → Int → qJ Bool
  | 0, _, _ => .fail
  | k + 1, YE, YD =>
    cond (decide (YD < (YC.length : Int)))
      (
      xh (inb YD YC.length) <|
      (q4.m K ((rd YC YD).Tag_)).bind fun YF =>
      cond YF
        (
        cond (decide (YD > (0 : Int)))
          (
          xh (inb (qC (YD - (1 : Int))) YC.length) <|
          cond (!Op.bytesLess (rd YC (qC (YD - (1 : Int)))).Tag_ (rd YC YD).Tag_)
            (
            qj.j2 K (qj.l1 K YC k) YC YE YD true)
            (
            qj.j2 K (qj.l1 K YC k) YC YE YD (decide ((((rd YC YD).Data_).length : Int) > (16777216 : Int)))))
          (
          qj.j2 K (qj.l1 K YC k) YC YE YD (decide ((((rd YC YD).Data_).length : Int) > (16777216 : Int)))))
        (
        qj.j2 K (qj.l1 K YC k) YC YE YD true))
      (
      .ok true)
def qj.m (K : Nat) (YC : List qc) : qJ Bool :=
  cond ((decide ((YC.length : Int) < (1 : Int))) || (decide ((YC.length : Int) > (1000 : Int))))
    (
    .ok false)
    (
    qj.l1 K YC K (0 : Int) (0 : Int))
def zh.m (K : Nat) (YC : Int) : qJ (List UInt8) :=
  lt ((([(wr .u8 (zR .u32 YC (24 : Int))), (wr .u8 (zR .u32 YC (16 : Int))), (wr .u8 (zR .u32 YC (8 : Int))), (wr .u8 YC)] : List Int).map yC)) fun (YD : List UInt8) =>
  .ok YD
def qb.j5 (K : Nat) (g3 : (List UInt8) → (List Int) → Int → qJ Bool) (YC : List qc) (YE : List UInt8) (YD : Int) (YI : Int) (YL : (List Int)) : qJ Bool :=
  (qu.m K ((rd YC YD).Data_)).bind fun YN =>
  (zh.m K YN).bind fun YF =>
  xh (xJ (((rd YC YD).Tag_).length + YF.length)) <|
  (zh.m K (wr .u32 YI)).bind fun YH =>
  xh (xJ (((rd YC YD).Tag_ ++ YF).length + YH.length)) <|
  (zh.m K (wr .u32 (((rd YC YD).Data_).length : Int))).bind fun YK =>
  xh (xJ ((((rd YC YD).Tag_ ++ YF) ++ YH).length + YK.length)) <|
  lt (((((rd YC YD).Tag_ ++ YF) ++ YH) ++ YK)) fun (YJ : List UInt8) =>
  xh (xJ (YJ.length + YE.length)) <|
  lt ((YJ ++ YE)) fun (YG : List UInt8) =>
  lt ((qC (YD - (1 : Int)))) fun (YM : Int) =>
  g3 YG YL YM
def qb.l4 (K : Nat) (g3 : (List UInt8) → (List Int) → Int → qJ Bool) (YF : List qc) (YD : List UInt8) (YG : Int) (YE : Int) : Nat → (List Int) → qJ Bool
  | 0, _ => .fail
  | k + 1, YC =>
    cond ((jE (YC.length : Int) (4 : Int)) != (0 : Int))
      (
      xh (room (YC.length + ([(0 : Int)] : List Int).length) 1) <|
      lt (YC ++ ([(0 : Int)] : List Int)) fun (YH : (List Int)) =>
      qb.l4 K g3 YF YD YG YE k YH)
      (
      qb.j5 K (g3) YF YD YG YE YC)
def qb.j8 (K : Nat)  (YC : Bool) : qJ Bool :=
  .ok YC
def qb.j7 (K : Nat)  (YC : Bool) : qJ Bool :=
  cond YC
    (
    (qX.m K).bind fun YD =>
    qb.j8 K YD)
    (
    qb.j8 K false)
def qb.j6 (K : Nat) (YD : Int) (YF : List qc) (YC : List UInt8) (YE : (List Int)) : qJ Bool :=
  (qE.m K YD (YF.length : Int)).bind fun YG =>
  xh (xJ (YG.length + YC.length)) <|
  xh (xJ ((YG ++ YC).length + (YE.map yC).length)) <|
  (qV.m K ((YG ++ YC) ++ (YE.map yC))).bind fun (YH, YI, YJ) =>
  cond ((YJ == (0 : Int)) && (YH == YD))
    (
    (qQ.m K YF YI).bind fun YK =>
    qb.j7 K YK)
    (
    qb.j7 K false)
def qb.l3 (K : Nat) (YF : Int) (YC : List qc) (YD : Int) : Nat → (List UInt8) → (List Int) → Int → qJ Bool
  | 0, _, _, _ => .fail
  | k + 1, YG, YH, YE =>
    cond (decide (YE ≥ (0 : Int)))
      (
      xh (decide (0 ≤ (qC ((4 : Int) * YD))) && room (YH.length + Int.toNat (qC ((4 : Int) * YD))) 1) <|
      lt (YH ++ List.replicate (Int.toNat (qC ((4 : Int) * YD))) (0 : Int)) fun (YI : (List Int)) =>
      lt ((qC ((qC ((12 : Int) + (qC ((16 : Int) * (YC.length : Int))))) + (YI.length : Int)))) fun (YJ : Int) =>
      xh (inb YE YC.length) <|
      xh (room (YI.length + ((rd YC YE).Data_).length) 1) <|
      lt (YI ++ ((rd YC YE).Data_).map xW) fun (YK : (List Int)) =>
      qb.l4 K (qb.l3 K YF YC YD k) YC YG YE YJ K YK)
      (
      qb.j6 K YF YC YG YH)
def qb.j2 (K : Nat) (YC : Int) (YD : List qc) (YE : Int) (YG : Bool) : qJ Bool :=
  cond YG
    (
    (qX.m K).bind fun YH =>
    .ok YH)
    (
    lt ((qC ((YD.length : Int) - (1 : Int)))) fun (YF : Int) =>
    qb.l3 K YC YD YE K ([] : List UInt8) ([] : List Int) YF)
def qb.j1 (K : Nat) (YC : Int) (YD : List qc) (YE : Int) (YF : Bool) : qJ Bool :=
  cond YF
    (
    qb.j2 K YC YD YE true)
    (
    (qj.m K YD).bind fun YG =>
    qb.j2 K YC YD YE (!YG))
def qb.m (K : Nat) (YD : Int) (YE : List qc) (YC : Int) : qJ Bool :=
  (qR.m K YE).bind fun YF =>
  cond ((((!YF) || (decide ((YE.length : Int) > (40 : Int)))) || (decide (YC < (0 : Int)))) || (decide (YC > (100 : Int))))
    (
    qb.j1 K YD YE YC true)
    (
    (zT.m K YD).bind fun YG =>
    qb.j1 K YD YE YC (!YG))
end Go.Mo
