/- Models of the Go functions that this statement reaches, printed by a program of mine: nothing is proved but lengths of tables. -/
import Derived.Test.YtlaobafbdllajaaDoorOwnjoecd
set_option linter.unusedVariables false
set_option linter.unusedSimpArgs false
namespace Go.Mo
open Go Go.Sl
structure qb where
  Tag_ : List UInt8
  Data_ : List UInt8
  deriving Inhabited
structure qe where
  Lo_ : Int
  Hi_ : Int
  deriving Inhabited
structure qa where
  span_ : qe
  x_ : List UInt8
  deriving Inhabited
structure qr where
  text_ : List UInt8
  base_ : Int
  deriving Inhabited
structure qH where
  items_ : (List qa)
  deriving Inhabited
structure xm where
  Window_ : qr
  claims_ : qH
  deriving Inhabited
structure q5 where
  L_ : (List qe)
  X_ : (List Int)
  deriving Inhabited
structure vR where
  Kind_ : Int
  L_ : (List qb)
  At_ : Int
  By_ : Int
  deriving Inhabited
def xt.m (K : Nat) (X3 : Int) : qN Bool :=
  lt (((X3 == (65536 : Int)) || (X3 == (1330926671 : Int)))) fun (X4 : Bool) =>
  .ok X4
def zA.l1 (K : Nat) (X6 : List UInt8) (X3 : (List Int)) : Nat → Int → qN Bool
  | 0, _ => .fail
  | k + 1, X5 =>
    cond (decide (X5 < (X3.length : Int)))
      (
      z8 (inb X5 X3.length) <|
      lt ((rd X3 X5)) fun (X4 : Int) =>
      cond ((decide (X4 < (32 : Int))) || (decide (X4 > (126 : Int))))
        (
        .ok false)
        (
        zA.l1 K X6 X3 k (qD (X5 + (1 : Int)))))
      (
      lt (((X6.length : Int) == (4 : Int))) fun (X7 : Bool) =>
      .ok X7)
def zA.m (K : Nat) (X3 : List UInt8) : qN Bool :=
  z8 (yg X3.length) <|
  lt (X3.map yl) fun (X4 : (List Int)) =>
  zA.l1 K X3 X4 K (0 : Int)
def xc.m (K : Nat) (X3 : Int) : qN Int :=
  lt ((v2 .i64 (qD (X3 + (3 : Int))) (3 : Int))) fun (X4 : Int) =>
  .ok X4
def qS.j2 (K : Nat) (g1 : Int → Int → qN Bool) (X5 : List qb) (X3 : Int) (X6 : Int) (X7 : Bool) : qN Bool :=
  cond X7
    (
    .ok false)
    (
    (xc.m K (((rd X5 X6).Data_).length : Int)).bind fun X8 =>
    lt ((qD (X3 + X8))) fun (X4 : Int) =>
    g1 X4 (qD (X6 + (1 : Int))))
def qS.j3 (K : Nat) (X4 : List qb) (X3 : Int) : qN Bool :=
  lt ((((decide ((X4.length : Int) > (0 : Int))) && (decide ((X4.length : Int) ≤ (1000 : Int)))) && (decide (X3 < (1073741824 : Int))))) fun (X5 : Bool) =>
  .ok X5
def qS.l1 (K : Nat) (X3 : List qb) : Nat → Int → Int → qN Bool
  | 0, _, _ => .fail
  | k + 1, X4, X5 =>
    cond (decide (X5 < (X3.length : Int)))
      (
      z8 (inb X5 X3.length) <|
      (zA.m K ((rd X3 X5).Tag_)).bind fun X6 =>
      cond X6
        (
        cond (decide (X5 > (0 : Int)))
          (
          z8 (inb (qD (X5 - (1 : Int))) X3.length) <|
          cond (!Op.bytesLess (rd X3 (qD (X5 - (1 : Int)))).Tag_ (rd X3 X5).Tag_)
            (
            qS.j2 K (qS.l1 K X3 k) X3 X4 X5 true)
            (
            qS.j2 K (qS.l1 K X3 k) X3 X4 X5 (decide ((((rd X3 X5).Data_).length : Int) > (16777216 : Int)))))
          (
          qS.j2 K (qS.l1 K X3 k) X3 X4 X5 (decide ((((rd X3 X5).Data_).length : Int) > (16777216 : Int)))))
        (
        qS.j2 K (qS.l1 K X3 k) X3 X4 X5 true))
      (
      qS.j3 K X3 X4)
def qS.m (K : Nat) (X3 : List qb) : qN Bool :=
  qS.l1 K X3 K (0 : Int) (0 : Int)
def zH.l1 (K : Nat) (X5 : List UInt8) : Nat → Int → Int → qN Int
  | 0, _, _ => .fail
  | k + 1, X4, X3 =>
    cond (decide (X3 < (X5.length : Int)))
      (
      z8 (inb X3 X5.length) <|
      z8 (decide (0 ≤ (qD ((24 : Int) - (qD ((8 : Int) * (je .i64 X3 (3 : Int)))))))) <|
      lt ((wr .u32 (X4 + (jO .u32 (wr .u32 ((rd X5 X3).toNat : Int)) (qD ((24 : Int) - (qD ((8 : Int) * (je .i64 X3 (3 : Int)))))))))) fun (X6 : Int) =>
      zH.l1 K X5 k X6 (qD (X3 + (1 : Int))))
      (
      .ok X4)
def zH.m (K : Nat) (X3 : List UInt8) : qN Int :=
  zH.l1 K X3 K (0 : Int) (0 : Int)
def xQ.m (K : Nat) (X3 : Int) : qN Bool :=
  lt ((((decide (X3 > (0 : Int))) && (decide (X3 ≤ (8 : Int)))) && ((je .i64 X3 (qD (X3 - (1 : Int)))) == (0 : Int)))) fun (X4 : Bool) =>
  .ok X4
def qt.j3 (K : Nat)  (X5 : Int) (X3 : Int) : qN Int :=
  z8 (inb (wr .u8 X5) ([0, 1, 2, 2, 3, 3, 3, 3, 4, 4, 4, 4, 4, 4, 4, 4, 5, 5, 5, 5, 5, 5, 5, 5, 5, 5, 5, 5, 5, 5, 5, 5, 6, 6, 6, 6, 6, 6, 6, 6, 6, 6, 6, 6, 6, 6, 6, 6, 6, 6, 6, 6, 6, 6, 6, 6, 6, 6, 6, 6, 6, 6, 6, 6, 7, 7, 7, 7, 7, 7, 7, 7, 7, 7, 7, 7, 7, 7, 7, 7, 7, 7, 7, 7, 7, 7, 7, 7, 7, 7, 7, 7, 7, 7, 7, 7, 7, 7, 7, 7, 7, 7, 7, 7, 7, 7, 7, 7, 7, 7, 7, 7, 7, 7, 7, 7, 7, 7, 7, 7, 7, 7, 7, 7, 7, 7, 7, 7, 8, 8, 8, 8, 8, 8, 8, 8, 8, 8, 8, 8, 8, 8, 8, 8, 8, 8, 8, 8, 8, 8, 8, 8, 8, 8, 8, 8, 8, 8, 8, 8, 8, 8, 8, 8, 8, 8, 8, 8, 8, 8, 8, 8, 8, 8, 8, 8, 8, 8, 8, 8, 8, 8, 8, 8, 8, 8, 8, 8, 8, 8, 8, 8, 8, 8, 8, 8, 8, 8, 8, 8, 8, 8, 8, 8, 8, 8, 8, 8, 8, 8, 8, 8, 8, 8, 8, 8, 8, 8, 8, 8, 8, 8, 8, 8, 8, 8, 8, 8, 8, 8, 8, 8, 8, 8, 8, 8, 8, 8, 8, 8, 8, 8, 8, 8, 8, 8, 8, 8, 8, 8, 8, 8, 8, 8, 8, 8] : List UInt8).length) <|
  lt ((qD (X3 + (wr .i64 ((rd ([0, 1, 2, 2, 3, 3, 3, 3, 4, 4, 4, 4, 4, 4, 4, 4, 5, 5, 5, 5, 5, 5, 5, 5, 5, 5, 5, 5, 5, 5, 5, 5, 6, 6, 6, 6, 6, 6, 6, 6, 6, 6, 6, 6, 6, 6, 6, 6, 6, 6, 6, 6, 6, 6, 6, 6, 6, 6, 6, 6, 6, 6, 6, 6, 7, 7, 7, 7, 7, 7, 7, 7, 7, 7, 7, 7, 7, 7, 7, 7, 7, 7, 7, 7, 7, 7, 7, 7, 7, 7, 7, 7, 7, 7, 7, 7, 7, 7, 7, 7, 7, 7, 7, 7, 7, 7, 7, 7, 7, 7, 7, 7, 7, 7, 7, 7, 7, 7, 7, 7, 7, 7, 7, 7, 7, 7, 7, 7, 8, 8, 8, 8, 8, 8, 8, 8, 8, 8, 8, 8, 8, 8, 8, 8, 8, 8, 8, 8, 8, 8, 8, 8, 8, 8, 8, 8, 8, 8, 8, 8, 8, 8, 8, 8, 8, 8, 8, 8, 8, 8, 8, 8, 8, 8, 8, 8, 8, 8, 8, 8, 8, 8, 8, 8, 8, 8, 8, 8, 8, 8, 8, 8, 8, 8, 8, 8, 8, 8, 8, 8, 8, 8, 8, 8, 8, 8, 8, 8, 8, 8, 8, 8, 8, 8, 8, 8, 8, 8, 8, 8, 8, 8, 8, 8, 8, 8, 8, 8, 8, 8, 8, 8, 8, 8, 8, 8, 8, 8, 8, 8, 8, 8, 8, 8, 8, 8, 8, 8, 8, 8, 8, 8, 8, 8, 8, 8] : List UInt8) (wr .u8 X5)).toNat : Int))))) fun (X4 : Int) =>
  .ok X4
def qt.j2 (K : Nat)  (X4 : Int) (X3 : Int) : qN Int :=
  cond (decide (X4 ≥ (256 : Int)))
    (
    lt ((x2 .u64 X4 (8 : Int))) fun (X6 : Int) =>
    lt ((qD (X3 + (8 : Int)))) fun (X5 : Int) =>
    qt.j3 K X6 X5)
    (
    qt.j3 K X4 X3)
def qt.j1 (K : Nat)  (X4 : Int) (X3 : Int) : qN Int :=
  cond (decide (X4 ≥ (65536 : Int)))
    (
    lt ((x2 .u64 X4 (16 : Int))) fun (X6 : Int) =>
    lt ((qD (X3 + (16 : Int)))) fun (X5 : Int) =>
    qt.j2 K X6 X5)
    (
    qt.j2 K X4 X3)
def qt.m (K : Nat) (X3 : Int) : qN Int :=
  cond (decide (X3 ≥ (4294967296 : Int)))
    (
    lt ((x2 .u64 X3 (32 : Int))) fun (X4 : Int) =>
    qt.j1 K X4 (32 : Int))
    (
    qt.j1 K X3 (0 : Int))
def zV.m (K : Nat) (X3 : Int) : qN Unit :=
  .ok ()
def zI.m (K : Nat) (X3 : Int) (X4 : Int) : qN Int :=
  lt ((qD ((qD (X4 - (1 : Int))) - X3))) fun (X5 : Int) =>
  .ok X5
def q9.l1 (K : Nat) (X6 : Int) (X3 : Int) (X7 : (List Int)) : Nat → (List Int) → Int → qN ((List UInt8) × Int)
  | 0, _, _ => .fail
  | k + 1, X4, X5 =>
    cond (decide (X5 < (X7.length : Int)))
      (
      z8 (decide (0 ≤ (qD ((8 : Int) * X5)))) <|
      (zI.m K X5 X3).bind fun X8 =>
      z8 (inb X8 X4.length) <|
      lt (X4.set (Int.toNat X8) (wr .u8 (x2 .u64 X6 (qD ((8 : Int) * X5))))) fun (X9 : (List Int)) =>
      q9.l1 K X6 X3 X7 k X9 (qD (X5 + (1 : Int))))
      (
      lt ((X4.map vf)) fun (Ya : List UInt8) =>
      .ok (Ya, (0 : Int)))
def q9.m (K : Nat) (X4 : Int) (X3 : Int) : qN ((List UInt8) × Int) :=
  (xQ.m K X3).bind fun X6 =>
  cond (!X6)
    (
    .ok (([] : List UInt8), (1 : Int)))
    (
    (qt.m K X4).bind fun X7 =>
    cond (decide (X7 > (qD ((8 : Int) * X3))))
      (
      .ok (([] : List UInt8), (10 : Int)))
      (
      (zV.m K X3).bind fun _ =>
      z8 (decide (0 ≤ X3) && room (Int.toNat X3) 1) <|
      lt (List.replicate (Int.toNat X3) (0 : Int)) fun (X5 : (List Int)) =>
      q9.l1 K X4 X3 X5 K X5 (0 : Int)))
def yL.m (K : Nat) (X3 : Int) : qN (List UInt8) :=
  (q9.m K (wr .u64 X3) (4 : Int)).bind fun (X4, X5) =>
  .ok X4
def zS.m (K : Nat) (X3 : (List Int)) : qN Int :=
  lt ((X3.length : Int)) fun (X4 : Int) =>
  .ok X4
def zi.m (K : Nat) (X3 : (List Int)) (X4 : List UInt8) : qN (Int × (List Int)) :=
  z8 (room (X3.length + X4.length) 1) <|
  lt (X3 ++ X4.map yl) fun (X5 : (List Int)) =>
  lt ((X4.length : Int)) fun (X6 : Int) =>
  .ok (X6, X5)
def strings_Repeat.m (K : Nat) (X4 : List UInt8) (X3 : Int) : qN (List UInt8) :=
  (Q8 X4 X3).bind fun X5 =>
  .ok X5
def yK.m (K : Nat) (X3 : Int) : qN (List UInt8) :=
  (q9.m K (wr .u64 X3) (2 : Int)).bind fun (X4, X5) =>
  .ok X4
def zM.l1 (K : Nat) (X6 : Int) (X7 : Int) : Nat → Int → Int → qN (List UInt8)
  | 0, _, _ => .fail
  | k + 1, X3, X4 =>
    cond (decide ((qD ((2 : Int) * X3)) ≤ X7))
      (
      lt ((qD (X3 * (2 : Int)))) fun (X8 : Int) =>
      lt ((qD (X4 + (1 : Int)))) fun (X5 : Int) =>
      zM.l1 K X6 X7 k X8 X5)
      (
      (yL.m K (wr .i64 X6)).bind fun X9 =>
      (yK.m K X7).bind fun Ya =>
      z8 (yg (X9.length + Ya.length)) <|
      (yK.m K (qD ((16 : Int) * X3))).bind fun Yb =>
      z8 (yg ((X9 ++ Ya).length + Yb.length)) <|
      (yK.m K X4).bind fun Yc =>
      z8 (yg (((X9 ++ Ya) ++ Yb).length + Yc.length)) <|
      (yK.m K (qD ((16 : Int) * (qD (X7 - X3))))).bind fun Yd =>
      z8 (yg ((((X9 ++ Ya) ++ Yb) ++ Yc).length + Yd.length)) <|
      lt (((((X9 ++ Ya) ++ Yb) ++ Yc) ++ Yd)) fun (Ye : List UInt8) =>
      .ok Ye)
def zM.m (K : Nat) (X3 : Int) (X4 : Int) : qN (List UInt8) :=
  zM.l1 K X3 X4 K (1 : Int) (0 : Int)
def zr.m (K : Nat) (X3 : (List Int)) : qN (List UInt8) :=
  lt ((X3.map vf)) fun (X4 : List UInt8) =>
  .ok X4
def qX.j3 (K : Nat) (kind7 : Int) (l_8 : List qb) (X3 : (List Int)) (X6 : (List Int)) : qN ((List UInt8) × Int) :=
  (zM.m K kind7 (l_8.length : Int)).bind fun X4 =>
  (zr.m K X3).bind fun X5 =>
  z8 (yg (X4.length + X5.length)) <|
  (zr.m K X6).bind fun X7 =>
  z8 (yg ((X4 ++ X5).length + X7.length)) <|
  lt (((X4 ++ X5) ++ X7)) fun (X8 : List UInt8) =>
  .ok (X8, (0 : Int))
def qX.l2 (K : Nat) (kind7 : Int) (l_8 : List qb) (X4 : Int) : Nat → (List Int) → (List Int) → Int → qN ((List UInt8) × Int)
  | 0, _, _, _ => .fail
  | k + 1, X5, X6, X3 =>
    cond (decide (X3 < (l_8.length : Int)))
      (
      z8 (inb X3 l_8.length) <|
      (zH.m K ((rd l_8 X3).Data_)).bind fun Yd =>
      (yL.m K (wr .i64 Yd)).bind fun X7 =>
      z8 (yg (((rd l_8 X3).Tag_).length + X7.length)) <|
      (zS.m K X6).bind fun Ye =>
      (yL.m K (qD (X4 + Ye))).bind fun X8 =>
      z8 (yg (((rd l_8 X3).Tag_ ++ X7).length + X8.length)) <|
      (yL.m K (((rd l_8 X3).Data_).length : Int)).bind fun Yb =>
      z8 (yg ((((rd l_8 X3).Tag_ ++ X7) ++ X8).length + Yb.length)) <|
      (zi.m K X5 ((((rd l_8 X3).Tag_ ++ X7) ++ X8) ++ Yb)).bind fun (Yg, X9) =>
      (xc.m K (((rd l_8 X3).Data_).length : Int)).bind fun Yf =>
      (strings_Repeat.m K ([0] : List UInt8) (qD (Yf - (((rd l_8 X3).Data_).length : Int)))).bind fun Yc =>
      z8 (yg (((rd l_8 X3).Data_).length + Yc.length)) <|
      (zi.m K X6 ((rd l_8 X3).Data_ ++ Yc)).bind fun (Yh, Ya) =>
      qX.l2 K kind7 l_8 X4 k X9 Ya (qD (X3 + (1 : Int))))
      (
      qX.j3 K kind7 l_8 X5 X6)
def qX.j1 (K : Nat) (kind7 : Int) (l_8 : List qb) (X4 : Bool) : qN ((List UInt8) × Int) :=
  cond X4
    (
    .ok (([] : List UInt8), (1 : Int)))
    (
    lt ((qD ((12 : Int) + (qD ((16 : Int) * (l_8.length : Int)))))) fun (X3 : Int) =>
    qX.l2 K kind7 l_8 X3 K ([] : List Int) ([] : List Int) (0 : Int))
def qX.m (K : Nat) (kind7 : Int) (l_8 : List qb) : qN ((List UInt8) × Int) :=
  (xt.m K kind7).bind fun X3 =>
  cond ((!X3) || (decide ((l_8.length : Int) > (1000 : Int))))
    (
    qX.j1 K kind7 l_8 true)
    (
    (qS.m K l_8).bind fun X4 =>
    qX.j1 K kind7 l_8 (!X4))
def vP.m (K : Nat) (X3 : List UInt8) : qN Unit :=
  .ok ()
def zR.m (K : Nat) : qN Unit :=
  .ok ()
def zt.m (K : Nat) (X4 : qr) (X3 : Int) (X5 : Int) : qN ((List UInt8) × Int × Int) :=
  cond ((decide (X3 < (0 : Int))) || (decide (X5 < (0 : Int))))
    (
    .ok (([] : List UInt8), (0 : Int), (1 : Int)))
    (
    cond ((decide (X3 > (X4.text_.length : Int))) || (decide (X5 > (qD ((X4.text_.length : Int) - X3)))))
      (
      .ok (([] : List UInt8), (0 : Int), (2 : Int)))
      (
      z8 (subok X3 (qD (X3 + X5)) X4.text_.length) <|
      .ok ((sub X4.text_ X3 (qD (X3 + X5))), (qD (X4.base_ + X3)), (0 : Int))))
def qC.l1 (K : Nat) (X3 : Int) (X4 : List UInt8) : Nat → Int → Int → qN (Int × Int)
  | 0, _, _ => .fail
  | k + 1, X6, X5 =>
    cond (decide (X5 < X3))
      (
      (zI.m K X5 X3).bind fun X8 =>
      z8 (inb X8 X4.length) <|
      z8 (decide (0 ≤ (qD ((8 : Int) * X5)))) <|
      lt ((Z5 .u64 X6 (jO .u64 (wr .u64 ((rd X4 X8).toNat : Int)) (qD ((8 : Int) * X5))))) fun (X7 : Int) =>
      qC.l1 K X3 X4 k X7 (qD (X5 + (1 : Int))))
      (
      .ok (X6, (0 : Int)))
def qC.m (K : Nat) (X6 : qr) (X5 : Int) (X3 : Int) : qN (Int × Int) :=
  (xQ.m K X3).bind fun X9 =>
  cond (!X9)
    (
    .ok ((0 : Int), (1 : Int)))
    (
    (zt.m K X6 X5 X3).bind fun (X4, X8, X7) =>
    cond (X7 != (0 : Int))
      (
      .ok ((0 : Int), X7))
      (
      (zV.m K X3).bind fun _ =>
      qC.l1 K X3 X4 K (0 : Int) (0 : Int)))
def zh.m (K : Nat) (X3 : qr) : qN Unit :=
  .ok ()
def zU.m (K : Nat) (X4 : Int) (X3 : Int) : qN Bool :=
  lt ((((decide (X4 ≥ (0 : Int))) && (decide (X4 < X3))) && (decide (X3 ≤ (4611686018427387904 : Int))))) fun (X5 : Bool) =>
  .ok X5
def q7.m (K : Nat) (X3 : qH) : qN Unit :=
  .ok ()
def zb.m (K : Nat) (X5 : Int) (X3 : (List qa)) (X4 : Int) : qN Bool :=
  z8 (inb X5 X3.length) <|
  lt ((decide ((rd X3 X5).span_.Hi_ > X4))) fun (X6 : Bool) =>
  .ok X6
def qx.l1 (K : Nat) (X7 : qH) (X3 : Int) : Nat → Int → Int → qN Int
  | 0, _, _ => .fail
  | k + 1, X5, X6 =>
    cond (decide (X5 < X6))
      (
      lt ((jf .i64 (qD (X5 + X6)) (2 : Int))) fun (X4 : Int) =>
      (zb.m K X4 X7.items_ X3).bind fun X9 =>
      cond X9
        (
        qx.l1 K X7 X3 k X5 X4)
        (
        lt ((qD (X4 + (1 : Int)))) fun (X8 : Int) =>
        qx.l1 K X7 X3 k X8 X6))
      (
      .ok X5)
def qx.m (K : Nat) (X4 : qH) (X3 : Int) : qN Int :=
  (q7.m K X4).bind fun _ =>
  lt ((X4.items_.length : Int)) fun (X5 : Int) =>
  qx.l1 K X4 X3 K (0 : Int) X5
def qp.j2 (K : Nat)  (X3 : Bool) : qN Bool :=
  .ok X3
def qp.j1 (K : Nat) (X3 : qH) (X4 : Int) (X5 : Int) (X6 : Bool) : qN Bool :=
  cond X6
    (
    (q7.m K X3).bind fun _ =>
    z8 (inb X5 X3.items_.length) <|
    qp.j2 K (decide ((rd X3.items_ X5).span_.Lo_ < X4)))
    (
    qp.j2 K false)
def qp.m (K : Nat) (X4 : qH) (X5 : Int) (X3 : Int) : qN Bool :=
  (qx.m K X4 X5).bind fun X6 =>
  (zU.m K X5 X3).bind fun X7 =>
  cond X7
    (
    (q7.m K X4).bind fun _ =>
    qp.j1 K X4 X3 X6 (decide (X6 < (X4.items_.length : Int))))
    (
    qp.j1 K X4 X3 X6 false)
def qy.m (K : Nat) (X5 : List qa) (X4 : Int) (X6 : List qa) : qN (List qa) :=
  (QO 32 X5 X4 X6).bind fun X3 =>
  .ok X3
def zd.m (K : Nat) (X5 : qH) (X3 : Int) (X4 : Int) (X7 : List UInt8) : qN (Int × (List qa)) :=
  (zU.m K X3 X4).bind fun X8 =>
  lt ((!X8)) fun (X6 : Bool) =>
  cond X6
    (
    .ok ((1 : Int), X5.items_))
    (
    (qp.m K X5 X3 X4).bind fun X9 =>
    cond X9
      (
      .ok ((5 : Int), X5.items_))
      (
      (qx.m K X5 X3).bind fun Ya =>
      (qy.m K X5.items_ Ya ([(qa.mk (qe.mk X3 X4) X7)] : List qa)).bind fun Yb =>
      .ok ((0 : Int), Yb)))
def qT.l1 (K : Nat) (X4 : Int) : Nat → (List UInt8) → qN (List UInt8)
  | 0, _ => .fail
  | k + 1, X3 =>
    z8 (imp true (decide ((X3.length : Int) > (0 : Int))) (inb (qD ((X3.length : Int) - (1 : Int))) X3.length)) <|
    cond ((decide ((X3.length : Int) > (0 : Int))) && (((rd X3 (qD ((X3.length : Int) - (1 : Int)))).toNat : Int) == X4))
      (
      z8 (subok (0 : Int) (qD ((X3.length : Int) - (1 : Int))) X3.length) <|
      lt ((sub X3 (0 : Int) (qD ((X3.length : Int) - (1 : Int))))) fun (X5 : List UInt8) =>
      qT.l1 K X4 k X5)
      (
      .ok X3)
def qT.m (K : Nat) (X4 : List UInt8) (X3 : Int) : qN (List UInt8) :=
  qT.l1 K X3 K X4
def qU.l1 (K : Nat) (X4 : Int) : Nat → (List UInt8) → qN (List UInt8)
  | 0, _ => .fail
  | k + 1, X3 =>
    z8 (imp true (decide ((X3.length : Int) > (0 : Int))) (inb (0 : Int) X3.length)) <|
    cond ((decide ((X3.length : Int) > (0 : Int))) && (((rd X3 (0 : Int)).toNat : Int) == X4))
      (
      z8 (subok (1 : Int) (X3.length : Int) X3.length) <|
      lt ((sub X3 (1 : Int) (X3.length : Int))) fun (X5 : List UInt8) =>
      qU.l1 K X4 k X5)
      (
      .ok X3)
def qU.m (K : Nat) (X4 : List UInt8) (X3 : Int) : qN (List UInt8) :=
  qU.l1 K X3 K X4
def zO.m (K : Nat) (X3 : List UInt8) : qN (List UInt8) :=
  cond ((X3 == ([] : List UInt8)) || false)
    (
    .ok X3)
    (
    z8 (inb (0 : Int) ([0] : List UInt8).length) <|
    (qT.m K X3 (0 : Int)).bind fun X4 =>
    (qU.m K X4 (0 : Int)).bind fun X5 =>
    .ok X5)
def xG.m (K : Nat) (X3 : qr) : qN Int :=
  lt ((X3.text_.length : Int)) fun (X4 : Int) =>
  .ok X4
def qL.j2 (K : Nat) (X5 : List UInt8) (X6 : Int) (X4 : List UInt8) (X3 : (List qa)) : qN ((List UInt8) × (List UInt8) × Int × (List qa)) :=
  (zH.m K X4).bind fun X7 =>
  cond (X7 != (wr .u32 X6))
    (
    .ok (([] : List UInt8), ([] : List UInt8), (4 : Int), X3))
    (
    .ok (X5, X4, (0 : Int), X3))
def qL.j1 (K : Nat) (X9 : xm) (X6 : List UInt8) (Yb : Int) (Yc : Int) (X8 : Int) (X3 : List UInt8) (X4 : Int) (Ya : Int) : qN ((List UInt8) × (List UInt8) × Int × (List qa)) :=
  cond (Ya != (0 : Int))
    (
    .ok (([] : List UInt8), ([] : List UInt8), Ya, X9.claims_.items_))
    (
    (zh.m K (qr.mk X3 X4)).bind fun _ =>
    z8 (subok (0 : Int) X8 X3.length) <|
    lt ((sub X3 (0 : Int) X8)) fun (X7 : List UInt8) =>
    (zh.m K (qr.mk X3 X4)).bind fun _ =>
    z8 (subok X8 (X3.length : Int) X3.length) <|
    (zO.m K (sub X3 X8 (X3.length : Int))).bind fun Ye =>
    cond (!(Ye == ([] : List UInt8)))
      (
      .ok (([] : List UInt8), ([] : List UInt8), (3 : Int), X9.claims_.items_))
      (
      cond (decide (X8 > (0 : Int)))
        (
        (xG.m K (qr.mk X3 X4)).bind fun Yf =>
        (zd.m K X9.claims_ (wr .i64 Yc) (qD ((wr .i64 Yc) + Yf)) X6).bind fun (Yd, X5) =>
        cond (Yd != (0 : Int))
          (
          .ok (([] : List UInt8), ([] : List UInt8), Yd, X5))
          (
          qL.j2 K X6 Yb X7 X5))
        (
        qL.j2 K X6 Yb X7 X9.claims_.items_)))
def qL.m (K : Nat) (X6 : xm) (X3 : qr) : qN ((List UInt8) × (List UInt8) × Int × (List qa)) :=
  (zh.m K X3).bind fun _ =>
  z8 (subok (0 : Int) (4 : Int) X3.text_.length) <|
  lt ((sub X3.text_ (0 : Int) (4 : Int))) fun (X7 : List UInt8) =>
  (qC.m K X3 (4 : Int) (4 : Int)).bind fun (Ya, Yd) =>
  (qC.m K X3 (8 : Int) (4 : Int)).bind fun (X8, Ye) =>
  (qC.m K X3 (12 : Int) (4 : Int)).bind fun (X9, Yf) =>
  cond (((je .u64 X8 (3 : Int)) != (0 : Int)) || (decide (X9 > (16777216 : Int))))
    (
    .ok (([] : List UInt8), ([] : List UInt8), (3 : Int), X6.claims_.items_))
    (
    (xc.m K (wr .i64 X9)).bind fun Yb =>
    (zt.m K X6.Window_ (wr .i64 X8) Yb).bind fun (X5, X4, Yc) =>
    qL.j1 K X6 X7 Ya X8 X9 X5 X4 Yc)
def qZ.j3 (K : Nat) (X6 : Int) (X4 : (List qb)) (X3 : Int) : qN (Int × (List qb) × Int) :=
  cond (decide (X3 ≥ (1073741824 : Int)))
    (
    .ok ((0 : Int), ([] : List qb), (3 : Int)))
    (
    lt ((wr .u32 X6)) fun (X5 : Int) =>
    .ok (X5, X4, (0 : Int)))
def qZ.l2 (K : Nat) (Yi : List UInt8) (Yj : Int) (Yf : Int) (Ya : List UInt8) (X7 : Int) : Nat → (List qa) → (List qb) → Int → (List UInt8) → Int → qN (Int × (List qb) × Int)
  | 0, _, _, _, _, _ => .fail
  | k + 1, Yc, Ye, Yb, X9, Yh =>
    cond (decide (Yh < Yf))
      (
      (zt.m K (qr.mk Ya X7) (qD ((16 : Int) * Yh)) (16 : Int)).bind fun (X3, X8, Yo) =>
      (zh.m K (qr.mk X3 X8)).bind fun _ =>
      z8 (subok (0 : Int) (4 : Int) X3.length) <|
      lt ((sub X3 (0 : Int) (4 : Int))) fun (X5 : List UInt8) =>
      (zA.m K X5).bind fun Ym =>
      cond ((!Ym) || (Op.bytesLess X5 X9 || X5 == X9))
        (
        .ok ((0 : Int), ([] : List qb), (3 : Int)))
        (
        (qL.m K (xm.mk (qr.mk Yi (0 : Int)) (qH.mk Yc)) (qr.mk X3 X8)).bind fun (X6, X4, Yk, Yd) =>
        cond (Yk != (0 : Int))
          (
          .ok ((0 : Int), ([] : List qb), Yk))
          (
          (xc.m K (X4.length : Int)).bind fun Yn =>
          lt ((qD (Yb + Yn))) fun (Yg : Int) =>
          z8 (room (Ye.length + ([(qb.mk X6 X4)] : List qb).length) 32) <|
          lt (Ye ++ ([(qb.mk X6 X4)] : List qb)) fun (Yl : (List qb)) =>
          qZ.l2 K Yi Yj Yf Ya X7 k Yd Yl Yg X6 (qD (Yh + (1 : Int))))))
      (
      qZ.j3 K Yj Ye Yb)
def qZ.j1 (K : Nat) (X7 : List UInt8) (Ya : Int) (X4 : Int) (X9 : Bool) : qN (Int × (List qb) × Int) :=
  cond X9
    (
    .ok ((0 : Int), ([] : List qb), (3 : Int)))
    (
    (zt.m K (qr.mk X7 (0 : Int)) (12 : Int) (qD ((16 : Int) * X4))).bind fun (X6, X5, X8) =>
    cond (X8 != (0 : Int))
      (
      .ok ((0 : Int), ([] : List qb), X8))
      (
      (zd.m K (qH.mk ([] : List qa)) (0 : Int) (qD ((12 : Int) + (qD ((16 : Int) * X4)))) ([] : List UInt8)).bind fun (Yb, X3) =>
      qZ.l2 K X7 Ya X4 X6 X5 K X3 ([] : List qb) (0 : Int) ([] : List UInt8) (0 : Int)))
def qZ.m (K : Nat) (X6 : List UInt8) : qN (Int × (List qb) × Int) :=
  (vP.m K X6).bind fun _ =>
  (zR.m K).bind fun _ =>
  (zt.m K (qr.mk X6 (0 : Int)) (0 : Int) (12 : Int)).bind fun (X3, X4, X8) =>
  cond (X8 != (0 : Int))
    (
    .ok ((0 : Int), ([] : List qb), X8))
    (
    (qC.m K (qr.mk X3 X4) (0 : Int) (4 : Int)).bind fun (X7, Yc) =>
    (qC.m K (qr.mk X3 X4) (4 : Int) (2 : Int)).bind fun (X9, Yd) =>
    lt ((wr .i64 X9)) fun (X5 : Int) =>
    (xt.m K (wr .u32 X7)).bind fun Ya =>
    cond (((!Ya) || (decide (X5 < (1 : Int)))) || (decide (X5 > (1000 : Int))))
      (
      qZ.j1 K X6 X7 X5 true)
      (
      (zh.m K (qr.mk X3 X4)).bind fun _ =>
      (zM.m K (wr .u32 X7) X5).bind fun Yb =>
      qZ.j1 K X6 X7 X5 (!(X3 == Yb))))
def qW.l1 (K : Nat) (X3 : List qb) (X5 : List qb) : Nat → Int → qN Bool
  | 0, _ => .fail
  | k + 1, X4 =>
    cond (decide (X4 < (X3.length : Int)))
      (
      z8 (inb X4 X3.length) <|
      z8 (inb X4 X5.length) <|
      cond (!(((rd X3 X4).Tag_ == (rd X5 X4).Tag_) && (((rd X3 X4).Data_ == (rd X5 X4).Data_) && true)))
        (
        .ok false)
        (
        lt ((qD (X4 + (1 : Int)))) fun (X6 : Int) =>
        qW.l1 K X3 X5 k X6))
      (
      .ok true)
def qW.m (K : Nat) (X3 : List qb) (X4 : List qb) : qN Bool :=
  cond ((X3.length : Int) != (X4.length : Int))
    (
    .ok false)
    (
    qW.l1 K X3 X4 K (0 : Int))
def q8.j1 (K : Nat) (X5 : Int) (X6 : Int) (X3 : Bool) : qN Bool :=
  lt (((X3 && (X5 == (2 : Int))) && (X6 == (1 : Int)))) fun (X4 : Bool) =>
  .ok X4
def q8.m (K : Nat) : qN Bool :=
  (qX.m K (65536 : Int) ([(qb.mk ([104, 101, 97, 100] : List UInt8) ([97, 98, 99, 100, 101] : List UInt8))] : List qb)).bind fun (X4, X7) =>
  (qZ.m K X4).bind fun (X8, X9, Ya) =>
  (qZ.m K ([] : List UInt8)).bind fun (Yb, Yc, X5) =>
  (qX.m K (7 : Int) ([(qb.mk ([104, 101, 97, 100] : List UInt8) ([97, 98, 99, 100, 101] : List UInt8))] : List qb)).bind fun (Yd, X6) =>
  cond (((((X4.length : Int) == (36 : Int)) && (X7 == (0 : Int))) && (X8 == (65536 : Int))) && (Ya == (0 : Int)))
    (
    (qW.m K ([(qb.mk ([104, 101, 97, 100] : List UInt8) ([97, 98, 99, 100, 101] : List UInt8))] : List qb) X9).bind fun X3 =>
    q8.j1 K X5 X6 X3)
    (
    q8.j1 K X5 X6 false)
def zJ.m (K : Nat) (X3 : Int) : qN Bool :=
  lt (((((X3 == (1 : Int)) || (X3 == (2 : Int))) || (X3 == (4 : Int))) || (X3 == (8 : Int)))) fun (X4 : Bool) =>
  .ok X4
def qw.j2 (K : Nat) (g1 : Int → Int → qN (Int × Int)) (X4 : Int) (X6 : Int) (X3 : Int) : qN (Int × Int) :=
  lt ((wr .u64 ((wr .u64 (X4 * (256 : Int))) + (wr .u64 X3)))) fun (X5 : Int) =>
  lt ((qD (X6 + (1 : Int)))) fun (X7 : Int) =>
  g1 X5 X7
def qw.l1 (K : Nat) (X6 : List UInt8) (X4 : Int) (X3 : Int) (X7 : Bool) : Nat → Int → Int → qN (Int × Int)
  | 0, _, _ => .fail
  | k + 1, X8, X5 =>
    cond (decide (X5 < X3))
      (
      z8 (inb (qD ((qD ((qD (X4 + X3)) - (1 : Int))) - X5)) X6.length) <|
      lt (((rd X6 (qD ((qD ((qD (X4 + X3)) - (1 : Int))) - X5))).toNat : Int)) fun (X9 : Int) =>
      cond X7
        (
        z8 (inb (qD (X4 + X5)) X6.length) <|
        lt (((rd X6 (qD (X4 + X5))).toNat : Int)) fun (Ya : Int) =>
        qw.j2 K (qw.l1 K X6 X4 X3 X7 k) X8 X5 Ya)
        (
        qw.j2 K (qw.l1 K X6 X4 X3 X7 k) X8 X5 X9))
      (
      .ok (X8, (0 : Int)))
def qw.m (K : Nat) (X5 : List UInt8) (X4 : Int) (X3 : Int) (X6 : Bool) : qN (Int × Int) :=
  (zJ.m K X3).bind fun X7 =>
  cond ((!X7) || (decide (X4 < (0 : Int))))
    (
    .ok ((0 : Int), (1 : Int)))
    (
    cond ((decide (X4 > (X5.length : Int))) || (decide (X3 > (qD ((X5.length : Int) - X4)))))
      (
      .ok ((0 : Int), (2 : Int)))
      (
      qw.l1 K X5 X4 X3 X6 K (0 : Int) (0 : Int)))
def za.m (K : Nat) (X5 : List UInt8) (X4 : Int) (X3 : Int) : qN Int :=
  (qw.m K X5 X4 X3 true).bind fun (X7, X8) =>
  lt ((wr .i64 X7)) fun (X6 : Int) =>
  .ok X6
def z6.m (K : Nat) (X3 : Int) : qN Bool :=
  lt (((X3 == (65536 : Int)) || (X3 == (1330926671 : Int)))) fun (X4 : Bool) =>
  .ok X4
def qm.j2 (K : Nat) (g1 : Int → (List Int) → Int → qN ((List UInt8) × Int)) (X5 : Int) (X4 : (List Int)) (X8 : Int) (X3 : Int) : qN ((List UInt8) × Int) :=
  z8 (inb X3 X4.length) <|
  lt (X4.set (Int.toNat X3) (wr .u8 (jg X5 (256 : Int)))) fun (X7 : (List Int)) =>
  lt ((jf .u64 X5 (256 : Int))) fun (X6 : Int) =>
  lt ((qD (X8 + (1 : Int)))) fun (X9 : Int) =>
  g1 X6 X7 X9
def qm.j3 (K : Nat)  (X4 : Int) (X3 : (List Int)) : qN ((List UInt8) × Int) :=
  cond (decide (X4 > (0 : Int)))
    (
    .ok (([] : List UInt8), (10 : Int)))
    (
    lt ((X3.map vf)) fun (X5 : List UInt8) =>
    .ok (X5, (0 : Int)))
def qm.l1 (K : Nat) (X3 : Int) (X4 : Bool) : Nat → Int → (List Int) → Int → qN ((List UInt8) × Int)
  | 0, _, _, _ => .fail
  | k + 1, X7, X6, X5 =>
    cond (decide (X5 < X3))
      (
      cond X4
        (
        lt ((qD ((qD (X3 - (1 : Int))) - X5))) fun (X8 : Int) =>
        qm.j2 K (qm.l1 K X3 X4 k) X7 X6 X5 X8)
        (
        qm.j2 K (qm.l1 K X3 X4 k) X7 X6 X5 X5))
      (
      qm.j3 K X7 X6)
def qm.m (K : Nat) (X5 : Int) (X3 : Int) (X4 : Bool) : qN ((List UInt8) × Int) :=
  (zJ.m K X3).bind fun X7 =>
  cond (!X7)
    (
    .ok (([] : List UInt8), (1 : Int)))
    (
    z8 (decide (0 ≤ X3) && room (Int.toNat X3) 1) <|
    lt (List.replicate (Int.toNat X3) (0 : Int)) fun (X6 : (List Int)) =>
    qm.l1 K X3 X4 K X5 X6 (0 : Int))
def xa.m (K : Nat) (X3 : Int) : qN (List UInt8) :=
  (qm.m K (wr .u64 X3) (4 : Int) true).bind fun (X4, X5) =>
  .ok X4
def zE.m (K : Nat) (X3 : Int) : qN (List UInt8) :=
  (qm.m K (wr .u64 X3) (2 : Int) true).bind fun (X4, X5) =>
  .ok X4
def qQ.j2 (K : Nat) (X6 : Int) (X7 : Int) (X9 : Int) (Yb : Int) : qN (List UInt8) :=
  (xa.m K (wr .i64 X6)).bind fun X3 =>
  (zE.m K X7).bind fun X4 =>
  z8 (yg (X3.length + X4.length)) <|
  (zE.m K (qD ((16 : Int) * X9))).bind fun X5 =>
  z8 (yg ((X3 ++ X4).length + X5.length)) <|
  (zE.m K Yb).bind fun X8 =>
  z8 (yg (((X3 ++ X4) ++ X5).length + X8.length)) <|
  (zE.m K (qD ((16 : Int) * (qD (X7 - X9))))).bind fun Ya =>
  z8 (yg ((((X3 ++ X4) ++ X5) ++ X8).length + Ya.length)) <|
  lt (((((X3 ++ X4) ++ X5) ++ X8) ++ Ya)) fun (Yc : List UInt8) =>
  .ok Yc
def qQ.l1 (K : Nat) (X3 : Int) (X4 : Int) : Nat → Int → Int → qN (List UInt8)
  | 0, _, _ => .fail
  | k + 1, X6, X5 =>
    cond (decide ((qD ((2 : Int) * X6)) ≤ X4))
      (
      lt ((qD ((2 : Int) * X6))) fun (X8 : Int) =>
      lt ((qD (X5 + (1 : Int)))) fun (X7 : Int) =>
      qQ.l1 K X3 X4 k X8 X7)
      (
      qQ.j2 K X3 X4 X6 X5)
def qQ.m (K : Nat) (X3 : Int) (X4 : Int) : qN (List UInt8) :=
  qQ.l1 K X3 X4 K (1 : Int) (0 : Int)
def zF.m (K : Nat) (X4 : Int) (X3 : Int) : qN Bool :=
  lt ((((decide (X4 ≥ (0 : Int))) && (decide (X4 < X3))) && (decide (X3 ≤ (4611686018427387904 : Int))))) fun (X5 : Bool) =>
  .ok X5
def qR.l1 (K : Nat) (X4 : q5) (X5 : Int) (X6 : Int) : Nat → Int → qN Bool
  | 0, _ => .fail
  | k + 1, X3 =>
    cond (decide (X3 < (X4.L_.length : Int)))
      (
      (zF.m K X5 X6).bind fun X7 =>
      z8 (imp true X7 (inb X3 X4.L_.length)) <|
      z8 (imp true (X7 && (decide (X5 < (rd X4.L_ X3).Hi_))) (inb X3 X4.L_.length)) <|
      cond ((X7 && (decide (X5 < (rd X4.L_ X3).Hi_))) && (decide ((rd X4.L_ X3).Lo_ < X6)))
        (
        .ok true)
        (
        lt ((qD (X3 + (1 : Int)))) fun (X8 : Int) =>
        qR.l1 K X4 X5 X6 k X8))
      (
      .ok false)
def qR.m (K : Nat) (X5 : q5) (X4 : Int) (X3 : Int) : qN Bool :=
  qR.l1 K X5 X4 X3 K (0 : Int)
def qf.j2 (K : Nat) (g1 : (List qe) → (List Int) → Bool → Int → qN (Int × (List qe) × (List Int))) (X4 : q5) (X3 : Int) (X5 : (List qe)) (X6 : (List Int)) (X7 : Bool) : qN (Int × (List qe) × (List Int)) :=
  z8 (inb X3 X4.L_.length) <|
  z8 (room (X5.length + ([(qe.mk ((rd X4.L_ X3).Lo_) ((rd X4.L_ X3).Hi_))] : List qe).length) 16) <|
  lt (X5 ++ ([(qe.mk ((rd X4.L_ X3).Lo_) ((rd X4.L_ X3).Hi_))] : List qe)) fun (X8 : (List qe)) =>
  z8 (inb X3 X4.X_.length) <|
  z8 (room (X6.length + ([(rd X4.X_ X3)] : List Int).length) 8) <|
  lt (X6 ++ ([(rd X4.X_ X3)] : List Int)) fun (X9 : (List Int)) =>
  lt ((qD (X3 + (1 : Int)))) fun (Ya : Int) =>
  g1 X8 X9 X7 Ya
def qf.j4 (K : Nat)  (X3 : (List qe)) (X4 : (List Int)) : qN (Int × (List qe) × (List Int)) :=
  .ok ((0 : Int), X3, X4)
def qf.j3 (K : Nat) (X6 : Int) (X5 : Int) (X8 : Int) (X3 : (List qe)) (X4 : (List Int)) (X7 : Bool) : qN (Int × (List qe) × (List Int)) :=
  cond (!X7)
    (
    z8 (room (X3.length + ([(qe.mk X6 X5)] : List qe).length) 16) <|
    lt (X3 ++ ([(qe.mk X6 X5)] : List qe)) fun (X9 : (List qe)) =>
    z8 (room (X4.length + ([X8] : List Int).length) 8) <|
    lt (X4 ++ ([X8] : List Int)) fun (Ya : (List Int)) =>
    qf.j4 K X9 Ya)
    (
    qf.j4 K X3 X4)
def qf.l1 (K : Nat) (X6 : q5) (X3 : Int) (X5 : Int) (Ya : Int) : Nat → (List qe) → (List Int) → Bool → Int → qN (Int × (List qe) × (List Int))
  | 0, _, _, _, _ => .fail
  | k + 1, X7, X8, X4, X9 =>
    cond (decide (X9 < (X6.L_.length : Int)))
      (
      z8 (imp true (!X4) (inb X9 X6.L_.length)) <|
      cond ((!X4) && (decide (X3 < (rd X6.L_ X9).Lo_)))
        (
        z8 (room (X7.length + ([(qe.mk X3 X5)] : List qe).length) 16) <|
        lt (X7 ++ ([(qe.mk X3 X5)] : List qe)) fun (Yb : (List qe)) =>
        z8 (room (X8.length + ([Ya] : List Int).length) 8) <|
        lt (X8 ++ ([Ya] : List Int)) fun (Yc : (List Int)) =>
        qf.j2 K (qf.l1 K X6 X3 X5 Ya k) X6 X9 Yb Yc true)
        (
        qf.j2 K (qf.l1 K X6 X3 X5 Ya k) X6 X9 X7 X8 X4))
      (
      qf.j3 K X3 X5 Ya X7 X8 X4)
def qf.m (K : Nat) (X3 : q5) (X5 : Int) (X4 : Int) (X6 : Int) : qN (Int × (List qe) × (List Int)) :=
  (zF.m K X5 X4).bind fun X7 =>
  cond (!X7)
    (
    .ok ((1 : Int), X3.L_, X3.X_))
    (
    (qR.m K X3 X5 X4).bind fun X8 =>
    cond X8
      (
      .ok ((5 : Int), X3.L_, X3.X_))
      (
      qf.l1 K X3 X5 X4 X6 K ([] : List qe) ([] : List Int) false (0 : Int)))
def zc.l1 (K : Nat) (X3 : List UInt8) : Nat → Int → qN Bool
  | 0, _ => .fail
  | k + 1, X4 =>
    cond (decide (X4 < (X3.length : Int)))
      (
      z8 (inb X4 X3.length) <|
      cond ((decide (((rd X3 X4).toNat : Int) < (32 : Int))) || (decide (((rd X3 X4).toNat : Int) > (126 : Int))))
        (
        .ok false)
        (
        lt ((qD (X4 + (1 : Int)))) fun (X5 : Int) =>
        zc.l1 K X3 k X5))
      (
      lt (((X3.length : Int) == (4 : Int))) fun (X6 : Bool) =>
      .ok X6)
def zc.m (K : Nat) (X3 : List UInt8) : qN Bool :=
  zc.l1 K X3 K (0 : Int)
def zz.m (K : Nat) (X3 : Int) : qN Int :=
  lt ((qD ((jf .i64 (qD (X3 + (3 : Int))) (4 : Int)) * (4 : Int)))) fun (X4 : Int) =>
  .ok X4
def qI.j2 (K : Nat) (X5 : List UInt8) (X4 : List UInt8) (X3 : Int) (X6 : Int) (X7 : Int) : qN ((List UInt8) × (List UInt8) × Int × Int × Int) :=
  z8 (subok (0 : Int) (4 : Int) X4.length) <|
  z8 (subok X3 (qD (X3 + X6)) X5.length) <|
  .ok ((sub X4 (0 : Int) (4 : Int)), (sub X5 X3 (qD (X3 + X6))), X3, X7, (0 : Int))
def qI.l1 (K : Nat) (X5 : List UInt8) (X6 : List UInt8) (X7 : Int) (X8 : Int) (X3 : Int) : Nat → Int → qN ((List UInt8) × (List UInt8) × Int × Int × Int)
  | 0, _ => .fail
  | k + 1, X4 =>
    cond (decide (X4 < X3))
      (
      z8 (inb X4 X5.length) <|
      cond (((rd X5 X4).toNat : Int) != (0 : Int))
        (
        .ok (([] : List UInt8), ([] : List UInt8), (0 : Int), (0 : Int), (3 : Int)))
        (
        lt ((qD (X4 + (1 : Int)))) fun (X9 : Int) =>
        qI.l1 K X5 X6 X7 X8 X3 k X9))
      (
      qI.j2 K X5 X6 X7 X8 X3)
def qI.m (K : Nat) (X7 : List UInt8) (X6 : List UInt8) : qN ((List UInt8) × (List UInt8) × Int × Int × Int) :=
  (za.m K X6 (8 : Int) (4 : Int)).bind fun X3 =>
  (za.m K X6 (12 : Int) (4 : Int)).bind fun X4 =>
  cond (((jg X3 (4 : Int)) != (0 : Int)) || (decide (X4 > (16777216 : Int))))
    (
    .ok (([] : List UInt8), ([] : List UInt8), (0 : Int), (0 : Int), (3 : Int)))
    (
    (zz.m K X4).bind fun X9 =>
    lt ((qD (X3 + X9))) fun (X5 : Int) =>
    cond (decide (X5 > (X7.length : Int)))
      (
      .ok (([] : List UInt8), ([] : List UInt8), (0 : Int), (0 : Int), (2 : Int)))
      (
      lt ((qD (X3 + X4))) fun (X8 : Int) =>
      qI.l1 K X7 X6 X3 X4 X5 K X8))
def qu.l2 (K : Nat) (g1 : Int → Int → qN Int) (X5 : Int) (X6 : Int) : Nat → Int → Int → qN Int
  | 0, _, _ => .fail
  | k + 1, X3, X4 =>
    cond (decide (X4 < (3 : Int)))
      (
      lt ((wr .u32 (X3 * (256 : Int)))) fun (X7 : Int) =>
      lt ((qD (X4 + (1 : Int)))) fun (X8 : Int) =>
      qu.l2 K g1 X5 X6 k X7 X8)
      (
      lt ((wr .u32 (X5 + X3))) fun (X9 : Int) =>
      lt ((qD (X6 + (1 : Int)))) fun (Ya : Int) =>
      g1 X9 Ya)
def qu.l1 (K : Nat) (X4 : List UInt8) : Nat → Int → Int → qN Int
  | 0, _, _ => .fail
  | k + 1, X5, X3 =>
    cond (decide (X3 < (X4.length : Int)))
      (
      z8 (inb X3 X4.length) <|
      lt ((wr .u32 ((rd X4 X3).toNat : Int))) fun (X6 : Int) =>
      lt ((jg X3 (4 : Int))) fun (X7 : Int) =>
      qu.l2 K (qu.l1 K X4 k) X5 X3 K X6 X7)
      (
      .ok X5)
def qu.m (K : Nat) (X3 : List UInt8) : qN Int :=
  qu.l1 K X3 K (0 : Int) (0 : Int)
def qc.j4 (K : Nat) (g2 : (List qe) → (List Int) → (List qb) → Int → Int → qN (Int × (List qb) × Int)) (X4 : (List qb)) (X6 : Int) (Ya : Int) (Yc : List UInt8) (X5 : List UInt8) (X3 : List UInt8) (X8 : (List qe)) (Ye : (List Int)) (Yd : Bool) : qN (Int × (List qb) × Int) :=
  cond Yd
    (
    .ok ((0 : Int), ([] : List qb), (5 : Int)))
    (
    (qu.m K X3).bind fun Yf =>
    (za.m K Yc (4 : Int) (4 : Int)).bind fun Yg =>
    cond ((wr .i64 Yf) != Yg)
      (
      .ok ((0 : Int), ([] : List qb), (4 : Int)))
      (
      (zz.m K (X3.length : Int)).bind fun Yh =>
      lt ((qD (X6 + Yh))) fun (X7 : Int) =>
      z8 (room (X4.length + ([(qb.mk X5 X3)] : List qb).length) 32) <|
      lt (X4 ++ ([(qb.mk X5 X3)] : List qb)) fun (X9 : (List qb)) =>
      lt ((qD (Ya + (1 : Int)))) fun (Yb : Int) =>
      g2 X8 Ye X9 X7 Yb))
def qc.j3 (K : Nat) (g2 : (List qe) → (List Int) → (List qb) → Int → Int → qN (Int × (List qb) × Int)) (Yf : List UInt8) (X9 : (List qe)) (Yc : (List Int)) (X5 : (List qb)) (X4 : Int) (X8 : Int) (Yb : List UInt8) (Yg : Bool) : qN (Int × (List qb) × Int) :=
  cond Yg
    (
    .ok ((0 : Int), ([] : List qb), (3 : Int)))
    (
    (qI.m K Yf Yb).bind fun (X6, X3, Ya, X7, Yd) =>
    cond (Yd != (0 : Int))
      (
      .ok ((0 : Int), ([] : List qb), Yd))
      (
      cond (decide (Ya < X7))
        (
        (qf.m K (q5.mk X9 Yc) Ya X7 X8).bind fun (Yh, Ye, Yi) =>
        qc.j4 K (g2) X5 X4 X8 Yb X6 X3 Ye Yi (Yh != (0 : Int)))
        (
        qc.j4 K (g2) X5 X4 X8 Yb X6 X3 X9 Yc false)))
def qc.j5 (K : Nat) (X3 : Int) (X5 : (List qb)) (X4 : Int) : qN (Int × (List qb) × Int) :=
  cond (decide (X4 ≥ (1073741824 : Int)))
    (
    .ok ((0 : Int), ([] : List qb), (3 : Int)))
    (
    .ok (X3, X5, (0 : Int)))
def qc.l2 (K : Nat) (X6 : List UInt8) (X5 : Int) (Ya : Int) : Nat → (List qe) → (List Int) → (List qb) → Int → Int → qN (Int × (List qb) × Int)
  | 0, _, _, _, _, _ => .fail
  | k + 1, X9, Yb, X4, X7, X3 =>
    cond (decide (X3 < Ya))
      (
      z8 (subok (qD ((12 : Int) + (qD ((16 : Int) * X3)))) (qD ((28 : Int) + (qD ((16 : Int) * X3)))) X6.length) <|
      lt ((sub X6 (qD ((12 : Int) + (qD ((16 : Int) * X3)))) (qD ((28 : Int) + (qD ((16 : Int) * X3)))))) fun (X8 : List UInt8) =>
      z8 (subok (0 : Int) (4 : Int) X8.length) <|
      (zc.m K (sub X8 (0 : Int) (4 : Int))).bind fun Yc =>
      cond Yc
        (
        cond (decide (X3 > (0 : Int)))
          (
          z8 (inb (qD (X3 - (1 : Int))) X4.length) <|
          qc.j3 K (qc.l2 K X6 X5 Ya k) X6 X9 Yb X4 X7 X3 X8 (!Op.bytesLess (rd X4 (qD (X3 - (1 : Int)))).Tag_ (sub X8 (0 : Int) (4 : Int))))
          (
          qc.j3 K (qc.l2 K X6 X5 Ya k) X6 X9 Yb X4 X7 X3 X8 false))
        (
        qc.j3 K (qc.l2 K X6 X5 Ya k) X6 X9 Yb X4 X7 X3 X8 true))
      (
      qc.j5 K X5 X4 X7)
def qc.j1 (K : Nat) (X5 : List UInt8) (X3 : Int) (X4 : Int) (X7 : Bool) : qN (Int × (List qb) × Int) :=
  cond X7
    (
    .ok ((0 : Int), ([] : List qb), (3 : Int)))
    (
    cond (decide ((X5.length : Int) < (qD ((12 : Int) + (qD ((16 : Int) * X4))))))
      (
      .ok ((0 : Int), ([] : List qb), (2 : Int)))
      (
      (qf.m K (q5.mk ([] : List qe) ([] : List Int)) (0 : Int) (qD ((12 : Int) + (qD ((16 : Int) * X4)))) (0 : Int)).bind fun (X9, X6, X8) =>
      qc.l2 K X5 X3 X4 K X6 X8 ([] : List qb) (0 : Int) (0 : Int)))
def qc.m (K : Nat) (X4 : List UInt8) : qN (Int × (List qb) × Int) :=
  cond (decide ((X4.length : Int) < (12 : Int)))
    (
    .ok ((0 : Int), ([] : List qb), (2 : Int)))
    (
    (za.m K X4 (0 : Int) (4 : Int)).bind fun X6 =>
    lt ((wr .u32 X6)) fun (X3 : Int) =>
    (za.m K X4 (4 : Int) (2 : Int)).bind fun X5 =>
    (z6.m K X3).bind fun X7 =>
    cond X7
      (
      cond (decide (X5 < (1 : Int)))
        (
        qc.j1 K X4 X3 X5 true)
        (
        cond (decide (X5 > (1000 : Int)))
          (
          qc.j1 K X4 X3 X5 true)
          (
          z8 (subok (0 : Int) (12 : Int) X4.length) <|
          (qQ.m K X3 X5).bind fun X8 =>
          qc.j1 K X4 X3 X5 (!((sub X4 (0 : Int) (12 : Int)) == X8)))))
      (
      qc.j1 K X4 X3 X5 true))
def qs.j2 (K : Nat)  (X3 : Bool) : qN Bool :=
  .ok X3
def qs.j1 (K : Nat)  (X3 : Bool) : qN Bool :=
  cond X3
    (
    (q8.m K).bind fun X4 =>
    qs.j2 K X4)
    (
    qs.j2 K false)
def qs.m (K : Nat) (s1 : List UInt8) : qN Bool :=
  cond (decide ((s1.length : Int) > (40000 : Int)))
    (
    (q8.m K).bind fun X3 =>
    .ok X3)
    (
    (qZ.m K s1).bind fun (X4, X5, X6) =>
    (qc.m K s1).bind fun (X7, X8, X9) =>
    cond ((X4 == X7) && (X6 == X9))
      (
      (qW.m K X5 X8).bind fun Ya =>
      qs.j1 K Ya)
      (
      qs.j1 K false))
def zp.l1 (K : Nat) (X3 : List qb) : Nat → Int → Int → qN Bool
  | 0, _, _ => .fail
  | k + 1, X5, X4 =>
    cond (decide (X4 < (X3.length : Int)))
      (
      z8 (inb X4 X3.length) <|
      cond ((decide ((((rd X3 X4).Data_).length : Int) > (5000 : Int))) || (decide (X5 > (100000 : Int))))
        (
        .ok false)
        (
        lt ((qD (X5 + (((rd X3 X4).Data_).length : Int)))) fun (X6 : Int) =>
        lt ((qD (X4 + (1 : Int)))) fun (X7 : Int) =>
        zp.l1 K X3 k X6 X7))
      (
      .ok true)
def zp.m (K : Nat) (X3 : List qb) : qN Bool :=
  cond (decide ((X3.length : Int) > (1001 : Int)))
    (
    .ok false)
    (
    zp.l1 K X3 K (0 : Int) (0 : Int))
end Go.Mo
