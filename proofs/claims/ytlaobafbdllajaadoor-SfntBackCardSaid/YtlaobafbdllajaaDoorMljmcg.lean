/- Models of the Go functions that this statement reaches, printed by a program of mine: nothing is proved but lengths of tables. -/
import Derived.Test.YtlaobafbdllajaaDoorOwnagmmk
set_option linter.unusedVariables false
set_option linter.unusedSimpArgs false
namespace Go.Mo
open Go Go.Sl
structure qb where
  Tag_ : List UInt8
  Data_ : List UInt8
  deriving Inhabited
structure qW where
  Lo_ : Int
  Hi_ : Int
  deriving Inhabited
structure qa where
  span_ : qW
  x_ : List UInt8
  deriving Inhabited
structure qj where
  text_ : List UInt8
  base_ : Int
  deriving Inhabited
structure qr where
  items_ : (List qa)
  deriving Inhabited
structure zQ where
  Window_ : qj
  claims_ : qr
  deriving Inhabited
structure ui where
  L_ : (List qW)
  X_ : (List Int)
  deriving Inhabited
structure vz where
  Kind_ : Int
  L_ : (List qb)
  At_ : Int
  By_ : Int
  deriving Inhabited
def zY.m (K : Nat) (XX : Int) : qE Bool :=
  lt (((XX == (65536 : Int)) || (XX == (1330926671 : Int)))) fun (XY : Bool) =>
  .ok XY
def zb.l1 (K : Nat) (X0 : List UInt8) (XX : (List Int)) : Nat → Int → qE Bool
  | 0, _ => .fail
  | k + 1, XZ =>
    cond (decide (XZ < (XX.length : Int)))
      (
      xp (inb XZ XX.length) <|
      lt ((rd XX XZ)) fun (XY : Int) =>
      cond ((decide (XY < (32 : Int))) || (decide (XY > (126 : Int))))
        (
        .ok false)
        (
        zb.l1 K X0 XX k (qJ (XZ + (1 : Int)))))
      (
      lt (((X0.length : Int) == (4 : Int))) fun (X1 : Bool) =>
      .ok X1)
def zb.m (K : Nat) (XX : List UInt8) : qE Bool :=
  xp (xV XX.length) <|
  lt (XX.map x4) fun (XY : (List Int)) =>
  zb.l1 K XX XY K (0 : Int)
def zH.m (K : Nat) (XX : Int) : qE Int :=
  lt ((vN .i64 (qJ (XX + (3 : Int))) (3 : Int))) fun (XY : Int) =>
  .ok XY
def qy.j2 (K : Nat) (g1 : Int → Int → qE Bool) (XZ : List qb) (XX : Int) (X0 : Int) (X1 : Bool) : qE Bool :=
  cond X1
    (
    .ok false)
    (
    (zH.m K (((rd XZ X0).Data_).length : Int)).bind fun X2 =>
    lt ((qJ (XX + X2))) fun (XY : Int) =>
    g1 XY (qJ (X0 + (1 : Int))))
def qy.j3 (K : Nat) (XY : List qb) (XX : Int) : qE Bool :=
  lt ((((decide ((XY.length : Int) > (0 : Int))) && (decide ((XY.length : Int) ≤ (1000 : Int)))) && (decide (XX < (1073741824 : Int))))) fun (XZ : Bool) =>
  .ok XZ
def qy.l1 (K : Nat) (XX : List qb) : Nat → Int → Int → qE Bool
  | 0, _, _ => .fail
  | k + 1, XY, XZ =>
    cond (decide (XZ < (XX.length : Int)))
      (
      xp (inb XZ XX.length) <|
      (zb.m K ((rd XX XZ).Tag_)).bind fun X0 =>
      cond X0
        (
        cond (decide (XZ > (0 : Int)))
          (
          xp (inb (qJ (XZ - (1 : Int))) XX.length) <|
          cond (!Op.bytesLess (rd XX (qJ (XZ - (1 : Int)))).Tag_ (rd XX XZ).Tag_)
            (
            qy.j2 K (qy.l1 K XX k) XX XY XZ true)
            (
            qy.j2 K (qy.l1 K XX k) XX XY XZ (decide ((((rd XX XZ).Data_).length : Int) > (16777216 : Int)))))
          (
          qy.j2 K (qy.l1 K XX k) XX XY XZ (decide ((((rd XX XZ).Data_).length : Int) > (16777216 : Int)))))
        (
        qy.j2 K (qy.l1 K XX k) XX XY XZ true))
      (
      qy.j3 K XX XY)
def qy.m (K : Nat) (XX : List qb) : qE Bool :=
  qy.l1 K XX K (0 : Int) (0 : Int)
def zh.l1 (K : Nat) (XZ : List UInt8) : Nat → Int → Int → qE Int
  | 0, _, _ => .fail
  | k + 1, XY, XX =>
    cond (decide (XX < (XZ.length : Int)))
      (
      xp (inb XX XZ.length) <|
      xp (decide (0 ≤ (qJ ((24 : Int) - (qJ ((8 : Int) * (yN .i64 XX (3 : Int)))))))) <|
      lt ((wr .u32 (XY + (ju .u32 (wr .u32 ((rd XZ XX).toNat : Int)) (qJ ((24 : Int) - (qJ ((8 : Int) * (yN .i64 XX (3 : Int)))))))))) fun (X0 : Int) =>
      zh.l1 K XZ k X0 (qJ (XX + (1 : Int))))
      (
      .ok XY)
def zh.m (K : Nat) (XX : List UInt8) : qE Int :=
  zh.l1 K XX K (0 : Int) (0 : Int)
def xn.m (K : Nat) (XX : Int) : qE Bool :=
  lt ((((decide (XX > (0 : Int))) && (decide (XX ≤ (8 : Int)))) && ((yN .i64 XX (qJ (XX - (1 : Int)))) == (0 : Int)))) fun (XY : Bool) =>
  .ok XY
def ql.j3 (K : Nat)  (XZ : Int) (XX : Int) : qE Int :=
  xp (inb (wr .u8 XZ) ([0, 1, 2, 2, 3, 3, 3, 3, 4, 4, 4, 4, 4, 4, 4, 4, 5, 5, 5, 5, 5, 5, 5, 5, 5, 5, 5, 5, 5, 5, 5, 5, 6, 6, 6, 6, 6, 6, 6, 6, 6, 6, 6, 6, 6, 6, 6, 6, 6, 6, 6, 6, 6, 6, 6, 6, 6, 6, 6, 6, 6, 6, 6, 6, 7, 7, 7, 7, 7, 7, 7, 7, 7, 7, 7, 7, 7, 7, 7, 7, 7, 7, 7, 7, 7, 7, 7, 7, 7, 7, 7, 7, 7, 7, 7, 7, 7, 7, 7, 7, 7, 7, 7, 7, 7, 7, 7, 7, 7, 7, 7, 7, 7, 7, 7, 7, 7, 7, 7, 7, 7, 7, 7, 7, 7, 7, 7, 7, 8, 8, 8, 8, 8, 8, 8, 8, 8, 8, 8, 8, 8, 8, 8, 8, 8, 8, 8, 8, 8, 8, 8, 8, 8, 8, 8, 8, 8, 8, 8, 8, 8, 8, 8, 8, 8, 8, 8, 8, 8, 8, 8, 8, 8, 8, 8, 8, 8, 8, 8, 8, 8, 8, 8, 8, 8, 8, 8, 8, 8, 8, 8, 8, 8, 8, 8, 8, 8, 8, 8, 8, 8, 8, 8, 8, 8, 8, 8, 8, 8, 8, 8, 8, 8, 8, 8, 8, 8, 8, 8, 8, 8, 8, 8, 8, 8, 8, 8, 8, 8, 8, 8, 8, 8, 8, 8, 8, 8, 8, 8, 8, 8, 8, 8, 8, 8, 8, 8, 8, 8, 8, 8, 8, 8, 8, 8, 8] : List UInt8).length) <|
  lt ((qJ (XX + (wr .i64 ((rd ([0, 1, 2, 2, 3, 3, 3, 3, 4, 4, 4, 4, 4, 4, 4, 4, 5, 5, 5, 5, 5, 5, 5, 5, 5, 5, 5, 5, 5, 5, 5, 5, 6, 6, 6, 6, 6, 6, 6, 6, 6, 6, 6, 6, 6, 6, 6, 6, 6, 6, 6, 6, 6, 6, 6, 6, 6, 6, 6, 6, 6, 6, 6, 6, 7, 7, 7, 7, 7, 7, 7, 7, 7, 7, 7, 7, 7, 7, 7, 7, 7, 7, 7, 7, 7, 7, 7, 7, 7, 7, 7, 7, 7, 7, 7, 7, 7, 7, 7, 7, 7, 7, 7, 7, 7, 7, 7, 7, 7, 7, 7, 7, 7, 7, 7, 7, 7, 7, 7, 7, 7, 7, 7, 7, 7, 7, 7, 7, 8, 8, 8, 8, 8, 8, 8, 8, 8, 8, 8, 8, 8, 8, 8, 8, 8, 8, 8, 8, 8, 8, 8, 8, 8, 8, 8, 8, 8, 8, 8, 8, 8, 8, 8, 8, 8, 8, 8, 8, 8, 8, 8, 8, 8, 8, 8, 8, 8, 8, 8, 8, 8, 8, 8, 8, 8, 8, 8, 8, 8, 8, 8, 8, 8, 8, 8, 8, 8, 8, 8, 8, 8, 8, 8, 8, 8, 8, 8, 8, 8, 8, 8, 8, 8, 8, 8, 8, 8, 8, 8, 8, 8, 8, 8, 8, 8, 8, 8, 8, 8, 8, 8, 8, 8, 8, 8, 8, 8, 8, 8, 8, 8, 8, 8, 8, 8, 8, 8, 8, 8, 8, 8, 8, 8, 8, 8, 8] : List UInt8) (wr .u8 XZ)).toNat : Int))))) fun (XY : Int) =>
  .ok XY
def ql.j2 (K : Nat)  (XY : Int) (XX : Int) : qE Int :=
  cond (decide (XY ≥ (256 : Int)))
    (
    lt ((xB .u64 XY (8 : Int))) fun (X0 : Int) =>
    lt ((qJ (XX + (8 : Int)))) fun (XZ : Int) =>
    ql.j3 K X0 XZ)
    (
    ql.j3 K XY XX)
def ql.j1 (K : Nat)  (XY : Int) (XX : Int) : qE Int :=
  cond (decide (XY ≥ (65536 : Int)))
    (
    lt ((xB .u64 XY (16 : Int))) fun (X0 : Int) =>
    lt ((qJ (XX + (16 : Int)))) fun (XZ : Int) =>
    ql.j2 K X0 XZ)
    (
    ql.j2 K XY XX)
def ql.m (K : Nat) (XX : Int) : qE Int :=
  cond (decide (XX ≥ (4294967296 : Int)))
    (
    lt ((xB .u64 XX (32 : Int))) fun (XY : Int) =>
    ql.j1 K XY (32 : Int))
    (
    ql.j1 K XX (0 : Int))
def zz.m (K : Nat) (XX : Int) : qE Unit :=
  .ok ()
def zk.m (K : Nat) (XX : Int) (XY : Int) : qE Int :=
  lt ((qJ ((qJ (XY - (1 : Int))) - XX))) fun (XZ : Int) =>
  .ok XZ
def qS.l1 (K : Nat) (X0 : Int) (XX : Int) (X1 : (List Int)) : Nat → (List Int) → Int → qE ((List UInt8) × Int)
  | 0, _, _ => .fail
  | k + 1, XY, XZ =>
    cond (decide (XZ < (X1.length : Int)))
      (
      xp (decide (0 ≤ (qJ ((8 : Int) * XZ)))) <|
      (zk.m K XZ XX).bind fun X2 =>
      xp (inb X2 XY.length) <|
      lt (XY.set (Int.toNat X2) (wr .u8 (xB .u64 X0 (qJ ((8 : Int) * XZ))))) fun (X3 : (List Int)) =>
      qS.l1 K X0 XX X1 k X3 (qJ (XZ + (1 : Int))))
      (
      lt ((XY.map jT)) fun (X4 : List UInt8) =>
      .ok (X4, (0 : Int)))
def qS.m (K : Nat) (XY : Int) (XX : Int) : qE ((List UInt8) × Int) :=
  (xn.m K XX).bind fun X0 =>
  cond (!X0)
    (
    .ok (([] : List UInt8), (1 : Int)))
    (
    (ql.m K XY).bind fun X1 =>
    cond (decide (X1 > (qJ ((8 : Int) * XX))))
      (
      .ok (([] : List UInt8), (10 : Int)))
      (
      (zz.m K XX).bind fun _ =>
      xp (decide (0 ≤ XX) && room (Int.toNat XX) 1) <|
      lt (List.replicate (Int.toNat XX) (0 : Int)) fun (XZ : (List Int)) =>
      qS.l1 K XY XX XZ K XZ (0 : Int)))
def yt.m (K : Nat) (XX : Int) : qE (List UInt8) :=
  (qS.m K (wr .u64 XX) (4 : Int)).bind fun (XY, XZ) =>
  .ok XY
def zu.m (K : Nat) (XX : (List Int)) : qE Int :=
  lt ((XX.length : Int)) fun (XY : Int) =>
  .ok XY
def qZ.m (K : Nat) (XX : (List Int)) (XY : List UInt8) : qE (Int × (List Int)) :=
  xp (room (XX.length + XY.length) 1) <|
  lt (XX ++ XY.map x4) fun (XZ : (List Int)) =>
  lt ((XY.length : Int)) fun (X0 : Int) =>
  .ok (X0, XZ)
def strings_Repeat.m (K : Nat) (XY : List UInt8) (XX : Int) : qE (List UInt8) :=
  (QK XY XX).bind fun XZ =>
  .ok XZ
def yr.m (K : Nat) (XX : Int) : qE (List UInt8) :=
  (qS.m K (wr .u64 XX) (2 : Int)).bind fun (XY, XZ) =>
  .ok XY
def zn.l1 (K : Nat) (X0 : Int) (X1 : Int) : Nat → Int → Int → qE (List UInt8)
  | 0, _, _ => .fail
  | k + 1, XX, XY =>
    cond (decide ((qJ ((2 : Int) * XX)) ≤ X1))
      (
      lt ((qJ (XX * (2 : Int)))) fun (X2 : Int) =>
      lt ((qJ (XY + (1 : Int)))) fun (XZ : Int) =>
      zn.l1 K X0 X1 k X2 XZ)
      (
      (yt.m K (wr .i64 X0)).bind fun X3 =>
      (yr.m K X1).bind fun X4 =>
      xp (xV (X3.length + X4.length)) <|
      (yr.m K (qJ ((16 : Int) * XX))).bind fun X5 =>
      xp (xV ((X3 ++ X4).length + X5.length)) <|
      (yr.m K XY).bind fun X6 =>
      xp (xV (((X3 ++ X4) ++ X5).length + X6.length)) <|
      (yr.m K (qJ ((16 : Int) * (qJ (X1 - XX))))).bind fun X7 =>
      xp (xV ((((X3 ++ X4) ++ X5) ++ X6).length + X7.length)) <|
      lt (((((X3 ++ X4) ++ X5) ++ X6) ++ X7)) fun (X8 : List UInt8) =>
      .ok X8)
def zn.m (K : Nat) (XX : Int) (XY : Int) : qE (List UInt8) :=
  zn.l1 K XX XY K (1 : Int) (0 : Int)
def q8.m (K : Nat) (XX : (List Int)) : qE (List UInt8) :=
  lt ((XX.map jT)) fun (XY : List UInt8) =>
  .ok XY
def qB.j3 (K : Nat) (kind7 : Int) (l_8 : List qb) (XX : (List Int)) (X0 : (List Int)) : qE ((List UInt8) × Int) :=
  (zn.m K kind7 (l_8.length : Int)).bind fun XY =>
  (q8.m K XX).bind fun XZ =>
  xp (xV (XY.length + XZ.length)) <|
  (q8.m K X0).bind fun X1 =>
  xp (xV ((XY ++ XZ).length + X1.length)) <|
  lt (((XY ++ XZ) ++ X1)) fun (X2 : List UInt8) =>
  .ok (X2, (0 : Int))
def qB.l2 (K : Nat) (kind7 : Int) (l_8 : List qb) (XY : Int) : Nat → (List Int) → (List Int) → Int → qE ((List UInt8) × Int)
  | 0, _, _, _ => .fail
  | k + 1, XZ, X0, XX =>
    cond (decide (XX < (l_8.length : Int)))
      (
      xp (inb XX l_8.length) <|
      (zh.m K ((rd l_8 XX).Data_)).bind fun X7 =>
      (yt.m K (wr .i64 X7)).bind fun X1 =>
      xp (xV (((rd l_8 XX).Tag_).length + X1.length)) <|
      (zu.m K X0).bind fun X8 =>
      (yt.m K (qJ (XY + X8))).bind fun X2 =>
      xp (xV (((rd l_8 XX).Tag_ ++ X1).length + X2.length)) <|
      (yt.m K (((rd l_8 XX).Data_).length : Int)).bind fun X5 =>
      xp (xV ((((rd l_8 XX).Tag_ ++ X1) ++ X2).length + X5.length)) <|
      (qZ.m K XZ ((((rd l_8 XX).Tag_ ++ X1) ++ X2) ++ X5)).bind fun (Ya, X3) =>
      (zH.m K (((rd l_8 XX).Data_).length : Int)).bind fun X9 =>
      (strings_Repeat.m K ([0] : List UInt8) (qJ (X9 - (((rd l_8 XX).Data_).length : Int)))).bind fun X6 =>
      xp (xV (((rd l_8 XX).Data_).length + X6.length)) <|
      (qZ.m K X0 ((rd l_8 XX).Data_ ++ X6)).bind fun (Yb, X4) =>
      qB.l2 K kind7 l_8 XY k X3 X4 (qJ (XX + (1 : Int))))
      (
      qB.j3 K kind7 l_8 XZ X0)
def qB.j1 (K : Nat) (kind7 : Int) (l_8 : List qb) (XY : Bool) : qE ((List UInt8) × Int) :=
  cond XY
    (
    .ok (([] : List UInt8), (1 : Int)))
    (
    lt ((qJ ((12 : Int) + (qJ ((16 : Int) * (l_8.length : Int)))))) fun (XX : Int) =>
    qB.l2 K kind7 l_8 XX K ([] : List Int) ([] : List Int) (0 : Int))
def qB.m (K : Nat) (kind7 : Int) (l_8 : List qb) : qE ((List UInt8) × Int) :=
  (zY.m K kind7).bind fun XX =>
  cond ((!XX) || (decide ((l_8.length : Int) > (1000 : Int))))
    (
    qB.j1 K kind7 l_8 true)
    (
    (qy.m K l_8).bind fun XY =>
    qB.j1 K kind7 l_8 (!XY))
def vw.m (K : Nat) (XX : List UInt8) : qE Unit :=
  .ok ()
def zt.m (K : Nat) : qE Unit :=
  .ok ()
def q9.m (K : Nat) (XY : qj) (XX : Int) (XZ : Int) : qE ((List UInt8) × Int × Int) :=
  cond ((decide (XX < (0 : Int))) || (decide (XZ < (0 : Int))))
    (
    .ok (([] : List UInt8), (0 : Int), (1 : Int)))
    (
    cond ((decide (XX > (XY.text_.length : Int))) || (decide (XZ > (qJ ((XY.text_.length : Int) - XX)))))
      (
      .ok (([] : List UInt8), (0 : Int), (2 : Int)))
      (
      xp (subok XX (qJ (XX + XZ)) XY.text_.length) <|
      .ok ((sub XY.text_ XX (qJ (XX + XZ))), (qJ (XY.base_ + XX)), (0 : Int))))
def qp.l1 (K : Nat) (XX : Int) (XY : List UInt8) : Nat → Int → Int → qE (Int × Int)
  | 0, _, _ => .fail
  | k + 1, X0, XZ =>
    cond (decide (XZ < XX))
      (
      (zk.m K XZ XX).bind fun X2 =>
      xp (inb X2 XY.length) <|
      xp (decide (0 ≤ (qJ ((8 : Int) * XZ)))) <|
      lt ((ZS .u64 X0 (ju .u64 (wr .u64 ((rd XY X2).toNat : Int)) (qJ ((8 : Int) * XZ))))) fun (X1 : Int) =>
      qp.l1 K XX XY k X1 (qJ (XZ + (1 : Int))))
      (
      .ok (X0, (0 : Int)))
def qp.m (K : Nat) (X0 : qj) (XZ : Int) (XX : Int) : qE (Int × Int) :=
  (xn.m K XX).bind fun X3 =>
  cond (!X3)
    (
    .ok ((0 : Int), (1 : Int)))
    (
    (q9.m K X0 XZ XX).bind fun (XY, X2, X1) =>
    cond (X1 != (0 : Int))
      (
      .ok ((0 : Int), X1))
      (
      (zz.m K XX).bind fun _ =>
      qp.l1 K XX XY K (0 : Int) (0 : Int)))
def qX.m (K : Nat) (XX : qj) : qE Unit :=
  .ok ()
def zy.m (K : Nat) (XY : Int) (XX : Int) : qE Bool :=
  lt ((((decide (XY ≥ (0 : Int))) && (decide (XY < XX))) && (decide (XX ≤ (4611686018427387904 : Int))))) fun (XZ : Bool) =>
  .ok XZ
def qQ.m (K : Nat) (XX : qr) : qE Unit :=
  .ok ()
def qT.m (K : Nat) (XZ : Int) (XX : (List qa)) (XY : Int) : qE Bool :=
  xp (inb XZ XX.length) <|
  lt ((decide ((rd XX XZ).span_.Hi_ > XY))) fun (X0 : Bool) =>
  .ok X0
def qn.l1 (K : Nat) (X1 : qr) (XX : Int) : Nat → Int → Int → qE Int
  | 0, _, _ => .fail
  | k + 1, XZ, X0 =>
    cond (decide (XZ < X0))
      (
      lt ((jV .i64 (qJ (XZ + X0)) (2 : Int))) fun (XY : Int) =>
      (qT.m K XY X1.items_ XX).bind fun X3 =>
      cond X3
        (
        qn.l1 K X1 XX k XZ XY)
        (
        lt ((qJ (XY + (1 : Int)))) fun (X2 : Int) =>
        qn.l1 K X1 XX k X2 X0))
      (
      .ok XZ)
def qn.m (K : Nat) (XY : qr) (XX : Int) : qE Int :=
  (qQ.m K XY).bind fun _ =>
  lt ((XY.items_.length : Int)) fun (XZ : Int) =>
  qn.l1 K XY XX K (0 : Int) XZ
def qg.j2 (K : Nat)  (XX : Bool) : qE Bool :=
  .ok XX
def qg.j1 (K : Nat) (XX : qr) (XY : Int) (XZ : Int) (X0 : Bool) : qE Bool :=
  cond X0
    (
    (qQ.m K XX).bind fun _ =>
    xp (inb XZ XX.items_.length) <|
    qg.j2 K (decide ((rd XX.items_ XZ).span_.Lo_ < XY)))
    (
    qg.j2 K false)
def qg.m (K : Nat) (XY : qr) (XZ : Int) (XX : Int) : qE Bool :=
  (qn.m K XY XZ).bind fun X0 =>
  (zy.m K XZ XX).bind fun X1 =>
  cond X1
    (
    (qQ.m K XY).bind fun _ =>
    qg.j1 K XY XX X0 (decide (X0 < (XY.items_.length : Int))))
    (
    qg.j1 K XY XX X0 false)
def qo.m (K : Nat) (XZ : List qa) (XY : Int) (X0 : List qa) : qE (List qa) :=
  (Qs 32 XZ XY X0).bind fun XX =>
  .ok XX
def qU.m (K : Nat) (XZ : qr) (XX : Int) (XY : Int) (X1 : List UInt8) : qE (Int × (List qa)) :=
  (zy.m K XX XY).bind fun X2 =>
  lt ((!X2)) fun (X0 : Bool) =>
  cond X0
    (
    .ok ((1 : Int), XZ.items_))
    (
    (qg.m K XZ XX XY).bind fun X3 =>
    cond X3
      (
      .ok ((5 : Int), XZ.items_))
      (
      (qn.m K XZ XX).bind fun X4 =>
      (qo.m K XZ.items_ X4 ([(qa.mk (qW.mk XX XY) X1)] : List qa)).bind fun X5 =>
      .ok ((0 : Int), X5)))
def qA.l1 (K : Nat) (XY : Int) : Nat → (List UInt8) → qE (List UInt8)
  | 0, _ => .fail
  | k + 1, XX =>
    xp (imp true (decide ((XX.length : Int) > (0 : Int))) (inb (qJ ((XX.length : Int) - (1 : Int))) XX.length)) <|
    cond ((decide ((XX.length : Int) > (0 : Int))) && (((rd XX (qJ ((XX.length : Int) - (1 : Int)))).toNat : Int) == XY))
      (
      xp (subok (0 : Int) (qJ ((XX.length : Int) - (1 : Int))) XX.length) <|
      lt ((sub XX (0 : Int) (qJ ((XX.length : Int) - (1 : Int))))) fun (XZ : List UInt8) =>
      qA.l1 K XY k XZ)
      (
      .ok XX)
def qA.m (K : Nat) (XY : List UInt8) (XX : Int) : qE (List UInt8) :=
  qA.l1 K XX K XY
def qC.l1 (K : Nat) (XY : Int) : Nat → (List UInt8) → qE (List UInt8)
  | 0, _ => .fail
  | k + 1, XX =>
    xp (imp true (decide ((XX.length : Int) > (0 : Int))) (inb (0 : Int) XX.length)) <|
    cond ((decide ((XX.length : Int) > (0 : Int))) && (((rd XX (0 : Int)).toNat : Int) == XY))
      (
      xp (subok (1 : Int) (XX.length : Int) XX.length) <|
      lt ((sub XX (1 : Int) (XX.length : Int))) fun (XZ : List UInt8) =>
      qC.l1 K XY k XZ)
      (
      .ok XX)
def qC.m (K : Nat) (XY : List UInt8) (XX : Int) : qE (List UInt8) :=
  qC.l1 K XX K XY
def zp.m (K : Nat) (XX : List UInt8) : qE (List UInt8) :=
  cond ((XX == ([] : List UInt8)) || false)
    (
    .ok XX)
    (
    xp (inb (0 : Int) ([0] : List UInt8).length) <|
    (qA.m K XX (0 : Int)).bind fun XY =>
    (qC.m K XY (0 : Int)).bind fun XZ =>
    .ok XZ)
def xa.m (K : Nat) (XX : qj) : qE Int :=
  lt ((XX.text_.length : Int)) fun (XY : Int) =>
  .ok XY
def qw.j2 (K : Nat) (XZ : List UInt8) (X0 : Int) (XY : List UInt8) (XX : (List qa)) : qE ((List UInt8) × (List UInt8) × Int × (List qa)) :=
  (zh.m K XY).bind fun X1 =>
  cond (X1 != (wr .u32 X0))
    (
    .ok (([] : List UInt8), ([] : List UInt8), (4 : Int), XX))
    (
    .ok (XZ, XY, (0 : Int), XX))
def qw.j1 (K : Nat) (X3 : zQ) (X0 : List UInt8) (X5 : Int) (X6 : Int) (X2 : Int) (XX : List UInt8) (XY : Int) (X4 : Int) : qE ((List UInt8) × (List UInt8) × Int × (List qa)) :=
  cond (X4 != (0 : Int))
    (
    .ok (([] : List UInt8), ([] : List UInt8), X4, X3.claims_.items_))
    (
    (qX.m K (qj.mk XX XY)).bind fun _ =>
    xp (subok (0 : Int) X2 XX.length) <|
    lt ((sub XX (0 : Int) X2)) fun (X1 : List UInt8) =>
    (qX.m K (qj.mk XX XY)).bind fun _ =>
    xp (subok X2 (XX.length : Int) XX.length) <|
    (zp.m K (sub XX X2 (XX.length : Int))).bind fun X8 =>
    cond (!(X8 == ([] : List UInt8)))
      (
      .ok (([] : List UInt8), ([] : List UInt8), (3 : Int), X3.claims_.items_))
      (
      cond (decide (X2 > (0 : Int)))
        (
        (xa.m K (qj.mk XX XY)).bind fun X9 =>
        (qU.m K X3.claims_ (wr .i64 X6) (qJ ((wr .i64 X6) + X9)) X0).bind fun (X7, XZ) =>
        cond (X7 != (0 : Int))
          (
          .ok (([] : List UInt8), ([] : List UInt8), X7, XZ))
          (
          qw.j2 K X0 X5 X1 XZ))
        (
        qw.j2 K X0 X5 X1 X3.claims_.items_)))
def qw.m (K : Nat) (X0 : zQ) (XX : qj) : qE ((List UInt8) × (List UInt8) × Int × (List qa)) :=
  (qX.m K XX).bind fun _ =>
  xp (subok (0 : Int) (4 : Int) XX.text_.length) <|
  lt ((sub XX.text_ (0 : Int) (4 : Int))) fun (X1 : List UInt8) =>
  (qp.m K XX (4 : Int) (4 : Int)).bind fun (X4, X7) =>
  (qp.m K XX (8 : Int) (4 : Int)).bind fun (X2, X8) =>
  (qp.m K XX (12 : Int) (4 : Int)).bind fun (X3, X9) =>
  cond (((yN .u64 X2 (3 : Int)) != (0 : Int)) || (decide (X3 > (16777216 : Int))))
    (
    .ok (([] : List UInt8), ([] : List UInt8), (3 : Int), X0.claims_.items_))
    (
    (zH.m K (wr .i64 X3)).bind fun X5 =>
    (q9.m K X0.Window_ (wr .i64 X2) X5).bind fun (XZ, XY, X6) =>
    qw.j1 K X0 X1 X4 X2 X3 XZ XY X6)
def qL.j3 (K : Nat) (X0 : Int) (XY : (List qb)) (XX : Int) : qE (Int × (List qb) × Int) :=
  cond (decide (XX ≥ (1073741824 : Int)))
    (
    .ok ((0 : Int), ([] : List qb), (3 : Int)))
    (
    lt ((wr .u32 X0)) fun (XZ : Int) =>
    .ok (XZ, XY, (0 : Int)))
def qL.l2 (K : Nat) (Yc : List UInt8) (Yd : Int) (X9 : Int) (X4 : List UInt8) (X1 : Int) : Nat → (List qa) → (List qb) → Int → (List UInt8) → Int → qE (Int × (List qb) × Int)
  | 0, _, _, _, _, _ => .fail
  | k + 1, X6, X8, X5, X3, Yb =>
    cond (decide (Yb < X9))
      (
      (q9.m K (qj.mk X4 X1) (qJ ((16 : Int) * Yb)) (16 : Int)).bind fun (XX, X2, Yi) =>
      (qX.m K (qj.mk XX X2)).bind fun _ =>
      xp (subok (0 : Int) (4 : Int) XX.length) <|
      lt ((sub XX (0 : Int) (4 : Int))) fun (XZ : List UInt8) =>
      (zb.m K XZ).bind fun Yg =>
      cond ((!Yg) || (Op.bytesLess XZ X3 || XZ == X3))
        (
        .ok ((0 : Int), ([] : List qb), (3 : Int)))
        (
        (qw.m K (zQ.mk (qj.mk Yc (0 : Int)) (qr.mk X6)) (qj.mk XX X2)).bind fun (X0, XY, Ye, X7) =>
        cond (Ye != (0 : Int))
          (
          .ok ((0 : Int), ([] : List qb), Ye))
          (
          (zH.m K (XY.length : Int)).bind fun Yh =>
          lt ((qJ (X5 + Yh))) fun (Ya : Int) =>
          xp (room (X8.length + ([(qb.mk X0 XY)] : List qb).length) 32) <|
          lt (X8 ++ ([(qb.mk X0 XY)] : List qb)) fun (Yf : (List qb)) =>
          qL.l2 K Yc Yd X9 X4 X1 k X7 Yf Ya X0 (qJ (Yb + (1 : Int))))))
      (
      qL.j3 K Yd X8 X5)
def qL.j1 (K : Nat) (X1 : List UInt8) (X4 : Int) (XY : Int) (X3 : Bool) : qE (Int × (List qb) × Int) :=
  cond X3
    (
    .ok ((0 : Int), ([] : List qb), (3 : Int)))
    (
    (q9.m K (qj.mk X1 (0 : Int)) (12 : Int) (qJ ((16 : Int) * XY))).bind fun (X0, XZ, X2) =>
    cond (X2 != (0 : Int))
      (
      .ok ((0 : Int), ([] : List qb), X2))
      (
      (qU.m K (qr.mk ([] : List qa)) (0 : Int) (qJ ((12 : Int) + (qJ ((16 : Int) * XY)))) ([] : List UInt8)).bind fun (X5, XX) =>
      qL.l2 K X1 X4 XY X0 XZ K XX ([] : List qb) (0 : Int) ([] : List UInt8) (0 : Int)))
def qL.m (K : Nat) (X0 : List UInt8) : qE (Int × (List qb) × Int) :=
  (vw.m K X0).bind fun _ =>
  (zt.m K).bind fun _ =>
  (q9.m K (qj.mk X0 (0 : Int)) (0 : Int) (12 : Int)).bind fun (XX, XY, X2) =>
  cond (X2 != (0 : Int))
    (
    .ok ((0 : Int), ([] : List qb), X2))
    (
    (qp.m K (qj.mk XX XY) (0 : Int) (4 : Int)).bind fun (X1, X6) =>
    (qp.m K (qj.mk XX XY) (4 : Int) (2 : Int)).bind fun (X3, X7) =>
    lt ((wr .i64 X3)) fun (XZ : Int) =>
    (zY.m K (wr .u32 X1)).bind fun X4 =>
    cond (((!X4) || (decide (XZ < (1 : Int)))) || (decide (XZ > (1000 : Int))))
      (
      qL.j1 K X0 X1 XZ true)
      (
      (qX.m K (qj.mk XX XY)).bind fun _ =>
      (zn.m K (wr .u32 X1) XZ).bind fun X5 =>
      qL.j1 K X0 X1 XZ (!(XX == X5))))
def qG.l1 (K : Nat) (XX : List qb) (XZ : List qb) : Nat → Int → qE Bool
  | 0, _ => .fail
  | k + 1, XY =>
    cond (decide (XY < (XX.length : Int)))
      (
      xp (inb XY XX.length) <|
      xp (inb XY XZ.length) <|
      cond (!(((rd XX XY).Tag_ == (rd XZ XY).Tag_) && (((rd XX XY).Data_ == (rd XZ XY).Data_) && true)))
        (
        .ok false)
        (
        lt ((qJ (XY + (1 : Int)))) fun (X0 : Int) =>
        qG.l1 K XX XZ k X0))
      (
      .ok true)
def qG.m (K : Nat) (XX : List qb) (XY : List qb) : qE Bool :=
  cond ((XX.length : Int) != (XY.length : Int))
    (
    .ok false)
    (
    qG.l1 K XX XY K (0 : Int))
def qM.j1 (K : Nat) (XZ : Int) (X0 : Int) (XX : Bool) : qE Bool :=
  lt (((XX && (XZ == (2 : Int))) && (X0 == (1 : Int)))) fun (XY : Bool) =>
  .ok XY
def qM.m (K : Nat) : qE Bool :=
  (qB.m K (65536 : Int) ([(qb.mk ([104, 101, 97, 100] : List UInt8) ([97, 98, 99, 100, 101] : List UInt8))] : List qb)).bind fun (XY, X1) =>
  (qL.m K XY).bind fun (X2, X3, X4) =>
  (qL.m K ([] : List UInt8)).bind fun (X5, X6, XZ) =>
  (qB.m K (7 : Int) ([(qb.mk ([104, 101, 97, 100] : List UInt8) ([97, 98, 99, 100, 101] : List UInt8))] : List qb)).bind fun (X7, X0) =>
  cond (((((XY.length : Int) == (36 : Int)) && (X1 == (0 : Int))) && (X2 == (65536 : Int))) && (X4 == (0 : Int)))
    (
    (qG.m K ([(qb.mk ([104, 101, 97, 100] : List UInt8) ([97, 98, 99, 100, 101] : List UInt8))] : List qb) X3).bind fun XX =>
    qM.j1 K XZ X0 XX)
    (
    qM.j1 K XZ X0 false)
def xC.m (K : Nat) (XX : Int) : qE Bool :=
  lt (((((XX == (1 : Int)) || (XX == (2 : Int))) || (XX == (4 : Int))) || (XX == (8 : Int)))) fun (XY : Bool) =>
  .ok XY
def qs.j2 (K : Nat) (g1 : Int → (List Int) → Int → qE ((List UInt8) × Int)) (XZ : Int) (XY : (List Int)) (X2 : Int) (XX : Int) : qE ((List UInt8) × Int) :=
  xp (inb XX XY.length) <|
  lt (XY.set (Int.toNat XX) (wr .u8 (jW XZ (256 : Int)))) fun (X1 : (List Int)) =>
  lt ((jV .u64 XZ (256 : Int))) fun (X0 : Int) =>
  lt ((qJ (X2 + (1 : Int)))) fun (X3 : Int) =>
  g1 X0 X1 X3
def qs.j3 (K : Nat)  (XY : Int) (XX : (List Int)) : qE ((List UInt8) × Int) :=
  cond (decide (XY > (0 : Int)))
    (
    .ok (([] : List UInt8), (10 : Int)))
    (
    lt ((XX.map jT)) fun (XZ : List UInt8) =>
    .ok (XZ, (0 : Int)))
def qs.l1 (K : Nat) (XX : Int) (XY : Bool) : Nat → Int → (List Int) → Int → qE ((List UInt8) × Int)
  | 0, _, _, _ => .fail
  | k + 1, X1, X0, XZ =>
    cond (decide (XZ < XX))
      (
      cond XY
        (
        lt ((qJ ((qJ (XX - (1 : Int))) - XZ))) fun (X2 : Int) =>
        qs.j2 K (qs.l1 K XX XY k) X1 X0 XZ X2)
        (
        qs.j2 K (qs.l1 K XX XY k) X1 X0 XZ XZ))
      (
      qs.j3 K X1 X0)
def qs.m (K : Nat) (XZ : Int) (XX : Int) (XY : Bool) : qE ((List UInt8) × Int) :=
  (xC.m K XX).bind fun X1 =>
  cond (!X1)
    (
    .ok (([] : List UInt8), (1 : Int)))
    (
    xp (decide (0 ≤ XX) && room (Int.toNat XX) 1) <|
    lt (List.replicate (Int.toNat XX) (0 : Int)) fun (X0 : (List Int)) =>
    qs.l1 K XX XY K XZ X0 (0 : Int))
def xD.m (K : Nat) (XX : Int) : qE (List UInt8) :=
  (qs.m K (wr .u64 XX) (4 : Int) true).bind fun (XY, XZ) =>
  .ok XY
def zx.m (K : Nat) (XX : Int) : qE (List UInt8) :=
  (qs.m K (wr .u64 XX) (2 : Int) true).bind fun (XY, XZ) =>
  .ok XY
def zd.j2 (K : Nat) (X0 : Int) (X1 : Int) (X3 : Int) (X5 : Int) : qE (List UInt8) :=
  (xD.m K (wr .i64 X0)).bind fun XX =>
  (zx.m K X1).bind fun XY =>
  xp (xV (XX.length + XY.length)) <|
  (zx.m K (qJ ((16 : Int) * X3))).bind fun XZ =>
  xp (xV ((XX ++ XY).length + XZ.length)) <|
  (zx.m K X5).bind fun X2 =>
  xp (xV (((XX ++ XY) ++ XZ).length + X2.length)) <|
  (zx.m K (qJ ((16 : Int) * (qJ (X1 - X3))))).bind fun X4 =>
  xp (xV ((((XX ++ XY) ++ XZ) ++ X2).length + X4.length)) <|
  lt (((((XX ++ XY) ++ XZ) ++ X2) ++ X4)) fun (X6 : List UInt8) =>
  .ok X6
def zd.l1 (K : Nat) (XX : Int) (XY : Int) : Nat → Int → Int → qE (List UInt8)
  | 0, _, _ => .fail
  | k + 1, X0, XZ =>
    cond (decide ((qJ ((2 : Int) * X0)) ≤ XY))
      (
      lt ((qJ ((2 : Int) * X0))) fun (X2 : Int) =>
      lt ((qJ (XZ + (1 : Int)))) fun (X1 : Int) =>
      zd.l1 K XX XY k X2 X1)
      (
      zd.j2 K XX XY X0 XZ)
def qH.l1 (K : Nat) (XX : List qb) : Nat → Int → Int → qE Bool
  | 0, _, _ => .fail
  | k + 1, XZ, XY =>
    cond (decide (XY < (XX.length : Int)))
      (
      xp (inb XY XX.length) <|
      cond ((decide ((((rd XX XY).Data_).length : Int) > (5000 : Int))) || (decide (XZ > (100000 : Int))))
        (
        .ok false)
        (
        lt ((qJ (XZ + (((rd XX XY).Data_).length : Int)))) fun (X0 : Int) =>
        lt ((qJ (XY + (1 : Int)))) fun (X1 : Int) =>
        qH.l1 K XX k X0 X1))
      (
      .ok true)
def qH.m (K : Nat) (XX : List qb) : qE Bool :=
  cond (decide ((XX.length : Int) > (1001 : Int)))
    (
    .ok false)
    (
    qH.l1 K XX K (0 : Int) (0 : Int))
def qe.j1 (K : Nat)  (XX : Bool) : qE Bool :=
  .ok XX
def qe.j3 (K : Nat)  (XX : Bool) : qE Bool :=
  .ok XX
def qe.j2 (K : Nat) (XY : List UInt8) (XX : Bool) : qE Bool :=
  cond (XX && ((jW (XY.length : Int) (4 : Int)) == (0 : Int)))
    (
    (qM.m K).bind fun XZ =>
    qe.j3 K XZ)
    (
    qe.j3 K false)
def qe.m (K : Nat) (XX : Int) (XY : List qb) : qE Bool :=
  (qH.m K XY).bind fun X0 =>
  cond (!X0)
    (
    (qM.m K).bind fun X1 =>
    .ok X1)
    (
    (qB.m K XX XY).bind fun (XZ, X2) =>
    cond (X2 != (0 : Int))
      (
      cond (XZ == ([] : List UInt8))
        (
        (qM.m K).bind fun X3 =>
        qe.j1 K X3)
        (
        qe.j1 K false))
      (
      (qL.m K XZ).bind fun (X4, X5, X6) =>
      cond ((X6 == (0 : Int)) && (X4 == XX))
        (
        (qG.m K XY X5).bind fun X7 =>
        qe.j2 K XZ X7)
        (
        qe.j2 K XZ false)))
end Go.Mo
