/- Models of the Go functions that this statement reaches, printed by a program of mine: nothing is proved but lengths of tables. -/
import Derived.Test.YtlaobafbdllajaaDoorOwninnlm
set_option linter.unusedVariables false
set_option linter.unusedSimpArgs false
namespace Go.Mo
open Go Go.Sl
structure qb where
  Tag_ : List UInt8
  Data_ : List UInt8
  deriving Inhabited
structure qX where
  Lo_ : Int
  Hi_ : Int
  deriving Inhabited
structure qa where
  span_ : qX
  x_ : List UInt8
  deriving Inhabited
structure qj where
  text_ : List UInt8
  base_ : Int
  deriving Inhabited
structure qs where
  items_ : (List qa)
  deriving Inhabited
structure zX where
  Window_ : qj
  claims_ : qs
  deriving Inhabited
structure uu where
  L_ : (List qX)
  X_ : (List Int)
  deriving Inhabited
structure q6 where
  Kind_ : Int
  L_ : (List qb)
  At_ : Int
  By_ : Int
  deriving Inhabited
def z5.m (K : Nat) (X7 : Int) : qG Bool :=
  lt (((X7 == (65536 : Int)) || (X7 == (1330926671 : Int)))) fun (X8 : Bool) =>
  .ok X8
def zh.l1 (K : Nat) (Ya : List UInt8) (X7 : (List Int)) : Nat → Int → qG Bool
  | 0, _ => .fail
  | k + 1, X9 =>
    cond (decide (X9 < (X7.length : Int)))
      (
      xn (inb X9 X7.length) <|
      lt ((rd X7 X9)) fun (X8 : Int) =>
      cond ((decide (X8 < (32 : Int))) || (decide (X8 > (126 : Int))))
        (
        .ok false)
        (
        zh.l1 K Ya X7 k (qC (X9 + (1 : Int)))))
      (
      lt (((Ya.length : Int) == (4 : Int))) fun (Yb : Bool) =>
      .ok Yb)
def zh.m (K : Nat) (X7 : List UInt8) : qG Bool :=
  xn (xY X7.length) <|
  lt (X7.map xN) fun (X8 : (List Int)) =>
  zh.l1 K X7 X8 K (0 : Int)
def zN.m (K : Nat) (X7 : Int) : qG Int :=
  lt ((vX .i64 (qC (X7 + (3 : Int))) (3 : Int))) fun (X8 : Int) =>
  .ok X8
def qA.j2 (K : Nat) (g1 : Int → Int → qG Bool) (X9 : List qb) (X7 : Int) (Ya : Int) (Yb : Bool) : qG Bool :=
  cond Yb
    (
    .ok false)
    (
    (zN.m K (((rd X9 Ya).Data_).length : Int)).bind fun Yc =>
    lt ((qC (X7 + Yc))) fun (X8 : Int) =>
    g1 X8 (qC (Ya + (1 : Int))))
def qA.j3 (K : Nat) (X8 : List qb) (X7 : Int) : qG Bool :=
  lt ((((decide ((X8.length : Int) > (0 : Int))) && (decide ((X8.length : Int) ≤ (1000 : Int)))) && (decide (X7 < (1073741824 : Int))))) fun (X9 : Bool) =>
  .ok X9
def qA.l1 (K : Nat) (X7 : List qb) : Nat → Int → Int → qG Bool
  | 0, _, _ => .fail
  | k + 1, X8, X9 =>
    cond (decide (X9 < (X7.length : Int)))
      (
      xn (inb X9 X7.length) <|
      (zh.m K ((rd X7 X9).Tag_)).bind fun Ya =>
      cond Ya
        (
        cond (decide (X9 > (0 : Int)))
          (
          xn (inb (qC (X9 - (1 : Int))) X7.length) <|
          cond (!Op.bytesLess (rd X7 (qC (X9 - (1 : Int)))).Tag_ (rd X7 X9).Tag_)
            (
            qA.j2 K (qA.l1 K X7 k) X7 X8 X9 true)
            (
            qA.j2 K (qA.l1 K X7 k) X7 X8 X9 (decide ((((rd X7 X9).Data_).length : Int) > (16777216 : Int)))))
          (
          qA.j2 K (qA.l1 K X7 k) X7 X8 X9 (decide ((((rd X7 X9).Data_).length : Int) > (16777216 : Int)))))
        (
        qA.j2 K (qA.l1 K X7 k) X7 X8 X9 true))
      (
      qA.j3 K X7 X8)
def qA.m (K : Nat) (X7 : List qb) : qG Bool :=
  qA.l1 K X7 K (0 : Int) (0 : Int)
def zn.l1 (K : Nat) (X9 : List UInt8) : Nat → Int → Int → qG Int
  | 0, _, _ => .fail
  | k + 1, X8, X7 =>
    cond (decide (X7 < (X9.length : Int)))
      (
      xn (inb X7 X9.length) <|
      xn (decide (0 ≤ (qC ((24 : Int) - (qC ((8 : Int) * (yV .i64 X7 (3 : Int)))))))) <|
      lt ((wr .u32 (X8 + (jG .u32 (wr .u32 ((rd X9 X7).toNat : Int)) (qC ((24 : Int) - (qC ((8 : Int) * (yV .i64 X7 (3 : Int)))))))))) fun (Ya : Int) =>
      zn.l1 K X9 k Ya (qC (X7 + (1 : Int))))
      (
      .ok X8)
def zn.m (K : Nat) (X7 : List UInt8) : qG Int :=
  zn.l1 K X7 K (0 : Int) (0 : Int)
def xt.m (K : Nat) (X7 : Int) : qG Bool :=
  lt ((((decide (X7 > (0 : Int))) && (decide (X7 ≤ (8 : Int)))) && ((yV .i64 X7 (qC (X7 - (1 : Int)))) == (0 : Int)))) fun (X8 : Bool) =>
  .ok X8
def ql.j3 (K : Nat)  (X9 : Int) (X7 : Int) : qG Int :=
  xn (inb (wr .u8 X9) ([0, 1, 2, 2, 3, 3, 3, 3, 4, 4, 4, 4, 4, 4, 4, 4, 5, 5, 5, 5, 5, 5, 5, 5, 5, 5, 5, 5, 5, 5, 5, 5, 6, 6, 6, 6, 6, 6, 6, 6, 6, 6, 6, 6, 6, 6, 6, 6, 6, 6, 6, 6, 6, 6, 6, 6, 6, 6, 6, 6, 6, 6, 6, 6, 7, 7, 7, 7, 7, 7, 7, 7, 7, 7, 7, 7, 7, 7, 7, 7, 7, 7, 7, 7, 7, 7, 7, 7, 7, 7, 7, 7, 7, 7, 7, 7, 7, 7, 7, 7, 7, 7, 7, 7, 7, 7, 7, 7, 7, 7, 7, 7, 7, 7, 7, 7, 7, 7, 7, 7, 7, 7, 7, 7, 7, 7, 7, 7, 8, 8, 8, 8, 8, 8, 8, 8, 8, 8, 8, 8, 8, 8, 8, 8, 8, 8, 8, 8, 8, 8, 8, 8, 8, 8, 8, 8, 8, 8, 8, 8, 8, 8, 8, 8, 8, 8, 8, 8, 8, 8, 8, 8, 8, 8, 8, 8, 8, 8, 8, 8, 8, 8, 8, 8, 8, 8, 8, 8, 8, 8, 8, 8, 8, 8, 8, 8, 8, 8, 8, 8, 8, 8, 8, 8, 8, 8, 8, 8, 8, 8, 8, 8, 8, 8, 8, 8, 8, 8, 8, 8, 8, 8, 8, 8, 8, 8, 8, 8, 8, 8, 8, 8, 8, 8, 8, 8, 8, 8, 8, 8, 8, 8, 8, 8, 8, 8, 8, 8, 8, 8, 8, 8, 8, 8, 8, 8] : List UInt8).length) <|
  lt ((qC (X7 + (wr .i64 ((rd ([0, 1, 2, 2, 3, 3, 3, 3, 4, 4, 4, 4, 4, 4, 4, 4, 5, 5, 5, 5, 5, 5, 5, 5, 5, 5, 5, 5, 5, 5, 5, 5, 6, 6, 6, 6, 6, 6, 6, 6, 6, 6, 6, 6, 6, 6, 6, 6, 6, 6, 6, 6, 6, 6, 6, 6, 6, 6, 6, 6, 6, 6, 6, 6, 7, 7, 7, 7, 7, 7, 7, 7, 7, 7, 7, 7, 7, 7, 7, 7, 7, 7, 7, 7, 7, 7, 7, 7, 7, 7, 7, 7, 7, 7, 7, 7, 7, 7, 7, 7, 7, 7, 7, 7, 7, 7, 7, 7, 7, 7, 7, 7, 7, 7, 7, 7, 7, 7, 7, 7, 7, 7, 7, 7, 7, 7, 7, 7, 8, 8, 8, 8, 8, 8, 8, 8, 8, 8, 8, 8, 8, 8, 8, 8, 8, 8, 8, 8, 8, 8, 8, 8, 8, 8, 8, 8, 8, 8, 8, 8, 8, 8, 8, 8, 8, 8, 8, 8, 8, 8, 8, 8, 8, 8, 8, 8, 8, 8, 8, 8, 8, 8, 8, 8, 8, 8, 8, 8, 8, 8, 8, 8, 8, 8, 8, 8, 8, 8, 8, 8, 8, 8, 8, 8, 8, 8, 8, 8, 8, 8, 8, 8, 8, 8, 8, 8, 8, 8, 8, 8, 8, 8, 8, 8, 8, 8, 8, 8, 8, 8, 8, 8, 8, 8, 8, 8, 8, 8, 8, 8, 8, 8, 8, 8, 8, 8, 8, 8, 8, 8, 8, 8, 8, 8, 8, 8] : List UInt8) (wr .u8 X9)).toNat : Int))))) fun (X8 : Int) =>
  .ok X8
def ql.j2 (K : Nat)  (X8 : Int) (X7 : Int) : qG Int :=
  cond (decide (X8 ≥ (256 : Int)))
    (
    lt ((xE .u64 X8 (8 : Int))) fun (Ya : Int) =>
    lt ((qC (X7 + (8 : Int)))) fun (X9 : Int) =>
    ql.j3 K Ya X9)
    (
    ql.j3 K X8 X7)
def ql.j1 (K : Nat)  (X8 : Int) (X7 : Int) : qG Int :=
  cond (decide (X8 ≥ (65536 : Int)))
    (
    lt ((xE .u64 X8 (16 : Int))) fun (Ya : Int) =>
    lt ((qC (X7 + (16 : Int)))) fun (X9 : Int) =>
    ql.j2 K Ya X9)
    (
    ql.j2 K X8 X7)
def ql.m (K : Nat) (X7 : Int) : qG Int :=
  cond (decide (X7 ≥ (4294967296 : Int)))
    (
    lt ((xE .u64 X7 (32 : Int))) fun (X8 : Int) =>
    ql.j1 K X8 (32 : Int))
    (
    ql.j1 K X7 (0 : Int))
def zF.m (K : Nat) (X7 : Int) : qG Unit :=
  .ok ()
def zp.m (K : Nat) (X7 : Int) (X8 : Int) : qG Int :=
  lt ((qC ((qC (X8 - (1 : Int))) - X7))) fun (X9 : Int) =>
  .ok X9
def qS.l1 (K : Nat) (Ya : Int) (X7 : Int) (Yb : (List Int)) : Nat → (List Int) → Int → qG ((List UInt8) × Int)
  | 0, _, _ => .fail
  | k + 1, X8, X9 =>
    cond (decide (X9 < (Yb.length : Int)))
      (
      xn (decide (0 ≤ (qC ((8 : Int) * X9)))) <|
      (zp.m K X9 X7).bind fun Yc =>
      xn (inb Yc X8.length) <|
      lt (X8.set (Int.toNat Yc) (wr .u8 (xE .u64 Ya (qC ((8 : Int) * X9))))) fun (Yd : (List Int)) =>
      qS.l1 K Ya X7 Yb k Yd (qC (X9 + (1 : Int))))
      (
      lt ((X8.map jg)) fun (Ye : List UInt8) =>
      .ok (Ye, (0 : Int)))
def qS.m (K : Nat) (X8 : Int) (X7 : Int) : qG ((List UInt8) × Int) :=
  (xt.m K X7).bind fun Ya =>
  cond (!Ya)
    (
    .ok (([] : List UInt8), (1 : Int)))
    (
    (ql.m K X8).bind fun Yb =>
    cond (decide (Yb > (qC ((8 : Int) * X7))))
      (
      .ok (([] : List UInt8), (10 : Int)))
      (
      (zF.m K X7).bind fun _ =>
      xn (decide (0 ≤ X7) && room (Int.toNat X7) 1) <|
      lt (List.replicate (Int.toNat X7) (0 : Int)) fun (X9 : (List Int)) =>
      qS.l1 K X8 X7 X9 K X9 (0 : Int)))
def yz.m (K : Nat) (X7 : Int) : qG (List UInt8) :=
  (qS.m K (wr .u64 X7) (4 : Int)).bind fun (X8, X9) =>
  .ok X8
def zB.m (K : Nat) (X7 : (List Int)) : qG Int :=
  lt ((X7.length : Int)) fun (X8 : Int) =>
  .ok X8
def qZ.m (K : Nat) (X7 : (List Int)) (X8 : List UInt8) : qG (Int × (List Int)) :=
  xn (room (X7.length + X8.length) 1) <|
  lt (X7 ++ X8.map xN) fun (X9 : (List Int)) =>
  lt ((X8.length : Int)) fun (Ya : Int) =>
  .ok (Ya, X9)
def strings_Repeat.m (K : Nat) (X8 : List UInt8) (X7 : Int) : qG (List UInt8) :=
  (QR X8 X7).bind fun X9 =>
  .ok X9
def yy.m (K : Nat) (X7 : Int) : qG (List UInt8) :=
  (qS.m K (wr .u64 X7) (2 : Int)).bind fun (X8, X9) =>
  .ok X8
def zu.l1 (K : Nat) (Ya : Int) (Yb : Int) : Nat → Int → Int → qG (List UInt8)
  | 0, _, _ => .fail
  | k + 1, X7, X8 =>
    cond (decide ((qC ((2 : Int) * X7)) ≤ Yb))
      (
      lt ((qC (X7 * (2 : Int)))) fun (Yc : Int) =>
      lt ((qC (X8 + (1 : Int)))) fun (X9 : Int) =>
      zu.l1 K Ya Yb k Yc X9)
      (
      (yz.m K (wr .i64 Ya)).bind fun Yd =>
      (yy.m K Yb).bind fun Ye =>
      xn (xY (Yd.length + Ye.length)) <|
      (yy.m K (qC ((16 : Int) * X7))).bind fun Yf =>
      xn (xY ((Yd ++ Ye).length + Yf.length)) <|
      (yy.m K X8).bind fun Yg =>
      xn (xY (((Yd ++ Ye) ++ Yf).length + Yg.length)) <|
      (yy.m K (qC ((16 : Int) * (qC (Yb - X7))))).bind fun Yh =>
      xn (xY ((((Yd ++ Ye) ++ Yf) ++ Yg).length + Yh.length)) <|
      lt (((((Yd ++ Ye) ++ Yf) ++ Yg) ++ Yh)) fun (Yi : List UInt8) =>
      .ok Yi)
def zu.m (K : Nat) (X7 : Int) (X8 : Int) : qG (List UInt8) :=
  zu.l1 K X7 X8 K (1 : Int) (0 : Int)
def zd.m (K : Nat) (X7 : (List Int)) : qG (List UInt8) :=
  lt ((X7.map jg)) fun (X8 : List UInt8) =>
  .ok X8
def qD.j3 (K : Nat) (kind7 : Int) (l_8 : List qb) (X7 : (List Int)) (Ya : (List Int)) : qG ((List UInt8) × Int) :=
  (zu.m K kind7 (l_8.length : Int)).bind fun X8 =>
  (zd.m K X7).bind fun X9 =>
  xn (xY (X8.length + X9.length)) <|
  (zd.m K Ya).bind fun Yb =>
  xn (xY ((X8 ++ X9).length + Yb.length)) <|
  lt (((X8 ++ X9) ++ Yb)) fun (Yc : List UInt8) =>
  .ok (Yc, (0 : Int))
def qD.l2 (K : Nat) (kind7 : Int) (l_8 : List qb) (X8 : Int) : Nat → (List Int) → (List Int) → Int → qG ((List UInt8) × Int)
  | 0, _, _, _ => .fail
  | k + 1, X9, Ya, X7 =>
    cond (decide (X7 < (l_8.length : Int)))
      (
      xn (inb X7 l_8.length) <|
      (zn.m K ((rd l_8 X7).Data_)).bind fun Yh =>
      (yz.m K (wr .i64 Yh)).bind fun Yb =>
      xn (xY (((rd l_8 X7).Tag_).length + Yb.length)) <|
      (zB.m K Ya).bind fun Yi =>
      (yz.m K (qC (X8 + Yi))).bind fun Yc =>
      xn (xY (((rd l_8 X7).Tag_ ++ Yb).length + Yc.length)) <|
      (yz.m K (((rd l_8 X7).Data_).length : Int)).bind fun Yf =>
      xn (xY ((((rd l_8 X7).Tag_ ++ Yb) ++ Yc).length + Yf.length)) <|
      (qZ.m K X9 ((((rd l_8 X7).Tag_ ++ Yb) ++ Yc) ++ Yf)).bind fun (Yk, Yd) =>
      (zN.m K (((rd l_8 X7).Data_).length : Int)).bind fun Yj =>
      (strings_Repeat.m K ([0] : List UInt8) (qC (Yj - (((rd l_8 X7).Data_).length : Int)))).bind fun Yg =>
      xn (xY (((rd l_8 X7).Data_).length + Yg.length)) <|
      (qZ.m K Ya ((rd l_8 X7).Data_ ++ Yg)).bind fun (Yl, Ye) =>
      qD.l2 K kind7 l_8 X8 k Yd Ye (qC (X7 + (1 : Int))))
      (
      qD.j3 K kind7 l_8 X9 Ya)
def qD.j1 (K : Nat) (kind7 : Int) (l_8 : List qb) (X8 : Bool) : qG ((List UInt8) × Int) :=
  cond X8
    (
    .ok (([] : List UInt8), (1 : Int)))
    (
    lt ((qC ((12 : Int) + (qC ((16 : Int) * (l_8.length : Int)))))) fun (X7 : Int) =>
    qD.l2 K kind7 l_8 X7 K ([] : List Int) ([] : List Int) (0 : Int))
def qD.m (K : Nat) (kind7 : Int) (l_8 : List qb) : qG ((List UInt8) × Int) :=
  (z5.m K kind7).bind fun X7 =>
  cond ((!X7) || (decide ((l_8.length : Int) > (1000 : Int))))
    (
    qD.j1 K kind7 l_8 true)
    (
    (qA.m K l_8).bind fun X8 =>
    qD.j1 K kind7 l_8 (!X8))
def vK.m (K : Nat) (X7 : List UInt8) : qG Unit :=
  .ok ()
def zA.m (K : Nat) : qG Unit :=
  .ok ()
def ze.m (K : Nat) (X8 : qj) (X7 : Int) (X9 : Int) : qG ((List UInt8) × Int × Int) :=
  cond ((decide (X7 < (0 : Int))) || (decide (X9 < (0 : Int))))
    (
    .ok (([] : List UInt8), (0 : Int), (1 : Int)))
    (
    cond ((decide (X7 > (X8.text_.length : Int))) || (decide (X9 > (qC ((X8.text_.length : Int) - X7)))))
      (
      .ok (([] : List UInt8), (0 : Int), (2 : Int)))
      (
      xn (subok X7 (qC (X7 + X9)) X8.text_.length) <|
      .ok ((sub X8.text_ X7 (qC (X7 + X9))), (qC (X8.base_ + X7)), (0 : Int))))
def qp.l1 (K : Nat) (X7 : Int) (X8 : List UInt8) : Nat → Int → Int → qG (Int × Int)
  | 0, _, _ => .fail
  | k + 1, Ya, X9 =>
    cond (decide (X9 < X7))
      (
      (zp.m K X9 X7).bind fun Yc =>
      xn (inb Yc X8.length) <|
      xn (decide (0 ≤ (qC ((8 : Int) * X9)))) <|
      lt ((Z0 .u64 Ya (jG .u64 (wr .u64 ((rd X8 Yc).toNat : Int)) (qC ((8 : Int) * X9))))) fun (Yb : Int) =>
      qp.l1 K X7 X8 k Yb (qC (X9 + (1 : Int))))
      (
      .ok (Ya, (0 : Int)))
def qp.m (K : Nat) (Ya : qj) (X9 : Int) (X7 : Int) : qG (Int × Int) :=
  (xt.m K X7).bind fun Yd =>
  cond (!Yd)
    (
    .ok ((0 : Int), (1 : Int)))
    (
    (ze.m K Ya X9 X7).bind fun (X8, Yc, Yb) =>
    cond (Yb != (0 : Int))
      (
      .ok ((0 : Int), Yb))
      (
      (zF.m K X7).bind fun _ =>
      qp.l1 K X7 X8 K (0 : Int) (0 : Int)))
def qY.m (K : Nat) (X7 : qj) : qG Unit :=
  .ok ()
def zE.m (K : Nat) (X8 : Int) (X7 : Int) : qG Bool :=
  lt ((((decide (X8 ≥ (0 : Int))) && (decide (X8 < X7))) && (decide (X7 ≤ (4611686018427387904 : Int))))) fun (X9 : Bool) =>
  .ok X9
def qQ.m (K : Nat) (X7 : qs) : qG Unit :=
  .ok ()
def qU.m (K : Nat) (X9 : Int) (X7 : (List qa)) (X8 : Int) : qG Bool :=
  xn (inb X9 X7.length) <|
  lt ((decide ((rd X7 X9).span_.Hi_ > X8))) fun (Ya : Bool) =>
  .ok Ya
def qn.l1 (K : Nat) (Yb : qs) (X7 : Int) : Nat → Int → Int → qG Int
  | 0, _, _ => .fail
  | k + 1, X9, Ya =>
    cond (decide (X9 < Ya))
      (
      lt ((vc .i64 (qC (X9 + Ya)) (2 : Int))) fun (X8 : Int) =>
      (qU.m K X8 Yb.items_ X7).bind fun Yd =>
      cond Yd
        (
        qn.l1 K Yb X7 k X9 X8)
        (
        lt ((qC (X8 + (1 : Int)))) fun (Yc : Int) =>
        qn.l1 K Yb X7 k Yc Ya))
      (
      .ok X9)
def qn.m (K : Nat) (X8 : qs) (X7 : Int) : qG Int :=
  (qQ.m K X8).bind fun _ =>
  lt ((X8.items_.length : Int)) fun (X9 : Int) =>
  qn.l1 K X8 X7 K (0 : Int) X9
def qf.j2 (K : Nat)  (X7 : Bool) : qG Bool :=
  .ok X7
def qf.j1 (K : Nat) (X7 : qs) (X8 : Int) (X9 : Int) (Ya : Bool) : qG Bool :=
  cond Ya
    (
    (qQ.m K X7).bind fun _ =>
    xn (inb X9 X7.items_.length) <|
    qf.j2 K (decide ((rd X7.items_ X9).span_.Lo_ < X8)))
    (
    qf.j2 K false)
def qf.m (K : Nat) (X8 : qs) (X9 : Int) (X7 : Int) : qG Bool :=
  (qn.m K X8 X9).bind fun Ya =>
  (zE.m K X9 X7).bind fun Yb =>
  cond Yb
    (
    (qQ.m K X8).bind fun _ =>
    qf.j1 K X8 X7 Ya (decide (Ya < (X8.items_.length : Int))))
    (
    qf.j1 K X8 X7 Ya false)
def qo.m (K : Nat) (X9 : List qa) (X8 : Int) (Ya : List qa) : qG (List qa) :=
  (Qy 32 X9 X8 Ya).bind fun X7 =>
  .ok X7
def qV.m (K : Nat) (X9 : qs) (X7 : Int) (X8 : Int) (Yb : List UInt8) : qG (Int × (List qa)) :=
  (zE.m K X7 X8).bind fun Yc =>
  lt ((!Yc)) fun (Ya : Bool) =>
  cond Ya
    (
    .ok ((1 : Int), X9.items_))
    (
    (qf.m K X9 X7 X8).bind fun Yd =>
    cond Yd
      (
      .ok ((5 : Int), X9.items_))
      (
      (qn.m K X9 X7).bind fun Ye =>
      (qo.m K X9.items_ Ye ([(qa.mk (qX.mk X7 X8) Yb)] : List qa)).bind fun Yf =>
      .ok ((0 : Int), Yf)))
def qB.l1 (K : Nat) (X8 : Int) : Nat → (List UInt8) → qG (List UInt8)
  | 0, _ => .fail
  | k + 1, X7 =>
    xn (imp true (decide ((X7.length : Int) > (0 : Int))) (inb (qC ((X7.length : Int) - (1 : Int))) X7.length)) <|
    cond ((decide ((X7.length : Int) > (0 : Int))) && (((rd X7 (qC ((X7.length : Int) - (1 : Int)))).toNat : Int) == X8))
      (
      xn (subok (0 : Int) (qC ((X7.length : Int) - (1 : Int))) X7.length) <|
      lt ((sub X7 (0 : Int) (qC ((X7.length : Int) - (1 : Int))))) fun (X9 : List UInt8) =>
      qB.l1 K X8 k X9)
      (
      .ok X7)
def qB.m (K : Nat) (X8 : List UInt8) (X7 : Int) : qG (List UInt8) :=
  qB.l1 K X7 K X8
def qE.l1 (K : Nat) (X8 : Int) : Nat → (List UInt8) → qG (List UInt8)
  | 0, _ => .fail
  | k + 1, X7 =>
    xn (imp true (decide ((X7.length : Int) > (0 : Int))) (inb (0 : Int) X7.length)) <|
    cond ((decide ((X7.length : Int) > (0 : Int))) && (((rd X7 (0 : Int)).toNat : Int) == X8))
      (
      xn (subok (1 : Int) (X7.length : Int) X7.length) <|
      lt ((sub X7 (1 : Int) (X7.length : Int))) fun (X9 : List UInt8) =>
      qE.l1 K X8 k X9)
      (
      .ok X7)
def qE.m (K : Nat) (X8 : List UInt8) (X7 : Int) : qG (List UInt8) :=
  qE.l1 K X7 K X8
def zv.m (K : Nat) (X7 : List UInt8) : qG (List UInt8) :=
  cond ((X7 == ([] : List UInt8)) || false)
    (
    .ok X7)
    (
    xn (inb (0 : Int) ([0] : List UInt8).length) <|
    (qB.m K X7 (0 : Int)).bind fun X8 =>
    (qE.m K X8 (0 : Int)).bind fun X9 =>
    .ok X9)
def xf.m (K : Nat) (X7 : qj) : qG Int :=
  lt ((X7.text_.length : Int)) fun (X8 : Int) =>
  .ok X8
def qw.j2 (K : Nat) (X9 : List UInt8) (Ya : Int) (X8 : List UInt8) (X7 : (List qa)) : qG ((List UInt8) × (List UInt8) × Int × (List qa)) :=
  (zn.m K X8).bind fun Yb =>
  cond (Yb != (wr .u32 Ya))
    (
    .ok (([] : List UInt8), ([] : List UInt8), (4 : Int), X7))
    (
    .ok (X9, X8, (0 : Int), X7))
def qw.j1 (K : Nat) (Yd : zX) (Ya : List UInt8) (Yf : Int) (Yg : Int) (Yc : Int) (X7 : List UInt8) (X8 : Int) (Ye : Int) : qG ((List UInt8) × (List UInt8) × Int × (List qa)) :=
  cond (Ye != (0 : Int))
    (
    .ok (([] : List UInt8), ([] : List UInt8), Ye, Yd.claims_.items_))
    (
    (qY.m K (qj.mk X7 X8)).bind fun _ =>
    xn (subok (0 : Int) Yc X7.length) <|
    lt ((sub X7 (0 : Int) Yc)) fun (Yb : List UInt8) =>
    (qY.m K (qj.mk X7 X8)).bind fun _ =>
    xn (subok Yc (X7.length : Int) X7.length) <|
    (zv.m K (sub X7 Yc (X7.length : Int))).bind fun Yi =>
    cond (!(Yi == ([] : List UInt8)))
      (
      .ok (([] : List UInt8), ([] : List UInt8), (3 : Int), Yd.claims_.items_))
      (
      cond (decide (Yc > (0 : Int)))
        (
        (xf.m K (qj.mk X7 X8)).bind fun Yj =>
        (qV.m K Yd.claims_ (wr .i64 Yg) (qC ((wr .i64 Yg) + Yj)) Ya).bind fun (Yh, X9) =>
        cond (Yh != (0 : Int))
          (
          .ok (([] : List UInt8), ([] : List UInt8), Yh, X9))
          (
          qw.j2 K Ya Yf Yb X9))
        (
        qw.j2 K Ya Yf Yb Yd.claims_.items_)))
def qw.m (K : Nat) (Ya : zX) (X7 : qj) : qG ((List UInt8) × (List UInt8) × Int × (List qa)) :=
  (qY.m K X7).bind fun _ =>
  xn (subok (0 : Int) (4 : Int) X7.text_.length) <|
  lt ((sub X7.text_ (0 : Int) (4 : Int))) fun (Yb : List UInt8) =>
  (qp.m K X7 (4 : Int) (4 : Int)).bind fun (Ye, Yh) =>
  (qp.m K X7 (8 : Int) (4 : Int)).bind fun (Yc, Yi) =>
  (qp.m K X7 (12 : Int) (4 : Int)).bind fun (Yd, Yj) =>
  cond (((yV .u64 Yc (3 : Int)) != (0 : Int)) || (decide (Yd > (16777216 : Int))))
    (
    .ok (([] : List UInt8), ([] : List UInt8), (3 : Int), Ya.claims_.items_))
    (
    (zN.m K (wr .i64 Yd)).bind fun Yf =>
    (ze.m K Ya.Window_ (wr .i64 Yc) Yf).bind fun (X9, X8, Yg) =>
    qw.j1 K Ya Yb Ye Yc Yd X9 X8 Yg)
def qN.j3 (K : Nat) (Ya : Int) (X8 : (List qb)) (X7 : Int) : qG (Int × (List qb) × Int) :=
  cond (decide (X7 ≥ (1073741824 : Int)))
    (
    .ok ((0 : Int), ([] : List qb), (3 : Int)))
    (
    lt ((wr .u32 Ya)) fun (X9 : Int) =>
    .ok (X9, X8, (0 : Int)))
def qN.l2 (K : Nat) (Ym : List UInt8) (Yn : Int) (Yj : Int) (Ye : List UInt8) (Yb : Int) : Nat → (List qa) → (List qb) → Int → (List UInt8) → Int → qG (Int × (List qb) × Int)
  | 0, _, _, _, _, _ => .fail
  | k + 1, Yg, Yi, Yf, Yd, Yl =>
    cond (decide (Yl < Yj))
      (
      (ze.m K (qj.mk Ye Yb) (qC ((16 : Int) * Yl)) (16 : Int)).bind fun (X7, Yc, Ys) =>
      (qY.m K (qj.mk X7 Yc)).bind fun _ =>
      xn (subok (0 : Int) (4 : Int) X7.length) <|
      lt ((sub X7 (0 : Int) (4 : Int))) fun (X9 : List UInt8) =>
      (zh.m K X9).bind fun Yq =>
      cond ((!Yq) || (Op.bytesLess X9 Yd || X9 == Yd))
        (
        .ok ((0 : Int), ([] : List qb), (3 : Int)))
        (
        (qw.m K (zX.mk (qj.mk Ym (0 : Int)) (qs.mk Yg)) (qj.mk X7 Yc)).bind fun (Ya, X8, Yo, Yh) =>
        cond (Yo != (0 : Int))
          (
          .ok ((0 : Int), ([] : List qb), Yo))
          (
          (zN.m K (X8.length : Int)).bind fun Yr =>
          lt ((qC (Yf + Yr))) fun (Yk : Int) =>
          xn (room (Yi.length + ([(qb.mk Ya X8)] : List qb).length) 32) <|
          lt (Yi ++ ([(qb.mk Ya X8)] : List qb)) fun (Yp : (List qb)) =>
          qN.l2 K Ym Yn Yj Ye Yb k Yh Yp Yk Ya (qC (Yl + (1 : Int))))))
      (
      qN.j3 K Yn Yi Yf)
def qN.j1 (K : Nat) (Yb : List UInt8) (Ye : Int) (X8 : Int) (Yd : Bool) : qG (Int × (List qb) × Int) :=
  cond Yd
    (
    .ok ((0 : Int), ([] : List qb), (3 : Int)))
    (
    (ze.m K (qj.mk Yb (0 : Int)) (12 : Int) (qC ((16 : Int) * X8))).bind fun (Ya, X9, Yc) =>
    cond (Yc != (0 : Int))
      (
      .ok ((0 : Int), ([] : List qb), Yc))
      (
      (qV.m K (qs.mk ([] : List qa)) (0 : Int) (qC ((12 : Int) + (qC ((16 : Int) * X8)))) ([] : List UInt8)).bind fun (Yf, X7) =>
      qN.l2 K Yb Ye X8 Ya X9 K X7 ([] : List qb) (0 : Int) ([] : List UInt8) (0 : Int)))
def qN.m (K : Nat) (Ya : List UInt8) : qG (Int × (List qb) × Int) :=
  (vK.m K Ya).bind fun _ =>
  (zA.m K).bind fun _ =>
  (ze.m K (qj.mk Ya (0 : Int)) (0 : Int) (12 : Int)).bind fun (X7, X8, Yc) =>
  cond (Yc != (0 : Int))
    (
    .ok ((0 : Int), ([] : List qb), Yc))
    (
    (qp.m K (qj.mk X7 X8) (0 : Int) (4 : Int)).bind fun (Yb, Yg) =>
    (qp.m K (qj.mk X7 X8) (4 : Int) (2 : Int)).bind fun (Yd, Yh) =>
    lt ((wr .i64 Yd)) fun (X9 : Int) =>
    (z5.m K (wr .u32 Yb)).bind fun Ye =>
    cond (((!Ye) || (decide (X9 < (1 : Int)))) || (decide (X9 > (1000 : Int))))
      (
      qN.j1 K Ya Yb X9 true)
      (
      (qY.m K (qj.mk X7 X8)).bind fun _ =>
      (zu.m K (wr .u32 Yb) X9).bind fun Yf =>
      qN.j1 K Ya Yb X9 (!(X7 == Yf))))
def qP.l1 (K : Nat) (X7 : List qb) (X9 : List qb) : Nat → Int → qG Bool
  | 0, _ => .fail
  | k + 1, X8 =>
    cond (decide (X8 < (X7.length : Int)))
      (
      xn (inb X8 X7.length) <|
      xn (inb X8 X9.length) <|
      cond (!(((rd X7 X8).Tag_ == (rd X9 X8).Tag_) && (((rd X7 X8).Data_ == (rd X9 X8).Data_) && true)))
        (
        .ok false)
        (
        lt ((qC (X8 + (1 : Int)))) fun (Ya : Int) =>
        qP.l1 K X7 X9 k Ya))
      (
      .ok true)
def qP.m (K : Nat) (X7 : List qb) (X8 : List qb) : qG Bool :=
  cond ((X7.length : Int) != (X8.length : Int))
    (
    .ok false)
    (
    qP.l1 K X7 X8 K (0 : Int))
def qO.j1 (K : Nat) (X9 : Int) (Ya : Int) (X7 : Bool) : qG Bool :=
  lt (((X7 && (X9 == (2 : Int))) && (Ya == (1 : Int)))) fun (X8 : Bool) =>
  .ok X8
def qO.m (K : Nat) : qG Bool :=
  (qD.m K (65536 : Int) ([(qb.mk ([104, 101, 97, 100] : List UInt8) ([97, 98, 99, 100, 101] : List UInt8))] : List qb)).bind fun (X8, Yb) =>
  (qN.m K X8).bind fun (Yc, Yd, Ye) =>
  (qN.m K ([] : List UInt8)).bind fun (Yf, Yg, X9) =>
  (qD.m K (7 : Int) ([(qb.mk ([104, 101, 97, 100] : List UInt8) ([97, 98, 99, 100, 101] : List UInt8))] : List qb)).bind fun (Yh, Ya) =>
  cond (((((X8.length : Int) == (36 : Int)) && (Yb == (0 : Int))) && (Yc == (65536 : Int))) && (Ye == (0 : Int)))
    (
    (qP.m K ([(qb.mk ([104, 101, 97, 100] : List UInt8) ([97, 98, 99, 100, 101] : List UInt8))] : List qb) Yd).bind fun X7 =>
    qO.j1 K X9 Ya X7)
    (
    qO.j1 K X9 Ya false)
def xF.m (K : Nat) (X7 : Int) : qG Bool :=
  lt (((((X7 == (1 : Int)) || (X7 == (2 : Int))) || (X7 == (4 : Int))) || (X7 == (8 : Int)))) fun (X8 : Bool) =>
  .ok X8
def qt.j2 (K : Nat) (g1 : Int → (List Int) → Int → qG ((List UInt8) × Int)) (X9 : Int) (X8 : (List Int)) (Yc : Int) (X7 : Int) : qG ((List UInt8) × Int) :=
  xn (inb X7 X8.length) <|
  lt (X8.set (Int.toNat X7) (wr .u8 (vD X9 (256 : Int)))) fun (Yb : (List Int)) =>
  lt ((vc .u64 X9 (256 : Int))) fun (Ya : Int) =>
  lt ((qC (Yc + (1 : Int)))) fun (Yd : Int) =>
  g1 Ya Yb Yd
def qt.j3 (K : Nat)  (X8 : Int) (X7 : (List Int)) : qG ((List UInt8) × Int) :=
  cond (decide (X8 > (0 : Int)))
    (
    .ok (([] : List UInt8), (10 : Int)))
    (
    lt ((X7.map jg)) fun (X9 : List UInt8) =>
    .ok (X9, (0 : Int)))
def qt.l1 (K : Nat) (X7 : Int) (X8 : Bool) : Nat → Int → (List Int) → Int → qG ((List UInt8) × Int)
  | 0, _, _, _ => .fail
  | k + 1, Yb, Ya, X9 =>
    cond (decide (X9 < X7))
      (
      cond X8
        (
        lt ((qC ((qC (X7 - (1 : Int))) - X9))) fun (Yc : Int) =>
        qt.j2 K (qt.l1 K X7 X8 k) Yb Ya X9 Yc)
        (
        qt.j2 K (qt.l1 K X7 X8 k) Yb Ya X9 X9))
      (
      qt.j3 K Yb Ya)
def qt.m (K : Nat) (X9 : Int) (X7 : Int) (X8 : Bool) : qG ((List UInt8) × Int) :=
  (xF.m K X7).bind fun Yb =>
  cond (!Yb)
    (
    .ok (([] : List UInt8), (1 : Int)))
    (
    xn (decide (0 ≤ X7) && room (Int.toNat X7) 1) <|
    lt (List.replicate (Int.toNat X7) (0 : Int)) fun (Ya : (List Int)) =>
    qt.l1 K X7 X8 K X9 Ya (0 : Int))
def xG.m (K : Nat) (X7 : Int) : qG (List UInt8) :=
  (qt.m K (wr .u64 X7) (4 : Int) true).bind fun (X8, X9) =>
  .ok X8
def zD.m (K : Nat) (X7 : Int) : qG (List UInt8) :=
  (qt.m K (wr .u64 X7) (2 : Int) true).bind fun (X8, X9) =>
  .ok X8
def zk.j2 (K : Nat) (Ya : Int) (Yb : Int) (Yd : Int) (Yf : Int) : qG (List UInt8) :=
  (xG.m K (wr .i64 Ya)).bind fun X7 =>
  (zD.m K Yb).bind fun X8 =>
  xn (xY (X7.length + X8.length)) <|
  (zD.m K (qC ((16 : Int) * Yd))).bind fun X9 =>
  xn (xY ((X7 ++ X8).length + X9.length)) <|
  (zD.m K Yf).bind fun Yc =>
  xn (xY (((X7 ++ X8) ++ X9).length + Yc.length)) <|
  (zD.m K (qC ((16 : Int) * (qC (Yb - Yd))))).bind fun Ye =>
  xn (xY ((((X7 ++ X8) ++ X9) ++ Yc).length + Ye.length)) <|
  lt (((((X7 ++ X8) ++ X9) ++ Yc) ++ Ye)) fun (Yg : List UInt8) =>
  .ok Yg
def zk.l1 (K : Nat) (X7 : Int) (X8 : Int) : Nat → Int → Int → qG (List UInt8)
  | 0, _, _ => .fail
  | k + 1, Ya, X9 =>
    cond (decide ((qC ((2 : Int) * Ya)) ≤ X8))
      (
      lt ((qC ((2 : Int) * Ya))) fun (Yc : Int) =>
      lt ((qC (X9 + (1 : Int)))) fun (Yb : Int) =>
      zk.l1 K X7 X8 k Yc Yb)
      (
      zk.j2 K X7 X8 Ya X9)
def qI.l1 (K : Nat) (X7 : List qb) : Nat → Int → Int → qG Bool
  | 0, _, _ => .fail
  | k + 1, X9, X8 =>
    cond (decide (X8 < (X7.length : Int)))
      (
      xn (inb X8 X7.length) <|
      cond ((decide ((((rd X7 X8).Data_).length : Int) > (5000 : Int))) || (decide (X9 > (100000 : Int))))
        (
        .ok false)
        (
        lt ((qC (X9 + (((rd X7 X8).Data_).length : Int)))) fun (Ya : Int) =>
        lt ((qC (X8 + (1 : Int)))) fun (Yb : Int) =>
        qI.l1 K X7 k Ya Yb))
      (
      .ok true)
def qI.m (K : Nat) (X7 : List qb) : qG Bool :=
  cond (decide ((X7.length : Int) > (1001 : Int)))
    (
    .ok false)
    (
    qI.l1 K X7 K (0 : Int) (0 : Int))
def qg.j2 (K : Nat)  (X7 : Bool) : qG Bool :=
  .ok X7
def qg.j1 (K : Nat) (Yd : q6) (Ya : List UInt8) (X8 : Int) (Yb : Int) : qG Bool :=
  xn ((qC ((Ya.length : Int) - X8)) != (0 : Int)) <|
  lt ((qC (X8 + (vD Yb (qC ((Ya.length : Int) - X8)))))) fun (X7 : Int) =>
  xn (xY Ya.length) <|
  lt (Ya.map xN) fun (X9 : (List Int)) =>
  xn (inb X7 X9.length) <|
  lt (X9.set (Int.toNat X7) (vd .u8 (rd X9 X7) Yd.By_)) fun (Ye : (List Int)) =>
  (qN.m K (Ye.map jg)).bind fun (Yg, Yh, Yc) =>
  cond ((Yc == (4 : Int)) || (Yc == (3 : Int)))
    (
    (qO.m K).bind fun Yf =>
    qg.j2 K Yf)
    (
    qg.j2 K false)
def qg.m (K : Nat) (X7 : q6) : qG Bool :=
  (qI.m K X7.L_).bind fun Yb =>
  cond ((!Yb) || (X7.By_ == (0 : Int)))
    (
    (qO.m K).bind fun Yc =>
    .ok Yc)
    (
    (qD.m K X7.Kind_ X7.L_).bind fun (X9, Yd) =>
    lt ((qC ((12 : Int) + (qC ((16 : Int) * (X7.L_.length : Int)))))) fun (X8 : Int) =>
    cond ((Yd != (0 : Int)) || (decide ((X9.length : Int) ≤ X8)))
      (
      (qO.m K).bind fun Ye =>
      .ok Ye)
      (
      cond (decide (X7.At_ < (0 : Int)))
        (
        lt ((qC (0 - (qC (X7.At_ + (1 : Int)))))) fun (Ya : Int) =>
        qg.j1 K X7 X9 X8 Ya)
        (
        qg.j1 K X7 X9 X8 X7.At_)))
end Go.Mo
