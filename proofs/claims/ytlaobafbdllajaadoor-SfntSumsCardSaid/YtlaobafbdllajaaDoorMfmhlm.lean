/- Models of the Go functions that this statement reaches, printed by a program of mine: nothing is proved but lengths of tables. -/
import Derived.Test.YtlaobafbdllajaaDoorOwndimho
set_option linter.unusedVariables false
set_option linter.unusedSimpArgs false
namespace Go.Mo
open Go Go.Sl
structure qb where
  Tag_ : List UInt8
  Data_ : List UInt8
  deriving Inhabited
structure qT where
  Lo_ : Int
  Hi_ : Int
  deriving Inhabited
structure qa where
  span_ : qT
  x_ : List UInt8
  deriving Inhabited
structure qi where
  text_ : List UInt8
  base_ : Int
  deriving Inhabited
structure qp where
  items_ : (List qa)
  deriving Inhabited
structure zL where
  Window_ : qi
  claims_ : qp
  deriving Inhabited
structure vC where
  L_ : (List qT)
  X_ : (List Int)
  deriving Inhabited
structure jU where
  Kind_ : Int
  L_ : (List qb)
  At_ : Int
  By_ : Int
  deriving Inhabited
def xc.m (K : Nat) (Z2 : Int) : qO Bool :=
  lt (((Z2 == (65536 : Int)) || (Z2 == (1330926671 : Int)))) fun (Z3 : Bool) =>
  .ok Z3
def za.l1 (K : Nat) (Z5 : List UInt8) (Z2 : (List Int)) : Nat → Int → qO Bool
  | 0, _ => .fail
  | k + 1, Z4 =>
    cond (decide (Z4 < (Z2.length : Int)))
      (
      xa (inb Z4 Z2.length) <|
      lt ((rd Z2 Z4)) fun (Z3 : Int) =>
      cond ((decide (Z3 < (32 : Int))) || (decide (Z3 > (126 : Int))))
        (
        .ok false)
        (
        za.l1 K Z5 Z2 k (qC (Z4 + (1 : Int)))))
      (
      lt (((Z5.length : Int) == (4 : Int))) fun (Z6 : Bool) =>
      .ok Z6)
def za.m (K : Nat) (Z2 : List UInt8) : qO Bool :=
  xa (xH Z2.length) <|
  lt (Z2.map xP) fun (Z3 : (List Int)) =>
  za.l1 K Z2 Z3 K (0 : Int)
def zD.m (K : Nat) (Z2 : Int) : qO Int :=
  lt ((j6 .i64 (qC (Z2 + (3 : Int))) (3 : Int))) fun (Z3 : Int) =>
  .ok Z3
def qw.j2 (K : Nat) (g1 : Int → Int → qO Bool) (Z4 : List qb) (Z2 : Int) (Z5 : Int) (Z6 : Bool) : qO Bool :=
  cond Z6
    (
    .ok false)
    (
    (zD.m K (((rd Z4 Z5).Data_).length : Int)).bind fun Z7 =>
    lt ((qC (Z2 + Z7))) fun (Z3 : Int) =>
    g1 Z3 (qC (Z5 + (1 : Int))))
def qw.j3 (K : Nat) (Z3 : List qb) (Z2 : Int) : qO Bool :=
  lt ((((decide ((Z3.length : Int) > (0 : Int))) && (decide ((Z3.length : Int) ≤ (1000 : Int)))) && (decide (Z2 < (1073741824 : Int))))) fun (Z4 : Bool) =>
  .ok Z4
def qw.l1 (K : Nat) (Z2 : List qb) : Nat → Int → Int → qO Bool
  | 0, _, _ => .fail
  | k + 1, Z3, Z4 =>
    cond (decide (Z4 < (Z2.length : Int)))
      (
      xa (inb Z4 Z2.length) <|
      (za.m K ((rd Z2 Z4).Tag_)).bind fun Z5 =>
      cond Z5
        (
        cond (decide (Z4 > (0 : Int)))
          (
          xa (inb (qC (Z4 - (1 : Int))) Z2.length) <|
          cond (!Op.bytesLess (rd Z2 (qC (Z4 - (1 : Int)))).Tag_ (rd Z2 Z4).Tag_)
            (
            qw.j2 K (qw.l1 K Z2 k) Z2 Z3 Z4 true)
            (
            qw.j2 K (qw.l1 K Z2 k) Z2 Z3 Z4 (decide ((((rd Z2 Z4).Data_).length : Int) > (16777216 : Int)))))
          (
          qw.j2 K (qw.l1 K Z2 k) Z2 Z3 Z4 (decide ((((rd Z2 Z4).Data_).length : Int) > (16777216 : Int)))))
        (
        qw.j2 K (qw.l1 K Z2 k) Z2 Z3 Z4 true))
      (
      qw.j3 K Z2 Z3)
def qw.m (K : Nat) (Z2 : List qb) : qO Bool :=
  qw.l1 K Z2 K (0 : Int) (0 : Int)
def q8.l1 (K : Nat) (Z4 : List UInt8) : Nat → Int → Int → qO Int
  | 0, _, _ => .fail
  | k + 1, Z3, Z2 =>
    cond (decide (Z2 < (Z4.length : Int)))
      (
      xa (inb Z2 Z4.length) <|
      xa (decide (0 ≤ (qC ((24 : Int) - (qC ((8 : Int) * (y5 .i64 Z2 (3 : Int)))))))) <|
      lt ((wr .u32 (Z3 + (jp .u32 (wr .u32 ((rd Z4 Z2).toNat : Int)) (qC ((24 : Int) - (qC ((8 : Int) * (y5 .i64 Z2 (3 : Int)))))))))) fun (Z5 : Int) =>
      q8.l1 K Z4 k Z5 (qC (Z2 + (1 : Int))))
      (
      .ok Z3)
def q8.m (K : Nat) (Z2 : List UInt8) : qO Int :=
  q8.l1 K Z2 K (0 : Int) (0 : Int)
def xd.m (K : Nat) (Z2 : Int) : qO Bool :=
  lt ((((decide (Z2 > (0 : Int))) && (decide (Z2 ≤ (8 : Int)))) && ((y5 .i64 Z2 (qC (Z2 - (1 : Int)))) == (0 : Int)))) fun (Z3 : Bool) =>
  .ok Z3
def qk.j3 (K : Nat)  (Z4 : Int) (Z2 : Int) : qO Int :=
  xa (inb (wr .u8 Z4) ([0, 1, 2, 2, 3, 3, 3, 3, 4, 4, 4, 4, 4, 4, 4, 4, 5, 5, 5, 5, 5, 5, 5, 5, 5, 5, 5, 5, 5, 5, 5, 5, 6, 6, 6, 6, 6, 6, 6, 6, 6, 6, 6, 6, 6, 6, 6, 6, 6, 6, 6, 6, 6, 6, 6, 6, 6, 6, 6, 6, 6, 6, 6, 6, 7, 7, 7, 7, 7, 7, 7, 7, 7, 7, 7, 7, 7, 7, 7, 7, 7, 7, 7, 7, 7, 7, 7, 7, 7, 7, 7, 7, 7, 7, 7, 7, 7, 7, 7, 7, 7, 7, 7, 7, 7, 7, 7, 7, 7, 7, 7, 7, 7, 7, 7, 7, 7, 7, 7, 7, 7, 7, 7, 7, 7, 7, 7, 7, 8, 8, 8, 8, 8, 8, 8, 8, 8, 8, 8, 8, 8, 8, 8, 8, 8, 8, 8, 8, 8, 8, 8, 8, 8, 8, 8, 8, 8, 8, 8, 8, 8, 8, 8, 8, 8, 8, 8, 8, 8, 8, 8, 8, 8, 8, 8, 8, 8, 8, 8, 8, 8, 8, 8, 8, 8, 8, 8, 8, 8, 8, 8, 8, 8, 8, 8, 8, 8, 8, 8, 8, 8, 8, 8, 8, 8, 8, 8, 8, 8, 8, 8, 8, 8, 8, 8, 8, 8, 8, 8, 8, 8, 8, 8, 8, 8, 8, 8, 8, 8, 8, 8, 8, 8, 8, 8, 8, 8, 8, 8, 8, 8, 8, 8, 8, 8, 8, 8, 8, 8, 8, 8, 8, 8, 8, 8, 8] : List UInt8).length) <|
  lt ((qC (Z2 + (wr .i64 ((rd ([0, 1, 2, 2, 3, 3, 3, 3, 4, 4, 4, 4, 4, 4, 4, 4, 5, 5, 5, 5, 5, 5, 5, 5, 5, 5, 5, 5, 5, 5, 5, 5, 6, 6, 6, 6, 6, 6, 6, 6, 6, 6, 6, 6, 6, 6, 6, 6, 6, 6, 6, 6, 6, 6, 6, 6, 6, 6, 6, 6, 6, 6, 6, 6, 7, 7, 7, 7, 7, 7, 7, 7, 7, 7, 7, 7, 7, 7, 7, 7, 7, 7, 7, 7, 7, 7, 7, 7, 7, 7, 7, 7, 7, 7, 7, 7, 7, 7, 7, 7, 7, 7, 7, 7, 7, 7, 7, 7, 7, 7, 7, 7, 7, 7, 7, 7, 7, 7, 7, 7, 7, 7, 7, 7, 7, 7, 7, 7, 8, 8, 8, 8, 8, 8, 8, 8, 8, 8, 8, 8, 8, 8, 8, 8, 8, 8, 8, 8, 8, 8, 8, 8, 8, 8, 8, 8, 8, 8, 8, 8, 8, 8, 8, 8, 8, 8, 8, 8, 8, 8, 8, 8, 8, 8, 8, 8, 8, 8, 8, 8, 8, 8, 8, 8, 8, 8, 8, 8, 8, 8, 8, 8, 8, 8, 8, 8, 8, 8, 8, 8, 8, 8, 8, 8, 8, 8, 8, 8, 8, 8, 8, 8, 8, 8, 8, 8, 8, 8, 8, 8, 8, 8, 8, 8, 8, 8, 8, 8, 8, 8, 8, 8, 8, 8, 8, 8, 8, 8, 8, 8, 8, 8, 8, 8, 8, 8, 8, 8, 8, 8, 8, 8, 8, 8, 8, 8] : List UInt8) (wr .u8 Z4)).toNat : Int))))) fun (Z3 : Int) =>
  .ok Z3
def qk.j2 (K : Nat)  (Z3 : Int) (Z2 : Int) : qO Int :=
  cond (decide (Z3 ≥ (256 : Int)))
    (
    lt ((xp .u64 Z3 (8 : Int))) fun (Z5 : Int) =>
    lt ((qC (Z2 + (8 : Int)))) fun (Z4 : Int) =>
    qk.j3 K Z5 Z4)
    (
    qk.j3 K Z3 Z2)
def qk.j1 (K : Nat)  (Z3 : Int) (Z2 : Int) : qO Int :=
  cond (decide (Z3 ≥ (65536 : Int)))
    (
    lt ((xp .u64 Z3 (16 : Int))) fun (Z5 : Int) =>
    lt ((qC (Z2 + (16 : Int)))) fun (Z4 : Int) =>
    qk.j2 K Z5 Z4)
    (
    qk.j2 K Z3 Z2)
def qk.m (K : Nat) (Z2 : Int) : qO Int :=
  cond (decide (Z2 ≥ (4294967296 : Int)))
    (
    lt ((xp .u64 Z2 (32 : Int))) fun (Z3 : Int) =>
    qk.j1 K Z3 (32 : Int))
    (
    qk.j1 K Z2 (0 : Int))
def zE.m (K : Nat) (Z2 : Int) : qO Unit :=
  .ok ()
def zt.m (K : Nat) (Z2 : Int) (Z3 : Int) : qO Int :=
  lt ((qC ((qC (Z3 - (1 : Int))) - Z2))) fun (Z4 : Int) =>
  .ok Z4
def qL.l1 (K : Nat) (Z5 : Int) (Z2 : Int) (Z6 : (List Int)) : Nat → (List Int) → Int → qO ((List UInt8) × Int)
  | 0, _, _ => .fail
  | k + 1, Z3, Z4 =>
    cond (decide (Z4 < (Z6.length : Int)))
      (
      xa (decide (0 ≤ (qC ((8 : Int) * Z4)))) <|
      (zt.m K Z4 Z2).bind fun Z7 =>
      xa (inb Z7 Z3.length) <|
      lt (Z3.set (Int.toNat Z7) (wr .u8 (xp .u64 Z5 (qC ((8 : Int) * Z4))))) fun (Z8 : (List Int)) =>
      qL.l1 K Z5 Z2 Z6 k Z8 (qC (Z4 + (1 : Int))))
      (
      lt ((Z3.map jn)) fun (Z9 : List UInt8) =>
      .ok (Z9, (0 : Int)))
def qL.m (K : Nat) (Z3 : Int) (Z2 : Int) : qO ((List UInt8) × Int) :=
  (xd.m K Z2).bind fun Z5 =>
  cond (!Z5)
    (
    .ok (([] : List UInt8), (1 : Int)))
    (
    (qk.m K Z3).bind fun Z6 =>
    cond (decide (Z6 > (qC ((8 : Int) * Z2))))
      (
      .ok (([] : List UInt8), (10 : Int)))
      (
      (zE.m K Z2).bind fun _ =>
      xa (decide (0 ≤ Z2) && room (Int.toNat Z2) 1) <|
      lt (List.replicate (Int.toNat Z2) (0 : Int)) fun (Z4 : (List Int)) =>
      qL.l1 K Z3 Z2 Z4 K Z4 (0 : Int)))
def yc.m (K : Nat) (Z2 : Int) : qO (List UInt8) :=
  (qL.m K (wr .u64 Z2) (4 : Int)).bind fun (Z3, Z4) =>
  .ok Z3
def zp.m (K : Nat) (Z2 : (List Int)) : qO Int :=
  lt ((Z2.length : Int)) fun (Z3 : Int) =>
  .ok Z3
def qW.m (K : Nat) (Z2 : (List Int)) (Z3 : List UInt8) : qO (Int × (List Int)) :=
  xa (room (Z2.length + Z3.length) 1) <|
  lt (Z2 ++ Z3.map xP) fun (Z4 : (List Int)) =>
  lt ((Z3.length : Int)) fun (Z5 : Int) =>
  .ok (Z5, Z4)
def strings_Repeat.m (K : Nat) (Z3 : List UInt8) (Z2 : Int) : qO (List UInt8) :=
  (uI Z3 Z2).bind fun Z4 =>
  .ok Z4
def yb.m (K : Nat) (Z2 : Int) : qO (List UInt8) :=
  (qL.m K (wr .u64 Z2) (2 : Int)).bind fun (Z3, Z4) =>
  .ok Z3
def zn.l1 (K : Nat) (Z5 : Int) (Z6 : Int) : Nat → Int → Int → qO (List UInt8)
  | 0, _, _ => .fail
  | k + 1, Z2, Z3 =>
    cond (decide ((qC ((2 : Int) * Z2)) ≤ Z6))
      (
      lt ((qC (Z2 * (2 : Int)))) fun (Z7 : Int) =>
      lt ((qC (Z3 + (1 : Int)))) fun (Z4 : Int) =>
      zn.l1 K Z5 Z6 k Z7 Z4)
      (
      (yc.m K (wr .i64 Z5)).bind fun Z8 =>
      (yb.m K Z6).bind fun Z9 =>
      xa (xH (Z8.length + Z9.length)) <|
      (yb.m K (qC ((16 : Int) * Z2))).bind fun Xa =>
      xa (xH ((Z8 ++ Z9).length + Xa.length)) <|
      (yb.m K Z3).bind fun Xb =>
      xa (xH (((Z8 ++ Z9) ++ Xa).length + Xb.length)) <|
      (yb.m K (qC ((16 : Int) * (qC (Z6 - Z2))))).bind fun Xc =>
      xa (xH ((((Z8 ++ Z9) ++ Xa) ++ Xb).length + Xc.length)) <|
      lt (((((Z8 ++ Z9) ++ Xa) ++ Xb) ++ Xc)) fun (Xd : List UInt8) =>
      .ok Xd)
def zn.m (K : Nat) (Z2 : Int) (Z3 : Int) : qO (List UInt8) :=
  zn.l1 K Z2 Z3 K (1 : Int) (0 : Int)
def q7.m (K : Nat) (Z2 : (List Int)) : qO (List UInt8) :=
  lt ((Z2.map jn)) fun (Z3 : List UInt8) =>
  .ok Z3
def qB.j3 (K : Nat) (kind7 : Int) (l_8 : List qb) (Z2 : (List Int)) (Z5 : (List Int)) : qO ((List UInt8) × Int) :=
  (zn.m K kind7 (l_8.length : Int)).bind fun Z3 =>
  (q7.m K Z2).bind fun Z4 =>
  xa (xH (Z3.length + Z4.length)) <|
  (q7.m K Z5).bind fun Z6 =>
  xa (xH ((Z3 ++ Z4).length + Z6.length)) <|
  lt (((Z3 ++ Z4) ++ Z6)) fun (Z7 : List UInt8) =>
  .ok (Z7, (0 : Int))
def qB.l2 (K : Nat) (kind7 : Int) (l_8 : List qb) (Z3 : Int) : Nat → (List Int) → (List Int) → Int → qO ((List UInt8) × Int)
  | 0, _, _, _ => .fail
  | k + 1, Z4, Z5, Z2 =>
    cond (decide (Z2 < (l_8.length : Int)))
      (
      xa (inb Z2 l_8.length) <|
      (q8.m K ((rd l_8 Z2).Data_)).bind fun Xc =>
      (yc.m K (wr .i64 Xc)).bind fun Z6 =>
      xa (xH (((rd l_8 Z2).Tag_).length + Z6.length)) <|
      (zp.m K Z5).bind fun Xd =>
      (yc.m K (qC (Z3 + Xd))).bind fun Z7 =>
      xa (xH (((rd l_8 Z2).Tag_ ++ Z6).length + Z7.length)) <|
      (yc.m K (((rd l_8 Z2).Data_).length : Int)).bind fun Xa =>
      xa (xH ((((rd l_8 Z2).Tag_ ++ Z6) ++ Z7).length + Xa.length)) <|
      (qW.m K Z4 ((((rd l_8 Z2).Tag_ ++ Z6) ++ Z7) ++ Xa)).bind fun (Xf, Z8) =>
      (zD.m K (((rd l_8 Z2).Data_).length : Int)).bind fun Xe =>
      (strings_Repeat.m K ([0] : List UInt8) (qC (Xe - (((rd l_8 Z2).Data_).length : Int)))).bind fun Xb =>
      xa (xH (((rd l_8 Z2).Data_).length + Xb.length)) <|
      (qW.m K Z5 ((rd l_8 Z2).Data_ ++ Xb)).bind fun (Xg, Z9) =>
      qB.l2 K kind7 l_8 Z3 k Z8 Z9 (qC (Z2 + (1 : Int))))
      (
      qB.j3 K kind7 l_8 Z4 Z5)
def qB.j1 (K : Nat) (kind7 : Int) (l_8 : List qb) (Z3 : Bool) : qO ((List UInt8) × Int) :=
  cond Z3
    (
    .ok (([] : List UInt8), (1 : Int)))
    (
    lt ((qC ((12 : Int) + (qC ((16 : Int) * (l_8.length : Int)))))) fun (Z2 : Int) =>
    qB.l2 K kind7 l_8 Z2 K ([] : List Int) ([] : List Int) (0 : Int))
def qB.m (K : Nat) (kind7 : Int) (l_8 : List qb) : qO ((List UInt8) × Int) :=
  (xc.m K kind7).bind fun Z2 =>
  cond ((!Z2) || (decide ((l_8.length : Int) > (1000 : Int))))
    (
    qB.j1 K kind7 l_8 true)
    (
    (qw.m K l_8).bind fun Z3 =>
    qB.j1 K kind7 l_8 (!Z3))
def vR.m (K : Nat) (Z2 : List UInt8) : qO Unit :=
  .ok ()
def zJ.m (K : Nat) : qO Unit :=
  .ok ()
def zl.m (K : Nat) (Z3 : qi) (Z2 : Int) (Z4 : Int) : qO ((List UInt8) × Int × Int) :=
  cond ((decide (Z2 < (0 : Int))) || (decide (Z4 < (0 : Int))))
    (
    .ok (([] : List UInt8), (0 : Int), (1 : Int)))
    (
    cond ((decide (Z2 > (Z3.text_.length : Int))) || (decide (Z4 > (qC ((Z3.text_.length : Int) - Z2)))))
      (
      .ok (([] : List UInt8), (0 : Int), (2 : Int)))
      (
      xa (subok Z2 (qC (Z2 + Z4)) Z3.text_.length) <|
      .ok ((sub Z3.text_ Z2 (qC (Z2 + Z4))), (qC (Z3.base_ + Z2)), (0 : Int))))
def qy.l1 (K : Nat) (Z2 : Int) (Z3 : List UInt8) : Nat → Int → Int → qO (Int × Int)
  | 0, _, _ => .fail
  | k + 1, Z5, Z4 =>
    cond (decide (Z4 < Z2))
      (
      (zt.m K Z4 Z2).bind fun Z7 =>
      xa (inb Z7 Z3.length) <|
      xa (decide (0 ≤ (qC ((8 : Int) * Z4)))) <|
      lt ((Q0 .u64 Z5 (jp .u64 (wr .u64 ((rd Z3 Z7).toNat : Int)) (qC ((8 : Int) * Z4))))) fun (Z6 : Int) =>
      qy.l1 K Z2 Z3 k Z6 (qC (Z4 + (1 : Int))))
      (
      .ok (Z5, (0 : Int)))
def qy.m (K : Nat) (Z5 : qi) (Z4 : Int) (Z2 : Int) : qO (Int × Int) :=
  (xd.m K Z2).bind fun Z8 =>
  cond (!Z8)
    (
    .ok ((0 : Int), (1 : Int)))
    (
    (zl.m K Z5 Z4 Z2).bind fun (Z3, Z7, Z6) =>
    cond (Z6 != (0 : Int))
      (
      .ok ((0 : Int), Z6))
      (
      (zE.m K Z2).bind fun _ =>
      qy.l1 K Z2 Z3 K (0 : Int) (0 : Int)))
def zg.m (K : Nat) (Z2 : qi) : qO Unit :=
  .ok ()
def zU.m (K : Nat) (Z3 : Int) (Z2 : Int) : qO Bool :=
  lt ((((decide (Z3 ≥ (0 : Int))) && (decide (Z3 < Z2))) && (decide (Z2 ≤ (4611686018427387904 : Int))))) fun (Z4 : Bool) =>
  .ok Z4
def q5.m (K : Nat) (Z2 : qp) : qO Unit :=
  .ok ()
def qY.m (K : Nat) (Z4 : Int) (Z2 : (List qa)) (Z3 : Int) : qO Bool :=
  xa (inb Z4 Z2.length) <|
  lt ((decide ((rd Z2 Z4).span_.Hi_ > Z3))) fun (Z5 : Bool) =>
  .ok Z5
def qv.l1 (K : Nat) (Z6 : qp) (Z2 : Int) : Nat → Int → Int → qO Int
  | 0, _, _ => .fail
  | k + 1, Z4, Z5 =>
    cond (decide (Z4 < Z5))
      (
      lt ((vG .i64 (qC (Z4 + Z5)) (2 : Int))) fun (Z3 : Int) =>
      (qY.m K Z3 Z6.items_ Z2).bind fun Z8 =>
      cond Z8
        (
        qv.l1 K Z6 Z2 k Z4 Z3)
        (
        lt ((qC (Z3 + (1 : Int)))) fun (Z7 : Int) =>
        qv.l1 K Z6 Z2 k Z7 Z5))
      (
      .ok Z4)
def qv.m (K : Nat) (Z3 : qp) (Z2 : Int) : qO Int :=
  (q5.m K Z3).bind fun _ =>
  lt ((Z3.items_.length : Int)) fun (Z4 : Int) =>
  qv.l1 K Z3 Z2 K (0 : Int) Z4
def qn.j2 (K : Nat)  (Z2 : Bool) : qO Bool :=
  .ok Z2
def qn.j1 (K : Nat) (Z2 : qp) (Z3 : Int) (Z4 : Int) (Z5 : Bool) : qO Bool :=
  cond Z5
    (
    (q5.m K Z2).bind fun _ =>
    xa (inb Z4 Z2.items_.length) <|
    qn.j2 K (decide ((rd Z2.items_ Z4).span_.Lo_ < Z3)))
    (
    qn.j2 K false)
def qn.m (K : Nat) (Z3 : qp) (Z4 : Int) (Z2 : Int) : qO Bool :=
  (qv.m K Z3 Z4).bind fun Z5 =>
  (zU.m K Z4 Z2).bind fun Z6 =>
  cond Z6
    (
    (q5.m K Z3).bind fun _ =>
    qn.j1 K Z3 Z2 Z5 (decide (Z5 < (Z3.items_.length : Int))))
    (
    qn.j1 K Z3 Z2 Z5 false)
def qu.m (K : Nat) (Z4 : List qa) (Z3 : Int) (Z5 : List qa) : qO (List qa) :=
  (u6 32 Z4 Z3 Z5).bind fun Z2 =>
  .ok Z2
def zd.m (K : Nat) (Z4 : qp) (Z2 : Int) (Z3 : Int) (Z6 : List UInt8) : qO (Int × (List qa)) :=
  (zU.m K Z2 Z3).bind fun Z7 =>
  lt ((!Z7)) fun (Z5 : Bool) =>
  cond Z5
    (
    .ok ((1 : Int), Z4.items_))
    (
    (qn.m K Z4 Z2 Z3).bind fun Z8 =>
    cond Z8
      (
      .ok ((5 : Int), Z4.items_))
      (
      (qv.m K Z4 Z2).bind fun Z9 =>
      (qu.m K Z4.items_ Z9 ([(qa.mk (qT.mk Z2 Z3) Z6)] : List qa)).bind fun Xa =>
      .ok ((0 : Int), Xa)))
def qP.l1 (K : Nat) (Z3 : Int) : Nat → (List UInt8) → qO (List UInt8)
  | 0, _ => .fail
  | k + 1, Z2 =>
    xa (imp true (decide ((Z2.length : Int) > (0 : Int))) (inb (qC ((Z2.length : Int) - (1 : Int))) Z2.length)) <|
    cond ((decide ((Z2.length : Int) > (0 : Int))) && (((rd Z2 (qC ((Z2.length : Int) - (1 : Int)))).toNat : Int) == Z3))
      (
      xa (subok (0 : Int) (qC ((Z2.length : Int) - (1 : Int))) Z2.length) <|
      lt ((sub Z2 (0 : Int) (qC ((Z2.length : Int) - (1 : Int))))) fun (Z4 : List UInt8) =>
      qP.l1 K Z3 k Z4)
      (
      .ok Z2)
def qP.m (K : Nat) (Z3 : List UInt8) (Z2 : Int) : qO (List UInt8) :=
  qP.l1 K Z2 K Z3
def qS.l1 (K : Nat) (Z3 : Int) : Nat → (List UInt8) → qO (List UInt8)
  | 0, _ => .fail
  | k + 1, Z2 =>
    xa (imp true (decide ((Z2.length : Int) > (0 : Int))) (inb (0 : Int) Z2.length)) <|
    cond ((decide ((Z2.length : Int) > (0 : Int))) && (((rd Z2 (0 : Int)).toNat : Int) == Z3))
      (
      xa (subok (1 : Int) (Z2.length : Int) Z2.length) <|
      lt ((sub Z2 (1 : Int) (Z2.length : Int))) fun (Z4 : List UInt8) =>
      qS.l1 K Z3 k Z4)
      (
      .ok Z2)
def qS.m (K : Nat) (Z3 : List UInt8) (Z2 : Int) : qO (List UInt8) :=
  qS.l1 K Z2 K Z3
def zX.m (K : Nat) (Z2 : List UInt8) : qO (List UInt8) :=
  cond ((Z2 == ([] : List UInt8)) || false)
    (
    .ok Z2)
    (
    xa (inb (0 : Int) ([0] : List UInt8).length) <|
    (qP.m K Z2 (0 : Int)).bind fun Z3 =>
    (qS.m K Z3 (0 : Int)).bind fun Z4 =>
    .ok Z4)
def xv.m (K : Nat) (Z2 : qi) : qO Int :=
  lt ((Z2.text_.length : Int)) fun (Z3 : Int) =>
  .ok Z3
def qJ.j2 (K : Nat) (Z4 : List UInt8) (Z5 : Int) (Z3 : List UInt8) (Z2 : (List qa)) : qO ((List UInt8) × (List UInt8) × Int × (List qa)) :=
  (q8.m K Z3).bind fun Z6 =>
  cond (Z6 != (wr .u32 Z5))
    (
    .ok (([] : List UInt8), ([] : List UInt8), (4 : Int), Z2))
    (
    .ok (Z4, Z3, (0 : Int), Z2))
def qJ.j1 (K : Nat) (Z8 : zL) (Z5 : List UInt8) (Xa : Int) (Xb : Int) (Z7 : Int) (Z2 : List UInt8) (Z3 : Int) (Z9 : Int) : qO ((List UInt8) × (List UInt8) × Int × (List qa)) :=
  cond (Z9 != (0 : Int))
    (
    .ok (([] : List UInt8), ([] : List UInt8), Z9, Z8.claims_.items_))
    (
    (zg.m K (qi.mk Z2 Z3)).bind fun _ =>
    xa (subok (0 : Int) Z7 Z2.length) <|
    lt ((sub Z2 (0 : Int) Z7)) fun (Z6 : List UInt8) =>
    (zg.m K (qi.mk Z2 Z3)).bind fun _ =>
    xa (subok Z7 (Z2.length : Int) Z2.length) <|
    (zX.m K (sub Z2 Z7 (Z2.length : Int))).bind fun Xd =>
    cond (!(Xd == ([] : List UInt8)))
      (
      .ok (([] : List UInt8), ([] : List UInt8), (3 : Int), Z8.claims_.items_))
      (
      cond (decide (Z7 > (0 : Int)))
        (
        (xv.m K (qi.mk Z2 Z3)).bind fun Xe =>
        (zd.m K Z8.claims_ (wr .i64 Xb) (qC ((wr .i64 Xb) + Xe)) Z5).bind fun (Xc, Z4) =>
        cond (Xc != (0 : Int))
          (
          .ok (([] : List UInt8), ([] : List UInt8), Xc, Z4))
          (
          qJ.j2 K Z5 Xa Z6 Z4))
        (
        qJ.j2 K Z5 Xa Z6 Z8.claims_.items_)))
def qJ.m (K : Nat) (Z5 : zL) (Z2 : qi) : qO ((List UInt8) × (List UInt8) × Int × (List qa)) :=
  (zg.m K Z2).bind fun _ =>
  xa (subok (0 : Int) (4 : Int) Z2.text_.length) <|
  lt ((sub Z2.text_ (0 : Int) (4 : Int))) fun (Z6 : List UInt8) =>
  (qy.m K Z2 (4 : Int) (4 : Int)).bind fun (Z9, Xc) =>
  (qy.m K Z2 (8 : Int) (4 : Int)).bind fun (Z7, Xd) =>
  (qy.m K Z2 (12 : Int) (4 : Int)).bind fun (Z8, Xe) =>
  cond (((y5 .u64 Z7 (3 : Int)) != (0 : Int)) || (decide (Z8 > (16777216 : Int))))
    (
    .ok (([] : List UInt8), ([] : List UInt8), (3 : Int), Z5.claims_.items_))
    (
    (zD.m K (wr .i64 Z8)).bind fun Xa =>
    (zl.m K Z5.Window_ (wr .i64 Z7) Xa).bind fun (Z4, Z3, Xb) =>
    qJ.j1 K Z5 Z6 Z9 Z7 Z8 Z4 Z3 Xb)
def qZ.j3 (K : Nat) (Z5 : Int) (Z3 : (List qb)) (Z2 : Int) : qO (Int × (List qb) × Int) :=
  cond (decide (Z2 ≥ (1073741824 : Int)))
    (
    .ok ((0 : Int), ([] : List qb), (3 : Int)))
    (
    lt ((wr .u32 Z5)) fun (Z4 : Int) =>
    .ok (Z4, Z3, (0 : Int)))
def qZ.l2 (K : Nat) (Xh : List UInt8) (Xi : Int) (Xe : Int) (Z9 : List UInt8) (Z6 : Int) : Nat → (List qa) → (List qb) → Int → (List UInt8) → Int → qO (Int × (List qb) × Int)
  | 0, _, _, _, _, _ => .fail
  | k + 1, Xb, Xd, Xa, Z8, Xg =>
    cond (decide (Xg < Xe))
      (
      (zl.m K (qi.mk Z9 Z6) (qC ((16 : Int) * Xg)) (16 : Int)).bind fun (Z2, Z7, Xn) =>
      (zg.m K (qi.mk Z2 Z7)).bind fun _ =>
      xa (subok (0 : Int) (4 : Int) Z2.length) <|
      lt ((sub Z2 (0 : Int) (4 : Int))) fun (Z4 : List UInt8) =>
      (za.m K Z4).bind fun Xl =>
      cond ((!Xl) || (Op.bytesLess Z4 Z8 || Z4 == Z8))
        (
        .ok ((0 : Int), ([] : List qb), (3 : Int)))
        (
        (qJ.m K (zL.mk (qi.mk Xh (0 : Int)) (qp.mk Xb)) (qi.mk Z2 Z7)).bind fun (Z5, Z3, Xj, Xc) =>
        cond (Xj != (0 : Int))
          (
          .ok ((0 : Int), ([] : List qb), Xj))
          (
          (zD.m K (Z3.length : Int)).bind fun Xm =>
          lt ((qC (Xa + Xm))) fun (Xf : Int) =>
          xa (room (Xd.length + ([(qb.mk Z5 Z3)] : List qb).length) 32) <|
          lt (Xd ++ ([(qb.mk Z5 Z3)] : List qb)) fun (Xk : (List qb)) =>
          qZ.l2 K Xh Xi Xe Z9 Z6 k Xc Xk Xf Z5 (qC (Xg + (1 : Int))))))
      (
      qZ.j3 K Xi Xd Xa)
def qZ.j1 (K : Nat) (Z6 : List UInt8) (Z9 : Int) (Z3 : Int) (Z8 : Bool) : qO (Int × (List qb) × Int) :=
  cond Z8
    (
    .ok ((0 : Int), ([] : List qb), (3 : Int)))
    (
    (zl.m K (qi.mk Z6 (0 : Int)) (12 : Int) (qC ((16 : Int) * Z3))).bind fun (Z5, Z4, Z7) =>
    cond (Z7 != (0 : Int))
      (
      .ok ((0 : Int), ([] : List qb), Z7))
      (
      (zd.m K (qp.mk ([] : List qa)) (0 : Int) (qC ((12 : Int) + (qC ((16 : Int) * Z3)))) ([] : List UInt8)).bind fun (Xa, Z2) =>
      qZ.l2 K Z6 Z9 Z3 Z5 Z4 K Z2 ([] : List qb) (0 : Int) ([] : List UInt8) (0 : Int)))
def qZ.m (K : Nat) (Z5 : List UInt8) : qO (Int × (List qb) × Int) :=
  (vR.m K Z5).bind fun _ =>
  (zJ.m K).bind fun _ =>
  (zl.m K (qi.mk Z5 (0 : Int)) (0 : Int) (12 : Int)).bind fun (Z2, Z3, Z7) =>
  cond (Z7 != (0 : Int))
    (
    .ok ((0 : Int), ([] : List qb), Z7))
    (
    (qy.m K (qi.mk Z2 Z3) (0 : Int) (4 : Int)).bind fun (Z6, Xb) =>
    (qy.m K (qi.mk Z2 Z3) (4 : Int) (2 : Int)).bind fun (Z8, Xc) =>
    lt ((wr .i64 Z8)) fun (Z4 : Int) =>
    (xc.m K (wr .u32 Z6)).bind fun Z9 =>
    cond (((!Z9) || (decide (Z4 < (1 : Int)))) || (decide (Z4 > (1000 : Int))))
      (
      qZ.j1 K Z5 Z6 Z4 true)
      (
      (zg.m K (qi.mk Z2 Z3)).bind fun _ =>
      (zn.m K (wr .u32 Z6) Z4).bind fun Xa =>
      qZ.j1 K Z5 Z6 Z4 (!(Z2 == Xa))))
def qH.l1 (K : Nat) (Z2 : List qb) (Z4 : List qb) : Nat → Int → qO Bool
  | 0, _ => .fail
  | k + 1, Z3 =>
    cond (decide (Z3 < (Z2.length : Int)))
      (
      xa (inb Z3 Z2.length) <|
      xa (inb Z3 Z4.length) <|
      cond (!(((rd Z2 Z3).Tag_ == (rd Z4 Z3).Tag_) && (((rd Z2 Z3).Data_ == (rd Z4 Z3).Data_) && true)))
        (
        .ok false)
        (
        lt ((qC (Z3 + (1 : Int)))) fun (Z5 : Int) =>
        qH.l1 K Z2 Z4 k Z5))
      (
      .ok true)
def qH.m (K : Nat) (Z2 : List qb) (Z3 : List qb) : qO Bool :=
  cond ((Z2.length : Int) != (Z3.length : Int))
    (
    .ok false)
    (
    qH.l1 K Z2 Z3 K (0 : Int))
def qG.j1 (K : Nat) (Z4 : Int) (Z5 : Int) (Z2 : Bool) : qO Bool :=
  lt (((Z2 && (Z4 == (2 : Int))) && (Z5 == (1 : Int)))) fun (Z3 : Bool) =>
  .ok Z3
def qG.m (K : Nat) : qO Bool :=
  (qB.m K (65536 : Int) ([(qb.mk ([104, 101, 97, 100] : List UInt8) ([97, 98, 99, 100, 101] : List UInt8))] : List qb)).bind fun (Z3, Z6) =>
  (qZ.m K Z3).bind fun (Z7, Z8, Z9) =>
  (qZ.m K ([] : List UInt8)).bind fun (Xa, Xb, Z4) =>
  (qB.m K (7 : Int) ([(qb.mk ([104, 101, 97, 100] : List UInt8) ([97, 98, 99, 100, 101] : List UInt8))] : List qb)).bind fun (Xc, Z5) =>
  cond (((((Z3.length : Int) == (36 : Int)) && (Z6 == (0 : Int))) && (Z7 == (65536 : Int))) && (Z9 == (0 : Int)))
    (
    (qH.m K ([(qb.mk ([104, 101, 97, 100] : List UInt8) ([97, 98, 99, 100, 101] : List UInt8))] : List qb) Z8).bind fun Z2 =>
    qG.j1 K Z4 Z5 Z2)
    (
    qG.j1 K Z4 Z5 false)
def xr.m (K : Nat) (Z2 : Int) : qO Bool :=
  lt (((((Z2 == (1 : Int)) || (Z2 == (2 : Int))) || (Z2 == (4 : Int))) || (Z2 == (8 : Int)))) fun (Z3 : Bool) =>
  .ok Z3
def qq.j2 (K : Nat) (g1 : Int → (List Int) → Int → qO ((List UInt8) × Int)) (Z4 : Int) (Z3 : (List Int)) (Z7 : Int) (Z2 : Int) : qO ((List UInt8) × Int) :=
  xa (inb Z2 Z3.length) <|
  lt (Z3.set (Int.toNat Z2) (wr .u8 (jP Z4 (256 : Int)))) fun (Z6 : (List Int)) =>
  lt ((vG .u64 Z4 (256 : Int))) fun (Z5 : Int) =>
  lt ((qC (Z7 + (1 : Int)))) fun (Z8 : Int) =>
  g1 Z5 Z6 Z8
def qq.j3 (K : Nat)  (Z3 : Int) (Z2 : (List Int)) : qO ((List UInt8) × Int) :=
  cond (decide (Z3 > (0 : Int)))
    (
    .ok (([] : List UInt8), (10 : Int)))
    (
    lt ((Z2.map jn)) fun (Z4 : List UInt8) =>
    .ok (Z4, (0 : Int)))
def qq.l1 (K : Nat) (Z2 : Int) (Z3 : Bool) : Nat → Int → (List Int) → Int → qO ((List UInt8) × Int)
  | 0, _, _, _ => .fail
  | k + 1, Z6, Z5, Z4 =>
    cond (decide (Z4 < Z2))
      (
      cond Z3
        (
        lt ((qC ((qC (Z2 - (1 : Int))) - Z4))) fun (Z7 : Int) =>
        qq.j2 K (qq.l1 K Z2 Z3 k) Z6 Z5 Z4 Z7)
        (
        qq.j2 K (qq.l1 K Z2 Z3 k) Z6 Z5 Z4 Z4))
      (
      qq.j3 K Z6 Z5)
def qq.m (K : Nat) (Z4 : Int) (Z2 : Int) (Z3 : Bool) : qO ((List UInt8) × Int) :=
  (xr.m K Z2).bind fun Z6 =>
  cond (!Z6)
    (
    .ok (([] : List UInt8), (1 : Int)))
    (
    xa (decide (0 ≤ Z2) && room (Int.toNat Z2) 1) <|
    lt (List.replicate (Int.toNat Z2) (0 : Int)) fun (Z5 : (List Int)) =>
    qq.l1 K Z2 Z3 K Z4 Z5 (0 : Int))
def xt.m (K : Nat) (Z2 : Int) : qO (List UInt8) :=
  (qq.m K (wr .u64 Z2) (4 : Int) true).bind fun (Z3, Z4) =>
  .ok Z3
def zr.m (K : Nat) (Z2 : Int) : qO (List UInt8) :=
  (qq.m K (wr .u64 Z2) (2 : Int) true).bind fun (Z3, Z4) =>
  .ok Z3
def zc.j2 (K : Nat) (Z5 : Int) (Z6 : Int) (Z8 : Int) (Xa : Int) : qO (List UInt8) :=
  (xt.m K (wr .i64 Z5)).bind fun Z2 =>
  (zr.m K Z6).bind fun Z3 =>
  xa (xH (Z2.length + Z3.length)) <|
  (zr.m K (qC ((16 : Int) * Z8))).bind fun Z4 =>
  xa (xH ((Z2 ++ Z3).length + Z4.length)) <|
  (zr.m K Xa).bind fun Z7 =>
  xa (xH (((Z2 ++ Z3) ++ Z4).length + Z7.length)) <|
  (zr.m K (qC ((16 : Int) * (qC (Z6 - Z8))))).bind fun Z9 =>
  xa (xH ((((Z2 ++ Z3) ++ Z4) ++ Z7).length + Z9.length)) <|
  lt (((((Z2 ++ Z3) ++ Z4) ++ Z7) ++ Z9)) fun (Xb : List UInt8) =>
  .ok Xb
def zc.l1 (K : Nat) (Z2 : Int) (Z3 : Int) : Nat → Int → Int → qO (List UInt8)
  | 0, _, _ => .fail
  | k + 1, Z5, Z4 =>
    cond (decide ((qC ((2 : Int) * Z5)) ≤ Z3))
      (
      lt ((qC ((2 : Int) * Z5))) fun (Z7 : Int) =>
      lt ((qC (Z4 + (1 : Int)))) fun (Z6 : Int) =>
      zc.l1 K Z2 Z3 k Z7 Z6)
      (
      zc.j2 K Z2 Z3 Z5 Z4)
def qm.l2 (K : Nat) (g1 : Int → Int → qO Int) (Z4 : Int) (Z5 : Int) : Nat → Int → Int → qO Int
  | 0, _, _ => .fail
  | k + 1, Z2, Z3 =>
    cond (decide (Z3 < (3 : Int)))
      (
      lt ((wr .u32 (Z2 * (256 : Int)))) fun (Z6 : Int) =>
      lt ((qC (Z3 + (1 : Int)))) fun (Z7 : Int) =>
      qm.l2 K g1 Z4 Z5 k Z6 Z7)
      (
      lt ((wr .u32 (Z4 + Z2))) fun (Z8 : Int) =>
      lt ((qC (Z5 + (1 : Int)))) fun (Z9 : Int) =>
      g1 Z8 Z9)
def qm.l1 (K : Nat) (Z3 : List UInt8) : Nat → Int → Int → qO Int
  | 0, _, _ => .fail
  | k + 1, Z4, Z2 =>
    cond (decide (Z2 < (Z3.length : Int)))
      (
      xa (inb Z2 Z3.length) <|
      lt ((wr .u32 ((rd Z3 Z2).toNat : Int))) fun (Z5 : Int) =>
      lt ((jP Z2 (4 : Int))) fun (Z6 : Int) =>
      qm.l2 K (qm.l1 K Z3 k) Z4 Z2 K Z5 Z6)
      (
      .ok Z4)
def qm.m (K : Nat) (Z2 : List UInt8) : qO Int :=
  qm.l1 K Z2 K (0 : Int) (0 : Int)
def qD.l1 (K : Nat) (Z2 : List qb) : Nat → Int → Int → qO Bool
  | 0, _, _ => .fail
  | k + 1, Z4, Z3 =>
    cond (decide (Z3 < (Z2.length : Int)))
      (
      xa (inb Z3 Z2.length) <|
      cond ((decide ((((rd Z2 Z3).Data_).length : Int) > (5000 : Int))) || (decide (Z4 > (100000 : Int))))
        (
        .ok false)
        (
        lt ((qC (Z4 + (((rd Z2 Z3).Data_).length : Int)))) fun (Z5 : Int) =>
        lt ((qC (Z3 + (1 : Int)))) fun (Z6 : Int) =>
        qD.l1 K Z2 k Z5 Z6))
      (
      .ok true)
def qD.m (K : Nat) (Z2 : List qb) : qO Bool :=
  cond (decide ((Z2.length : Int) > (1001 : Int)))
    (
    .ok false)
    (
    qD.l1 K Z2 K (0 : Int) (0 : Int))
def qd.j3 (K : Nat)  (Z2 : Bool) : qO Bool :=
  .ok Z2
def qd.j2 (K : Nat) (Z3 : List UInt8) (Z2 : Int) : qO Bool :=
  (q8.m K Z3).bind fun Z4 =>
  cond (Z4 == Z2)
    (
    (qG.m K).bind fun Z5 =>
    qd.j3 K Z5)
    (
    qd.j3 K false)
def qd.l1 (K : Nat) (Z2 : List qb) (Z6 : List UInt8) : Nat → Int → Int → qO Bool
  | 0, _, _ => .fail
  | k + 1, Z4, Z3 =>
    cond (decide (Z3 < (Z2.length : Int)))
      (
      xa (inb Z3 Z2.length) <|
      (qm.m K ((rd Z2 Z3).Data_)).bind fun Z8 =>
      lt ((wr .u32 (Z4 + Z8))) fun (Z5 : Int) =>
      lt ((qC (Z3 + (1 : Int)))) fun (Z7 : Int) =>
      qd.l1 K Z2 Z6 k Z5 Z7)
      (
      qd.j2 K Z6 Z4)
def qd.m (K : Nat) (Z5 : Int) (Z2 : List qb) : qO Bool :=
  (qD.m K Z2).bind fun Z6 =>
  cond (!Z6)
    (
    (qG.m K).bind fun Z7 =>
    .ok Z7)
    (
    (qB.m K Z5 Z2).bind fun (Z4, Z8) =>
    cond (Z8 != (0 : Int))
      (
      (qG.m K).bind fun Z9 =>
      .ok Z9)
      (
      lt ((qC ((12 : Int) + (qC ((16 : Int) * (Z2.length : Int)))))) fun (Z3 : Int) =>
      cond (decide ((Z4.length : Int) < Z3))
        (
        .ok false)
        (
        xa (subok (0 : Int) Z3 Z4.length) <|
        (q8.m K (sub Z4 (0 : Int) Z3)).bind fun Xa =>
        qd.l1 K Z2 Z4 K Xa (0 : Int))))
end Go.Mo
